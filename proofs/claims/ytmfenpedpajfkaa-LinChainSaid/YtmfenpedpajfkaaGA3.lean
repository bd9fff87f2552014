import Derived.Test.YtmfenpedpajfkaaFA2
import Derived.Test.YtmfenpedpajfkaaLI2
/- Lists, matrices and sums of products that a function tells. -/
set_option maxRecDepth 100000
set_option linter.unusedSimpArgs false
set_option linter.unusedVariables false
namespace Go.Gim
open Go.Proofs
theorem list_ret (n : Nat) (g : Nat) (caps : List V) (f : Nat → Int) (hn : n ≤ 1000000) (hc : ∀ v ∈ caps, V.Pure v) (h : ∀ i : Nat, i < n → Ret pg g (.int .i64 i :: caps) (IV (f i))) :
    Ret pg n_lin_list_long_Int [.int .i64 n, .fn g caps] (ivl ((List.range n).map f)) := by
  refine lin_list_long_Int.of rfl (W_b ?_)
  unfold lin_list_long_Int.k lin_list_long_Int.res
  simp -dsimp -implicitDefEqProofs (disch := (first | assumption | omega | (simp only [nats_len, List.length_map, List.length_set, List.length_replicate, List.length_append, List.length_range, upto_len, els_len, List.length_cons, List.length_nil] <;> omega) | (apply isPure_intro <;> simp))) only [go_sem]
  refine W_loop (T := Nat × Nat) (fun t => ⟨E [(1, .fn g caps), (5, .own 2 n), (10, .int .i64 n), (11, .int .i64 t.1)], Hp.upd (fun _ => none) 2 (some ⟨(upto n t.1 f).map IV, 2⟩), t.2, t.2⟩) (fun t => t.1 ≤ n) (fun t => n - t.1) (0, _) (by rw [upto_zero]; rfl) (by dsimp only; omega) ?_
  rintro ⟨i, nx⟩ i1
  dsimp only at i1
  by_cases hi : i < n
  · simp -dsimp -implicitDefEqProofs (disch := (first | assumption | omega | (simp only [nats_len, List.length_map, List.length_set, List.length_replicate, List.length_append, List.length_range, upto_len, els_len, List.length_cons, List.length_nil] <;> omega) | (apply isPure_intro <;> simp))) only [go_sem]
    refine callV_of (h i hi) (pure_cons hc _ _) ?_
    simp -dsimp -implicitDefEqProofs (disch := (first | assumption | omega | (simp only [nats_len, List.length_map, List.length_set, List.length_replicate, List.length_append, List.length_range, upto_len, els_len, List.length_cons, List.length_nil] <;> omega) | (apply isPure_intro <;> simp))) only [go_sem, upto_set hi]
    exact ⟨(i + 1, _), rfl, by dsimp only; omega, by dsimp only; omega⟩
  · have he : i = n := by omega
    subst he
    simp -dsimp -implicitDefEqProofs (disch := (first | assumption | omega | (simp only [nats_len, List.length_map, List.length_set, List.length_replicate, List.length_append, List.length_range, upto_len, els_len, List.length_cons, List.length_nil] <;> omega) | (apply isPure_intro <;> simp))) only [go_sem]
    rw [frz_map fun x => frz_IV _ _ _, upto_all]
    rfl
def sumN (f p : Nat → Int) : Nat → Int
  | 0 => 0
  | n + 1 => sumN f p n + f n * p n
theorem sumN_lim {f p : Nat → Int} {L : Nat} (h : ∀ i, lim (f i) + lim (p i) ≤ L) : ∀ n, lim (sumN f p n) ≤ L + n
  | 0 => by simp [sumN, lim_zero]
  | n + 1 => by
    have h1 := sumN_lim h n
    have h2 := lim_mul (f n) (p n)
    have h3 := lim_add (sumN f p n) (f n * p n)
    have h4 := h n
    rw [sumN]
    omega
theorem sum_ret (n : Nat) (g : Nat) (caps : List V) (f p : Nat → Int) (hn : n ≤ 1000000) (hc : ∀ v ∈ caps, V.Pure v) (hb : ∀ i, lim (f i) + lim (p i) ≤ 1000000000) (h : ∀ i : Nat, i < n → Ret pg g (.int .i64 i :: caps) (.tup [IV (f i), IV (p i)])) :
    Ret pg n_lin_sum [.int .i64 n, .fn g caps] (IV (sumN f p n)) := by
  refine lin_sum.of rfl (W_b ?_)
  unfold lin_sum.k lin_sum.res
  simp -dsimp -implicitDefEqProofs (disch := (first | assumption | omega | (simp only [nats_len, List.length_map, List.length_set, List.length_replicate, List.length_append, List.length_range, upto_len, els_len, List.length_cons, List.length_nil] <;> omega) | (apply isPure_intro <;> simp))) only [go_sem, ← IV_zero]
  refine W_loopG (T := Nat × Nat) (fun t => ⟨E [(1, .fn g caps), (4, .ptr 0 1 0 0), (5, .ptr 1 1 0 0), (9, .int .i64 n), (10, .int .i64 t.1)], (Hp.upd (fun _ => none) 0 (some ⟨[IV 0], 2⟩)).upd 1 (some ⟨[IV (sumN f p t.1)], 2⟩), t.2, t.2⟩) (fun t => t.1 ≤ n ∧ 1 < t.2) (fun t => n - t.1) (0, _) (Ghost.refl _) ⟨by dsimp only; omega, by dsimp only; omega⟩ ?_
  rintro ⟨i, nx⟩ ⟨i1, i2⟩
  dsimp only at i1 i2
  by_cases hi : i < n
  · have b1 := hb i
    have b2 := sumN_lim hb i
    have b3 := lim_mul (f i) (p i)
    simp -dsimp -implicitDefEqProofs (disch := (first | assumption | omega | (simp only [nats_len, List.length_map, List.length_set, List.length_replicate, List.length_append, List.length_range, upto_len, els_len, List.length_cons, List.length_nil] <;> omega) | (apply isPure_intro <;> simp))) only [go_sem]
    refine callV_of (h i hi) (pure_cons hc _ _) ?_
    simp -dsimp -implicitDefEqProofs (disch := (first | assumption | omega | (simp only [nats_len, List.length_map, List.length_set, List.length_replicate, List.length_append, List.length_range, upto_len, els_len, List.length_cons, List.length_nil] <;> omega) | (apply isPure_intro <;> simp))) only [go_sem, ← IV_zero]
    refine callP_of (mul_ret _ _ (by omega) (by omega)) (by simp) ?_
    simp -dsimp -implicitDefEqProofs (disch := (first | assumption | omega | (simp only [nats_len, List.length_map, List.length_set, List.length_replicate, List.length_append, List.length_range, upto_len, els_len, List.length_cons, List.length_nil] <;> omega) | (apply isPure_intro <;> simp))) only [go_sem]
    refine callP_of (add_ret _ _ (by omega) (by omega)) (by simp) ?_
    simp -dsimp -implicitDefEqProofs (disch := (first | assumption | omega | (simp only [nats_len, List.length_map, List.length_set, List.length_replicate, List.length_append, List.length_range, upto_len, els_len, List.length_cons, List.length_nil] <;> omega) | (apply isPure_intro <;> simp))) only [go_sem]
    exact ⟨(i + 1, _), (ghost_drop (by intro b; simp only [Hp.upd]; (repeat' split) <;> first | exact .inl rfl | exact .inr rfl | (exfalso; omega))), ⟨by dsimp only; omega, by dsimp only; omega⟩, by dsimp only; omega⟩
  · have he : i = n := by omega
    subst he
    simp -dsimp -implicitDefEqProofs (disch := (first | assumption | omega | (simp only [nats_len, List.length_map, List.length_set, List.length_replicate, List.length_append, List.length_range, upto_len, els_len, List.length_cons, List.length_nil] <;> omega) | (apply isPure_intro <;> simp))) only [go_sem]
theorem list2_ret (n : Nat) (g : Nat) (caps : List V) (f : Nat → List Int) (hn : n ≤ 1000000) (hc : ∀ v ∈ caps, V.Pure v) (h : ∀ i : Nat, i < n → Ret pg g (.int .i64 i :: caps) (ivl (f i))) :
    Ret pg n_lin_list_Llong_Int [.int .i64 n, .fn g caps] (.sl ((List.range n).map fun i => ivl (f i))) := by
  refine lin_list_Llong_Int.of rfl (W_b ?_)
  unfold lin_list_Llong_Int.k lin_list_Llong_Int.res
  simp -dsimp -implicitDefEqProofs (disch := (first | assumption | omega | (simp only [nats_len, List.length_map, List.length_set, List.length_replicate, List.length_append, List.length_range, upto_len, els_len, List.length_cons, List.length_nil] <;> omega) | (apply isPure_intro <;> simp))) only [go_sem]
  refine W_loop (T := Nat × Nat) (fun t => ⟨E [(1, .fn g caps), (5, .own 2 n), (10, .int .i64 n), (11, .int .i64 t.1)], Hp.upd (fun _ => none) 2 (some ⟨els n t.1 (fun k => ivl (f k)), 1⟩), t.2, t.2⟩) (fun t => t.1 ≤ n) (fun t => n - t.1) (0, _) (by rw [els_zero]; rfl) (by dsimp only; omega) ?_
  rintro ⟨i, nx⟩ i1
  dsimp only at i1
  by_cases hi : i < n
  · simp -dsimp -implicitDefEqProofs (disch := (first | assumption | omega | (simp only [nats_len, List.length_map, List.length_set, List.length_replicate, List.length_append, List.length_range, upto_len, els_len, List.length_cons, List.length_nil] <;> omega) | (apply isPure_intro <;> simp))) only [go_sem]
    refine callV_of (h i hi) (pure_cons hc _ _) ?_
    simp -dsimp -implicitDefEqProofs (disch := (first | assumption | omega | (simp only [nats_len, List.length_map, List.length_set, List.length_replicate, List.length_append, List.length_range, upto_len, els_len, List.length_cons, List.length_nil] <;> omega) | (apply isPure_intro <;> simp))) only [go_sem, storeO_els (f := fun k => ivl (f k)) hi rfl rfl rfl rfl]
    exact ⟨(i + 1, _), rfl, by dsimp only; omega, by dsimp only; omega⟩
  · have he : i = n := by omega
    subst he
    simp -dsimp -implicitDefEqProofs (disch := (first | assumption | omega | (simp only [nats_len, List.length_map, List.length_set, List.length_replicate, List.length_append, List.length_range, upto_len, els_len, List.length_cons, List.length_nil] <;> omega) | (apply isPure_intro <;> simp))) only [go_sem]
    rw [els_all, frz_map (f := fun k => ivl (f k)) fun x => rfl]
    rfl
end Go.Gim
/- Matrices: made, turned, their products with lists. -/
set_option maxRecDepth 100000
set_option linter.unusedSimpArgs false
set_option linter.unusedVariables false
namespace Go.Gim
open Go.Proofs
def mat (n : Nat) (f : Nat → Nat → Int) : List (List Int) := (List.range n).map fun i => (List.range n).map (f i)
theorem fn_pure {g : Nat} {caps : List V} (hc : ∀ v ∈ caps, V.Pure v) : V.Pure (.fn g caps) := .fn _ _ hc
theorem lmade_ret (n : Nat) (g : Nat) (caps : List V) (f : Nat → Nat → Int) (hn : n ≤ 1000000) (hc : ∀ v ∈ caps, V.Pure v) (h : ∀ i j : Nat, i < n → j < n → Ret pg g (.int .i64 i :: .int .i64 j :: caps) (IV (f i j))) :
    Ret pg n_lin_made [.int .i64 n, .fn g caps] (.sl ((mat n f).map ivl)) := by
  have hp : V.Pure (.fn g caps) := fn_pure hc
  have hP : IsPure (.fn g caps) := ⟨rfl, hp⟩
  have r0 : ∀ i j : Nat, i < n → j < n → Ret pg n_lin_made_1_1 [.int .i64 j, .pp (.fn g caps), .pp (.int .i64 i)] (IV (f i j)) := fun i j hi hj => by
    refine lin_made_1_1.of rfl (W_b ?_)
    unfold lin_made_1_1.k lin_made_1_1.res
    simp -dsimp -implicitDefEqProofs (disch := (first | assumption | omega | (simp only [nats_len, List.length_map, List.length_set, List.length_replicate, List.length_append, List.length_range, upto_len, els_len, List.length_cons, List.length_nil] <;> omega) | (apply isPure_intro <;> simp))) only [go_sem]
    refine callV_of (h i j hi hj) (pure_cons (pure_cons hc _ _) _ _) ?_
    simp -dsimp -implicitDefEqProofs (disch := (first | assumption | omega | (simp only [nats_len, List.length_map, List.length_set, List.length_replicate, List.length_append, List.length_range, upto_len, els_len, List.length_cons, List.length_nil] <;> omega) | (apply isPure_intro <;> simp))) only [go_sem]
  have r1 : ∀ i : Nat, i < n → Ret pg n_lin_made_1 [.int .i64 i, .pp (.int .i64 n), .pp (.fn g caps)] (ivl ((List.range n).map (f i))) := fun i hi => by
    refine lin_made_1.of rfl (W_b ?_)
    unfold lin_made_1.k lin_made_1.res
    simp -dsimp -implicitDefEqProofs (disch := (first | assumption | omega | (simp only [nats_len, List.length_map, List.length_set, List.length_replicate, List.length_append, List.length_range, upto_len, els_len, List.length_cons, List.length_nil] <;> omega) | (apply isPure_intro <;> simp))) only [go_sem]
    refine callB_of (list_ret n n_lin_made_1_1 _ (f i) hn (by simp) fun j hj => r0 i j hi hj) (by simp) ?_
    simp -dsimp -implicitDefEqProofs (disch := (first | assumption | omega | (simp only [nats_len, List.length_map, List.length_set, List.length_replicate, List.length_append, List.length_range, upto_len, els_len, List.length_cons, List.length_nil] <;> omega) | (apply isPure_intro <;> simp))) only [go_sem]
  refine lin_made.of rfl (W_b ?_)
  unfold lin_made.k lin_made.res
  simp -dsimp -implicitDefEqProofs (disch := (first | assumption | omega | (simp only [nats_len, List.length_map, List.length_set, List.length_replicate, List.length_append, List.length_range, upto_len, els_len, List.length_cons, List.length_nil] <;> omega) | (apply isPure_intro <;> simp))) only [go_sem]
  refine callB_of (list2_ret n n_lin_made_1 _ (fun i => (List.range n).map (f i)) hn (by simp) fun i hi => r1 i hi) (by simp) ?_
  simp -dsimp -implicitDefEqProofs (disch := (first | assumption | omega | (simp only [nats_len, List.length_map, List.length_set, List.length_replicate, List.length_append, List.length_range, upto_len, els_len, List.length_cons, List.length_nil] <;> omega) | (apply isPure_intro <;> simp))) only [go_sem]
  simp [mat]
def Sq (m : List (List Int)) (n : Nat) : Prop := m.length = n ∧ ∀ r ∈ m, r.length = n
theorem Sq.row {m : List (List Int)} {n i : Nat} (h : Sq m n) (hi : i < n) : (m.getD i []).length = n := h.2 _ (getD_mem' [] (by rw [h.1]; exact hi))
theorem mat_sq (n f) : Sq (mat n f) n := ⟨by simp [mat], fun r hr => by simp only [mat, List.mem_map] at hr; obtain ⟨i, _, rfl⟩ := hr; simp⟩
def at2 (m : List (List Int)) (i j : Nat) : Int := (m.getD i []).getD j 0
theorem mat_at {n f i j} (hi : i < n) (hj : j < n) : at2 (mat n f) i j = f i j := by unfold at2 mat; rw [range_getD [] hi, range_getD 0 hj]
theorem mat_self {m : List (List Int)} {n : Nat} (h : Sq m n) : mat n (at2 m) = m := by
  refine List.ext_getElem (by simp [mat, h.1]) fun i h1 h2 => ?_
  have hr := h.2 m[i] (List.getElem_mem h2)
  simp only [mat, List.getElem_map, List.getElem_range]
  refine List.ext_getElem (by simp [hr]) fun j h3 h4 => ?_
  simp [at2, List.getD_eq_getElem?_getD, h2, h4]
theorem mat_congr {n : Nat} {f g : Nat → Nat → Int} (h : ∀ i j, i < n → j < n → f i j = g i j) : mat n f = mat n g := by
  refine List.map_congr_left fun i hi => List.map_congr_left fun j hj => h i j (by simpa using hi) (by simpa using hj)
def sqE (rows : List (List Int)) : Int := if 12 < rows.length then 2 else if ∃ r ∈ rows, r.length ≠ rows.length then 1 else 0
theorem linof_retL (rows : List (List Int)) (hl : rows.length ≤ 9223372036854775807) (hr : ∀ r ∈ rows, r.length ≤ 9223372036854775807 ∧ ∀ v ∈ r, -9223372036854775808 ≤ v ∧ v ≤ 9223372036854775807) : Ret pg n_lin_Of [.sl (rows.map ints)] (.tup [.sl ((if sqE rows = 0 then rows else []).map ivl), .int .i64 (sqE rows)]) := by
  refine lin_Of.of rfl (W_b ?_)
  unfold lin_Of.k lin_Of.res
  by_cases h12 : 12 < rows.length
  · have e : sqE rows = 2 := by unfold sqE; rw [if_pos h12]
    rw [e]
    simp -dsimp -implicitDefEqProofs (disch := (first | assumption | omega | (simp only [nats_len, List.length_map, List.length_set, List.length_replicate, List.length_append, List.length_range, upto_len, els_len, List.length_cons, List.length_nil] <;> omega) | (apply isPure_intro <;> simp))) only [go_sem]
  · simp -dsimp -implicitDefEqProofs (disch := (first | assumption | omega | (simp only [nats_len, List.length_map, List.length_set, List.length_replicate, List.length_append, List.length_range, upto_len, els_len, List.length_cons, List.length_nil] <;> omega) | (apply isPure_intro <;> simp))) only [go_sem]
    refine W_loop (T := Nat × Nat) (fun t => ⟨E [(1, .pp (.sl (rows.map ints))), (9, .sl (rows.map ints)), (10, .int .i64 rows.length), (11, .int .i64 t.1)], fun _ => none, t.2, t.2⟩) (fun t => t.1 ≤ rows.length ∧ ∀ r ∈ rows.take t.1, r.length = rows.length) (fun t => rows.length - t.1) (0, _) rfl ⟨by dsimp only; omega, by simp⟩ ?_
    rintro ⟨i, nx⟩ ⟨i1, i2⟩
    dsimp only at i1 i2
    by_cases hi : i < rows.length
    · have hm := getD_mem' [] hi
      have hml := (hr _ hm).1
      have ht := take_getD [] hi
      generalize hX : rows.getD i [] = x at *
      by_cases hx : x.length = rows.length
      · simp -dsimp -implicitDefEqProofs (disch := (first | assumption | omega | (simp only [nats_len, List.length_map, List.length_set, List.length_replicate, List.length_append, List.length_range, upto_len, els_len, List.length_cons, List.length_nil] <;> omega) | (apply isPure_intro <;> simp))) only [go_sem, hX, hx]
        refine ⟨(i + 1, _), rfl, ⟨by dsimp only; omega, fun y hy => ?_⟩, by dsimp only; omega⟩
        dsimp only at hy
        rw [ht] at hy
        rcases List.mem_append.1 hy with hy | hy
        · exact i2 y hy
        · simp at hy; subst hy; exact hx
      · have e : sqE rows = 1 := by unfold sqE; rw [if_neg h12, if_pos ⟨x, hm, hx⟩]
        rw [e]
        simp -dsimp -implicitDefEqProofs (disch := (first | assumption | omega | (simp only [nats_len, List.length_map, List.length_set, List.length_replicate, List.length_append, List.length_range, upto_len, els_len, List.length_cons, List.length_nil] <;> omega) | (apply isPure_intro <;> simp))) only [go_sem, hX]
    · rw [List.take_of_length_le (by omega)] at i2
      have e : sqE rows = 0 := by unfold sqE; rw [if_neg h12, if_neg (fun ⟨r, h1, h2⟩ => h2 (i2 r h1))]
      have hsq : Sq rows rows.length := ⟨rfl, i2⟩
      have r0 : ∀ i j : Nat, i < rows.length → j < rows.length → Ret pg n_lin_Of_1 [.int .i64 i, .int .i64 j, .pp (.sl (rows.map ints))] (IV (at2 rows i j)) := fun i j hi hj => by
        have hrl := hsq.row hi
        have hv := (hr _ (getD_mem' [] hi)).2 _ (getD_mem' 0 (show j < (rows.getD i []).length by omega))
        refine lin_Of_1.of rfl (W_b ?_)
        unfold lin_Of_1.k lin_Of_1.res
        simp -dsimp -implicitDefEqProofs (disch := (first | assumption | omega | (simp only [nats_len, List.length_map, List.length_set, List.length_replicate, List.length_append, List.length_range, upto_len, els_len, List.length_cons, List.length_nil] <;> omega) | (apply isPure_intro <;> simp))) only [go_sem]
        refine callB_of (of_ret _ hv) (by simp) ?_
        simp -dsimp -implicitDefEqProofs (disch := (first | assumption | omega | (simp only [nats_len, List.length_map, List.length_set, List.length_replicate, List.length_append, List.length_range, upto_len, els_len, List.length_cons, List.length_nil] <;> omega) | (apply isPure_intro <;> simp))) only [go_sem]
        rfl
      rw [e]
      simp -dsimp -implicitDefEqProofs (disch := (first | assumption | omega | (simp only [nats_len, List.length_map, List.length_set, List.length_replicate, List.length_append, List.length_range, upto_len, els_len, List.length_cons, List.length_nil] <;> omega) | (apply isPure_intro <;> simp))) only [go_sem]
      refine callB_of (lmade_ret rows.length n_lin_Of_1 _ _ (by omega) (by simp) r0) (by simp) ?_
      simp -dsimp -implicitDefEqProofs (disch := (first | assumption | omega | (simp only [nats_len, List.length_map, List.length_set, List.length_replicate, List.length_append, List.length_range, upto_len, els_len, List.length_cons, List.length_nil] <;> omega) | (apply isPure_intro <;> simp))) only [go_sem]
      rw [mat_self hsq]
theorem linof_ret (rows : List (List Int)) (hl : rows.length ≤ 1099511627776) (hr : ∀ r ∈ rows, r.length ≤ 1099511627776 ∧ ∀ v ∈ r, -9223372036854775808 ≤ v ∧ v ≤ 9223372036854775807) : Ret pg n_lin_Of [.sl (rows.map ints)] (.tup [.sl ((if sqE rows = 0 then rows else []).map ivl), .int .i64 (sqE rows)]) :=
  linof_retL rows (by omega) fun r h => ⟨by have := (hr r h).1; omega, (hr r h).2⟩
end Go.Gim
/- Matrices: their products with lists, quadratic forms; whether two are the same. -/
set_option maxRecDepth 100000
set_option linter.unusedSimpArgs false
set_option linter.unusedVariables false
namespace Go.Gim
open Go.Proofs
def Sm (x : Int) : Prop := lim x ≤ 1000000
def SmL (l : List Int) : Prop := ∀ x ∈ l, Sm x
def SmM (m : List (List Int)) : Prop := ∀ r ∈ m, SmL r
theorem SmL.get {l : List Int} (h : SmL l) (i : Nat) : lim (l.getD i 0) ≤ 1000000 := by
  by_cases hi : i < l.length
  · exact h _ (getD_mem' 0 hi)
  · simp [List.getD_eq_getElem?_getD, List.getElem?_eq_none (Nat.le_of_not_lt hi), lim_zero]
theorem SmM.get {m : List (List Int)} (h : SmM m) (i j : Nat) : lim (at2 m i j) ≤ 1000000 := by
  unfold at2
  by_cases hi : i < m.length
  · exact SmL.get (h _ (getD_mem' [] hi)) j
  · simp [List.getD_eq_getElem?_getD, List.getElem?_eq_none (Nat.le_of_not_lt hi), lim_zero]
def applyAt (m : List (List Int)) (x : List Int) (n i : Nat) : Int := sumN (at2 m i) (fun k => x.getD k 0) n
theorem apply_ret (m : List (List Int)) (x : List Int) (n : Nat) (hn : n ≤ 1000) (hm : Sq m n) (hx : x.length = n) (sm : ∀ i j, lim (at2 m i j) ≤ 2000000) (sx : ∀ i, lim (x.getD i 0) ≤ 2000000) :
    Ret pg n_lin_Mat_Apply [.sl (m.map ivl), ivl x] (ivl ((List.range n).map (applyAt m x n))) := by
  have hl := hm.1
  have r0 : ∀ i k : Nat, i < n → k < n → Ret pg n_lin_Mat_Apply_1_1 [.int .i64 k, .pp (.sl (m.map ivl)), .pp (.int .i64 i), .pp (ivl x)] (.tup [IV (at2 m i k), IV (x.getD k 0)]) := fun i k hi hk => by
    have hr := hm.row hi
    refine lin_Mat_Apply_1_1.of rfl (W_b ?_)
    unfold lin_Mat_Apply_1_1.k lin_Mat_Apply_1_1.res
    simp -dsimp -implicitDefEqProofs (disch := (first | assumption | omega | (simp only [nats_len, List.length_map, List.length_set, List.length_replicate, List.length_append, List.length_range, upto_len, els_len, List.length_cons, List.length_nil] <;> omega) | (apply isPure_intro <;> simp))) only [go_sem]
    rfl
  have r1 : ∀ i : Nat, i < n → Ret pg n_lin_Mat_Apply_1 [.int .i64 i, .pp (.sl (m.map ivl)), .pp (ivl x)] (IV (applyAt m x n i)) := fun i hi => by
    refine lin_Mat_Apply_1.of rfl (W_b ?_)
    unfold lin_Mat_Apply_1.k lin_Mat_Apply_1.res
    simp -dsimp -implicitDefEqProofs (disch := (first | assumption | omega | (simp only [nats_len, List.length_map, List.length_set, List.length_replicate, List.length_append, List.length_range, upto_len, els_len, List.length_cons, List.length_nil] <;> omega) | (apply isPure_intro <;> simp))) only [go_sem, hl]
    refine callB_of (sum_ret n n_lin_Mat_Apply_1_1 _ (at2 m i) (fun k => x.getD k 0) (by omega) (by simp) (fun k => by have := sm i k; have := sx k; omega) fun k hk => r0 i k hi hk) (by simp) ?_
    simp -dsimp -implicitDefEqProofs (disch := (first | assumption | omega | (simp only [nats_len, List.length_map, List.length_set, List.length_replicate, List.length_append, List.length_range, upto_len, els_len, List.length_cons, List.length_nil] <;> omega) | (apply isPure_intro <;> simp))) only [go_sem]
    rfl
  refine lin_Mat_Apply.of rfl (W_b ?_)
  unfold lin_Mat_Apply.k lin_Mat_Apply.res
  simp -dsimp -implicitDefEqProofs (disch := (first | assumption | omega | (simp only [nats_len, List.length_map, List.length_set, List.length_replicate, List.length_append, List.length_range, upto_len, els_len, List.length_cons, List.length_nil] <;> omega) | (apply isPure_intro <;> simp))) only [go_sem, hl]
  refine callB_of (list_ret n n_lin_Mat_Apply_1 _ (applyAt m x n) (by omega) (by simp) r1) (by simp) ?_
  simp -dsimp -implicitDefEqProofs (disch := (first | assumption | omega | (simp only [nats_len, List.length_map, List.length_set, List.length_replicate, List.length_append, List.length_range, upto_len, els_len, List.length_cons, List.length_nil] <;> omega) | (apply isPure_intro <;> simp))) only [go_sem]
theorem applyAt_lim {m : List (List Int)} {x : List Int} {n i : Nat} {A B : Nat} (sm : ∀ i j, lim (at2 m i j) ≤ A) (sx : ∀ i, lim (x.getD i 0) ≤ B) : lim (applyAt m x n i) ≤ A + B + n :=
  sumN_lim (L := A + B) (fun k => by have := sm i k; have := sx k; omega) n
def quadV (m : List (List Int)) (x : List Int) (n : Nat) : Int := sumN (fun k => x.getD k 0) (applyAt m x n) n
theorem range_getD' {f : Nat → Int} {n : Nat} (i : Nat) : ((List.range n).map f).getD i 0 = if i < n then f i else 0 := by
  by_cases h : i < n
  · rw [if_pos h, range_getD 0 h]
  · rw [if_neg h]; simp [List.getD_eq_getElem?_getD, h]
theorem lquad_ret (m : List (List Int)) (x : List Int) (n : Nat) (hn : n ≤ 1000) (hm : Sq m n) (hx : x.length = n) (sm : ∀ i j, lim (at2 m i j) ≤ 1000000) (sx : ∀ i, lim (x.getD i 0) ≤ 1000000) :
    Ret pg n_lin_Mat_Quad [.sl (m.map ivl), ivl x] (IV (quadV m x n)) := by
  have hl := hm.1
  have r0 : ∀ k : Nat, k < n → Ret pg n_lin_Mat_Quad_1 [.int .i64 k, .pp (ivl x), .pp (ivl ((List.range n).map (applyAt m x n)))] (.tup [IV (x.getD k 0), IV (applyAt m x n k)]) := fun k hk => by
    have e := range_getD (f := applyAt m x n) 0 hk
    refine lin_Mat_Quad_1.of rfl (W_b ?_)
    unfold lin_Mat_Quad_1.k lin_Mat_Quad_1.res
    simp -dsimp -implicitDefEqProofs (disch := (first | assumption | omega | (simp only [nats_len, List.length_map, List.length_set, List.length_replicate, List.length_append, List.length_range, upto_len, els_len, List.length_cons, List.length_nil] <;> omega) | (apply isPure_intro <;> simp))) only [go_sem, e]
  refine lin_Mat_Quad.of rfl (W_b ?_)
  unfold lin_Mat_Quad.k lin_Mat_Quad.res
  simp -dsimp -implicitDefEqProofs (disch := (first | assumption | omega | (simp only [nats_len, List.length_map, List.length_set, List.length_replicate, List.length_append, List.length_range, upto_len, els_len, List.length_cons, List.length_nil] <;> omega) | (apply isPure_intro <;> simp))) only [go_sem]
  refine callB_of (apply_ret m x n hn hm hx (fun i j => by have := sm i j; omega) (fun i => by have := sx i; omega)) (by simp) ?_
  simp -dsimp -implicitDefEqProofs (disch := (first | assumption | omega | (simp only [nats_len, List.length_map, List.length_set, List.length_replicate, List.length_append, List.length_range, upto_len, els_len, List.length_cons, List.length_nil] <;> omega) | (apply isPure_intro <;> simp))) only [go_sem, hl]
  refine callB_fr1 5 [ivl ((List.range n).map (applyAt m x n))] (es := 1) rfl (by simp) (by simp [V.sub, fz1, sub_fn]) (sum_ret n n_lin_Mat_Quad_1 _ (fun k => x.getD k 0) (applyAt m x n) (by omega) (by simp) (fun k => by have := sx k; have := applyAt_lim (n := n) (i := k) sm sx; omega) r0) (by simp) ?_
  simp -dsimp -implicitDefEqProofs (disch := (first | assumption | omega | (simp only [nats_len, List.length_map, List.length_set, List.length_replicate, List.length_append, List.length_range, upto_len, els_len, List.length_cons, List.length_nil] <;> omega) | (apply isPure_intro <;> simp))) only [go_sem]
  rfl
end Go.Gim
