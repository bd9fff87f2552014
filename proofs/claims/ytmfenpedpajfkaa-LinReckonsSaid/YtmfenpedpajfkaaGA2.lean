import Derived.Test.YtmfenpedpajfkaaGA1
/- Matrices: made, turned, their products with lists. -/
set_option maxRecDepth 100000
set_option linter.unusedSimpArgs false
set_option linter.unusedVariables false
namespace Go.Gim
open Go.Proofs
def mat (n : Nat) (f : Nat → Nat → Int) : List (List Int) := (List.range n).map fun i => (List.range n).map (f i)
theorem fn_pure {g : Nat} {caps : List V} (hc : ∀ v ∈ caps, V.Pure v) : V.Pure (.fn g caps) := .fn _ _ hc
theorem lmade_ret (n : Nat) (g : Nat) (caps : List V) (f : Nat → Nat → Int) (hn : n ≤ 1000000) (hc : ∀ v ∈ caps, V.Pure v) (h : ∀ i j : Nat, i < n → j < n → Ret pg g (.int .i64 i :: .int .i64 j :: caps) (IV (f i j))) :
    Ret pg n_lin_made [.int .i64 n, .fn g caps] (.sl ((mat n f).map ivl)) := by
  have hp : V.Pure (.fn g caps) := fn_pure hc
  have hP : IsPure (.fn g caps) := ⟨rfl, hp⟩
  have r0 : ∀ i j : Nat, i < n → j < n → Ret pg n_lin_made_1_1 [.int .i64 j, .pp (.fn g caps), .pp (.int .i64 i)] (IV (f i j)) := fun i j hi hj => by
    refine lin_made_1_1.of rfl (W_b ?_)
    unfold lin_made_1_1.k lin_made_1_1.res
    simp -dsimp -implicitDefEqProofs (disch := (first | assumption | omega | (simp only [nats_len, List.length_map, List.length_set, List.length_replicate, List.length_append, List.length_range, upto_len, els_len, List.length_cons, List.length_nil] <;> omega) | (apply isPure_intro <;> simp))) only [go_sem]
    refine callV_of (h i j hi hj) (pure_cons (pure_cons hc _ _) _ _) ?_
    simp -dsimp -implicitDefEqProofs (disch := (first | assumption | omega | (simp only [nats_len, List.length_map, List.length_set, List.length_replicate, List.length_append, List.length_range, upto_len, els_len, List.length_cons, List.length_nil] <;> omega) | (apply isPure_intro <;> simp))) only [go_sem]
  have r1 : ∀ i : Nat, i < n → Ret pg n_lin_made_1 [.int .i64 i, .pp (.int .i64 n), .pp (.fn g caps)] (ivl ((List.range n).map (f i))) := fun i hi => by
    refine lin_made_1.of rfl (W_b ?_)
    unfold lin_made_1.k lin_made_1.res
    simp -dsimp -implicitDefEqProofs (disch := (first | assumption | omega | (simp only [nats_len, List.length_map, List.length_set, List.length_replicate, List.length_append, List.length_range, upto_len, els_len, List.length_cons, List.length_nil] <;> omega) | (apply isPure_intro <;> simp))) only [go_sem]
    refine callB_of (list_ret n n_lin_made_1_1 _ (f i) hn (by simp) fun j hj => r0 i j hi hj) (by simp) ?_
    simp -dsimp -implicitDefEqProofs (disch := (first | assumption | omega | (simp only [nats_len, List.length_map, List.length_set, List.length_replicate, List.length_append, List.length_range, upto_len, els_len, List.length_cons, List.length_nil] <;> omega) | (apply isPure_intro <;> simp))) only [go_sem]
  refine lin_made.of rfl (W_b ?_)
  unfold lin_made.k lin_made.res
  simp -dsimp -implicitDefEqProofs (disch := (first | assumption | omega | (simp only [nats_len, List.length_map, List.length_set, List.length_replicate, List.length_append, List.length_range, upto_len, els_len, List.length_cons, List.length_nil] <;> omega) | (apply isPure_intro <;> simp))) only [go_sem]
  refine callB_of (list2_ret n n_lin_made_1 _ (fun i => (List.range n).map (f i)) hn (by simp) fun i hi => r1 i hi) (by simp) ?_
  simp -dsimp -implicitDefEqProofs (disch := (first | assumption | omega | (simp only [nats_len, List.length_map, List.length_set, List.length_replicate, List.length_append, List.length_range, upto_len, els_len, List.length_cons, List.length_nil] <;> omega) | (apply isPure_intro <;> simp))) only [go_sem]
  simp [mat]
def Sq (m : List (List Int)) (n : Nat) : Prop := m.length = n ∧ ∀ r ∈ m, r.length = n
theorem Sq.row {m : List (List Int)} {n i : Nat} (h : Sq m n) (hi : i < n) : (m.getD i []).length = n := h.2 _ (getD_mem' [] (by rw [h.1]; exact hi))
theorem mat_sq (n f) : Sq (mat n f) n := ⟨by simp [mat], fun r hr => by simp only [mat, List.mem_map] at hr; obtain ⟨i, _, rfl⟩ := hr; simp⟩
def at2 (m : List (List Int)) (i j : Nat) : Int := (m.getD i []).getD j 0
theorem mat_at {n f i j} (hi : i < n) (hj : j < n) : at2 (mat n f) i j = f i j := by unfold at2 mat; rw [range_getD [] hi, range_getD 0 hj]
theorem mat_self {m : List (List Int)} {n : Nat} (h : Sq m n) : mat n (at2 m) = m := by
  refine List.ext_getElem (by simp [mat, h.1]) fun i h1 h2 => ?_
  have hr := h.2 m[i] (List.getElem_mem h2)
  simp only [mat, List.getElem_map, List.getElem_range]
  refine List.ext_getElem (by simp [hr]) fun j h3 h4 => ?_
  simp [at2, List.getD_eq_getElem?_getD, h2, h4]
theorem turned_ret (m : List (List Int)) (n : Nat) (hn : n ≤ 1000000) (hm : Sq m n) : Ret pg n_lin_Mat_Turned [.sl (m.map ivl)] (.sl ((mat n fun i j => at2 m j i).map ivl)) := by
  have hl := hm.1
  have r0 : ∀ i j : Nat, i < n → j < n → Ret pg n_lin_Mat_Turned_1 [.int .i64 i, .int .i64 j, .pp (.sl (m.map ivl))] (IV (at2 m j i)) := fun i j hi hj => by
    have hr := hm.row hj
    refine lin_Mat_Turned_1.of rfl (W_b ?_)
    unfold lin_Mat_Turned_1.k lin_Mat_Turned_1.res
    simp -dsimp -implicitDefEqProofs (disch := (first | assumption | omega | (simp only [nats_len, List.length_map, List.length_set, List.length_replicate, List.length_append, List.length_range, upto_len, els_len, List.length_cons, List.length_nil] <;> omega) | (apply isPure_intro <;> simp))) only [go_sem]
    rfl
  refine lin_Mat_Turned.of rfl (W_b ?_)
  unfold lin_Mat_Turned.k lin_Mat_Turned.res
  simp -dsimp -implicitDefEqProofs (disch := (first | assumption | omega | (simp only [nats_len, List.length_map, List.length_set, List.length_replicate, List.length_append, List.length_range, upto_len, els_len, List.length_cons, List.length_nil] <;> omega) | (apply isPure_intro <;> simp))) only [go_sem, hl]
  refine callB_of (lmade_ret n n_lin_Mat_Turned_1 _ _ hn (by simp) r0) (by simp) ?_
  simp -dsimp -implicitDefEqProofs (disch := (first | assumption | omega | (simp only [nats_len, List.length_map, List.length_set, List.length_replicate, List.length_append, List.length_range, upto_len, els_len, List.length_cons, List.length_nil] <;> omega) | (apply isPure_intro <;> simp))) only [go_sem]
def sqE (rows : List (List Int)) : Int := if 12 < rows.length then 2 else if ∃ r ∈ rows, r.length ≠ rows.length then 1 else 0
theorem linof_retL (rows : List (List Int)) (hl : rows.length ≤ 9223372036854775807) (hr : ∀ r ∈ rows, r.length ≤ 9223372036854775807 ∧ ∀ v ∈ r, -9223372036854775808 ≤ v ∧ v ≤ 9223372036854775807) : Ret pg n_lin_Of [.sl (rows.map ints)] (.tup [.sl ((if sqE rows = 0 then rows else []).map ivl), .int .i64 (sqE rows)]) := by
  refine lin_Of.of rfl (W_b ?_)
  unfold lin_Of.k lin_Of.res
  by_cases h12 : 12 < rows.length
  · have e : sqE rows = 2 := by unfold sqE; rw [if_pos h12]
    rw [e]
    simp -dsimp -implicitDefEqProofs (disch := (first | assumption | omega | (simp only [nats_len, List.length_map, List.length_set, List.length_replicate, List.length_append, List.length_range, upto_len, els_len, List.length_cons, List.length_nil] <;> omega) | (apply isPure_intro <;> simp))) only [go_sem]
  · simp -dsimp -implicitDefEqProofs (disch := (first | assumption | omega | (simp only [nats_len, List.length_map, List.length_set, List.length_replicate, List.length_append, List.length_range, upto_len, els_len, List.length_cons, List.length_nil] <;> omega) | (apply isPure_intro <;> simp))) only [go_sem]
    refine W_loop (T := Nat × Nat) (fun t => ⟨E [(1, .pp (.sl (rows.map ints))), (9, .sl (rows.map ints)), (10, .int .i64 rows.length), (11, .int .i64 t.1)], fun _ => none, t.2, t.2⟩) (fun t => t.1 ≤ rows.length ∧ ∀ r ∈ rows.take t.1, r.length = rows.length) (fun t => rows.length - t.1) (0, _) rfl ⟨by dsimp only; omega, by simp⟩ ?_
    rintro ⟨i, nx⟩ ⟨i1, i2⟩
    dsimp only at i1 i2
    by_cases hi : i < rows.length
    · have hm := getD_mem' [] hi
      have hml := (hr _ hm).1
      have ht := take_getD [] hi
      generalize hX : rows.getD i [] = x at *
      by_cases hx : x.length = rows.length
      · simp -dsimp -implicitDefEqProofs (disch := (first | assumption | omega | (simp only [nats_len, List.length_map, List.length_set, List.length_replicate, List.length_append, List.length_range, upto_len, els_len, List.length_cons, List.length_nil] <;> omega) | (apply isPure_intro <;> simp))) only [go_sem, hX, hx]
        refine ⟨(i + 1, _), rfl, ⟨by dsimp only; omega, fun y hy => ?_⟩, by dsimp only; omega⟩
        dsimp only at hy
        rw [ht] at hy
        rcases List.mem_append.1 hy with hy | hy
        · exact i2 y hy
        · simp at hy; subst hy; exact hx
      · have e : sqE rows = 1 := by unfold sqE; rw [if_neg h12, if_pos ⟨x, hm, hx⟩]
        rw [e]
        simp -dsimp -implicitDefEqProofs (disch := (first | assumption | omega | (simp only [nats_len, List.length_map, List.length_set, List.length_replicate, List.length_append, List.length_range, upto_len, els_len, List.length_cons, List.length_nil] <;> omega) | (apply isPure_intro <;> simp))) only [go_sem, hX]
    · rw [List.take_of_length_le (by omega)] at i2
      have e : sqE rows = 0 := by unfold sqE; rw [if_neg h12, if_neg (fun ⟨r, h1, h2⟩ => h2 (i2 r h1))]
      have hsq : Sq rows rows.length := ⟨rfl, i2⟩
      have r0 : ∀ i j : Nat, i < rows.length → j < rows.length → Ret pg n_lin_Of_1 [.int .i64 i, .int .i64 j, .pp (.sl (rows.map ints))] (IV (at2 rows i j)) := fun i j hi hj => by
        have hrl := hsq.row hi
        have hv := (hr _ (getD_mem' [] hi)).2 _ (getD_mem' 0 (show j < (rows.getD i []).length by omega))
        refine lin_Of_1.of rfl (W_b ?_)
        unfold lin_Of_1.k lin_Of_1.res
        simp -dsimp -implicitDefEqProofs (disch := (first | assumption | omega | (simp only [nats_len, List.length_map, List.length_set, List.length_replicate, List.length_append, List.length_range, upto_len, els_len, List.length_cons, List.length_nil] <;> omega) | (apply isPure_intro <;> simp))) only [go_sem]
        refine callB_of (of_ret _ hv) (by simp) ?_
        simp -dsimp -implicitDefEqProofs (disch := (first | assumption | omega | (simp only [nats_len, List.length_map, List.length_set, List.length_replicate, List.length_append, List.length_range, upto_len, els_len, List.length_cons, List.length_nil] <;> omega) | (apply isPure_intro <;> simp))) only [go_sem]
        rfl
      rw [e]
      simp -dsimp -implicitDefEqProofs (disch := (first | assumption | omega | (simp only [nats_len, List.length_map, List.length_set, List.length_replicate, List.length_append, List.length_range, upto_len, els_len, List.length_cons, List.length_nil] <;> omega) | (apply isPure_intro <;> simp))) only [go_sem]
      refine callB_of (lmade_ret rows.length n_lin_Of_1 _ _ (by omega) (by simp) r0) (by simp) ?_
      simp -dsimp -implicitDefEqProofs (disch := (first | assumption | omega | (simp only [nats_len, List.length_map, List.length_set, List.length_replicate, List.length_append, List.length_range, upto_len, els_len, List.length_cons, List.length_nil] <;> omega) | (apply isPure_intro <;> simp))) only [go_sem]
      rw [mat_self hsq]
theorem linof_ret (rows : List (List Int)) (hl : rows.length ≤ 1099511627776) (hr : ∀ r ∈ rows, r.length ≤ 1099511627776 ∧ ∀ v ∈ r, -9223372036854775808 ≤ v ∧ v ≤ 9223372036854775807) : Ret pg n_lin_Of [.sl (rows.map ints)] (.tup [.sl ((if sqE rows = 0 then rows else []).map ivl), .int .i64 (sqE rows)]) :=
  linof_retL rows (by omega) fun r h => ⟨by have := (hr r h).1; omega, (hr r h).2⟩
end Go.Gim
