import Derived.Test.YtmfenpedpajfkaaFA2
import Derived.Test.YtmfenpedpajfkaaLI2
/- Lists, matrices and sums of products that a function tells. -/
set_option maxRecDepth 100000
set_option linter.unusedSimpArgs false
set_option linter.unusedVariables false
namespace Go.Gim
open Go.Proofs
theorem list_ret (n : Nat) (g : Nat) (caps : List V) (f : Nat → Int) (hn : n ≤ 1000000) (hc : ∀ v ∈ caps, V.Pure v) (h : ∀ i : Nat, i < n → Ret pg g (.int .i64 i :: caps) (IV (f i))) :
    Ret pg n_lin_list_long_Int [.int .i64 n, .fn g caps] (ivl ((List.range n).map f)) := by
  refine lin_list_long_Int.of rfl (W_b ?_)
  unfold lin_list_long_Int.k lin_list_long_Int.res
  simp -dsimp -implicitDefEqProofs (disch := (first | assumption | omega | (simp only [nats_len, List.length_map, List.length_set, List.length_replicate, List.length_append, List.length_range, upto_len, els_len, List.length_cons, List.length_nil] <;> omega) | (apply isPure_intro <;> simp))) only [go_sem]
  refine W_loop (T := Nat × Nat) (fun t => ⟨E [(1, .fn g caps), (5, .own 2 n), (10, .int .i64 n), (11, .int .i64 t.1)], Hp.upd (fun _ => none) 2 (some ⟨(upto n t.1 f).map IV, 2⟩), t.2, t.2⟩) (fun t => t.1 ≤ n) (fun t => n - t.1) (0, _) (by rw [upto_zero]; rfl) (by dsimp only; omega) ?_
  rintro ⟨i, nx⟩ i1
  dsimp only at i1
  by_cases hi : i < n
  · simp -dsimp -implicitDefEqProofs (disch := (first | assumption | omega | (simp only [nats_len, List.length_map, List.length_set, List.length_replicate, List.length_append, List.length_range, upto_len, els_len, List.length_cons, List.length_nil] <;> omega) | (apply isPure_intro <;> simp))) only [go_sem]
    refine callV_of (h i hi) (pure_cons hc _ _) ?_
    simp -dsimp -implicitDefEqProofs (disch := (first | assumption | omega | (simp only [nats_len, List.length_map, List.length_set, List.length_replicate, List.length_append, List.length_range, upto_len, els_len, List.length_cons, List.length_nil] <;> omega) | (apply isPure_intro <;> simp))) only [go_sem, upto_set hi]
    exact ⟨(i + 1, _), rfl, by dsimp only; omega, by dsimp only; omega⟩
  · have he : i = n := by omega
    subst he
    simp -dsimp -implicitDefEqProofs (disch := (first | assumption | omega | (simp only [nats_len, List.length_map, List.length_set, List.length_replicate, List.length_append, List.length_range, upto_len, els_len, List.length_cons, List.length_nil] <;> omega) | (apply isPure_intro <;> simp))) only [go_sem]
    rw [frz_map fun x => frz_IV _ _ _, upto_all]
    rfl
def sumN (f p : Nat → Int) : Nat → Int
  | 0 => 0
  | n + 1 => sumN f p n + f n * p n
theorem sumN_lim {f p : Nat → Int} {L : Nat} (h : ∀ i, lim (f i) + lim (p i) ≤ L) : ∀ n, lim (sumN f p n) ≤ L + n
  | 0 => by simp [sumN, lim_zero]
  | n + 1 => by
    have h1 := sumN_lim h n
    have h2 := lim_mul (f n) (p n)
    have h3 := lim_add (sumN f p n) (f n * p n)
    have h4 := h n
    rw [sumN]
    omega
theorem sum_ret (n : Nat) (g : Nat) (caps : List V) (f p : Nat → Int) (hn : n ≤ 1000000) (hc : ∀ v ∈ caps, V.Pure v) (hb : ∀ i, lim (f i) + lim (p i) ≤ 1000000000) (h : ∀ i : Nat, i < n → Ret pg g (.int .i64 i :: caps) (.tup [IV (f i), IV (p i)])) :
    Ret pg n_lin_sum [.int .i64 n, .fn g caps] (IV (sumN f p n)) := by
  refine lin_sum.of rfl (W_b ?_)
  unfold lin_sum.k lin_sum.res
  simp -dsimp -implicitDefEqProofs (disch := (first | assumption | omega | (simp only [nats_len, List.length_map, List.length_set, List.length_replicate, List.length_append, List.length_range, upto_len, els_len, List.length_cons, List.length_nil] <;> omega) | (apply isPure_intro <;> simp))) only [go_sem, ← IV_zero]
  refine W_loopG (T := Nat × Nat) (fun t => ⟨E [(1, .fn g caps), (4, .ptr 0 1 0 0), (5, .ptr 1 1 0 0), (9, .int .i64 n), (10, .int .i64 t.1)], (Hp.upd (fun _ => none) 0 (some ⟨[IV 0], 2⟩)).upd 1 (some ⟨[IV (sumN f p t.1)], 2⟩), t.2, t.2⟩) (fun t => t.1 ≤ n ∧ 1 < t.2) (fun t => n - t.1) (0, _) (Ghost.refl _) ⟨by dsimp only; omega, by dsimp only; omega⟩ ?_
  rintro ⟨i, nx⟩ ⟨i1, i2⟩
  dsimp only at i1 i2
  by_cases hi : i < n
  · have b1 := hb i
    have b2 := sumN_lim hb i
    have b3 := lim_mul (f i) (p i)
    simp -dsimp -implicitDefEqProofs (disch := (first | assumption | omega | (simp only [nats_len, List.length_map, List.length_set, List.length_replicate, List.length_append, List.length_range, upto_len, els_len, List.length_cons, List.length_nil] <;> omega) | (apply isPure_intro <;> simp))) only [go_sem]
    refine callV_of (h i hi) (pure_cons hc _ _) ?_
    simp -dsimp -implicitDefEqProofs (disch := (first | assumption | omega | (simp only [nats_len, List.length_map, List.length_set, List.length_replicate, List.length_append, List.length_range, upto_len, els_len, List.length_cons, List.length_nil] <;> omega) | (apply isPure_intro <;> simp))) only [go_sem, ← IV_zero]
    refine callP_of (mul_ret _ _ (by omega) (by omega)) (by simp) ?_
    simp -dsimp -implicitDefEqProofs (disch := (first | assumption | omega | (simp only [nats_len, List.length_map, List.length_set, List.length_replicate, List.length_append, List.length_range, upto_len, els_len, List.length_cons, List.length_nil] <;> omega) | (apply isPure_intro <;> simp))) only [go_sem]
    refine callP_of (add_ret _ _ (by omega) (by omega)) (by simp) ?_
    simp -dsimp -implicitDefEqProofs (disch := (first | assumption | omega | (simp only [nats_len, List.length_map, List.length_set, List.length_replicate, List.length_append, List.length_range, upto_len, els_len, List.length_cons, List.length_nil] <;> omega) | (apply isPure_intro <;> simp))) only [go_sem]
    exact ⟨(i + 1, _), (ghost_drop (by intro b; simp only [Hp.upd]; (repeat' split) <;> first | exact .inl rfl | exact .inr rfl | (exfalso; omega))), ⟨by dsimp only; omega, by dsimp only; omega⟩, by dsimp only; omega⟩
  · have he : i = n := by omega
    subst he
    simp -dsimp -implicitDefEqProofs (disch := (first | assumption | omega | (simp only [nats_len, List.length_map, List.length_set, List.length_replicate, List.length_append, List.length_range, upto_len, els_len, List.length_cons, List.length_nil] <;> omega) | (apply isPure_intro <;> simp))) only [go_sem]
theorem list2_ret (n : Nat) (g : Nat) (caps : List V) (f : Nat → List Int) (hn : n ≤ 1000000) (hc : ∀ v ∈ caps, V.Pure v) (h : ∀ i : Nat, i < n → Ret pg g (.int .i64 i :: caps) (ivl (f i))) :
    Ret pg n_lin_list_Llong_Int [.int .i64 n, .fn g caps] (.sl ((List.range n).map fun i => ivl (f i))) := by
  refine lin_list_Llong_Int.of rfl (W_b ?_)
  unfold lin_list_Llong_Int.k lin_list_Llong_Int.res
  simp -dsimp -implicitDefEqProofs (disch := (first | assumption | omega | (simp only [nats_len, List.length_map, List.length_set, List.length_replicate, List.length_append, List.length_range, upto_len, els_len, List.length_cons, List.length_nil] <;> omega) | (apply isPure_intro <;> simp))) only [go_sem]
  refine W_loop (T := Nat × Nat) (fun t => ⟨E [(1, .fn g caps), (5, .own 2 n), (10, .int .i64 n), (11, .int .i64 t.1)], Hp.upd (fun _ => none) 2 (some ⟨els n t.1 (fun k => ivl (f k)), 1⟩), t.2, t.2⟩) (fun t => t.1 ≤ n) (fun t => n - t.1) (0, _) (by rw [els_zero]; rfl) (by dsimp only; omega) ?_
  rintro ⟨i, nx⟩ i1
  dsimp only at i1
  by_cases hi : i < n
  · simp -dsimp -implicitDefEqProofs (disch := (first | assumption | omega | (simp only [nats_len, List.length_map, List.length_set, List.length_replicate, List.length_append, List.length_range, upto_len, els_len, List.length_cons, List.length_nil] <;> omega) | (apply isPure_intro <;> simp))) only [go_sem]
    refine callV_of (h i hi) (pure_cons hc _ _) ?_
    simp -dsimp -implicitDefEqProofs (disch := (first | assumption | omega | (simp only [nats_len, List.length_map, List.length_set, List.length_replicate, List.length_append, List.length_range, upto_len, els_len, List.length_cons, List.length_nil] <;> omega) | (apply isPure_intro <;> simp))) only [go_sem, storeO_els (f := fun k => ivl (f k)) hi rfl rfl rfl rfl]
    exact ⟨(i + 1, _), rfl, by dsimp only; omega, by dsimp only; omega⟩
  · have he : i = n := by omega
    subst he
    simp -dsimp -implicitDefEqProofs (disch := (first | assumption | omega | (simp only [nats_len, List.length_map, List.length_set, List.length_replicate, List.length_append, List.length_range, upto_len, els_len, List.length_cons, List.length_nil] <;> omega) | (apply isPure_intro <;> simp))) only [go_sem]
    rw [els_all, frz_map (f := fun k => ivl (f k)) fun x => rfl]
    rfl
end Go.Gim
