import Derived.Test.YtmfenpedpajfkaaRL0
import Derived.Test.YtmfenpedpajfkaaSM0
/- The references' products and quadratic functions. -/
set_option maxRecDepth 100000
set_option maxHeartbeats 4000000
set_option linter.unusedSimpArgs false
set_option linter.unusedVariables false
namespace Go.Gim
open Go.Proofs
theorem sumN_dlim {f p : Nat → Int} {L : Nat} (h : ∀ i, dlim (f i) + dlim (p i) ≤ L) : ∀ n, dlim (sumN f p n) ≤ L + n
  | 0 => by have h0 : dlim 0 = 0 := (by simp [dlim, digs_zero]); simp only [sumN]; omega
  | n + 1 => by
    have h1 := sumN_dlim h n
    have h2 := dlim_mul (f n) (p n)
    have h3 := dlim_add (sumN f p n) (f n * p n)
    have h4 := h n
    rw [sumN]
    omega
theorem rdot_ret (x y : List Int) (hl : x.length ≤ 1000) (hy : x.length ≤ y.length) (sx : ∀ i, dlim (x.getD i 0) ≤ 2000000) (sy : ∀ i, dlim (y.getD i 0) ≤ 2000000) : Ret pg n_gimbalref07_Dot [dvl x, dvl y] (DV (sumN (fun k => x.getD k 0) (fun k => y.getD k 0) x.length)) := by
  refine gimbalref07_Dot.of rfl (W_b ?_)
  unfold gimbalref07_Dot.k gimbalref07_Dot.res
  simp -dsimp -implicitDefEqProofs (disch := (first | assumption | omega | (simp only [zE] <;> omega) | (apply isPure_intro <;> simp))) only [go_sem, ← DV_zero]
  refine callB_of (r_of 0 (by omega)) (by simp) ?_
  simp -dsimp -implicitDefEqProofs (disch := (first | assumption | omega | (simp only [zE] <;> omega) | (apply isPure_intro <;> simp))) only [go_sem]
  refine W_loopG (T := Nat × Nat) (fun t => ⟨E [(0, dvl x), (1, dvl y), (4, .ptr 0 1 0 0), (5, .ptr 2 1 0 0), (6, .int .i64 t.1)], (Hp.upd (fun _ => none) 0 (some ⟨[DV 0], 2⟩)).upd 2 (some ⟨[DV (sumN (fun k => x.getD k 0) (fun k => y.getD k 0) t.1)], 2⟩), t.2, t.2⟩) (fun t => t.1 ≤ x.length ∧ 2 < t.2) (fun t => x.length - t.1) (0, 5) (Ghost.refl _) ⟨by dsimp only; omega, by dsimp only; omega⟩ ?_
  rintro ⟨i, nx⟩ ⟨i1, i2⟩
  dsimp only at i1 i2
  have b0 := sumN_dlim (f := fun k => x.getD k 0) (p := fun k => y.getD k 0) (L := 4000000) (fun k => by have := sx k; have := sy k; omega) i
  by_cases hi : i < x.length
  · have b1 := sx i
    have b2 := sy i
    have b3 := dlim_mul (x.getD i 0) (y.getD i 0)
    simp -dsimp -implicitDefEqProofs (disch := (first | assumption | omega | (simp only [zE] <;> omega) | (apply isPure_intro <;> simp))) only [go_sem]
    first | refine callB_of (r_mul _ _ (by omega) (by omega)) (by simp) ?_ | refine callP_of (r_mul _ _ (by omega) (by omega)) (by simp) ?_
    simp -dsimp -implicitDefEqProofs (disch := (first | assumption | omega | (simp only [zE] <;> omega) | (apply isPure_intro <;> simp))) only [go_sem]
    first | refine callB_of (r_add _ _ (by omega) (by omega)) (by simp) ?_ | refine callP_of (r_add _ _ (by omega) (by omega)) (by simp) ?_
    simp -dsimp -implicitDefEqProofs (disch := (first | assumption | omega | (simp only [zE] <;> omega) | (apply isPure_intro <;> simp))) only [go_sem]
    exact ⟨(i + 1, _), Ghost.refl _, ⟨by dsimp only; omega, by dsimp only; omega⟩, by dsimp only; omega⟩
  · have hie : x.length = i := by omega
    subst hie
    simp -dsimp -implicitDefEqProofs (disch := (first | assumption | omega | (simp only [zE] <;> omega) | (apply isPure_intro <;> simp))) only [go_sem]
end Go.Gim
