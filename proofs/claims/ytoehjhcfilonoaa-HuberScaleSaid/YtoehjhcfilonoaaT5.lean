/- The laws on costs that forgive: the document's answers, the examples, and what the laws ask. -/
import Derived.Test.YtoehjhcfilonoaaT4
set_option maxRecDepth 100000
set_option linter.unusedSimpArgs false
set_option linter.unusedVariables false
namespace Go.Gim
open Go.Proofs
theorem slope_in {r k : Int} (hr : -2147483647 ≤ r ∧ r ≤ 2147483647) (hk : 0 ≤ k ∧ k ≤ 2147483647) : hSlope r k = max (-k) (min r k) := by
  have e1 : clampR r = r := by unfold clampR; omega
  have e2 : clampK k = k := by unfold clampK; omega
  have e3 : sizeR r = max r (-r) := by unfold sizeR; rw [e1]
  unfold hSlope
  rw [e1, e2, e3]
  split <;> omega
theorem sq_nonneg' (x : Int) : 0 ≤ x * x := by
  rcases Int.le_total 0 x with h | h
  · exact Int.mul_nonneg h h
  · exact Int.mul_nonneg_of_nonpos_of_nonpos h h
theorem rho_eq {r k : Int} (hr : -2147483647 ≤ r ∧ r ≤ 2147483647) (hk : 0 ≤ k ∧ k ≤ 2147483647) :
    hRho r k = 2 * (max (-k) (min r k)) * r - (max (-k) (min r k)) * (max (-k) (min r k)) := by
  have e1 : clampR r = r := by unfold clampR; omega
  have e2 : clampK k = k := by unfold clampK; omega
  have e3 : sizeR r = max r (-r) := by unfold sizeR; rw [e1]
  unfold hRho
  rw [e1, e2, e3]
  split
  · rw [show max (-k) (min r k) = r by omega]; grind
  · rcases Int.le_total 0 r with h | h
    · rw [show max (-k) (min r k) = k by omega, show max r (-r) = r by omega]
    · rw [show max (-k) (min r k) = -k by omega, show max r (-r) = -r by omega]; grind
theorem rho_ge {r k t : Int} (hr : -2147483647 ≤ r ∧ r ≤ 2147483647) (hk : 0 ≤ k ∧ k ≤ 2147483647) (ht : -k ≤ t ∧ t ≤ k) : 2 * t * r - t * t ≤ hRho r k := by
  rw [rho_eq hr hk]
  generalize hs : max (-k) (min r k) = s
  have h1 := sq_nonneg' (s - t)
  have h2 : 0 ≤ (s - t) * (r - s) := by
    by_cases hst : s = t
    · rw [hst, Int.sub_self, Int.zero_mul]
      omega
    · rcases Int.le_total s t with h | h
      · exact Int.mul_nonneg_of_nonpos_of_nonpos (by omega) (by omega)
      · exact Int.mul_nonneg (by omega) (by omega)
  grind
theorem rho_bd {r k : Int} (hr : -2147483647 ≤ r ∧ r ≤ 2147483647) (hk : 0 ≤ k ∧ k ≤ 2147483647) : 0 ≤ hRho r k ∧ hRho r k ≤ r * r := by
  have h1 := rho_ge hr hk (t := 0) (by omega)
  rw [rho_eq hr hk] at *
  have h2 := sq_nonneg' (r - max (-k) (min r k))
  generalize max (-k) (min r k) = s at *
  refine ⟨by omega, by grind⟩
theorem rho_line {r s k : Int} (hr : -2147483647 ≤ r ∧ r ≤ 2147483647) (hs : -2147483647 ≤ s ∧ s ≤ 2147483647) (hk : 0 ≤ k ∧ k ≤ 2147483647) : hRho s k + 2 * hSlope s k * (r - s) ≤ hRho r k := by
  have h1 := rho_ge hr hk (t := max (-k) (min s k)) (by omega)
  rw [rho_eq hs hk, slope_in hs hk]
  generalize max (-k) (min s k) = t at *
  grind
theorem grows_law {r s k l : Int} (h : 0 ≤ r ∧ r ≤ s ∧ s ≤ 2147483647 ∧ 0 ≤ k ∧ k ≤ l ∧ l ≤ 2147483647) :
    hRho r k = hRho (-r) k ∧ hRho r k ≤ hRho s k ∧ hRho r k ≤ hRho r l ∧ hSlope r k ≤ hSlope s k ∧ 0 ≤ hSlope r k := by
  refine ⟨?_, ?_, ?_, ?_, ?_⟩
  · rw [rho_eq (by omega) (by omega), rho_eq (r := -r) (by omega) (by omega), show max (-k) (min (-r) k) = -max (-k) (min r k) by omega]
    grind
  · have h1 := rho_ge (r := s) (k := k) (t := max (-k) (min r k)) (by omega) (by omega) (by omega)
    rw [rho_eq (r := r) (by omega) (by omega)]
    have h2 : 0 ≤ max (-k) (min r k) * (s - r) := Int.mul_nonneg (by omega) (by omega)
    generalize max (-k) (min r k) = t at *
    grind
  · have h1 := rho_ge (r := r) (k := l) (t := max (-k) (min r k)) (by omega) (by omega) (by omega)
    rw [rho_eq (r := r) (k := k) (by omega) (by omega)]
    exact h1
  · rw [slope_in (by omega) (by omega), slope_in (by omega) (by omega)]; omega
  · rw [slope_in (by omega) (by omega)]; omega
theorem HuberGrows_true (r s k l : Int) (hr : i64r r) (hs : i64r s) (hk : i64r k) (hl : i64r l) : Ret pg n_gimballaw09_HuberGrows [.int .i64 r, .int .i64 s, .int .i64 k, .int .i64 l] (.bool true) := by
  refine gimballaw09_HuberGrows.of rfl (W_b ?_)
  unfold gimballaw09_HuberGrows.k gimballaw09_HuberGrows.res
  simp -dsimp -implicitDefEqProofs only [go_sem, reduceIte, reduceCtorEq, Nat.reduceEqDiff, Nat.reduceAdd, Nat.reduceLeDiff, Nat.reduceMul, Nat.reduceSub, Nat.reduceLT, Nat.reduceBEq, Int.reduceToNat, Int.reduceNeg, Int.reduceEq, Int.reduceLT, Int.reduceLE]
  refine callB_of awake_ret (by simp) ?_
  simp -dsimp -implicitDefEqProofs only [go_sem, reduceIte, reduceCtorEq, Nat.reduceEqDiff, Nat.reduceAdd, Nat.reduceLeDiff, Nat.reduceMul, Nat.reduceSub, Nat.reduceLT, Nat.reduceBEq, Int.reduceToNat, Int.reduceNeg, Int.reduceEq, Int.reduceLT, Int.reduceLE]
  by_cases h : 0 ≤ r ∧ r ≤ s ∧ s ≤ 2147483647 ∧ 0 ≤ k ∧ k ≤ l ∧ l ≤ 2147483647
  · obtain ⟨g1, g2, g3, g4, g5⟩ := grows_law h
    obtain ⟨g6, g7⟩ := rho_bd (r := r) (k := k) (by omega) (by omega)
    have w1 := w64 (n := -r) (by omega)
    have w2 := w64 (n := r * r) (by have := mul_bd (a := r) (b := r) (A := 2147483647) (B := 2147483647) (by omega) (by omega); omega)
    have w3 : (0 : Int) - r = -r := by omega
    simp -dsimp -implicitDefEqProofs only [go_sem, reduceIte, reduceCtorEq, Nat.reduceEqDiff, Nat.reduceAdd, Nat.reduceLeDiff, Nat.reduceMul, Nat.reduceSub, Nat.reduceLT, Nat.reduceBEq, Int.reduceToNat, Int.reduceNeg, Int.reduceEq, Int.reduceLT, Int.reduceLE, show ¬ r < 0 by omega, show ¬ s < r by omega, show ¬ 2147483647 < s by omega, show ¬ k < 0 by omega, show ¬ l < k by omega, show ¬ 2147483647 < l by omega]
    refine callB_of (rho_ret _ _) (by simp) ?_
    simp -dsimp -implicitDefEqProofs only [go_sem, reduceIte, reduceCtorEq, Nat.reduceEqDiff, Nat.reduceAdd, Nat.reduceLeDiff, Nat.reduceMul, Nat.reduceSub, Nat.reduceLT, Nat.reduceBEq, Int.reduceToNat, Int.reduceNeg, Int.reduceEq, Int.reduceLT, Int.reduceLE, w1, w3]
    refine callB_of (rho_ret _ _) (by simp) ?_
    simp -dsimp -implicitDefEqProofs only [go_sem, reduceIte, reduceCtorEq, Nat.reduceEqDiff, Nat.reduceAdd, Nat.reduceLeDiff, Nat.reduceMul, Nat.reduceSub, Nat.reduceLT, Nat.reduceBEq, Int.reduceToNat, Int.reduceNeg, Int.reduceEq, Int.reduceLT, Int.reduceLE]
    refine callB_of (rho_ret _ _) (by simp) ?_
    simp -dsimp -implicitDefEqProofs only [go_sem, reduceIte, reduceCtorEq, Nat.reduceEqDiff, Nat.reduceAdd, Nat.reduceLeDiff, Nat.reduceMul, Nat.reduceSub, Nat.reduceLT, Nat.reduceBEq, Int.reduceToNat, Int.reduceNeg, Int.reduceEq, Int.reduceLT, Int.reduceLE]
    refine callB_of (rho_ret _ _) (by simp) ?_
    simp -dsimp -implicitDefEqProofs only [go_sem, reduceIte, reduceCtorEq, Nat.reduceEqDiff, Nat.reduceAdd, Nat.reduceLeDiff, Nat.reduceMul, Nat.reduceSub, Nat.reduceLT, Nat.reduceBEq, Int.reduceToNat, Int.reduceNeg, Int.reduceEq, Int.reduceLT, Int.reduceLE]
    refine callB_of (slope_ret _ _) (by simp) ?_
    simp -dsimp -implicitDefEqProofs only [go_sem, reduceIte, reduceCtorEq, Nat.reduceEqDiff, Nat.reduceAdd, Nat.reduceLeDiff, Nat.reduceMul, Nat.reduceSub, Nat.reduceLT, Nat.reduceBEq, Int.reduceToNat, Int.reduceNeg, Int.reduceEq, Int.reduceLT, Int.reduceLE]
    refine callB_of (slope_ret _ _) (by simp) ?_
    simp -dsimp -implicitDefEqProofs only [go_sem, reduceIte, reduceCtorEq, Nat.reduceEqDiff, Nat.reduceAdd, Nat.reduceLeDiff, Nat.reduceMul, Nat.reduceSub, Nat.reduceLT, Nat.reduceBEq, Int.reduceToNat, Int.reduceNeg, Int.reduceEq, Int.reduceLT, Int.reduceLE, ← g1, g2, g3, g4, g5, g6, g7, w2]
  · repeat' (first | (refine gsel_split (fun h' => ?_) (fun h' => ?_) <;> simp -dsimp -implicitDefEqProofs only [go_sem, reduceIte, reduceCtorEq, Nat.reduceEqDiff, Nat.reduceAdd, Nat.reduceLeDiff, Nat.reduceMul, Nat.reduceSub, Nat.reduceLT, Nat.reduceBEq, Int.reduceToNat, Int.reduceNeg, Int.reduceEq, Int.reduceLT, Int.reduceLE, h']) | (refine csel_dec (fun h' => ?_) (fun h' => ?_) <;> simp -dsimp -implicitDefEqProofs only [go_sem, reduceIte, reduceCtorEq, Nat.reduceEqDiff, Nat.reduceAdd, Nat.reduceLeDiff, Nat.reduceMul, Nat.reduceSub, Nat.reduceLT, Nat.reduceBEq, Int.reduceToNat, Int.reduceNeg, Int.reduceEq, Int.reduceLT, Int.reduceLE, h']))
    exfalso
    omega
theorem scale_law {r k t : Int} (hr : -1000000 ≤ r ∧ r ≤ 1000000) (hk : 0 ≤ k ∧ k ≤ 1000000) (ht : 0 ≤ t ∧ t ≤ 100) : hRho (t * r) (t * k) = t * t * hRho r k ∧ hSlope (t * r) (t * k) = t * hSlope r k := by
  have b1 := mul_bd (a := t) (b := r) (A := 100) (B := 1000000) (by omega) hr
  have b2 := mul_bd (a := t) (b := k) (A := 100) (B := 1000000) (by omega) (by omega)
  have b3 := Int.mul_nonneg ht.1 hk.1
  have e : max (-(t * k)) (min (t * r) (t * k)) = t * max (-k) (min r k) := by
    by_cases h1 : k < r
    · have : t * k ≤ t * r := Int.mul_le_mul_of_nonneg_left (by omega) ht.1
      rw [show max (-k) (min r k) = k by omega]; omega
    · have h2 : t * r ≤ t * k := Int.mul_le_mul_of_nonneg_left (by omega) ht.1
      by_cases h3 : r < -k
      · have : t * r ≤ t * (-k) := Int.mul_le_mul_of_nonneg_left (by omega) ht.1
        rw [Int.mul_neg] at this
        rw [show max (-k) (min r k) = -k by omega, Int.mul_neg]; omega
      · have : t * (-k) ≤ t * r := Int.mul_le_mul_of_nonneg_left (by omega) ht.1
        rw [Int.mul_neg] at this
        rw [show max (-k) (min r k) = r by omega]; omega
  rw [rho_eq (by omega) (by omega), rho_eq (r := r) (by omega) (by omega), slope_in (by omega) (by omega), slope_in (by omega) (by omega), e]
  generalize max (-k) (min r k) = s
  exact ⟨by grind, rfl⟩
theorem HuberScale_true (r k t : Int) (hr : i64r r) (hk : i64r k) (ht : i64r t) : Ret pg n_gimballaw09_HuberScale [.int .i64 r, .int .i64 k, .int .i64 t] (.bool true) := by
  refine gimballaw09_HuberScale.of rfl (W_b ?_)
  unfold gimballaw09_HuberScale.k gimballaw09_HuberScale.res
  simp -dsimp -implicitDefEqProofs only [go_sem, reduceIte, reduceCtorEq, Nat.reduceEqDiff, Nat.reduceAdd, Nat.reduceLeDiff, Nat.reduceMul, Nat.reduceSub, Nat.reduceLT, Nat.reduceBEq, Int.reduceToNat, Int.reduceNeg, Int.reduceEq, Int.reduceLT, Int.reduceLE]
  refine callB_of awake_ret (by simp) ?_
  simp -dsimp -implicitDefEqProofs only [go_sem, reduceIte, reduceCtorEq, Nat.reduceEqDiff, Nat.reduceAdd, Nat.reduceLeDiff, Nat.reduceMul, Nat.reduceSub, Nat.reduceLT, Nat.reduceBEq, Int.reduceToNat, Int.reduceNeg, Int.reduceEq, Int.reduceLT, Int.reduceLE]
  by_cases h : -1000000 ≤ r ∧ r ≤ 1000000 ∧ 0 ≤ k ∧ k ≤ 1000000 ∧ 0 ≤ t ∧ t ≤ 100
  · obtain ⟨g1, g2⟩ := scale_law (r := r) (k := k) (t := t) (by omega) (by omega) (by omega)
    obtain ⟨g6, g7⟩ := rho_bd (r := r) (k := k) (by omega) (by omega)
    have g8 := mul_bd (a := r) (b := r) (A := 1000000) (B := 1000000) (by omega) (by omega)
    have b1 := mul_bd (a := t) (b := r) (A := 100) (B := 1000000) (by omega) (by omega)
    have b2 := mul_bd (a := t) (b := k) (A := 100) (B := 1000000) (by omega) (by omega)
    have b3 := mul_bd (a := t) (b := t) (A := 100) (B := 100) (by omega) (by omega)
    have b4 := mul_bd (a := t * t) (b := hRho r k) (A := 10000) (B := 1000000000000) (by omega) (by omega)
    have b5 : -1000000 ≤ hSlope r k ∧ hSlope r k ≤ 1000000 := by rw [slope_in (by omega) (by omega)]; omega
    have b6 := mul_bd (a := t) (b := hSlope r k) (A := 100) (B := 1000000) (by omega) b5
    have w1 := w64 (n := t * r) (by omega)
    have w2 := w64 (n := t * k) (by omega)
    have w3 := w64 (n := t * t) (by omega)
    have w4 := w64 (n := t * t * hRho r k) (by omega)
    have w5 := w64 (n := t * hSlope r k) (by omega)
    simp -dsimp -implicitDefEqProofs only [go_sem, reduceIte, reduceCtorEq, Nat.reduceEqDiff, Nat.reduceAdd, Nat.reduceLeDiff, Nat.reduceMul, Nat.reduceSub, Nat.reduceLT, Nat.reduceBEq, Int.reduceToNat, Int.reduceNeg, Int.reduceEq, Int.reduceLT, Int.reduceLE, show ¬ r < -1000000 by omega, show ¬ 1000000 < r by omega, show ¬ k < 0 by omega, show ¬ 1000000 < k by omega, show ¬ t < 0 by omega, show ¬ 100 < t by omega]
    refine callB_of (rho_ret _ _) (by simp) ?_
    simp -dsimp -implicitDefEqProofs only [go_sem, reduceIte, reduceCtorEq, Nat.reduceEqDiff, Nat.reduceAdd, Nat.reduceLeDiff, Nat.reduceMul, Nat.reduceSub, Nat.reduceLT, Nat.reduceBEq, Int.reduceToNat, Int.reduceNeg, Int.reduceEq, Int.reduceLT, Int.reduceLE, w1, w2]
    refine callB_of (rho_ret _ _) (by simp) ?_
    simp -dsimp -implicitDefEqProofs only [go_sem, reduceIte, reduceCtorEq, Nat.reduceEqDiff, Nat.reduceAdd, Nat.reduceLeDiff, Nat.reduceMul, Nat.reduceSub, Nat.reduceLT, Nat.reduceBEq, Int.reduceToNat, Int.reduceNeg, Int.reduceEq, Int.reduceLT, Int.reduceLE]
    refine callB_of (slope_ret _ _) (by simp) ?_
    simp -dsimp -implicitDefEqProofs only [go_sem, reduceIte, reduceCtorEq, Nat.reduceEqDiff, Nat.reduceAdd, Nat.reduceLeDiff, Nat.reduceMul, Nat.reduceSub, Nat.reduceLT, Nat.reduceBEq, Int.reduceToNat, Int.reduceNeg, Int.reduceEq, Int.reduceLT, Int.reduceLE, w1, w2]
    refine callB_of (slope_ret _ _) (by simp) ?_
    simp -dsimp -implicitDefEqProofs only [go_sem, reduceIte, reduceCtorEq, Nat.reduceEqDiff, Nat.reduceAdd, Nat.reduceLeDiff, Nat.reduceMul, Nat.reduceSub, Nat.reduceLT, Nat.reduceBEq, Int.reduceToNat, Int.reduceNeg, Int.reduceEq, Int.reduceLT, Int.reduceLE, w3, w4, w5, g1, g2]
  · repeat' (first | (refine gsel_split (fun h' => ?_) (fun h' => ?_) <;> simp -dsimp -implicitDefEqProofs only [go_sem, reduceIte, reduceCtorEq, Nat.reduceEqDiff, Nat.reduceAdd, Nat.reduceLeDiff, Nat.reduceMul, Nat.reduceSub, Nat.reduceLT, Nat.reduceBEq, Int.reduceToNat, Int.reduceNeg, Int.reduceEq, Int.reduceLT, Int.reduceLE, h']) | (refine csel_dec (fun h' => ?_) (fun h' => ?_) <;> simp -dsimp -implicitDefEqProofs only [go_sem, reduceIte, reduceCtorEq, Nat.reduceEqDiff, Nat.reduceAdd, Nat.reduceLeDiff, Nat.reduceMul, Nat.reduceSub, Nat.reduceLT, Nat.reduceBEq, Int.reduceToNat, Int.reduceNeg, Int.reduceEq, Int.reduceLT, Int.reduceLE, h']))
    exfalso
    omega
end Go.Gim
