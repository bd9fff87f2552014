/- The laws on costs that forgive: the document's answers, the examples, and what the laws ask. -/
import Derived.Test.YtoehjhcfilonoaaT3
set_option maxRecDepth 100000
set_option linter.unusedSimpArgs false
set_option linter.unusedVariables false
namespace Go.Gim
open Go.Proofs
theorem rho_in {r k : Int} (hr : -32768 ≤ r ∧ r ≤ 32768) (hk : 0 ≤ k ∧ k ≤ 32768) : hRho r k = if max r (-r) ≤ k then r * r else 2 * k * max r (-r) - k * k := by
  have e1 : clampR r = r := by unfold clampR; omega
  have e2 : clampK k = k := by unfold clampK; omega
  have e3 : sizeR r = max r (-r) := by unfold sizeR; rw [e1]
  unfold hRho
  rw [e1, e2, e3]
theorem above_law {r a k : Int} (hr : -32768 ≤ r ∧ r ≤ 32768) (ha : -32768 ≤ a ∧ a ≤ 32768) (hk : 0 ≤ k ∧ k ≤ 32768) :
    0 < hDen a k ∧ hDen a k ≤ 32768 ∧ hRho r k * hDen a k ≤ bNum r a k ∧ bNum a a k = hRho a k * hDen a k ∧ hNum a k * a = hSlope a k * hDen a k := by
  have e1 : clampR a = a := by unfold clampR; omega
  have e2 : clampK k = k := by unfold clampK; omega
  have e3 : sizeR a = max a (-a) := by unfold sizeR; rw [e1]
  rw [rho_in hr hk, rho_in ha hk]
  unfold hDen bNum hNum hSlope
  rw [e1, e2, e3]
  by_cases h : max a (-a) ≤ k
  · simp only [if_pos h]
    refine ⟨by omega, by omega, ?_, by omega, by omega⟩
    split
    · omega
    · have : 0 ≤ (max r (-r) - k) * (max r (-r) - k) := by
        rcases Int.le_total 0 (max r (-r) - k) with h' | h'
        · exact Int.mul_nonneg h' h'
        · omega
      have h3 : max r (-r) * max r (-r) = r * r := by
        rcases Int.le_total 0 r with h' | h'
        · rw [show max r (-r) = r by omega]
        · rw [show max r (-r) = -r by omega, Int.neg_mul_neg]
      rw [← h3]
      grind
  · simp only [if_neg h]
    have hS : k < max a (-a) := by omega
    generalize hs : max a (-a) = s at *
    have hs0 : 0 < s := by omega
    refine ⟨hs0, by omega, ?_, ?_, ?_⟩
    · split
      · rename_i h'
        -- (s - k)(k s - r r) >= 0 where |r| <= k
        have h3 : r * r ≤ k * k := by
          have : 0 ≤ (k - r) * (k + r) := Int.mul_nonneg (by omega) (by omega)
          grind
        have h4 : k * k ≤ k * s := Int.mul_le_mul_of_nonneg_left (by omega) hk.1
        have h5 : 0 ≤ (s - k) * (k * s - r * r) := Int.mul_nonneg (by omega) (by omega)
        grind
      · -- k (|r| - s)^2 >= 0
        have h3 : max r (-r) * max r (-r) = r * r := by
          rcases Int.le_total 0 r with h' | h'
          · rw [show max r (-r) = r by omega]
          · rw [show max r (-r) = -r by omega, Int.neg_mul_neg]
        generalize max r (-r) = t at *
        have h4 : 0 ≤ (t - s) * (t - s) := by
          rcases Int.le_total 0 (t - s) with h' | h'
          · exact Int.mul_nonneg h' h'
          · exact Int.mul_nonneg_of_nonpos_of_nonpos h' h'
        have h5 : 0 ≤ k * ((t - s) * (t - s)) := Int.mul_nonneg hk.1 h4
        rw [Int.mul_assoc k r r, ← h3]
        grind
    · have h3 : s * s = a * a := by
        rcases Int.le_total 0 a with h' | h'
        · rw [show s = a by omega]
        · rw [show s = -a by omega, Int.neg_mul_neg]
      rw [Int.mul_assoc k a a, ← h3]
      grind
    · rcases Int.le_total 0 a with h' | h'
      · rw [show s = a by omega, show max (-k) (min a k) = k by omega]
      · rw [show s = -a by omega, show max (-k) (min a k) = -k by omega, Int.neg_mul_neg]
theorem HuberAbove_true (r a k : Int) (hr : i64r r) (ha : i64r a) (_ : i64r k) : Ret pg n_gimballaw09_HuberAbove [.int .i64 r, .int .i64 a, .int .i64 k] (.bool true) := by
  refine gimballaw09_HuberAbove.of rfl (W_b ?_)
  unfold gimballaw09_HuberAbove.k gimballaw09_HuberAbove.res
  simp -dsimp -implicitDefEqProofs only [go_sem, reduceIte, reduceCtorEq, Nat.reduceEqDiff, Nat.reduceAdd, Nat.reduceLeDiff, Nat.reduceMul, Nat.reduceSub, Nat.reduceLT, Nat.reduceBEq, Int.reduceToNat, Int.reduceNeg, Int.reduceEq, Int.reduceLT, Int.reduceLE]
  refine callB_of awake_ret (by simp) ?_
  simp -dsimp -implicitDefEqProofs only [go_sem, reduceIte, reduceCtorEq, Nat.reduceEqDiff, Nat.reduceAdd, Nat.reduceLeDiff, Nat.reduceMul, Nat.reduceSub, Nat.reduceLT, Nat.reduceBEq, Int.reduceToNat, Int.reduceNeg, Int.reduceEq, Int.reduceLT, Int.reduceLE]
  by_cases h : r < -32768 ∨ r > 32768 ∨ a < -32768 ∨ a > 32768 ∨ k < 0 ∨ k > 32768
  · refine callB_of (bound_wide _ _ _ hr ha h) (by simp) ?_
    simp -dsimp -implicitDefEqProofs only [go_sem, reduceIte, reduceCtorEq, Nat.reduceEqDiff, Nat.reduceAdd, Nat.reduceLeDiff, Nat.reduceMul, Nat.reduceSub, Nat.reduceLT, Nat.reduceBEq, Int.reduceToNat, Int.reduceNeg, Int.reduceEq, Int.reduceLT, Int.reduceLE]
  · have hr' : -32768 ≤ r ∧ r ≤ 32768 := by omega
    have ha' : -32768 ≤ a ∧ a ≤ 32768 := by omega
    have hk' : 0 ≤ k ∧ k ≤ 32768 := by omega
    obtain ⟨f1, f0, f2, f3, f4⟩ := above_law hr' ha' hk'
    have b1 : -(4294967296) ≤ hRho r k ∧ hRho r k ≤ 4294967296 := by
      rw [rho_in hr' hk']
      have := mul_bd hr' hr'
      have := mul_bd (a := k) (b := max r (-r)) (A := 32768) (B := 32768) (by omega) (by omega)
      have := mul_bd (a := k) (b := k) (A := 32768) (B := 32768) (by omega) (by omega)
      rw [Int.mul_assoc 2 k]
      split <;> omega
    have b1' : -(4294967296) ≤ hRho a k ∧ hRho a k ≤ 4294967296 := by
      rw [rho_in ha' hk']
      have := mul_bd ha' ha'
      have := mul_bd (a := k) (b := max a (-a)) (A := 32768) (B := 32768) (by omega) (by omega)
      have := mul_bd (a := k) (b := k) (A := 32768) (B := 32768) (by omega) (by omega)
      rw [Int.mul_assoc 2 k]
      split <;> omega
    have w1 := w64 (n := hRho r k * hDen a k) (by have := mul_bd b1 (B := 32768) (b := hDen a k) (by omega); omega)
    have w2 := w64 (n := hRho a k * hDen a k) (by have := mul_bd b1' (B := 32768) (b := hDen a k) (by omega); omega)
    refine callB_of (bound_ret _ _ _ hr' ha' hk') (by simp) ?_
    simp -dsimp -implicitDefEqProofs only [go_sem, reduceIte, reduceCtorEq, Nat.reduceEqDiff, Nat.reduceAdd, Nat.reduceLeDiff, Nat.reduceMul, Nat.reduceSub, Nat.reduceLT, Nat.reduceBEq, Int.reduceToNat, Int.reduceNeg, Int.reduceEq, Int.reduceLT, Int.reduceLE]
    refine callB_of (bound_ret _ _ _ ha' ha' hk') (by simp) ?_
    simp -dsimp -implicitDefEqProofs only [go_sem, reduceIte, reduceCtorEq, Nat.reduceEqDiff, Nat.reduceAdd, Nat.reduceLeDiff, Nat.reduceMul, Nat.reduceSub, Nat.reduceLT, Nat.reduceBEq, Int.reduceToNat, Int.reduceNeg, Int.reduceEq, Int.reduceLT, Int.reduceLE]
    refine callB_of (rho_ret _ _) (by simp) ?_
    simp -dsimp -implicitDefEqProofs only [go_sem, reduceIte, reduceCtorEq, Nat.reduceEqDiff, Nat.reduceAdd, Nat.reduceLeDiff, Nat.reduceMul, Nat.reduceSub, Nat.reduceLT, Nat.reduceBEq, Int.reduceToNat, Int.reduceNeg, Int.reduceEq, Int.reduceLT, Int.reduceLE]
    refine callB_of (rho_ret _ _) (by simp) ?_
    simp -dsimp -implicitDefEqProofs only [go_sem, reduceIte, reduceCtorEq, Nat.reduceEqDiff, Nat.reduceAdd, Nat.reduceLeDiff, Nat.reduceMul, Nat.reduceSub, Nat.reduceLT, Nat.reduceBEq, Int.reduceToNat, Int.reduceNeg, Int.reduceEq, Int.reduceLT, Int.reduceLE]
    refine callB_of (weight_ret _ _) (by simp) ?_
    simp -dsimp -implicitDefEqProofs only [go_sem, reduceIte, reduceCtorEq, Nat.reduceEqDiff, Nat.reduceAdd, Nat.reduceLeDiff, Nat.reduceMul, Nat.reduceSub, Nat.reduceLT, Nat.reduceBEq, Int.reduceToNat, Int.reduceNeg, Int.reduceEq, Int.reduceLT, Int.reduceLE]
    refine callB_of (slope_ret _ _) (by simp) ?_
    simp -dsimp -implicitDefEqProofs only [go_sem, reduceIte, reduceCtorEq, Nat.reduceEqDiff, Nat.reduceAdd, Nat.reduceLeDiff, Nat.reduceMul, Nat.reduceSub, Nat.reduceLT, Nat.reduceBEq, Int.reduceToNat, Int.reduceNeg, Int.reduceEq, Int.reduceLT, Int.reduceLE, w1, w2, f1, f2, f3, f4]
end Go.Gim
