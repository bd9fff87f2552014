/- The laws on costs that forgive: the document's answers, the examples, and what the laws ask. -/
import Derived.Test.YtoehjhcfilonoaaT5
set_option maxRecDepth 100000
set_option linter.unusedSimpArgs false
set_option linter.unusedVariables false
namespace Go.Gim
open Go.Proofs
theorem HuberBends_true (r s k : Int) (hr : i64r r) (hs : i64r s) (hk : i64r k) : Ret pg n_gimballaw09_HuberBends [.int .i64 r, .int .i64 s, .int .i64 k] (.bool true) := by
  refine gimballaw09_HuberBends.of rfl (W_b ?_)
  unfold gimballaw09_HuberBends.k gimballaw09_HuberBends.res
  simp -dsimp -implicitDefEqProofs only [go_sem, reduceIte, reduceCtorEq, Nat.reduceEqDiff, Nat.reduceAdd, Nat.reduceLeDiff, Nat.reduceMul, Nat.reduceSub, Nat.reduceLT, Nat.reduceBEq, Int.reduceToNat, Int.reduceNeg, Int.reduceEq, Int.reduceLT, Int.reduceLE]
  refine callB_of awake_ret (by simp) ?_
  simp -dsimp -implicitDefEqProofs only [go_sem, reduceIte, reduceCtorEq, Nat.reduceEqDiff, Nat.reduceAdd, Nat.reduceLeDiff, Nat.reduceMul, Nat.reduceSub, Nat.reduceLT, Nat.reduceBEq, Int.reduceToNat, Int.reduceNeg, Int.reduceEq, Int.reduceLT, Int.reduceLE]
  by_cases h : -1000000 ≤ r ∧ r ≤ 1000000 ∧ -1000000 ≤ s ∧ s ≤ 1000000 ∧ 0 ≤ k ∧ k ≤ 1000000
  · have w1 := w64 (n := r - s) (by omega)
    have w2 := w64 (n := r + s) (by omega)
    simp -dsimp -implicitDefEqProofs only [go_sem, reduceIte, reduceCtorEq, Nat.reduceEqDiff, Nat.reduceAdd, Nat.reduceLeDiff, Nat.reduceMul, Nat.reduceSub, Nat.reduceLT, Nat.reduceBEq, Int.reduceToNat, Int.reduceNeg, Int.reduceEq, Int.reduceLT, Int.reduceLE, show ¬ r < -1000000 by omega, show ¬ 1000000 < r by omega, show ¬ s < -1000000 by omega, show ¬ 1000000 < s by omega, show ¬ k < 0 by omega, show ¬ 1000000 < k by omega, w1, w2]
    by_cases hp : (r - s).tmod 2 = 0
    · obtain ⟨q, hq⟩ := Int.dvd_of_tmod_eq_zero hp
      have hm : (r + s).tdiv 2 = s + q := by
        rw [show r + s = 2 * (s + q) by omega]
        exact Int.mul_tdiv_cancel_left _ (by omega)
      have w0 := w64 (n := s + q) (by omega)
      have e1 := rho_line (r := r) (s := s) (k := k) (by omega) (by omega) (by omega)
      have e2 := rho_line (r := r) (s := s + q) (k := k) (by omega) (by omega) (by omega)
      have e3 := rho_line (r := s) (s := s + q) (k := k) (by omega) (by omega) (by omega)
      have e4 : 2 * hRho (s + q) k ≤ hRho r k + hRho s k := by
        have e5 : r - (s + q) = -(s - (s + q)) := by omega
        rw [e5, Int.mul_neg] at e2
        omega
      obtain ⟨g1, g2⟩ := rho_bd (r := r) (k := k) (by omega) (by omega)
      obtain ⟨g3, g4⟩ := rho_bd (r := s) (k := k) (by omega) (by omega)
      obtain ⟨g5, g6⟩ := rho_bd (r := s + q) (k := k) (by omega) (by omega)
      have g7 := mul_bd (a := r) (b := r) (A := 1000000) (B := 1000000) (by omega) (by omega)
      have g8 := mul_bd (a := s) (b := s) (A := 1000000) (B := 1000000) (by omega) (by omega)
      have g9 := mul_bd (a := s + q) (b := s + q) (A := 1000000) (B := 1000000) (by omega) (by omega)
      have b5 : -1000000 ≤ hSlope s k ∧ hSlope s k ≤ 1000000 := by rw [slope_in (by omega) (by omega)]; omega
      have b6 := mul_bd (a := 2 * hSlope s k) (b := r - s) (A := 2000000) (B := 2000000) (by omega) (by omega)
      have w3 := w64 (n := 2 * hSlope s k) (by omega)
      have w4 := w64 (n := 2 * hSlope s k * (r - s)) (by omega)
      have w5 := w64 (n := hRho s k + 2 * hSlope s k * (r - s)) (by omega)
      have w6 := w64 (n := 2 * hRho (s + q) k) (by omega)
      have w7 := w64 (n := hRho r k + hRho s k) (by omega)
      simp -dsimp -implicitDefEqProofs only [go_sem, reduceIte, reduceCtorEq, Nat.reduceEqDiff, Nat.reduceAdd, Nat.reduceLeDiff, Nat.reduceMul, Nat.reduceSub, Nat.reduceLT, Nat.reduceBEq, Int.reduceToNat, Int.reduceNeg, Int.reduceEq, Int.reduceLT, Int.reduceLE, hp, hm, w0]
      refine callB_of (rho_ret _ _) (by simp) ?_
      simp -dsimp -implicitDefEqProofs only [go_sem, reduceIte, reduceCtorEq, Nat.reduceEqDiff, Nat.reduceAdd, Nat.reduceLeDiff, Nat.reduceMul, Nat.reduceSub, Nat.reduceLT, Nat.reduceBEq, Int.reduceToNat, Int.reduceNeg, Int.reduceEq, Int.reduceLT, Int.reduceLE]
      refine callB_of (rho_ret _ _) (by simp) ?_
      simp -dsimp -implicitDefEqProofs only [go_sem, reduceIte, reduceCtorEq, Nat.reduceEqDiff, Nat.reduceAdd, Nat.reduceLeDiff, Nat.reduceMul, Nat.reduceSub, Nat.reduceLT, Nat.reduceBEq, Int.reduceToNat, Int.reduceNeg, Int.reduceEq, Int.reduceLT, Int.reduceLE]
      refine callB_of (rho_ret _ _) (by simp) ?_
      simp -dsimp -implicitDefEqProofs only [go_sem, reduceIte, reduceCtorEq, Nat.reduceEqDiff, Nat.reduceAdd, Nat.reduceLeDiff, Nat.reduceMul, Nat.reduceSub, Nat.reduceLT, Nat.reduceBEq, Int.reduceToNat, Int.reduceNeg, Int.reduceEq, Int.reduceLT, Int.reduceLE]
      refine callB_of (rho_ret _ _) (by simp) ?_
      simp -dsimp -implicitDefEqProofs only [go_sem, reduceIte, reduceCtorEq, Nat.reduceEqDiff, Nat.reduceAdd, Nat.reduceLeDiff, Nat.reduceMul, Nat.reduceSub, Nat.reduceLT, Nat.reduceBEq, Int.reduceToNat, Int.reduceNeg, Int.reduceEq, Int.reduceLT, Int.reduceLE]
      refine callB_of (slope_ret _ _) (by simp) ?_
      simp -dsimp -implicitDefEqProofs only [go_sem, reduceIte, reduceCtorEq, Nat.reduceEqDiff, Nat.reduceAdd, Nat.reduceLeDiff, Nat.reduceMul, Nat.reduceSub, Nat.reduceLT, Nat.reduceBEq, Int.reduceToNat, Int.reduceNeg, Int.reduceEq, Int.reduceLT, Int.reduceLE, w1, w3, w4, w5, w6, w7, e4, e1, hm, w0, w2]
    · simp -dsimp -implicitDefEqProofs only [go_sem, reduceIte, reduceCtorEq, Nat.reduceEqDiff, Nat.reduceAdd, Nat.reduceLeDiff, Nat.reduceMul, Nat.reduceSub, Nat.reduceLT, Nat.reduceBEq, Int.reduceToNat, Int.reduceNeg, Int.reduceEq, Int.reduceLT, Int.reduceLE, hp]
  · repeat' (first | (refine gsel_split (fun h' => ?_) (fun h' => ?_) <;> simp -dsimp -implicitDefEqProofs only [go_sem, reduceIte, reduceCtorEq, Nat.reduceEqDiff, Nat.reduceAdd, Nat.reduceLeDiff, Nat.reduceMul, Nat.reduceSub, Nat.reduceLT, Nat.reduceBEq, Int.reduceToNat, Int.reduceNeg, Int.reduceEq, Int.reduceLT, Int.reduceLE, h']) | (refine csel_dec (fun h' => ?_) (fun h' => ?_) <;> simp -dsimp -implicitDefEqProofs only [go_sem, reduceIte, reduceCtorEq, Nat.reduceEqDiff, Nat.reduceAdd, Nat.reduceLeDiff, Nat.reduceMul, Nat.reduceSub, Nat.reduceLT, Nat.reduceBEq, Int.reduceToNat, Int.reduceNeg, Int.reduceEq, Int.reduceLT, Int.reduceLE, h']))
    all_goals (exfalso; omega)
end Go.Gim
