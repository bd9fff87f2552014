/- The laws on costs that forgive: the document's answers, the examples, and what the laws ask. -/
import Derived.Test.YtoehjhcfilonoaaT2
set_option maxRecDepth 100000
set_option linter.unusedSimpArgs false
set_option linter.unusedVariables false
namespace Go.Gim
open Go.Proofs
theorem awake_ret : Ret pg n_gimballaw09_awake [] (.bool true) := by
  have e1 : hRho 3 5 = 9 := by decide
  have e2 : hRho (-7) 5 = 45 := by decide
  have e3 : hRho 7 0 = 0 := by decide
  have e4 : hSlope 3 5 = 3 := by decide
  have e5 : hSlope (-7) 5 = -5 := by decide
  have e6 : hNum (-7) 5 = 5 := by decide
  have e7 : hDen (-7) 5 = 7 := by decide
  have e8 : bNum 2 7 5 = 90 := by decide
  have e9 : hDen 7 5 = 7 := by decide
  refine gimballaw09_awake.of rfl (W_b ?_)
  unfold gimballaw09_awake.k gimballaw09_awake.res
  simp -dsimp -implicitDefEqProofs only [go_sem, reduceIte, reduceCtorEq, Nat.reduceEqDiff, Nat.reduceAdd, Nat.reduceLeDiff, Nat.reduceMul, Nat.reduceSub, Nat.reduceLT, Nat.reduceBEq, Int.reduceToNat, Int.reduceNeg, Int.reduceEq, Int.reduceLT, Int.reduceLE]
  repeat (first
    | (refine callB_of (rho_ret _ _) (by simp) ?_; simp -dsimp -implicitDefEqProofs only [go_sem, reduceIte, reduceCtorEq, Nat.reduceEqDiff, Nat.reduceAdd, Nat.reduceLeDiff, Nat.reduceMul, Nat.reduceSub, Nat.reduceLT, Nat.reduceBEq, Int.reduceToNat, Int.reduceNeg, Int.reduceEq, Int.reduceLT, Int.reduceLE, e1, e2, e3])
    | (refine callB_of (slope_ret _ _) (by simp) ?_; simp -dsimp -implicitDefEqProofs only [go_sem, reduceIte, reduceCtorEq, Nat.reduceEqDiff, Nat.reduceAdd, Nat.reduceLeDiff, Nat.reduceMul, Nat.reduceSub, Nat.reduceLT, Nat.reduceBEq, Int.reduceToNat, Int.reduceNeg, Int.reduceEq, Int.reduceLT, Int.reduceLE, e4, e5])
    | (refine callB_of (weight_ret _ _) (by simp) ?_; simp -dsimp -implicitDefEqProofs only [go_sem, reduceIte, reduceCtorEq, Nat.reduceEqDiff, Nat.reduceAdd, Nat.reduceLeDiff, Nat.reduceMul, Nat.reduceSub, Nat.reduceLT, Nat.reduceBEq, Int.reduceToNat, Int.reduceNeg, Int.reduceEq, Int.reduceLT, Int.reduceLE, e6, e7])
    | (refine callB_of (bound_ret _ _ _ (by omega) (by omega) (by omega)) (by simp) ?_; simp -dsimp -implicitDefEqProofs only [go_sem, reduceIte, reduceCtorEq, Nat.reduceEqDiff, Nat.reduceAdd, Nat.reduceLeDiff, Nat.reduceMul, Nat.reduceSub, Nat.reduceLT, Nat.reduceBEq, Int.reduceToNat, Int.reduceNeg, Int.reduceEq, Int.reduceLT, Int.reduceLE, e8, e9]))
abbrev i64r (n : Int) : Prop := -9223372036854775808 ≤ n ∧ n ≤ 9223372036854775807
theorem HuberBounds_true (r a k : Int) (hr : i64r r) (ha : i64r a) (_ : i64r k) : Ret pg n_gimballaw09_HuberBounds [.int .i64 r, .int .i64 a, .int .i64 k] (.bool true) := by
  refine gimballaw09_HuberBounds.of rfl (W_b ?_)
  unfold gimballaw09_HuberBounds.k gimballaw09_HuberBounds.res
  simp -dsimp -implicitDefEqProofs only [go_sem, reduceIte, reduceCtorEq, Nat.reduceEqDiff, Nat.reduceAdd, Nat.reduceLeDiff, Nat.reduceMul, Nat.reduceSub, Nat.reduceLT, Nat.reduceBEq, Int.reduceToNat, Int.reduceNeg, Int.reduceEq, Int.reduceLT, Int.reduceLE]
  refine callB_of awake_ret (by simp) ?_
  simp -dsimp -implicitDefEqProofs only [go_sem, reduceIte, reduceCtorEq, Nat.reduceEqDiff, Nat.reduceAdd, Nat.reduceLeDiff, Nat.reduceMul, Nat.reduceSub, Nat.reduceLT, Nat.reduceBEq, Int.reduceToNat, Int.reduceNeg, Int.reduceEq, Int.reduceLT, Int.reduceLE]
  by_cases h : r < -32768 ∨ r > 32768 ∨ a < -32768 ∨ a > 32768 ∨ k < 0 ∨ k > 32768
  · refine callB_of (bound_wide _ _ _ hr ha h) (by simp) ?_
    simp -dsimp -implicitDefEqProofs only [go_sem, reduceIte, reduceCtorEq, Nat.reduceEqDiff, Nat.reduceAdd, Nat.reduceLeDiff, Nat.reduceMul, Nat.reduceSub, Nat.reduceLT, Nat.reduceBEq, Int.reduceToNat, Int.reduceNeg, Int.reduceEq, Int.reduceLT, Int.reduceLE]
    refine callB_of (rbound_wide _ _ _ h) (by simp) ?_
    simp -dsimp -implicitDefEqProofs only [go_sem, reduceIte, reduceCtorEq, Nat.reduceEqDiff, Nat.reduceAdd, Nat.reduceLeDiff, Nat.reduceMul, Nat.reduceSub, Nat.reduceLT, Nat.reduceBEq, Int.reduceToNat, Int.reduceNeg, Int.reduceEq, Int.reduceLT, Int.reduceLE]
  · refine callB_of (bound_ret _ _ _ (by omega) (by omega) (by omega)) (by simp) ?_
    simp -dsimp -implicitDefEqProofs only [go_sem, reduceIte, reduceCtorEq, Nat.reduceEqDiff, Nat.reduceAdd, Nat.reduceLeDiff, Nat.reduceMul, Nat.reduceSub, Nat.reduceLT, Nat.reduceBEq, Int.reduceToNat, Int.reduceNeg, Int.reduceEq, Int.reduceLT, Int.reduceLE]
    refine callB_of (rbound_ret _ _ _ (by omega) (by omega) (by omega)) (by simp) ?_
    simp -dsimp -implicitDefEqProofs only [go_sem, reduceIte, reduceCtorEq, Nat.reduceEqDiff, Nat.reduceAdd, Nat.reduceLeDiff, Nat.reduceMul, Nat.reduceSub, Nat.reduceLT, Nat.reduceBEq, Int.reduceToNat, Int.reduceNeg, Int.reduceEq, Int.reduceLT, Int.reduceLE]
end Go.Gim
