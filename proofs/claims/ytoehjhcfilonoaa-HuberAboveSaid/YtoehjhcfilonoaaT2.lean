/- The laws on costs that forgive: the document's answers, the examples, and what the laws ask. -/
import Derived.Test.YtoehjhcfilonoaaT1
set_option maxRecDepth 100000
set_option linter.unusedSimpArgs false
set_option linter.unusedVariables false
namespace Go.Gim
open Go.Proofs
theorem rcut_ret (r k : Int) : Ret pg n_gimbalref09_cut [.int .i64 r, .int .i64 k] (.tup [.int .i64 (sizeR r), .bool (decide (r < 0)), .int .i64 (clampK k)]) := by
  refine gimbalref09_cut.of rfl (W_b ?_)
  unfold gimbalref09_cut.k gimbalref09_cut.res sizeR clampR clampK
  simp -dsimp -implicitDefEqProofs only [go_sem, reduceIte, reduceCtorEq, Nat.reduceEqDiff, Nat.reduceAdd, Nat.reduceLeDiff, Nat.reduceMul, Nat.reduceSub, Nat.reduceLT, Nat.reduceBEq, Int.reduceToNat, Int.reduceNeg, Int.reduceEq, Int.reduceLT, Int.reduceLE]
  repeat' (first | (refine gsel_split (fun h' => ?_) (fun h' => ?_) <;> simp -dsimp -implicitDefEqProofs only [go_sem, reduceIte, reduceCtorEq, Nat.reduceEqDiff, Nat.reduceAdd, Nat.reduceLeDiff, Nat.reduceMul, Nat.reduceSub, Nat.reduceLT, Nat.reduceBEq, Int.reduceToNat, Int.reduceNeg, Int.reduceEq, Int.reduceLT, Int.reduceLE, h']) | (refine csel_dec (fun h' => ?_) (fun h' => ?_) <;> simp -dsimp -implicitDefEqProofs only [go_sem, reduceIte, reduceCtorEq, Nat.reduceEqDiff, Nat.reduceAdd, Nat.reduceLeDiff, Nat.reduceMul, Nat.reduceSub, Nat.reduceLT, Nat.reduceBEq, Int.reduceToNat, Int.reduceNeg, Int.reduceEq, Int.reduceLT, Int.reduceLE, h']))
  all_goals
    simp only [w64', Option.some.injEq, V.tup.injEq, List.cons.injEq, V.int.injEq, V.bool.injEq, true_and, and_true, decide_eq_true_eq, decide_eq_false_iff_not, Bool.true_eq, Bool.false_eq]
    omega
theorem rweight_ret (r k : Int) : Ret pg n_gimbalref09_Weight [.int .i64 r, .int .i64 k] (.tup [.int .i64 (hNum r k), .int .i64 (hDen r k)]) := by
  refine gimbalref09_Weight.of rfl (W_b ?_)
  unfold gimbalref09_Weight.k gimbalref09_Weight.res hNum hDen
  simp -dsimp -implicitDefEqProofs only [go_sem, reduceIte, reduceCtorEq, Nat.reduceEqDiff, Nat.reduceAdd, Nat.reduceLeDiff, Nat.reduceMul, Nat.reduceSub, Nat.reduceLT, Nat.reduceBEq, Int.reduceToNat, Int.reduceNeg, Int.reduceEq, Int.reduceLT, Int.reduceLE]
  refine callB_of (rcut_ret _ _) (by simp) ?_
  by_cases h : sizeR r ≤ clampK k <;> simp -dsimp -implicitDefEqProofs only [go_sem, reduceIte, reduceCtorEq, Nat.reduceEqDiff, Nat.reduceAdd, Nat.reduceLeDiff, Nat.reduceMul, Nat.reduceSub, Nat.reduceLT, Nat.reduceBEq, Int.reduceToNat, Int.reduceNeg, Int.reduceEq, Int.reduceLT, Int.reduceLE, h]
theorem rbound_wide (r a k : Int) (h : r < -32768 ∨ r > 32768 ∨ a < -32768 ∨ a > 32768 ∨ k < 0 ∨ k > 32768) :
    Ret pg n_gimbalref09_Bound [.int .i64 r, .int .i64 a, .int .i64 k] (.tup [.int .i64 0, .int .i64 0, .int .i64 90]) := by
  refine gimbalref09_Bound.of rfl (W_b ?_)
  unfold gimbalref09_Bound.k gimbalref09_Bound.res
  simp -dsimp -implicitDefEqProofs only [go_sem, reduceIte, reduceCtorEq, Nat.reduceEqDiff, Nat.reduceAdd, Nat.reduceLeDiff, Nat.reduceMul, Nat.reduceSub, Nat.reduceLT, Nat.reduceBEq, Int.reduceToNat, Int.reduceNeg, Int.reduceEq, Int.reduceLT, Int.reduceLE]
  repeat' (first | (refine gsel_split (fun h' => ?_) (fun h' => ?_) <;> simp -dsimp -implicitDefEqProofs only [go_sem, reduceIte, reduceCtorEq, Nat.reduceEqDiff, Nat.reduceAdd, Nat.reduceLeDiff, Nat.reduceMul, Nat.reduceSub, Nat.reduceLT, Nat.reduceBEq, Int.reduceToNat, Int.reduceNeg, Int.reduceEq, Int.reduceLT, Int.reduceLE, h']) | (refine csel_dec (fun h' => ?_) (fun h' => ?_) <;> simp -dsimp -implicitDefEqProofs only [go_sem, reduceIte, reduceCtorEq, Nat.reduceEqDiff, Nat.reduceAdd, Nat.reduceLeDiff, Nat.reduceMul, Nat.reduceSub, Nat.reduceLT, Nat.reduceBEq, Int.reduceToNat, Int.reduceNeg, Int.reduceEq, Int.reduceLT, Int.reduceLE, h']))
  exfalso
  omega
theorem rbound_in (r a k : Int) (hr : -32768 ≤ r ∧ r ≤ 32768) (ha : -32768 ≤ a ∧ a ≤ 32768) (hk : 0 ≤ k ∧ k ≤ 32768) (h : max a (-a) ≤ k) :
    Ret pg n_gimbalref09_Bound [.int .i64 r, .int .i64 a, .int .i64 k] (.tup [.int .i64 (r * r), .int .i64 1, .int .i64 0]) := by
  have e1 : clampR a = a := by unfold clampR; omega
  have e2 : clampK k = k := by unfold clampK; omega
  have e3 : sizeR a = max a (-a) := by unfold sizeR; rw [e1]
  have h1 := mul_bd hr hr
  have n1 : hNum a k = 1 := by unfold hNum; rw [e2, e3, if_pos h]
  have n2 : hDen a k = 1 := by unfold hDen; rw [e2, e3, if_pos h]
  have w1 := w64 (n := 0 - a) (by omega)
  have w2 := w64 (n := r * r) (by omega)
  refine gimbalref09_Bound.of rfl (W_b ?_)
  unfold gimbalref09_Bound.k gimbalref09_Bound.res
  simp -dsimp -implicitDefEqProofs only [go_sem, reduceIte, reduceCtorEq, Nat.reduceEqDiff, Nat.reduceAdd, Nat.reduceLeDiff, Nat.reduceMul, Nat.reduceSub, Nat.reduceLT, Nat.reduceBEq, Int.reduceToNat, Int.reduceNeg, Int.reduceEq, Int.reduceLT, Int.reduceLE, show ¬ r < -32768 by omega, show ¬ 32768 < r by omega, show ¬ a < -32768 by omega, show ¬ 32768 < a by omega, show ¬ k < 0 by omega, show ¬ 32768 < k by omega]
  refine callB_of (rweight_ret _ _) (by simp) ?_
  simp -dsimp -implicitDefEqProofs only [go_sem, reduceIte, reduceCtorEq, Nat.reduceEqDiff, Nat.reduceAdd, Nat.reduceLeDiff, Nat.reduceMul, Nat.reduceSub, Nat.reduceLT, Nat.reduceBEq, Int.reduceToNat, Int.reduceNeg, Int.reduceEq, Int.reduceLT, Int.reduceLE, n1, n2, show a ≤ k by omega, w1, show (0 : Int) - a ≤ k by omega, w2]
theorem rbound_out (r a k n : Int) (hr : -32768 ≤ r ∧ r ≤ 32768) (ha : -32768 ≤ a ∧ a ≤ 32768) (hk : 0 ≤ k ∧ k ≤ 32768) (h : k < n) (hn : n = a ∧ 0 ≤ a ∨ n = -a ∧ a < 0) :
    Ret pg n_gimbalref09_Bound [.int .i64 r, .int .i64 a, .int .i64 k] (.tup [.int .i64 (k * r * r + n * (k * n - k * k)), .int .i64 n, .int .i64 0]) := by
  have e1 : clampR a = a := by unfold clampR; omega
  have e2 : clampK k = k := by unfold clampK; omega
  have e3 : sizeR a = n := by unfold sizeR; rw [e1]; omega
  have n1 : hNum a k = k := by unfold hNum; rw [e2, e3, if_neg (by omega)]
  have n2 : hDen a k = n := by unfold hDen; rw [e2, e3, if_neg (by omega)]
  have p1 := mul_bd (a := k) (b := r) (A := 32768) (B := 32768) (by omega) hr
  have p2 := mul_bd (a := k * r) (b := r) (A := 32768 * 32768) (B := 32768) (by omega) hr
  have p3 := mul_bd (a := k) (b := n) (A := 32768) (B := 32768) (by omega) (by omega)
  have p4 := mul_bd (a := k) (b := k) (A := 32768) (B := 32768) (by omega) (by omega)
  have p5 := mul_bd (a := n) (b := k * n - k * k) (A := 32768) (B := 2147483648) (by omega) (by omega)
  have w1 := w64 (n := 0 - a) (by omega)
  have w2 := w64 (n := k * r) (by omega)
  have w3 := w64 (n := k * r * r) (by omega)
  have w4 := w64 (n := k * n) (by omega)
  have w5 := w64 (n := k * k) (by omega)
  have w6 := w64 (n := k * n - k * k) (by omega)
  have w7 := w64 (n := n * (k * n - k * k)) (by omega)
  have w8 := w64 (n := k * r * r + n * (k * n - k * k)) (by omega)
  clear p1 p2 p3 p4 p5
  refine gimbalref09_Bound.of rfl (W_b ?_)
  unfold gimbalref09_Bound.k gimbalref09_Bound.res
  simp -dsimp -implicitDefEqProofs only [go_sem, reduceIte, reduceCtorEq, Nat.reduceEqDiff, Nat.reduceAdd, Nat.reduceLeDiff, Nat.reduceMul, Nat.reduceSub, Nat.reduceLT, Nat.reduceBEq, Int.reduceToNat, Int.reduceNeg, Int.reduceEq, Int.reduceLT, Int.reduceLE, show ¬ r < -32768 by omega, show ¬ 32768 < r by omega, show ¬ a < -32768 by omega, show ¬ 32768 < a by omega, show ¬ k < 0 by omega, show ¬ 32768 < k by omega]
  refine callB_of (rweight_ret _ _) (by simp) ?_
  rw [n1, n2]
  by_cases hone : n = 1
  · have hk0 : k = 0 := by omega
    subst hone
    subst hk0
    have z : IntKind.i64.wrap 0 = 0 := by decide
    rcases hn with ⟨hn, h0⟩ | ⟨hn, h0⟩
    · subst hn
      simp -dsimp -implicitDefEqProofs only [go_sem, reduceIte, reduceCtorEq, Nat.reduceEqDiff, Nat.reduceAdd, Nat.reduceLeDiff, Nat.reduceMul, Nat.reduceSub, Nat.reduceLT, Nat.reduceBEq, Int.reduceToNat, Int.reduceNeg, Int.reduceEq, Int.reduceLT, Int.reduceLE, z, Int.zero_mul, Int.mul_zero, Int.one_mul, Int.add_zero, Int.sub_self]
    · have ha1 : a = -1 := by omega
      subst ha1
      simp -dsimp -implicitDefEqProofs only [go_sem, reduceIte, reduceCtorEq, Nat.reduceEqDiff, Nat.reduceAdd, Nat.reduceLeDiff, Nat.reduceMul, Nat.reduceSub, Nat.reduceLT, Nat.reduceBEq, Int.reduceToNat, Int.reduceNeg, Int.reduceEq, Int.reduceLT, Int.reduceLE, z, show IntKind.i64.wrap (0 - -1) = 1 by decide, Int.zero_mul, Int.mul_zero, Int.one_mul, Int.add_zero, Int.sub_self]
  rcases hn with ⟨hn, h0⟩ | ⟨hn, h0⟩
  · subst hn
    simp -dsimp -implicitDefEqProofs only [go_sem, reduceIte, reduceCtorEq, Nat.reduceEqDiff, Nat.reduceAdd, Nat.reduceLeDiff, Nat.reduceMul, Nat.reduceSub, Nat.reduceLT, Nat.reduceBEq, Int.reduceToNat, Int.reduceNeg, Int.reduceEq, Int.reduceLT, Int.reduceLE, hone, show ¬ n < 0 by omega, w2, w3, w4, w5, w6, w7, w8]
  · have hn' : (0 : Int) - a = n := by omega
    have w0 : IntKind.i64.wrap n = n := by rw [← hn', w1]
    simp -dsimp -implicitDefEqProofs only [go_sem, reduceIte, reduceCtorEq, Nat.reduceEqDiff, Nat.reduceAdd, Nat.reduceLeDiff, Nat.reduceMul, Nat.reduceSub, Nat.reduceLT, Nat.reduceBEq, Int.reduceToNat, Int.reduceNeg, Int.reduceEq, Int.reduceLT, Int.reduceLE, hone, h0, w0, hn', w2, w3, w4, w5, w6, w7, w8]
theorem rbound_ret (r a k : Int) (hr : -32768 ≤ r ∧ r ≤ 32768) (ha : -32768 ≤ a ∧ a ≤ 32768) (hk : 0 ≤ k ∧ k ≤ 32768) :
    Ret pg n_gimbalref09_Bound [.int .i64 r, .int .i64 a, .int .i64 k] (.tup [.int .i64 (bNum r a k), .int .i64 (hDen a k), .int .i64 0]) := by
  have e1 : clampR a = a := by unfold clampR; omega
  have e2 : clampK k = k := by unfold clampK; omega
  have e3 : sizeR a = max a (-a) := by unfold sizeR; rw [e1]
  unfold bNum hDen
  rw [e2, e3]
  by_cases h : max a (-a) ≤ k
  · rw [if_pos h, if_pos h]; exact rbound_in r a k hr ha hk h
  · rw [if_neg h, if_neg h]; exact rbound_out r a k _ hr ha hk (by omega) (by omega)
end Go.Gim
