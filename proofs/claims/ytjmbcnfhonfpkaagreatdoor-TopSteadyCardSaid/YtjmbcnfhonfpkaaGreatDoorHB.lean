import Derived.Test.YtjmbcnfhonfpkaaGreatDoorGB
import Derived.Test.YtjmbcnfhonfpkaaGreatDoorL1
import Derived.IntWalk
/- The costs that forgive, as numbers. -/
set_option maxRecDepth 100000
set_option linter.unusedSimpArgs false
set_option linter.unusedVariables false
namespace Go.Gim
open Go.Proofs
def zgf (r : Int) : Int := max (-2147483647) (min r 2147483647)
def zed (k : Int) : Int := max 0 (min k 2147483647)
def sizeR (r : Int) : Int := max (zgf r) (-zgf r)
def hRho (r k : Int) : Int := if sizeR r ≤ zed k then zgf r * zgf r else 2 * zed k * sizeR r - zed k * zed k
def hSlope (r k : Int) : Int := if sizeR r ≤ zed k then zgf r else max (-zed k) (min (zgf r) (zed k))
theorem w64 {n : Int} (h : -9223372036854775808 ≤ n ∧ n ≤ 9223372036854775807) : IntKind.i64.wrap n = n := IntWalk.i64_in n h
theorem mul_bd {a b A B : Int} (ha : -A ≤ a ∧ a ≤ A) (hb : -B ≤ b ∧ b ≤ B) : -(A * B) ≤ a * b ∧ a * b ≤ A * B := by
 have h1 : (a * b).natAbs ≤ A.natAbs * B.natAbs := by
  rw [Int.natAbs_mul]
  exact Nat.mul_le_mul (by omega) (by omega)
 have h2 : A * B = ((A.natAbs * B.natAbs : Nat) : Int) := by
  rw [Int.natCast_mul, Int.natAbs_of_nonneg (by omega), Int.natAbs_of_nonneg (by omega)]
 omega
theorem clampR_bd (r : Int) : -2147483647 ≤ zgf r ∧ zgf r ≤ 2147483647 := by unfold zgf; omega
theorem clampK_bd (k : Int) : 0 ≤ zed k ∧ zed k ≤ 2147483647 := by unfold zed; omega
theorem sizeR_bd (r : Int) : 0 ≤ sizeR r ∧ sizeR r ≤ 2147483647 ∧ -sizeR r ≤ zgf r ∧ zgf r ≤ sizeR r := by have := clampR_bd r; unfold sizeR; omega
theorem cut_ret (r k : Int) : Ret pg n_huber_cut [.int .i64 r, .int .i64 k] (.tup [.int .i64 (zgf r), .int .i64 (sizeR r), .int .i64 (zed k)]) := by
 refine huber_cut.of rfl (W_b ?_)
 unfold huber_cut.k huber_cut.res Ot kp Om Oc ci
 simp -dsimp -implicitDefEqProofs only [go_sem]
 rw [w64 (by omega)]
 unfold sizeR zgf zed
 simp
theorem of_in (r k : Int) (h : r ≤ k) : Ret pg zih [.int .i64 r, .int .i64 k] (.agg [.fn zhk [], .fn zhj []]) := by
 refine huber_of.of rfl (W_b ?_)
 unfold huber_of.k huber_of.res Ot kp Oy Om
 simp -dsimp -implicitDefEqProofs only [go_sem, h]
theorem of_out (r k : Int) (h : ¬ r ≤ k) : Ret pg zih [.int .i64 r, .int .i64 k] (.agg [.fn zhi [], .fn zhh []]) := by
 refine huber_of.of rfl (W_b ?_)
 unfold huber_of.k huber_of.res Ot kp Oy Om
 simp -dsimp -implicitDefEqProofs only [go_sem, h]
theorem of1_ret (r k : Int) (h : -2147483647 ≤ r ∧ r ≤ 2147483647) : Ret pg zhk [.int .i64 r, .int .i64 k] (.int .i64 (r * r)) := by
 refine huber_of_1.of rfl (W_b ?_)
 unfold huber_of_1.k huber_of_1.res Ot kp Om Oc
 simp -dsimp -implicitDefEqProofs only [go_sem]
 rw [w64 (by have := mul_bd h h; omega)]
theorem of2_ret (r k : Int) : Ret pg zhj [.int .i64 r, .int .i64 k] (.int .i64 r) := by
 refine huber_of_2.of rfl (W_b ?_)
 unfold huber_of_2.k huber_of_2.res kp Om Oc
 simp -dsimp -implicitDefEqProofs only [go_sem]
theorem of3_ret (r k : Int) (h : -2147483647 ≤ r ∧ r ≤ 2147483647) (hk : 0 ≤ k ∧ k ≤ 2147483647) : Ret pg zhi [.int .i64 r, .int .i64 k] (.int .i64 (2 * k * max r (-r) - k * k)) := by
 refine huber_of_3.of rfl (W_b ?_)
 unfold huber_of_3.k huber_of_3.res Ot kp Om Oc ci
 simp -dsimp -implicitDefEqProofs only [go_sem]
 have h1 := mul_bd (a := 2 * k) (b := max r (-r)) (A := 4294967294) (B := 2147483647) (by omega) (by omega)
 have h2 := mul_bd (a := k) (b := k) (A := 2147483647) (B := 2147483647) (by omega) (by omega)
 have h3 : 0 ≤ 2 * k * max r (-r) := Int.mul_nonneg (by omega) (by omega)
 have h4 : 0 ≤ k * k := Int.mul_nonneg (by omega) (by omega)
 rw [w64 (n := 0 - r) (by omega), w64 (n := 2 * k) (by omega), show (0 : Int) - r = -r by omega, w64 (n := 2 * k * max r (-r)) (by omega), w64 (n := k * k) (by omega), w64 (by omega)]
theorem of4_ret (r k : Int) (hk : 0 ≤ k ∧ k ≤ 2147483647) : Ret pg zhh [.int .i64 r, .int .i64 k] (.int .i64 (max (-k) (min r k))) := by
 refine huber_of_4.of rfl (W_b ?_)
 unfold huber_of_4.k huber_of_4.res Ot kp Om Oc
 simp -dsimp -implicitDefEqProofs only [go_sem]
 rw [w64 (by omega), show (0 : Int) - k = -k by omega]
theorem rho_ret (r k : Int) : Ret pg n_huber_Rho [.int .i64 r, .int .i64 k] (.int .i64 (hRho r k)) := by
 have h1 := clampR_bd r
 have h2 := clampK_bd k
 have h3 := sizeR_bd r
 refine huber_Rho.of rfl (W_b ?_)
 unfold huber_Rho.k huber_Rho.res Ot kp Om Oc hRho
 simp -dsimp -implicitDefEqProofs only [go_sem]
 refine zab (cut_ret _ _) (by simp) ?_
 simp -dsimp -implicitDefEqProofs only [go_sem]
 by_cases h : sizeR r ≤ zed k
 ·refine zab (of_in _ _ h) (by simp) ?_
  simp -dsimp -implicitDefEqProofs only [go_sem]
  refine zda (of1_ret _ _ h1) (by simp) ?_
  simp -dsimp -implicitDefEqProofs only [go_sem, h]
 ·refine zab (of_out _ _ h) (by simp) ?_
  simp -dsimp -implicitDefEqProofs only [go_sem]
  refine zda (of3_ret _ _ h1 h2) (by simp) ?_
  simp -dsimp -implicitDefEqProofs only [go_sem, h]
  rfl
theorem slope_ret (r k : Int) : Ret pg n_huber_Slope [.int .i64 r, .int .i64 k] (.int .i64 (hSlope r k)) := by
 have h1 := clampR_bd r
 have h2 := clampK_bd k
 refine huber_Slope.of rfl (W_b ?_)
 unfold huber_Slope.k huber_Slope.res Ot kp Om Oc hSlope
 simp -dsimp -implicitDefEqProofs only [go_sem]
 refine zab (cut_ret _ _) (by simp) ?_
 simp -dsimp -implicitDefEqProofs only [go_sem]
 by_cases h : sizeR r ≤ zed k
 ·refine zab (of_in _ _ h) (by simp) ?_
  simp -dsimp -implicitDefEqProofs only [go_sem]
  refine zda (of2_ret _ _) (by simp) ?_
  simp -dsimp -implicitDefEqProofs only [go_sem, h]
 ·refine zab (of_out _ _ h) (by simp) ?_
  simp -dsimp -implicitDefEqProofs only [go_sem]
  refine zda (of4_ret _ _ h2) (by simp) ?_
  simp -dsimp -implicitDefEqProofs only [go_sem, h]
end Go.Gim
