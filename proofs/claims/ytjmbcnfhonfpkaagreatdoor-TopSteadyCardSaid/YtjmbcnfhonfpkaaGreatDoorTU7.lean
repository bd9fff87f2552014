import Derived.Test.YtjmbcnfhonfpkaaGreatDoorTS6
import Derived.Test.YtjmbcnfhonfpkaaGreatDoorTU1
import Derived.Test.YtjmbcnfhonfpkaaGreatDoorGC
import Derived.Test.YtjmbcnfhonfpkaaGreatDoorSW1
import Derived.Test.YtjmbcnfhonfpkaaGreatDoorCD3
import Derived.Test.YtjmbcnfhonfpkaaGreatDoorCK1
set_option linter.unusedSimpArgs false
set_option linter.unusedVariables false
/- Quotients of spans, runs of samples: the program's own. -/
set_option maxRecDepth 100000
set_option maxHeartbeats 2000000
namespace Go.Gim
open Go.Proofs
theorem fdiv_un {a b q : Int} (hb : 0 < b) (h1 : b * q ≤ a) (h2 : a < b * q + b) : a.fdiv b = q := by
 rw [Int.fdiv_eq_ediv_of_nonneg _ (by omega)]
 exact ((Int.ediv_emod_unique hb).2 ⟨show (a - b * q) + b * q = a by omega, by omega, by omega⟩).1
theorem floor_pos {a b : Int} (hb : 0 < b) : a.fdiv b = if a.tmod b ≠ 0 ∧ a < 0 then a.tdiv b - 1 else a.tdiv b := by
 have e := Int.mul_tdiv_add_tmod a b
 by_cases ha : 0 ≤ a
 ·have h1 := Int.tmod_nonneg b ha
  have h2 := Int.tmod_lt_of_pos a hb
  rw [if_neg (by omega)]
  exact fdiv_un hb (by omega) (by omega)
 ·have h1 : a.tmod b ≤ 0 := by
   have := Int.tmod_nonneg b (show 0 ≤ -a by omega)
   rw [Int.neg_tmod] at this
   omega
  have h2 : -b < a.tmod b := by
   have := Int.tmod_lt_of_pos (-a) hb
   rw [Int.neg_tmod] at this
   omega
  by_cases h0 : a.tmod b = 0
  ·rw [if_neg (by omega)]
   exact fdiv_un hb (by omega) (by omega)
  ·rw [if_pos ⟨h0, by omega⟩]
   refine fdiv_un hb ?_ ?_ <;> (rw [Int.mul_sub]; omega)
theorem floor_any {a b : Int} (hb : b ≠ 0) : a.fdiv b = if a.tmod b ≠ 0 ∧ (decide (a < 0) ≠ decide (b < 0)) then a.tdiv b - 1 else a.tdiv b := by
 rcases Int.lt_or_gt_of_ne hb with h | h
 ·have e1 : (-a).fdiv (-b) = a.fdiv b := Int.neg_fdiv_neg a b
  have e2 : (-a).tdiv (-b) = a.tdiv b := by rw [Int.neg_tdiv, Int.tdiv_neg, Int.neg_neg]
  have e3 : (-a).tmod (-b) = -(a.tmod b) := by rw [Int.neg_tmod, Int.tmod_neg]
  have f := floor_pos (a := -a) (b := -b) (by omega)
  rw [e1, e2, e3] at f
  rw [f]
  by_cases h0 : a.tmod b = 0
  ·rw [if_neg (by omega), if_neg (by simp [h0])]
  ·by_cases h1 : a < 0
   ·rw [if_neg (by omega), if_neg (by simp [h, h1])]
   ·by_cases h2 : a = 0
    ·subst h2; simp at h0
    ·rw [if_pos (by omega), if_pos ⟨h0, by simp [h, h1]⟩]
 ·rw [floor_pos h]
  by_cases h1 : a < 0
  ·have : ¬ b < 0 := by omega
   simp [h1, this]
  ·have : ¬ b < 0 := by omega
   simp [h1, this]
theorem zge (a b : Int) (hb : b ≠ 0) (ha : -4611686014132420609 ≤ a ∧ a ≤ 4611686014132420609) (hb2 : -2147483647 ≤ b ∧ b ≤ 2147483647) : Ret pg zci [.int .i64 a, .int .i64 b] (.int .i64 (a.fdiv b)) := by
 have hq : binV .quo (.int .i64 a) (.int .i64 b) = some (.int .i64 (a.tdiv b)) := by
  rw [binV_quo, if_neg hb]
  congr 2
  refine IntWalk.i64_in _ ?_
  have := Int.natAbs_tdiv_le_natAbs a b
  omega
 have hr : binV .rem (.int .i64 a) (.int .i64 b) = some (.int .i64 (a.tmod b)) := by rw [binV_rem, if_neg hb]
 have hw : IntKind.i64.wrap (a.tdiv b - 1) = a.tdiv b - 1 := by
  refine IntWalk.i64_in _ ?_
  have := Int.natAbs_tdiv_le_natAbs a b
  omega
 rw [floor_any hb]
 refine span_floor.of rfl (W_b ?_)
 unfold span_floor.k span_floor.res Ot kp Oh Om Oc ci
 by_cases h0 : a.tmod b = 0
 ·rw [if_neg (by simp [h0])]
  simp -dsimp -implicitDefEqProofs (disch := try exact zdE) only [go_sem, hq, hr, h0]
  done
 ·by_cases h1 : a < 0
  ·by_cases h2 : b < 0
   ·rw [if_neg (by simp [h1, h2])]
    simp -dsimp -implicitDefEqProofs (disch := try exact zdE) only [go_sem, hq, hr, h0, h1, h2]
    done
   ·rw [if_pos ⟨h0, by simp [h1, h2]⟩]
    simp -dsimp -implicitDefEqProofs (disch := try exact zdE) only [go_sem, hq, hr, h0, h1, h2, hw]
    done
  ·by_cases h2 : b < 0
   ·rw [if_pos ⟨h0, by simp [h1, h2]⟩]
    simp -dsimp -implicitDefEqProofs (disch := try exact zdE) only [go_sem, hq, hr, h0, h1, h2, hw]
    done
   ·rw [if_neg (by simp [h1, h2])]
    simp -dsimp -implicitDefEqProofs (disch := try exact zdE) only [go_sem, hq, hr, h0, h1, h2]
    done
theorem fdiv_abs (a b : Int) : (a.fdiv b).natAbs ≤ a.natAbs := by
 match a, b with
 | 0, _ => simp
 | .ofNat (m + 1), .ofNat n => exact Nat.div_le_self _ _
 | .ofNat (m + 1), .negSucc n =>
  show m / (n + 1) + 1 ≤ m + 1
  have := Nat.div_le_self m (n + 1)
  omega
 | .negSucc m, 0 => simp
 | .negSucc m, .ofNat (n + 1) =>
  show m / (n + 1) + 1 ≤ m + 1
  have := Nat.div_le_self m (n + 1)
  omega
 | .negSucc m, .negSucc n =>
  show (m + 1) / (n + 1) ≤ m + 1
  exact Nat.div_le_self _ _
end Go.Gim
/- Quotients of spans, sums and products of vectors and turns: the program's own. -/
set_option maxRecDepth 100000
set_option maxHeartbeats 2000000
namespace Go.Gim
open Go.Proofs
theorem div1_ret (x y : Sp) (hx : OkS x) (hy : OkS y) (ha : x.all = false) (hb : y.all = false) : Ret pg zdf [SpV x, SpV y] (SpV (divS' x y)) := by
 have b1 := bd_ok hx ha
 have b2 := bd_ok hy hb
 have bl := hy.lt hb
 have c0 := has_ret y 0
 refine span_Span_Div_1.of rfl (W_b ?_)
 unfold span_Span_Div_1.k span_Span_Div_1.res Ot kp kd Oy Om Ol OL Oq ci
 unfold divS'
 by_cases h0 : hasS y 0 = true
 ·rw [if_pos h0]
  rw [h0] at c0
  refine sgo ?_
  first | refine zab (c0) (by simp) ?_ | refine zaa (c0) (by simp) ?_
  refine sgo ?_
  first | refine zab (zau) (by simp) ?_ | refine zaa (zau) (by simp) ?_
  exact sgo trivial
  done
 ·rw [if_neg h0]
  have h0' : hasS y 0 = false := by simpa using h0
  rw [h0'] at c0
  have hnz : y.lo ≠ 0 ∧ y.hi ≠ 0 := by
   have : ¬ (y.lo ≤ 0 ∧ 0 ≤ y.hi) := fun e => h0 ((has_iff hy 0).2 (.inr e))
   omega
  have e1 : IntKind.i64.wrap (x.lo * 1048576) = x.lo * 1048576 := IntWalk.i64_in _ (by omega)
  have e2 : IntKind.i64.wrap (x.hi * 1048576) = x.hi * 1048576 := IntWalk.i64_in _ (by omega)
  have e3 : IntKind.i64.wrap (-x.lo) = -x.lo := IntWalk.i64_in _ (by omega)
  have e4 : IntKind.i64.wrap (-x.hi) = -x.hi := IntWalk.i64_in _ (by omega)
  have z1 : (0 : Int) - x.lo = -x.lo := by omega
  have z2 : (0 : Int) - x.hi = -x.hi := by omega
  have e5 : IntKind.i64.wrap (-x.lo * 1048576) = -x.lo * 1048576 := IntWalk.i64_in _ (by omega)
  have e6 : IntKind.i64.wrap (-x.hi * 1048576) = -x.hi * 1048576 := IntWalk.i64_in _ (by omega)
  have fb : ∀ a b : Int, -4611686014132420609 ≤ a ∧ a ≤ 4611686014132420609 → -4611686014132420610 ≤ a.fdiv b ∧ a.fdiv b ≤ 4611686014132420610 := fun a b h => by
   have := fdiv_abs a b
   omega
  have p1 := fb (-x.lo * 1048576) y.lo (by omega)
  have p2 := fb (-x.lo * 1048576) y.hi (by omega)
  have p3 := fb (-x.hi * 1048576) y.lo (by omega)
  have p4 := fb (-x.hi * 1048576) y.hi (by omega)
  have f1 := zge (x.lo * 1048576) y.lo hnz.1 (by omega) b2.1
  have f2 := zge (x.lo * 1048576) y.hi hnz.2 (by omega) b2.2
  have f3 := zge (x.hi * 1048576) y.lo hnz.1 (by omega) b2.1
  have f4 := zge (x.hi * 1048576) y.hi hnz.2 (by omega) b2.2
  have f5 := zge (-x.lo * 1048576) y.lo hnz.1 (by omega) b2.1
  have f6 := zge (-x.lo * 1048576) y.hi hnz.2 (by omega) b2.2
  have f7 := zge (-x.hi * 1048576) y.lo hnz.1 (by omega) b2.1
  have f8 := zge (-x.hi * 1048576) y.hi hnz.2 (by omega) b2.2
  have g1 := ends_ret ((x.lo * 1048576).fdiv y.lo) ((x.lo * 1048576).fdiv y.hi) ((x.hi * 1048576).fdiv y.lo) ((x.hi * 1048576).fdiv y.hi)
  have g2 := ends_ret ((-x.lo * 1048576).fdiv y.lo) ((-x.lo * 1048576).fdiv y.hi) ((-x.hi * 1048576).fdiv y.lo) ((-x.hi * 1048576).fdiv y.hi)
  generalize (x.lo * 1048576).fdiv y.lo = q1 at *
  generalize (x.lo * 1048576).fdiv y.hi = q2 at *
  generalize (x.hi * 1048576).fdiv y.lo = q3 at *
  generalize (x.hi * 1048576).fdiv y.hi = q4 at *
  generalize (-x.lo * 1048576).fdiv y.lo = q5 at *
  generalize (-x.lo * 1048576).fdiv y.hi = q6 at *
  generalize (-x.hi * 1048576).fdiv y.lo = q7 at *
  generalize (-x.hi * 1048576).fdiv y.hi = q8 at *
  obtain ⟨lo, hlo⟩ : ∃ l, min (min (min q1 q2) q3) q4 = l := ⟨_, rfl⟩
  obtain ⟨hi, hhi⟩ : ∃ l, min (min (min q5 q6) q7) q8 = l := ⟨_, rfl⟩
  rw [hlo] at g1 ⊢
  rw [hhi] at g2 ⊢
  have e7 : IntKind.i64.wrap (-hi) = -hi := IntWalk.i64_in _ (by omega)
  have z3 : (0 : Int) - hi = -hi := by omega
  refine sgo ?_
  first | refine zab (c0) (by simp) ?_ | refine zaa (c0) (by simp) ?_
  simp -dsimp -implicitDefEqProofs (disch := try exact zdE) only [go_sem, e1, e2]
  first | refine zab (f1) (by simp) ?_ | refine zaa (f1) (by simp) ?_
  simp -dsimp -implicitDefEqProofs (disch := try exact zdE) only [go_sem, e1, e2]
  first | refine zab (f2) (by simp) ?_ | refine zaa (f2) (by simp) ?_
  simp -dsimp -implicitDefEqProofs (disch := try exact zdE) only [go_sem, e1, e2]
  first | refine zab (f3) (by simp) ?_ | refine zaa (f3) (by simp) ?_
  simp -dsimp -implicitDefEqProofs (disch := try exact zdE) only [go_sem, e1, e2]
  first | refine zab (f4) (by simp) ?_ | refine zaa (f4) (by simp) ?_
  refine sgo ?_
  first | refine zab (g1) (by simp) ?_ | refine zaa (g1) (by simp) ?_
  simp -dsimp -implicitDefEqProofs (disch := try exact zdE) only [go_sem, e3, e4, e5, e6, z1, z2]
  first | refine zab (f5) (by simp) ?_ | refine zaa (f5) (by simp) ?_
  simp -dsimp -implicitDefEqProofs (disch := try exact zdE) only [go_sem, e3, e4, e5, e6, z1, z2]
  first | refine zab (f6) (by simp) ?_ | refine zaa (f6) (by simp) ?_
  simp -dsimp -implicitDefEqProofs (disch := try exact zdE) only [go_sem, e3, e4, e5, e6, z1, z2]
  first | refine zab (f7) (by simp) ?_ | refine zaa (f7) (by simp) ?_
  simp -dsimp -implicitDefEqProofs (disch := try exact zdE) only [go_sem, e3, e4, e5, e6, z1, z2]
  first | refine zab (f8) (by simp) ?_ | refine zaa (f8) (by simp) ?_
  refine sgo ?_
  first | refine zab (g2) (by simp) ?_ | refine zaa (g2) (by simp) ?_
  simp -dsimp -implicitDefEqProofs (disch := try exact zdE) only [go_sem, e7, z3]
  first | refine zab (zeg lo (-hi)) (by simp) ?_ | refine zaa (zeg lo (-hi)) (by simp) ?_
  exact sgo trivial
  done
theorem divp_ret (x y : Sp) : Ret pg zg3 [SpV x, SpV y] (SpV (divP x y)) := by
 refine span_Span_Div.of rfl (W_b ?_)
 unfold span_Span_Div.k span_Span_Div.res Ot kp Oy OL
 have c : Ret pg zc1 [SpV x, SpV y, .fn zdf []] (SpV (divP x y)) := both_ret zdf divS' div1_ret x y
 refine sgo ?_
 first | refine zab (c) (by simp) ?_ | refine zaa (c) (by simp) ?_
 exact sgo trivial
 done
theorem vadd_ret (v w : Nat → Sp) : Ret pg ze5 [VcV v, VcV w] (VcV (addV v w)) := by
 refine vec_Vec_Add.of rfl (W_b ?_)
 unfold vec_Vec_Add.k vec_Vec_Add.res Ot kp Oy OL
 have c := each_ret zbd addS zdk v w
 refine sgo ?_
 first | refine zab (c) (by simp) ?_ | refine zaa (c) (by simp) ?_
 refine sgo ?_
 rfl
theorem zdn (v : Nat → Sp) (s : Sp) : Ret pg zck [VcV v, SpV s] (VcV (zba v s)) := by
 refine vec_Vec_Scale.of rfl (W_b ?_)
 unfold vec_Vec_Scale.k vec_Vec_Scale.res Ot kp Oy OL
 have c := each_ret zbp mulP zgq v (vec3 s s s)
 have e : (fun i => mulP (v i) (vec3 s s s i)) = zba v s := by
  funext i
  unfold zba vec3
  split
  ·rfl
  ·split <;> rfl
 rw [e] at c
 simp -dsimp -implicitDefEqProofs (disch := try exact zdE) only [go_sem, fold9 s s s]
 first | refine zab (c) (by simp) ?_ | refine zaa (c) (by simp) ?_
 exact sgo trivial
 done
theorem zid (n : Int) : Ret pg zig [.int .i64 n] (SpV (onlyS n)) := by
 refine imu_only.of rfl (W_b ?_)
 unfold imu_only.k imu_only.res Ot kp Oy Om
 unfold onlyS
 refine sgo ?_
 first | refine zab (zds n n) (by simp) ?_ | refine zaa (zds n n) (by simp) ?_
 exact sgo trivial
 done
theorem turned_retR (r : Nat → Nat → Sp) : Ret pg zgi [RtV r] (RtV fun i j => r j i) := by
 refine rot_Rot_Turned.of rfl (W_b ?_)
 unfold rot_Rot_Turned.k rot_Rot_Turned.res Ot kp Oy
 have c := rmade_ret ze8 [.pp (RtV r)] (fun i j => r j i) (fun i j hi hj => by
  refine rot_Rot_Turned_1.of rfl (W_b ?_)
  unfold rot_Rot_Turned_1.k rot_Rot_Turned_1.res Ot kp Oy Om OL
  have a1 := at_R r hj
  have a2 := at_V (r j) hi
  simp -dsimp -implicitDefEqProofs (disch := try exact zdE) only [go_sem, a1, a2]
  done) (by simp)
 refine sgo ?_
 first | refine zab (c) (by simp) ?_ | refine zaa (c) (by simp) ?_
 exact sgo trivial
 done
theorem rmul_retR (r q : Nat → Nat → Sp) : Ret pg n_rot_Rot_Mul [RtV r, RtV q] (RtV (mulR r q)) := by
 refine rot_Rot_Mul.of rfl (W_b ?_)
 unfold rot_Rot_Mul.k rot_Rot_Mul.res Ot kp Oy OL
 have c := rmade_ret zg6 [.pp (RtV r), .pp (RtV fun i j => q j i)] (mulR r q) (fun i j hi hj => by
  refine rot_Rot_Mul_1.of rfl (W_b ?_)
  unfold rot_Rot_Mul_1.k rot_Rot_Mul_1.res Ot kp kd Oy Om OL
  have a1 := at_R r hi
  have a2 := at_R (fun i j => q j i) hj
  simp -dsimp -implicitDefEqProofs (disch := try exact zdE) only [go_sem, a1, a2]
  first | refine zab (zha (r i) fun k => q k j) (by simp) ?_ | refine zaa (zha (r i) fun k => q k j) (by simp) ?_
  refine sgo ?_
  rfl) (by simp)
 refine sgo ?_
 first | refine zab (turned_retR q) (by simp) ?_ | refine zaa (turned_retR q) (by simp) ?_
 refine sgo ?_
 refine zg9 (fz1 5 [RtV fun i j => q j i]) (fz1_ok (es := 27) (by rfl) (by simp)) (by simp -dsimp -implicitDefEqProofs (disch := try exact zdE) only [go_sem] <;> rfl) c (by simp) ?_
 exact sgo trivial
 done
end Go.Gim
/- Runs of samples: the program's own. -/
set_option maxRecDepth 100000
set_option maxHeartbeats 2000000
namespace Go.Gim
open Go.Proofs
def RnV (a : Rn2) : V := .agg ((RtV a.R).cells ++ (VcV a.V).cells ++ (VcV a.P).cells ++ [.int .i64 a.ticks, .int .i64 a.count])
theorem RtV_cells (r : Nat → Nat → Sp) : (RtV r).cells = (VcV (r 0)).cells ++ (VcV (r 1)).cells ++ (VcV (r 2)).cells := rfl
@[simp] theorem RnV_pure (a : Rn2) : (RnV a).Pure := by simp [RnV, RtV_cells, VcV_cells]
@[go_sem] theorem RnV_isAgg (x : Rn2) : (RnV x).isAgg = true := rfl
@[simp, go_sem] theorem RnV_isJunk (x : Rn2) : (RnV x).isJunk = false := rfl
@[go_sem] theorem RnV_len (x : Rn2) : (RnV x).cells.length = 47 := rfl
@[go_sem] theorem RnV_cok (x : Rn2) : (RnV x).cells.all V.cellOk = true := rfl
@[go_sem] theorem part_RnV (x : Rn2) : V.part (RnV x) 0 47 true = some (RnV x) := rfl
@[go_sem] theorem part_RnR (x : Rn2) : V.part (RnV x) 0 27 true = some (RtV x.R) := rfl
@[go_sem] theorem part_RnVV (x : Rn2) : V.part (RnV x) 27 9 true = some (VcV x.V) := rfl
@[go_sem] theorem part_RnP (x : Rn2) : V.part (RnV x) 36 9 true = some (VcV x.P) := rfl
@[go_sem] theorem part_RnT (x : Rn2) : V.part (RnV x) 45 1 false = some (.int .i64 x.ticks) := rfl
@[go_sem] theorem part_RnC (x : Rn2) : V.part (RnV x) 46 1 false = some (.int .i64 x.count) := rfl
@[go_sem] theorem setRn_R (x : Rn2) (r : Nat → Nat → Sp) : V.setPart (RnV x) 0 (RtV r) = some (RnV { x with R := r }) := rfl
@[go_sem] theorem setRn_V (x : Rn2) (v : Nat → Sp) : V.setPart (RnV x) 27 (VcV v) = some (RnV { x with V := v }) := rfl
@[go_sem] theorem setRn_P (x : Rn2) (v : Nat → Sp) : V.setPart (RnV x) 36 (VcV v) = some (RnV { x with P := v }) := rfl
@[go_sem] theorem sub_RnV (g : Nat → Option (List V)) (x : Rn2) : V.sub g (RnV x) = RnV x := zct _ (RnV_pure x)
@[go_sem] theorem frz_RnV (H : Hp) (n : Nat) (x : Rn2) : frz H (n + 2) (RnV x) = some (RnV x) := rfl
attribute [local go_sem] CV_isAgg zgg CV_cells part_CV csub_CV
theorem timei_ret (c : Cfg) (t : Int) (ht : 1 ≤ t ∧ t ≤ 1000) (hr : 1 ≤ c.rate ∧ c.rate ≤ 1000) : Ret pg n_imu_Time [CV c, .int .i64 t] (SpV (timeS c.rate t)) := by
 have e1 : IntKind.i64.wrap (t * 1048576) = t * 1048576 := IntWalk.i64_in _ (by omega)
 have e2 : IntKind.i64.wrap (c.rate * 1048576) = c.rate * 1048576 := IntWalk.i64_in _ (by omega)
 refine imu_Time.of rfl (W_b ?_)
 unfold imu_Time.k imu_Time.res Ot kp kd Oy Om Ol Oq ci
 unfold timeS
 simp -dsimp -implicitDefEqProofs (disch := try exact zdE) only [go_sem, e1]
 first | refine zab (zid (t * 1048576)) (by simp) ?_ | refine zaa (zid (t * 1048576)) (by simp) ?_
 simp -dsimp -implicitDefEqProofs (disch := try exact zdE) only [go_sem, e2]
 first | refine zab (zid (c.rate * 1048576)) (by simp) ?_ | refine zaa (zid (c.rate * 1048576)) (by simp) ?_
 refine sgo ?_
 first | refine zab (divp_ret (onlyS (t * 1048576)) (onlyS (c.rate * 1048576))) (by simp) ?_ | refine zaa (divp_ret (onlyS (t * 1048576)) (onlyS (c.rate * 1048576))) (by simp) ?_
 exact sgo trivial
 done
@[go_sem] theorem setRn_z (y : Rn2) : V.setPart (.agg [.int .i64 0, .int .i64 0, .bool false, .int .i64 0, .int .i64 0, .bool false, .int .i64 0, .int .i64 0, .bool false, .int .i64 0, .int .i64 0, .bool false, .int .i64 0, .int .i64 0, .bool false, .int .i64 0, .int .i64 0, .bool false, .int .i64 0, .int .i64 0, .bool false, .int .i64 0, .int .i64 0, .bool false, .int .i64 0, .int .i64 0, .bool false, .int .i64 0, .int .i64 0, .bool false, .int .i64 0, .int .i64 0, .bool false, .int .i64 0, .int .i64 0, .bool false, .int .i64 0, .int .i64 0, .bool false, .int .i64 0, .int .i64 0, .bool false, .int .i64 0, .int .i64 0, .bool false, .int .i64 0, .int .i64 0]) 0 (RnV y) = some (RnV y) := rfl
attribute [-go_sem] V.part V.setPart in
theorem stepi_ret (a : Rn2) (w f : Nat → Sp) (t : Sp) (hw : OkV w) : Ret pg zhx [RnV a, VcV w, VcV f, SpV t] (RnV (stepR a w f t)) := by
 have hs : OkV (zba w t) := fun i => mul_ok _ _
 refine imu_Run_step.of rfl (W_b ?_)
 unfold imu_Run_step.k imu_Run_step.res Ot kp kd Oy OL ci
 refine sgo ?_
 first | refine zab (apply_retR a.R f) (by simp) ?_ | refine zaa (apply_retR a.R f) (by simp) ?_
 refine sgo ?_
 first | refine zab (zdn (zem a.R f) t) (by simp) ?_ | refine zaa (zdn (zem a.R f) t) (by simp) ?_
 refine sgo ?_
 first | refine zab (zdn a.V t) (by simp) ?_ | refine zaa (zdn a.V t) (by simp) ?_
 refine sgo ?_
 first | refine zab (vadd_ret a.P (zba a.V t)) (by simp) ?_ | refine zaa (vadd_ret a.P (zba a.V t)) (by simp) ?_
 refine sgo ?_
 first | refine zab (zdn (zba (zem a.R f) t) t) (by simp) ?_ | refine zaa (zdn (zba (zem a.R f) t) t) (by simp) ?_
 refine sgo ?_
 first | refine zab (zid 524288) (by simp) ?_ | refine zaa (zid 524288) (by simp) ?_
 refine sgo ?_
 first | refine zab (zdn (zba (zba (zem a.R f) t) t) (onlyS 524288)) (by simp) ?_ | refine zaa (zdn (zba (zba (zem a.R f) t) t) (onlyS 524288)) (by simp) ?_
 refine sgo ?_
 first | refine zab (vadd_ret (addV a.P (zba a.V t)) (zba (zba (zba (zem a.R f) t) t) (onlyS 524288))) (by simp) ?_ | refine zaa (vadd_ret (addV a.P (zba a.V t)) (zba (zba (zba (zem a.R f) t) t) (onlyS 524288))) (by simp) ?_
 refine sgo ?_
 first | refine zab (vadd_ret a.V (zba (zem a.R f) t)) (by simp) ?_ | refine zaa (vadd_ret a.V (zba (zem a.R f) t)) (by simp) ?_
 refine sgo ?_
 first | refine zab (zdn w t) (by simp) ?_ | refine zaa (zdn w t) (by simp) ?_
 refine sgo ?_
 first | refine zab (rexp_ret (zba w t) hs) (by simp) ?_ | refine zaa (rexp_ret (zba w t) hs) (by simp) ?_
 refine sgo ?_
 first | refine zab (rmul_retR a.R (expR (zba w t))) (by simp) ?_ | refine zaa (rmul_retR a.R (expR (zba w t))) (by simp) ?_
 refine sgo ?_
 rfl
end Go.Gim
/- Preintegration: one that sums samples up. -/
set_option maxRecDepth 100000
set_option maxHeartbeats 4000000
namespace Go.Gim
open Go.Proofs
attribute [local go_sem] CV_isAgg zgg CV_cells part_CV csub_CV
def StV (a : Rn2) (st : Int) : V := .agg ((RnV a).cells ++ [.int .i64 st])
def PreV (a : Rn2) (st : Int) (c : Cfg) : V := .agg ((RnV a).cells ++ [.int .i64 st] ++ (CV c).cells)
theorem agg_cells (l : List V) : (V.agg l).cells = l := rfl
@[simp] theorem StV_pure (a st) : (StV a st).Pure := by simp [StV, RnV, RtV_cells, VcV_cells, agg_cells]
@[simp] theorem PreV_pure (a st c) : (PreV a st c).Pure := by simp [PreV, RnV, RtV_cells, VcV_cells, CV, agg_cells]
@[go_sem] theorem PreV_isAgg (a st c) : (PreV a st c).isAgg = true := rfl
@[simp, go_sem] theorem PreV_isJunk (a st c) : (PreV a st c).isJunk = false := rfl
@[go_sem] theorem PreV_len (a st c) : (PreV a st c).cells.length = 65 := rfl
@[go_sem] theorem PreV_cok (a st c) : (PreV a st c).cells.all V.cellOk = true := rfl
@[go_sem] theorem StV_isAgg (a st) : (StV a st).isAgg = true := rfl
@[simp, go_sem] theorem StV_isJunk (a st) : (StV a st).isJunk = false := rfl
@[go_sem] theorem StV_len (a st) : (StV a st).cells.length = 48 := rfl
@[go_sem] theorem StV_cok (a st) : (StV a st).cells.all V.cellOk = true := rfl
@[go_sem] theorem part_Pre (a st c) : V.part (PreV a st c) 0 65 true = some (PreV a st c) := rfl
@[go_sem] theorem part_PreS (a st c) : V.part (PreV a st c) 0 48 true = some (StV a st) := rfl
@[go_sem] theorem part_PreR (a st c) : V.part (PreV a st c) 0 47 true = some (RnV a) := rfl
@[go_sem] theorem part_PreX (a st c) : V.part (PreV a st c) 47 1 false = some (.int .i64 st) := rfl
@[go_sem] theorem part_PreC (a st c) : V.part (PreV a st c) 48 17 true = some (CV c) := rfl
@[go_sem] theorem part_PreT (a st c) : V.part (PreV a st c) 45 1 false = some (.int .i64 a.ticks) := rfl
@[go_sem] theorem part_PreN (a st c) : V.part (PreV a st c) 46 1 false = some (.int .i64 a.count) := rfl
@[go_sem] theorem part_PreG (a st c) : V.part (PreV a st c) 51 1 false = some (.int .i64 c.gap) := rfl
@[go_sem] theorem part_PreU (a st c) : V.part (PreV a st c) 52 1 false = some (.int .i64 c.turn) := rfl
@[go_sem] theorem part_PreP (a st c) : V.part (PreV a st c) 53 1 false = some (.int .i64 c.pull) := rfl
@[go_sem] theorem setPre_R (a b : Rn2) (st c) : V.setPart (PreV a st c) 0 (RnV b) = some (PreV b st c) := rfl
@[go_sem] theorem setPre_T (a : Rn2) (st c x) : V.setPart (PreV a st c) 45 (.int .i64 x) = some (PreV { a with ticks := x } st c) := rfl
@[go_sem] theorem setPre_N (a : Rn2) (st c x) : V.setPart (PreV a st c) 46 (.int .i64 x) = some (PreV { a with count := x } st c) := rfl
@[go_sem] theorem sub_PreV (g : Nat → Option (List V)) (a st c) : V.sub g (PreV a st c) = PreV a st c := zct _ (PreV_pure a st c)
@[go_sem] theorem sub_StV (g : Nat → Option (List V)) (a st) : V.sub g (StV a st) = StV a st := zct _ (StV_pure a st)
def rn0 : Rn2 := ⟨idR, zV, zV, 0, 0⟩
@[go_sem] theorem fill_rn (R V' P') : fillV [.int .i64 0, .int .i64 0, .bool false, .int .i64 0, .int .i64 0, .bool false, .int .i64 0, .int .i64 0, .bool false, .int .i64 0, .int .i64 0, .bool false, .int .i64 0, .int .i64 0, .bool false, .int .i64 0, .int .i64 0, .bool false, .int .i64 0, .int .i64 0, .bool false, .int .i64 0, .int .i64 0, .bool false, .int .i64 0, .int .i64 0, .bool false, .int .i64 0, .int .i64 0, .bool false, .int .i64 0, .int .i64 0, .bool false, .int .i64 0, .int .i64 0, .bool false, .int .i64 0, .int .i64 0, .bool false, .int .i64 0, .int .i64 0, .bool false, .int .i64 0, .int .i64 0, .bool false, .int .i64 0, .int .i64 0] [(0, 27, RtV R), (27, 9, VcV V'), (36, 9, VcV P')] = some (RnV ⟨R, V', P', 0, 0⟩).cells := rfl
@[go_sem] theorem fill_st (a) : fillV [.int .i64 0, .int .i64 0, .bool false, .int .i64 0, .int .i64 0, .bool false, .int .i64 0, .int .i64 0, .bool false, .int .i64 0, .int .i64 0, .bool false, .int .i64 0, .int .i64 0, .bool false, .int .i64 0, .int .i64 0, .bool false, .int .i64 0, .int .i64 0, .bool false, .int .i64 0, .int .i64 0, .bool false, .int .i64 0, .int .i64 0, .bool false, .int .i64 0, .int .i64 0, .bool false, .int .i64 0, .int .i64 0, .bool false, .int .i64 0, .int .i64 0, .bool false, .int .i64 0, .int .i64 0, .bool false, .int .i64 0, .int .i64 0, .bool false, .int .i64 0, .int .i64 0, .bool false, .int .i64 0, .int .i64 0, .int .i64 0] [(0, 47, RnV a)] = some (StV a 0).cells := rfl
@[go_sem] theorem fill_pre (a c) : fillV [.int .i64 0, .int .i64 0, .bool false, .int .i64 0, .int .i64 0, .bool false, .int .i64 0, .int .i64 0, .bool false, .int .i64 0, .int .i64 0, .bool false, .int .i64 0, .int .i64 0, .bool false, .int .i64 0, .int .i64 0, .bool false, .int .i64 0, .int .i64 0, .bool false, .int .i64 0, .int .i64 0, .bool false, .int .i64 0, .int .i64 0, .bool false, .int .i64 0, .int .i64 0, .bool false, .int .i64 0, .int .i64 0, .bool false, .int .i64 0, .int .i64 0, .bool false, .int .i64 0, .int .i64 0, .bool false, .int .i64 0, .int .i64 0, .bool false, .int .i64 0, .int .i64 0, .bool false, .int .i64 0, .int .i64 0, .int .i64 0, .int .i64 0, .int .i64 0, .int .i64 0, .int .i64 0, .int .i64 0, .int .i64 0, .int .i64 0, .int .i64 0, .int .i64 0, .int .i64 0, .int .i64 0, .int .i64 0, .int .i64 0, .int .i64 0, .int .i64 0, .int .i64 0, .int .i64 0] [(0, 48, StV a 0), (48, 17, CV c)] = some (PreV a 0 c).cells := rfl
@[go_sem] theorem agg_rn (a) : V.agg (RnV a).cells = RnV a := rfl
@[go_sem] theorem agg_st (a st) : V.agg (StV a st).cells = StV a st := rfl
@[go_sem] theorem agg_pre (a st c) : V.agg (PreV a st c).cells = PreV a st c := rfl
theorem vz_ret : Ret pg zf4 [.int .i64 0, .int .i64 0, .int .i64 0] (VcV zV) := by
 have := vof_ret 0 0 0
 rwa [vec3_z] at this
attribute [-go_sem] V.part V.setPart fillV in
theorem empty_ret : Ret pg n_imu_Empty [] (RnV rn0) := by
 refine imu_Empty.of rfl (W_b ?_)
 unfold imu_Empty.k imu_Empty.res Ot kp Oy ci
 rw [show rn0 = ⟨idR, zV, zV, 0, 0⟩ from rfl]
 refine sgo ?_
 first | refine zab (id_retR) (by simp) ?_ | refine zaa (id_retR) (by simp) ?_
 refine sgo ?_
 first | refine zab (vz_ret) (by simp) ?_ | refine zaa (vz_ret) (by simp) ?_
 refine sgo ?_
 first | refine zab (vz_ret) (by simp) ?_ | refine zaa (vz_ret) (by simp) ?_
 exact sgo trivial
 done
attribute [-go_sem] V.part V.setPart fillV in
theorem new_G (c : Cfg) (hf : FineC c) (H : Hp) (n : Nat) : ∃ id H' n', (id < n' ∧ n ≤ id ∧ H' id = some ⟨[PreV rn0 0 c], 65⟩ ∧ ∀ b, b < n → H' b = H b) ∧ RetG pg n_imu_New [CV c] H n (.tup [.ptr id 1 0 0, .int .i64 0]) H' n' := by
 have hk := check_ret c
 rw [chk_fine.2 hf] at hk
 have key : ∃ r H' n', (∃ id, r = .tup [.ptr id 1 0 0, .int .i64 0] ∧ id < n' ∧ n ≤ id ∧ H' id = some ⟨[PreV rn0 0 c], 65⟩ ∧ ∀ b, b < n → H' b = H b) ∧ RetG pg n_imu_New [CV c] H n r H' n' := by
  refine imu_New.ofG rfl (W_b ?_)
  unfold imu_New.k imu_New.res Ot kp kd Om OL Oc ci
  refine sgo ?_
  first | refine zab (hk) (by simp) ?_ | refine zaa (hk) (by simp) ?_
  refine sgo ?_
  first | refine zab (empty_ret) (by simp) ?_ | refine zaa (empty_ret) (by simp) ?_
  refine sgo ?_
  exact ⟨_, rfl, zdo, _, rfl, zdo, by omega, Hp.upd_same _ _ _, fun b hb => Hp.upd_ne _ _ (by omega)⟩
 obtain ⟨r, H', n', ⟨id, rfl, h⟩, hr⟩ := key
 exact ⟨id, H', n', h, hr⟩
attribute [-go_sem] V.part V.setPart fillV in
theorem run_ret (a : Rn2) (st : Int) (c : Cfg) (H : Hp) (n id : Nat) (hid : id < n) (hH : H id = some ⟨[PreV a st c], 65⟩) : ∃ H' n', (n ≤ n' ∧ ∀ b, b < n → H' b = H b) ∧ RetG pg zgo [.ptr id 1 0 0] H n (RnV a) H' n' := by
 have key : ∃ r H' n', (r = RnV a ∧ n ≤ n' ∧ ∀ b, b < n → H' b = H b) ∧ RetG pg zgo [.ptr id 1 0 0] H n r H' n' := by
  refine imu_Pre_Run.ofG rfl (W_b ?_)
  unfold imu_Pre_Run.k imu_Pre_Run.res Ot kp Oy Om OL
  have e1 : ∀ k v, (Hp.upd H (n + k) v) id = H id := fun k v => Hp.upd_ne _ _ (by omega)
  simp -dsimp -implicitDefEqProofs (disch := try exact zdE) only [go_sem, hH, e1]
  refine ⟨[RnV a], ?_, zdo, rfl, zdo, fun b hb => Hp.upd_ne _ _ (by omega)⟩
  simp [allOf, resV, Hp.upd_same, part_RnV, E_cons, E]
 obtain ⟨r, H', n', ⟨rfl, h, h2⟩, hr⟩ := key
 exact ⟨H', n', ⟨h, h2⟩, hr⟩
theorem over_ret (x0 x1 x2 m : Int) (h : ∀ x ∈ [x0, x1, x2], -9223372036854775807 ≤ x ∧ x ≤ 9223372036854775807) (hm : ∀ x ∈ [x0, x1, x2], -m ≤ x ∧ x ≤ m) : Ret pg zdq [.sl (cints [x0, x1, x2]), .int .i64 m] (.bool false) := by
 simp only [List.mem_cons, List.mem_nil_iff, or_false, forall_eq_or_imp, forall_eq] at h hm
 obtain ⟨h0, h1, h2⟩ := h
 obtain ⟨m0, m1, m2⟩ := hm
 have w0 : IntKind.i64.wrap (-x0) = -x0 := IntWalk.i64_in _ (by omega)
 have w1 : IntKind.i64.wrap (-x1) = -x1 := IntWalk.i64_in _ (by omega)
 have w2 : IntKind.i64.wrap (-x2) = -x2 := IntWalk.i64_in _ (by omega)
 refine imu_over.of rfl (W_b ?_)
 unfold imu_over.k imu_over.res Ot kp kd Om Ol ci
 have l3 : [x0, x1, x2].length = 3 := rfl
 have g0 : [x0, x1, x2].getD 0 0 = x0 := rfl
 have g1 : [x0, x1, x2].getD 1 0 = x1 := rfl
 have g2 : [x0, x1, x2].getD 2 0 = x2 := rfl
 generalize [x0, x1, x2] = l at *
 simp -dsimp -implicitDefEqProofs (disch := try exact zdL) only [go_sem, IntWalk.i64_in, wu64, wu32, wu8, Nat.mod_eq_of_lt, shr32, shr63, shl32, or32, quo64, quo32, zeh, remk, zcb, zca, zdc, zdb, zbx, Nat.add_assoc, zat, lt_ne, gt_ne, zc7, dlt_t, dlt_f, dle_t, dle_f, deq_t, deq_f, zbq, zec, zeb, za9, zbc, za8, zay, zcc, zcf, zcg, zcx, zag, List.length_set, ge_iff_le, gt_iff_lt, Int.toNat_natCast, zb5, zcy, zb6, zc0, zcz, zb9, zbt, zev, zbv, zbw, zc6, zan, zak, l3, g0, g1, g2, w0, w1, w2]
 done
end Go.Gim
/- Preintegration: a sample is taken. -/
set_option maxRecDepth 100000
set_option maxHeartbeats 4000000
namespace Go.Gim
open Go.Proofs
attribute [local go_sem] IntWalk.i64_in wu64 wu32 wu8 Nat.mod_eq_of_lt shr32 shr63 shl32 or32 quo64 quo32 zeh remk zcb zca zdc zdb zbx Nat.add_assoc zat lt_ne gt_ne zc7 dlt_t dlt_f dle_t dle_f deq_t deq_f zbq zec zeb za9 zbc za8 zay zcc zcf zcg zcx zag List.length_set ge_iff_le gt_iff_lt Int.toNat_natCast zb5 zcy zb6 zc0 zcz zb9 zbt zev zbv zbw zc6
attribute [local go_sem] CV_isAgg zgg CV_cells part_CV csub_CV
@[go_sem] theorem part_i1 (k : IntKind) (x : Int) : V.part (.int k x) 0 1 false = some (.int k x) := rfl
@[go_sem] theorem part_sl1 (x : List V) : V.part (.sl x) 0 1 false = some (.sl x) := rfl
theorem MV_pp0 (k a s : Int) (v : List Int) : V.part (MV k a s v) 0 1 false = some (.int .i64 k) := rfl
theorem MV_pp3 (k a s : Int) (v : List Int) : V.part (MV k a s v) 3 1 false = some (.sl (cints v)) := rfl
attribute [-go_sem] V.part V.setPart fillV in
theorem add_G (a : Rn2) (c : Cfg) (l la lb : List Int) (x3 x4 x5 ticks : Int) (H : Hp) (n id : Nat) (hid : id < n) (hH : H id = some ⟨[PreV a 0 c], 65⟩)
  (hl : l.length = 6) (hr : rightE 1 0 0 l = 0) (g0 : l.getD 0 0 = 0) (g1 : l.getD 1 0 = 0) (g2 : l.getD 2 0 = 0) (g3 : l.getD 3 0 = x3) (g4 : l.getD 4 0 = x4) (g5 : l.getD 5 0 = x5)
  (s1 : redV (.slc 1 false true false) [.sl (cints l), .int .i64 3] = some (.sl (cints la))) (s2 : redV (.slc 1 true false false) [.sl (cints l), .int .i64 3] = some (.sl (cints lb)))
  (o1 : Ret pg zdq [.sl (cints la), .int .i64 c.turn] (.bool false)) (o2 : Ret pg zdq [.sl (cints lb), .int .i64 c.pull] (.bool false))
  (ht : 1 ≤ ticks ∧ ticks ≤ c.gap ∧ ticks ≤ 1000) (hrt : 1 ≤ c.rate ∧ c.rate ≤ 1000) (hT : 0 ≤ a.ticks ∧ a.ticks ≤ 1000000) (hC : 0 ≤ a.count ∧ a.count ≤ 1000000) :
  ∃ H' n', (n ≤ n' ∧ H' id = some ⟨[PreV { stepR a zV (vec3 (ofS x3 x3) (ofS x4 x4) (ofS x5 x5)) (timeS c.rate ticks) with ticks := a.ticks + ticks, count := a.count + 1 } 0 c], 65⟩)
   ∧ RetG pg zff [.ptr id 1 0 0, MV 1 0 0 l, .int .i64 ticks] H n (.int .i64 0) H' n' := by
 have hz : OkV zV := fun i => of_ok 0 0
 have he := encode_ret 1 0 0 l (by omega)
 unfold encV at he
 rw [if_pos hr] at he
 have w1 : IntKind.i64.wrap (a.ticks + ticks) = a.ticks + ticks := IntWalk.i64_in _ (by omega)
 have w2 : IntKind.i64.wrap (a.count + 1) = a.count + 1 := IntWalk.i64_in _ (by omega)
 have t1 : ¬ ticks < 1 := by omega
 have t2 : ¬ c.gap < ticks := by omega
 have ct := timei_ret c ticks ⟨ht.1, ht.2.2⟩ hrt
 have cf := vof_ret x3 x4 x5
 have cs := stepi_ret a zV (vec3 (ofS x3 x3) (ofS x4 x4) (ofS x5 x5)) (timeS c.rate ticks) hz
 have q1 : (stepR a zV (vec3 (ofS x3 x3) (ofS x4 x4) (ofS x5 x5)) (timeS c.rate ticks)).ticks = a.ticks := rfl
 have q2 : (stepR a zV (vec3 (ofS x3 x3) (ofS x4 x4) (ofS x5 x5)) (timeS c.rate ticks)).count = a.count := rfl
 generalize stepR a zV (vec3 (ofS x3 x3) (ofS x4 x4) (ofS x5 x5)) (timeS c.rate ticks) = b at *
 have key : ∃ r H' n', (r = .int .i64 0 ∧ n ≤ n' ∧ H' id = some ⟨[PreV { b with ticks := a.ticks + ticks, count := a.count + 1 } 0 c], 65⟩) ∧ RetG pg zff [.ptr id 1 0 0, MV 1 0 0 l, .int .i64 ticks] H n r H' n' := by
  refine imu_Pre_Add.ofG rfl (W_b ?_)
  unfold imu_Pre_Add.k imu_Pre_Add.res Ot kp kd Og Oy Om Ol OL Oq Oc ci
  simp -dsimp -implicitDefEqProofs (disch := try exact zdL) only [go_sem, hH, za6, zap, za7, MV_pp0, MV_pp3, zby, zan]
  refine zab he (by simp) ?_
  simp -dsimp -implicitDefEqProofs (disch := try exact zdL) only [go_sem, hH, za6, zap, za7, MV_pp0, MV_pp3, zby, zan, zak, hl, g0, g1, g2, g3, g4, g5, s1, s2, t1, t2]
  refine zaa o1 (by simp [cints]) ?_
  simp -dsimp -implicitDefEqProofs (disch := try exact zdL) only [go_sem, hH, za6, zap, za7, MV_pp0, MV_pp3, zby, zan, zak, hl, g0, g1, g2, g3, g4, g5, s1, s2, t1, t2]
  refine zaa o2 (by simp [cints]) ?_
  simp -dsimp -implicitDefEqProofs (disch := try exact zdL) only [go_sem, hH, za6, zap, za7, MV_pp0, MV_pp3, zby, zan, zak, hl, g0, g1, g2, g3, g4, g5, s1, s2, t1, t2]
  refine zaa vz_ret (by simp) ?_
  simp -dsimp -implicitDefEqProofs (disch := try exact zdL) only [go_sem, hH, za6, zap, za7, MV_pp0, MV_pp3, zby, zan, zak, hl, g0, g1, g2, g3, g4, g5, s1, s2, t1, t2]
  refine zaa cf (by simp) ?_
  simp -dsimp -implicitDefEqProofs (disch := try exact zdL) only [go_sem, hH, za6, zap, za7, MV_pp0, MV_pp3, zby, zan, zak, hl, g0, g1, g2, g3, g4, g5, s1, s2, t1, t2]
  refine zaa ct (by simp) ?_
  simp -dsimp -implicitDefEqProofs (disch := try exact zdL) only [go_sem, hH, za6, zap, za7, MV_pp0, MV_pp3, zby, zan, zak, hl, g0, g1, g2, g3, g4, g5, s1, s2, t1, t2]
  refine zaa cs (by simp) ?_
  simp -dsimp -implicitDefEqProofs (disch := try exact zdL) only [go_sem, hH, za6, zap, za7, MV_pp0, MV_pp3, zby, zan, zak, hl, q1, q2, w1, w2, Hp.upd_same]
  refine ⟨_, rfl, zdo, rfl, zdo, ?_⟩
  exact Hp.upd_same _ _ _
 obtain ⟨r, H', n', ⟨rfl, h1, h2⟩, hr⟩ := key
 exact ⟨H', n', ⟨h1, h2⟩, hr⟩
end Go.Gim
/- The law TopSteady. -/
set_option maxRecDepth 100000
set_option maxHeartbeats 8000000
namespace Go.Gim
open Go.Proofs
attribute [local go_sem] CV_isAgg zgg CV_cells part_CV csub_CV
theorem dfC_fine : FineC dfC := by
 rw [← chk_fine]
 decide +kernel
def stL (k : Nat) (p : Int) : List Int := (List.replicate 6 0).set (3 + k) p
@[go_sem] theorem setCV_z (c : Cfg) : V.setPart (.agg [.int .i64 0, .int .i64 0, .int .i64 0, .int .i64 0, .int .i64 0, .int .i64 0, .int .i64 0, .int .i64 0, .int .i64 0, .int .i64 0, .int .i64 0, .int .i64 0, .int .i64 0, .int .i64 0, .int .i64 0, .int .i64 0, .int .i64 0]) 0 (CV c) = some (CV c) := rfl
theorem storeL (b k : Nat) (p : Int) (hk : k < 3) : zf8 b (some ⟨[.int .i64 0, .int .i64 0, .int .i64 0, .int .i64 0, .int .i64 0, .int .i64 0], 1⟩) 6 (3 + k) 0 1 (.int .i64 p) = some (b, ⟨cints (stL k p), 1⟩) := by
 obtain rfl | rfl | rfl : k = 0 ∨ k = 1 ∨ k = 2 := by omega
 all_goals rfl
theorem part_RnVi (a : Rn2) {k : Nat} (h : k < 3) : V.part (RnV a) (27 + k * 3) 3 true = some (SpV (a.V k)) := by
 obtain rfl | rfl | rfl : k = 0 ∨ k = 1 ∨ k = 2 := by omega
 all_goals rfl
theorem part_RnPi (a : Rn2) {k : Nat} (h : k < 3) : V.part (RnV a) (36 + k * 3) 3 true = some (SpV (a.P k)) := by
 obtain rfl | rfl | rfl : k = 0 ∨ k = 1 ∨ k = 2 := by omega
 all_goals rfl
@[go_sem] theorem part_Spl (x : Sp) : V.part (SpV x) 0 1 false = some (.int .i64 x.lo) := rfl
@[go_sem] theorem part_Sph (x : Sp) : V.part (SpV x) 1 1 false = some (.int .i64 x.hi) := rfl
@[go_sem] theorem part_Spa (x : Sp) : V.part (SpV x) 2 1 false = some (.bool x.all) := rfl
theorem fill_m (l : List Int) : Option.map V.agg (fillV [.int .i64 0, .int .i64 0, .int .i64 0, .nil] [(0, 1, .int .i64 1), (3, 1, .sl (cints l))]) = some (MV 1 0 0 l) := rfl
theorem isnilB_ptr {nx : Nat} {H : Hp} {neg : Bool} {b i off es : Nat} {v : V} {Kn : V → Prop} {u : Dep Kn} (hb : H b = some ⟨[v], es⟩) (h : Kn (.bool neg)) : isnilB false nx H 1 neg (.ptr b 1 i off) Kn u := ⟨⟨_, hb, rfl⟩, by simp, h⟩
theorem vec3_all {a b c : Int} (ha : -1048576 ≤ a ∧ a ≤ 1048576) (hb : -1048576 ≤ b ∧ b ≤ 1048576) (hc : -1048576 ≤ c ∧ c ≤ 1048576) (i : Nat) : (vec3 (ofS a a) (ofS b b) (ofS c c) i).all = false := by
 unfold vec3
 split
 ·rw [of_eq (Int.le_refl _) (by omega) (by omega)]
 split
 ·rw [of_eq (Int.le_refl _) (by omega) (by omega)]
 ·rw [of_eq (Int.le_refl _) (by omega) (by omega)]
theorem stL_len (k : Nat) (p : Int) : (stL k p).length = 6 := by simp [stL]
theorem stL_right (k : Nat) (p : Int) (hp : -1048576 ≤ p ∧ p ≤ 1048576) : rightE 1 0 0 (stL k p) = 0 := by
 unfold rightE
 rw [if_neg (by decide), if_neg (by rw [stL_len]; decide), if_neg (by decide), if_neg]
 rintro ⟨x, hx, hb⟩
 unfold stL at hx
 rcases List.mem_or_eq_of_mem_set hx with h | h
 ·have := List.eq_of_mem_replicate h
  subst this
  exact absurd hb (by decide)
 ·subst h
  unfold cbad at hb
  omega
theorem add_steady (k : Nat) (p t : Int) (hk : k < 3) (hp : -1048576 ≤ p ∧ p ≤ 1048576) (ht : 1 ≤ t ∧ t ≤ 5) : ∃ f : Nat → Sp, OkV f ∧ (∀ i, (f i).all = false) ∧ f k = ofS p p ∧
  ∀ (a : Rn2) (H : Hp) (n id : Nat), id < n → H id = some ⟨[PreV a 0 dfC], 65⟩ → (0 ≤ a.ticks ∧ a.ticks ≤ 1000000) → (0 ≤ a.count ∧ a.count ≤ 1000000) →
   ∃ H' n', (n ≤ n' ∧ H' id = some ⟨[PreV { stepR a zV f (timeS 100 t) with ticks := a.ticks + t, count := a.count + 1 } 0 dfC], 65⟩) ∧ RetG pg zff [.ptr id 1 0 0, MV 1 0 0 (stL k p), .int .i64 t] H n (.int .i64 0) H' n' := by
 have o1 : Ret pg zdq [.sl (cints [0, 0, 0]), .int .i64 dfC.turn] (.bool false) := over_ret 0 0 0 2097152 (by decide) (by decide)
 refine ⟨vec3 (ofS ((stL k p).getD 3 0) ((stL k p).getD 3 0)) (ofS ((stL k p).getD 4 0) ((stL k p).getD 4 0)) (ofS ((stL k p).getD 5 0) ((stL k p).getD 5 0)), vec3_ok (of_ok _ _) (of_ok _ _) (of_ok _ _), ?_, ?_, ?_⟩
 ·obtain rfl | rfl | rfl : k = 0 ∨ k = 1 ∨ k = 2 := by omega
  ·exact vec3_all (a := p) (b := 0) (c := 0) hp (by decide) (by decide)
  ·exact vec3_all (a := 0) (b := p) (c := 0) (by decide) hp (by decide)
  ·exact vec3_all (a := 0) (b := 0) (c := p) (by decide) (by decide) hp
 ·obtain rfl | rfl | rfl : k = 0 ∨ k = 1 ∨ k = 2 := by omega
  all_goals rfl
 ·intro a H n id hid hH hT hC
  obtain rfl | rfl | rfl : k = 0 ∨ k = 1 ∨ k = 2 := by omega
  ·have o2 : Ret pg zdq [.sl (cints [p, 0, 0]), .int .i64 dfC.pull] (.bool false) := over_ret p 0 0 33554432 (by simp; omega) (by simp; omega)
   exact add_G a dfC (stL 0 p) [0, 0, 0] [p, 0, 0] p 0 0 t H n id hid hH (stL_len _ _) (stL_right _ _ hp) rfl rfl rfl rfl rfl rfl rfl rfl o1 o2 ⟨ht.1, ht.2, by omega⟩ (by decide) hT hC
  ·have o2 : Ret pg zdq [.sl (cints [0, p, 0]), .int .i64 dfC.pull] (.bool false) := over_ret 0 p 0 33554432 (by simp; omega) (by simp; omega)
   exact add_G a dfC (stL 1 p) [0, 0, 0] [0, p, 0] 0 p 0 t H n id hid hH (stL_len _ _) (stL_right _ _ hp) rfl rfl rfl rfl rfl rfl rfl rfl o1 o2 ⟨ht.1, ht.2, by omega⟩ (by decide) hT hC
  ·have o2 : Ret pg zdq [.sl (cints [0, 0, p]), .int .i64 dfC.pull] (.bool false) := over_ret 0 0 p 33554432 (by simp; omega) (by simp; omega)
   exact add_G a dfC (stL 2 p) [0, 0, 0] [0, 0, p] 0 0 p t H n id hid hH (stL_len _ _) (stL_right _ _ hp) rfl rfl rfl rfl rfl rfl rfl rfl o1 o2 ⟨ht.1, ht.2, by omega⟩ (by decide) hT hC
attribute [-go_sem] V.part V.setPart fillV in
theorem steady_core (p n t x : Int) (k : Nat) (hk : k < 3) (hx : x = k) (hp : -1048576 ≤ p ∧ p ≤ 1048576) (hn : 1 ≤ n ∧ n ≤ 20) (ht : 1 ≤ t ∧ t ≤ 5) : Ret pg zd1 [.int .i64 p, .int .i64 n, .int .i64 t, .int .i64 x] (.bool true) := by
 refine gimbaltop_TopSteady.of rfl (W_b ?_)
 unfold gimbaltop_TopSteady.k gimbaltop_TopSteady.res Ot kp Og Oh Oy Om Ol OL Oq Oi Oc ci
 have w1 : IntKind.i64.wrap (3 + x) = 3 + x := IntWalk.i64_in _ (by omega)
 have i1 : ¬ p < -1048576 := by omega
 have i2 : ¬ 1048576 < p := by omega
 have i3 : ¬ n < 1 := by omega
 have i4 : ¬ 20 < n := by omega
 have i5 : ¬ t < 1 := by omega
 have i6 : ¬ 5 < t := by omega
 have i7 : ¬ x < 0 := by omega
 have i8 : ¬ 2 < x := by omega
 obtain ⟨f, f1, f2, f3, hadd⟩ := add_steady k p t hk hp ht
 refine sgo ?_
 first | refine zab (zb2) (by simp) ?_ | refine zaa (zb2) (by simp) ?_
 refine sgo ?_
 first | refine zab (za0) (by simp) ?_ | refine zaa (za0) (by simp) ?_
 simp -dsimp -implicitDefEqProofs (disch := try exact zdE) only [go_sem, i1, i2, i3, i4, i5, i6, i7, i8]
 refine Exists.elim (new_G dfC dfC_fine _ _) fun id hr => Exists.elim hr fun H1 hr => Exists.elim hr fun n1 hr => zd3 hr.2 ?_
 obtain ⟨⟨id1, id2, hH, hrest⟩, _⟩ := hr
 clear hr
 have e3 : (3 + x).toNat = 3 + k := by omega
 have e4 : 3 + k < 6 := by omega
 simp -dsimp -implicitDefEqProofs (disch := try exact zdE) only [go_sem, w1, e3, e4]
 refine isnilB_ptr hH ?_
 simp -dsimp -implicitDefEqProofs (disch := try exact zdE) only [go_sem, w1, e3, e4, storeL _ k p hk]
 have hb : (H1.upd (n1 + 6) (some ⟨cints (stL k p), 1⟩)) (n1 + 6) = some ⟨cints (stL k p), 1⟩ := Hp.upd_same _ _ _
 have hH2 : (H1.upd (n1 + 6) (some ⟨cints (stL k p), 1⟩)) id = some ⟨[PreV rn0 0 dfC], 65⟩ := by rw [Hp.upd_ne _ _ (by omega)]; exact hH
 generalize H1.upd (n1 + 6) (some ⟨cints (stL k p), 1⟩) = H2 at *
 have hne : id ≠ n1 + 6 := by omega
 have hpi : ∀ v ∈ cints (stL k p), v.Pure := by simp [cints]
 have hlen : (cints (stL k p)).length = 6 := by simp [cints, stL_len]
 refine zf0 (T := Nat × Hp × Nat × Rn2) (fun s => ⟨E [(0, .int .i64 p), (1, .int .i64 n), (2, .int .i64 t), (3, .int .i64 x), (9, .bool true), (11, .ptr id 1 0 0), (13, .sl (cints (stL k p))), (14, .int .i64 s.1)], s.2.1, s.2.2.1, s.2.2.1⟩)
  (fun s => (s.1 : Int) ≤ n ∧ id < s.2.2.1 ∧ s.2.1 id = some ⟨[PreV s.2.2.2 0 dfC], 65⟩ ∧ Stead s.2.2.2 p t k s.1 ∧ s.2.2.2.ticks = t * s.1 ∧ s.2.2.2.count = s.1) (fun s => n.toNat - s.1) (0, H2.sub (fz1 (n1 + 6) (cints (stL k p))), n1 + 15, rn0) ?_ ?_ ?_
 ·have := Ghost.fz ⟨E [(0, .int .i64 p), (1, .int .i64 n), (2, .int .i64 t), (3, .int .i64 x), (9, .bool true), (11, .ptr id 1 0 0), (13, .own (n1 + 6) 6), (14, .int .i64 0)], H2, n1 + 15, n1 + 15⟩ (fz1 (n1 + 6) (cints (stL k p))) (fz1_ok hb hpi)
  unfold St.fz at this
  rw [E_subl] at this
  simpa [V.sub, fz1, hlen, hne] using this
 ·refine ⟨zdo, zdo, ?_, stead_zero p t k, by simp [rn0], by simp [rn0]⟩
  dsimp only
  simp [Hp.sub, fz1, hne, hH2, sub_PreV]
 rintro ⟨i, H, nx, a⟩ ⟨i1', i2', i3', i4', i5', i6'⟩
 dsimp only at i1' i2' i3' i4' i5' i6'
 by_cases hi : (i : Int) < n
 ·have hti : t * (i : Int) ≤ 1000000 := Int.le_trans (Int.mul_le_mul ht.2 (show (i : Int) ≤ 20 by omega) (by omega) (by omega)) (by decide)
  have hti0 : 0 ≤ t * (i : Int) := Int.mul_nonneg (by omega) (by omega)
  have c1 := fun n0 (h : id < n0) => hadd a H n0 id h i3' (by omega) (by omega)
  have wi : IntKind.i64.wrap ((i : Int) + 1) = ((i + 1 : Nat) : Int) := by rw [IntWalk.i64_in _ (by omega)]; omega
  have hst := stead_step i4' hk hp ht f1 f2 f3
  simp -dsimp -implicitDefEqProofs (disch := try exact zdE) only [go_sem, hi, fill_m]
  refine Exists.elim (c1 _ (by omega)) fun H3 hr => Exists.elim hr fun n3 hr => zd3 hr.2 ?_
  obtain ⟨⟨p1, p2⟩, _⟩ := hr
  clear hr
  simp -dsimp -implicitDefEqProofs (disch := try exact zdE) only [go_sem, wi]
  refine ⟨(i + 1, H3, _, _), .refl _, ⟨?_, ?_, p2, ?_, ?_, ?_⟩, ?_⟩
  ·dsimp only; omega
  ·dsimp only; omega
  ·exact ⟨hst.id, hst.okV, hst.okP, hst.v, hst.p⟩
  ·dsimp only; rw [i5']; push_cast; grind
  ·dsimp only; rw [i6']; push_cast; rfl
  ·dsimp only; omega
 ·have hin : (i : Int) = n := by omega
  have c2 := fun n0 (h : id < n0) => run_ret a 0 dfC H n0 id h i3'
  have ek : x.toNat = k := by omega
  have pv := part_RnVi a hk
  have pp := part_RnPi a hk
  have hv := i4'.v
  have hP := i4'.p
  have ov := i4'.okV k
  have oP := i4'.okP k
  have htn0 : 0 ≤ t * n := Int.mul_nonneg (by omega) (by omega)
  have htn : t * n ≤ 100 := Int.mul_le_mul ht.2 hn.2 (by omega) (by omega)
  rw [hin] at i5' i6'
  have qv : p * t * (i : Int) = p * (t * n) := by rw [hin, Int.mul_assoc]
  have qP : p * t * t * (i : Int) * (i : Int) = p * (t * n) * (t * n) := by rw [hin]; grind
  rw [qv] at hv
  rw [qP] at hP
  have wt : IntKind.i64.wrap (t * n) = t * n := IntWalk.i64_in _ (by omega)
  generalize hTe : t * n = T at *
  have b1 : -104857600 ≤ p * T ∧ p * T ≤ 104857600 := by
   constructor
   ·have := Int.mul_le_mul_of_nonneg_right hp.1 htn0
    omega
   ·have := Int.mul_le_mul_of_nonneg_right hp.2 htn0
    omega
  have wp : IntKind.i64.wrap (p * T) = p * T := IntWalk.i64_in _ (by omega)
  generalize hUe : p * T = U at *
  have b2 : -10485760000 ≤ U * T ∧ U * T ≤ 10485760000 := by
   constructor
   ·have := Int.mul_le_mul_of_nonneg_right b1.1 htn0
    omega
   ·have := Int.mul_le_mul_of_nonneg_right b1.2 htn0
    omega
  have wP : IntKind.i64.wrap (U * T) = U * T := IntWalk.i64_in _ (by omega)
  generalize hYe : U * T = Y at *
  simp -dsimp -implicitDefEqProofs (disch := try exact zdE) only [go_sem, hi]
  refine Exists.elim (c2 _ (by omega)) fun H3 hr => Exists.elim hr fun n3 hr => zd3 hr.2 ?_
  obtain ⟨⟨p1, p2⟩, _⟩ := hr
  clear hr
  generalize a.V k = v at *
  generalize a.P k = w at *
  obtain ⟨vl, vh, va⟩ := v
  obtain ⟨wl, wh, wa⟩ := w
  unfold EncQ at hv hP
  unfold OkS ze0 at ov oP
  dsimp only at hv hP ov oP
  have hv' : va = true ∨ (va = false ∧ IntKind.i64.wrap (vl * 100) = vl * 100 ∧ IntKind.i64.wrap (vh * 100) = vh * 100 ∧ vl * 100 ≤ U ∧ U ≤ vh * 100) := by
   rcases ov with h | ⟨h, h2⟩
   ·injection h with _ _ h; exact .inl h
   ·rcases hv with h3 | h3
    ·exact .inl h3
    ·exact .inr ⟨h, IntWalk.i64_in _ (by omega), IntWalk.i64_in _ (by omega), h3⟩
  have hP' : wa = true ∨ (wa = false ∧ IntKind.i64.wrap (wl * 20000) = wl * 20000 ∧ IntKind.i64.wrap (wh * 20000) = wh * 20000 ∧ wl * 20000 ≤ Y ∧ Y ≤ wh * 20000) := by
   rcases oP with h | ⟨h, h2⟩
   ·injection h with _ _ h; exact .inl h
   ·rcases hP with h3 | h3
    ·exact .inl h3
    ·exact .inr ⟨h, IntWalk.i64_in _ (by omega), IntWalk.i64_in _ (by omega), h3⟩
  clear hv hP ov oP
  rcases hv' with rfl | ⟨rfl, v1, v2, v3, v4⟩ <;> rcases hP' with rfl | ⟨rfl, u1, u2, u3, u4⟩
  ·simp -dsimp -implicitDefEqProofs (disch := try exact zdE) only [go_sem, ek, pv, pp, hTe, hUe, hYe, wt, wp, wP, i5', i6']
   done
  ·simp -dsimp -implicitDefEqProofs (disch := try exact zdE) only [go_sem, ek, pv, pp, hTe, hUe, hYe, wt, wp, wP, i5', i6', u1, u2, u3, u4]
   done
  ·simp -dsimp -implicitDefEqProofs (disch := try exact zdE) only [go_sem, ek, pv, pp, hTe, hUe, hYe, wt, wp, wP, i5', i6', v1, v2, v3, v4]
   done
  ·simp -dsimp -implicitDefEqProofs (disch := try exact zdE) only [go_sem, ek, pv, pp, hTe, hUe, hYe, wt, wp, wP, i5', i6', v1, v2, v3, v4, u1, u2, u3, u4]
   done
theorem TopSteady_true (p n t x : Int) : Ret pg zd1 [.int .i64 p, .int .i64 n, .int .i64 t, .int .i64 x] (.bool true) := by
 by_cases hall : (-1048576 ≤ p ∧ p ≤ 1048576) ∧ (1 ≤ n ∧ n ≤ 20) ∧ (1 ≤ t ∧ t ≤ 5) ∧ 0 ≤ x ∧ x ≤ 2
 ·exact steady_core p n t x x.toNat (by omega) (by omega) hall.1 hall.2.1 hall.2.2.1
 refine gimbaltop_TopSteady.of rfl (W_b ?_)
 unfold gimbaltop_TopSteady.k gimbaltop_TopSteady.res Ot kp Og Oh Oy Om Ol OL Oq Oi Oc ci
 by_cases i1 : p < -1048576
 ·refine sgo ?_
  first | refine zab (zb2) (by simp) ?_ | refine zaa (zb2) (by simp) ?_
  refine sgo ?_
  first | refine zab (za0) (by simp) ?_ | refine zaa (za0) (by simp) ?_
  simp -dsimp -implicitDefEqProofs (disch := try exact zdE) only [go_sem, i1]
  done
 by_cases i2 : 1048576 < p
 ·refine sgo ?_
  first | refine zab (zb2) (by simp) ?_ | refine zaa (zb2) (by simp) ?_
  refine sgo ?_
  first | refine zab (za0) (by simp) ?_ | refine zaa (za0) (by simp) ?_
  simp -dsimp -implicitDefEqProofs (disch := try exact zdE) only [go_sem, i1, i2]
  done
 by_cases i3 : n < 1
 ·refine sgo ?_
  first | refine zab (zb2) (by simp) ?_ | refine zaa (zb2) (by simp) ?_
  refine sgo ?_
  first | refine zab (za0) (by simp) ?_ | refine zaa (za0) (by simp) ?_
  simp -dsimp -implicitDefEqProofs (disch := try exact zdE) only [go_sem, i1, i2, i3]
  done
 by_cases i4 : 20 < n
 ·refine sgo ?_
  first | refine zab (zb2) (by simp) ?_ | refine zaa (zb2) (by simp) ?_
  refine sgo ?_
  first | refine zab (za0) (by simp) ?_ | refine zaa (za0) (by simp) ?_
  simp -dsimp -implicitDefEqProofs (disch := try exact zdE) only [go_sem, i1, i2, i3, i4]
  done
 by_cases i5 : t < 1
 ·refine sgo ?_
  first | refine zab (zb2) (by simp) ?_ | refine zaa (zb2) (by simp) ?_
  refine sgo ?_
  first | refine zab (za0) (by simp) ?_ | refine zaa (za0) (by simp) ?_
  simp -dsimp -implicitDefEqProofs (disch := try exact zdE) only [go_sem, i1, i2, i3, i4, i5]
  done
 by_cases i6 : 5 < t
 ·refine sgo ?_
  first | refine zab (zb2) (by simp) ?_ | refine zaa (zb2) (by simp) ?_
  refine sgo ?_
  first | refine zab (za0) (by simp) ?_ | refine zaa (za0) (by simp) ?_
  simp -dsimp -implicitDefEqProofs (disch := try exact zdE) only [go_sem, i1, i2, i3, i4, i5, i6]
  done
 by_cases i7 : x < 0
 ·refine sgo ?_
  first | refine zab (zb2) (by simp) ?_ | refine zaa (zb2) (by simp) ?_
  refine sgo ?_
  first | refine zab (za0) (by simp) ?_ | refine zaa (za0) (by simp) ?_
  simp -dsimp -implicitDefEqProofs (disch := try exact zdE) only [go_sem, i1, i2, i3, i4, i5, i6, i7]
  done
 by_cases i8 : 2 < x
 ·refine sgo ?_
  first | refine zab (zb2) (by simp) ?_ | refine zaa (zb2) (by simp) ?_
  refine sgo ?_
  first | refine zab (za0) (by simp) ?_ | refine zaa (za0) (by simp) ?_
  simp -dsimp -implicitDefEqProofs (disch := try exact zdE) only [go_sem, i1, i2, i3, i4, i5, i6, i7, i8]
  done
 exact absurd (by omega) hall
end Go.Gim
