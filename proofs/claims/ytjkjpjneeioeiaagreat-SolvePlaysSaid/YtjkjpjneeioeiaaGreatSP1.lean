import Derived.Test.YtjkjpjneeioeiaaGreatCK1
import Derived.Test.YtjkjpjneeioeiaaGreatFA2
import Derived.Test.YtjkjpjneeioeiaaGreatGRC
import Derived.Test.YtjkjpjneeioeiaaGreatSV6
import Derived.Test.YtjkjpjneeioeiaaGreatLR6
import Derived.Test.YtjkjpjneeioeiaaGreatGSR
import Derived.Test.YtjkjpjneeioeiaaGreatRK
import Derived.Test.YtjkjpjneeioeiaaGreatRD8
import Derived.Test.YtjkjpjneeioeiaaGreatSA1
set_option linter.unusedSimpArgs false
set_option linter.unusedVariables false
/- The document's word on a config. -/
set_option maxRecDepth 100000
set_option maxHeartbeats 4000000
namespace Go.Gim
open Go.Proofs
theorem za4 (n low top : Int) : Ret pg zaw [.int .i64 n, .int .i64 low, .int .i64 top] (.bool (outB n low top)) := by
 refine gimbalref13_out.of rfl (W_b ?_)
 unfold gimbalref13_out.k gimbalref13_out.res Ot kp Og Om outB
 by_cases h : n < low
 ·simp -dsimp -implicitDefEqProofs (disch := try exact zdL) only [go_sem, IntWalk.i64_in, wu64, wu32, wu8, Nat.mod_eq_of_lt, shr32, shr63, shl32, or32, quo64, quo32, zfk, remk, zct, zcs, zd1, zd0, zb5, Nat.add_assoc, za7, lt_ne, gt_ne, zdu, dlt_t, dlt_f, dle_t, dle_f, deq_t, deq_f, zby, zec, zfd, zbf, zbk, zbc, zba, zcu, zcw, zcx, zdl, zae, List.length_set, ge_iff_le, gt_iff_lt, Int.toNat_natCast, zcf, zdm, zcj, zdp, zdn, zcr, zb2, zfj, zb3, zb4, zdt, decide_eq_true h, Bool.true_or]
 ·simp -dsimp -implicitDefEqProofs (disch := try exact zdL) only [go_sem, IntWalk.i64_in, wu64, wu32, wu8, Nat.mod_eq_of_lt, shr32, shr63, shl32, or32, quo64, quo32, zfk, remk, zct, zcs, zd1, zd0, zb5, Nat.add_assoc, za7, lt_ne, gt_ne, zdu, dlt_t, dlt_f, dle_t, dle_f, deq_t, deq_f, zby, zec, zfd, zbf, zbk, zbc, zba, zcu, zcw, zcx, zdl, zae, List.length_set, ge_iff_le, gt_iff_lt, Int.toNat_natCast, zcf, zdm, zcj, zdp, zdn, zcr, zb2, zfj, zb3, zb4, zdt, decide_eq_false h, Bool.false_or]
def any4B (a b c d top : Int) : Bool := outB a 1 top || outB b 1 top || outB c 1 top || outB d 1 top
theorem any4_ret (a b c d top : Int) : Ret pg zez [.agg [.int .i64 a, .int .i64 b, .int .i64 c, .int .i64 d], .int .i64 top] (.bool (any4B a b c d top)) := by
 have h0 : redV (.aptr 4 1 false) [.pp (.agg [.int .i64 a, .int .i64 b, .int .i64 c, .int .i64 d]), .int .i64 0] = some (.pp (.int .i64 a)) := by simp [redV, V.part, V.cells, V.isAgg]
 have h1 : redV (.aptr 4 1 false) [.pp (.agg [.int .i64 a, .int .i64 b, .int .i64 c, .int .i64 d]), .int .i64 1] = some (.pp (.int .i64 b)) := by simp [redV, V.part, V.cells, V.isAgg]
 have h2 : redV (.aptr 4 1 false) [.pp (.agg [.int .i64 a, .int .i64 b, .int .i64 c, .int .i64 d]), .int .i64 2] = some (.pp (.int .i64 c)) := by simp [redV, V.part, V.cells, V.isAgg]
 have h3 : redV (.aptr 4 1 false) [.pp (.agg [.int .i64 a, .int .i64 b, .int .i64 c, .int .i64 d]), .int .i64 3] = some (.pp (.int .i64 d)) := by simp [redV, V.part, V.cells, V.isAgg]
 refine gimbalref13_any4.of rfl (W_b ?_)
 unfold gimbalref13_any4.k gimbalref13_any4.res Ot kp Og Om Ol ci any4B
 simp -dsimp -implicitDefEqProofs (disch := try exact zdE) only [go_sem, h0, h1, h2, h3]
 first | refine zaa (za4 _ _ _) (by simp) ?_ | refine zab (za4 _ _ _) (by simp) ?_
 by_cases e0 : outB a 1 top = true
 ·simp -dsimp -implicitDefEqProofs (disch := try exact zdE) only [go_sem, h0, h1, h2, h3, e0, Bool.true_or, Bool.or_true]
 ·have e0 : outB a 1 top = false := by simpa using e0
  simp -dsimp -implicitDefEqProofs (disch := try exact zdE) only [go_sem, h0, h1, h2, h3, e0, Bool.false_or]
  first | refine zaa (za4 _ _ _) (by simp) ?_ | refine zab (za4 _ _ _) (by simp) ?_
  by_cases e1 : outB b 1 top = true
  ·simp -dsimp -implicitDefEqProofs (disch := try exact zdE) only [go_sem, h0, h1, h2, h3, e0, e1, Bool.true_or, Bool.or_true]
  ·have e1 : outB b 1 top = false := by simpa using e1
   simp -dsimp -implicitDefEqProofs (disch := try exact zdE) only [go_sem, h0, h1, h2, h3, e0, e1, Bool.false_or]
   first | refine zaa (za4 _ _ _) (by simp) ?_ | refine zab (za4 _ _ _) (by simp) ?_
   by_cases e2 : outB c 1 top = true
   ·simp -dsimp -implicitDefEqProofs (disch := try exact zdE) only [go_sem, h0, h1, h2, h3, e0, e1, e2, Bool.true_or, Bool.or_true]
   ·have e2 : outB c 1 top = false := by simpa using e2
    simp -dsimp -implicitDefEqProofs (disch := try exact zdE) only [go_sem, h0, h1, h2, h3, e0, e1, e2, Bool.false_or]
    first | refine zaa (za4 _ _ _) (by simp) ?_ | refine zab (za4 _ _ _) (by simp) ?_
    simp -dsimp -implicitDefEqProofs (disch := try exact zdE) only [go_sem, h0, h1, h2, h3, e0, e1, e2, Bool.false_or]
theorem fine1 (s : ByteArray) (x lo hi : Int) : fineB (s, [x], lo, hi) = !outB x lo hi := by
 unfold fineB outB; simp only [List.all_cons, List.all_nil, Bool.and_true]
 rw [Bool.eq_iff_iff]; simp [Bool.and_eq_true, decide_eq_true_eq]
theorem fine4 (s : ByteArray) (a b c d hi : Int) : fineB (s, [a, b, c, d], 1, hi) = !any4B a b c d hi := by
 unfold fineB any4B outB; simp only [List.all_cons, List.all_nil, Bool.and_true]
 rw [Bool.eq_iff_iff]; simp [Bool.and_eq_true, decide_eq_true_eq]; omega
theorem if1 (b : Bool) (X : ByteArray × Int) (s : ByteArray) : (if b = false then X else (s, 130)).1 = if b = true then s else X.1 := by cases b <;> rfl
theorem chk_name (c : Cfg) : (chk c).1 = if outB c.rate 1 1000 = true then ⟨#[82, 97, 116, 101]⟩ else if outB c.step 1 1000 = true then ⟨#[83, 116, 101, 112]⟩ else if outB c.keys 2 5 = true then ⟨#[75, 101, 121, 115]⟩ else if outB c.gap 1 1000 = true then ⟨#[71, 97, 112]⟩
  else if outB c.turn 1 4194304 = true then ⟨#[84, 117, 114, 110]⟩ else if outB c.pull 1 67108864 = true then ⟨#[80, 117, 108, 108]⟩ else if any4B c.k0 c.k1 c.k2 c.k3 32768 = true then ⟨#[75, 110, 101, 101, 115]⟩ else if any4B c.w0 c.w1 c.w2 c.w3 100 = true then ⟨#[87, 101, 105, 103, 104, 116, 115]⟩
  else if outB c.rounds 1 30 = true then ⟨#[82, 111, 117, 110, 100, 115]⟩ else if outB c.raises 0 12 = true then ⟨#[82, 97, 105, 115, 101, 115]⟩ else if outB c.flat 0 1000000000 = true then ⟨#[70, 108, 97, 116]⟩ else ⟨#[]⟩ := by
 unfold chk zat
 simp only [ze2, fine1, fine4, Bool.not_eq_true', if1]
theorem r13check_ret (c : Cfg) : Ret pg zf1 [CV c] (.str (chk c).1) := by
 rw [chk_name]
 refine gimbalref13_Check.of rfl (W_b ?_)
 unfold gimbalref13_Check.k gimbalref13_Check.res Ot kp Ol OL Oq ci
 simp -dsimp -implicitDefEqProofs (disch := try exact zdE) only [go_sem, zdk, zdj, zft]
 first | refine zaa (za4 _ _ _) (by simp) ?_ | refine zab (za4 _ _ _) (by simp) ?_
 by_cases e0 : outB c.rate 1 1000 = true
 ·rw [if_pos e0]
  simp -dsimp -implicitDefEqProofs (disch := try exact zdE) only [go_sem, e0]
 ·rw [if_neg e0]
  have e0 : outB c.rate 1 1000 = false := by simpa using e0
  simp -dsimp -implicitDefEqProofs (disch := try exact zdE) only [go_sem, e0, zdk, zdj, zft]
  first | refine zaa (za4 _ _ _) (by simp) ?_ | refine zab (za4 _ _ _) (by simp) ?_
  by_cases e1 : outB c.step 1 1000 = true
  ·rw [if_pos e1]
   simp -dsimp -implicitDefEqProofs (disch := try exact zdE) only [go_sem, e1]
  ·rw [if_neg e1]
   have e1 : outB c.step 1 1000 = false := by simpa using e1
   simp -dsimp -implicitDefEqProofs (disch := try exact zdE) only [go_sem, e1, zdk, zdj, zft]
   first | refine zaa (za4 _ _ _) (by simp) ?_ | refine zab (za4 _ _ _) (by simp) ?_
   by_cases e2 : outB c.keys 2 5 = true
   ·rw [if_pos e2]
    simp -dsimp -implicitDefEqProofs (disch := try exact zdE) only [go_sem, e2]
   ·rw [if_neg e2]
    have e2 : outB c.keys 2 5 = false := by simpa using e2
    simp -dsimp -implicitDefEqProofs (disch := try exact zdE) only [go_sem, e2, zdk, zdj, zft]
    first | refine zaa (za4 _ _ _) (by simp) ?_ | refine zab (za4 _ _ _) (by simp) ?_
    by_cases e3 : outB c.gap 1 1000 = true
    ·rw [if_pos e3]
     simp -dsimp -implicitDefEqProofs (disch := try exact zdE) only [go_sem, e3]
    ·rw [if_neg e3]
     have e3 : outB c.gap 1 1000 = false := by simpa using e3
     simp -dsimp -implicitDefEqProofs (disch := try exact zdE) only [go_sem, e3, zdk, zdj, zft]
     first | refine zaa (za4 _ _ _) (by simp) ?_ | refine zab (za4 _ _ _) (by simp) ?_
     by_cases e4 : outB c.turn 1 4194304 = true
     ·rw [if_pos e4]
      simp -dsimp -implicitDefEqProofs (disch := try exact zdE) only [go_sem, e4]
     ·rw [if_neg e4]
      have e4 : outB c.turn 1 4194304 = false := by simpa using e4
      simp -dsimp -implicitDefEqProofs (disch := try exact zdE) only [go_sem, e4, zdk, zdj, zft]
      first | refine zaa (za4 _ _ _) (by simp) ?_ | refine zab (za4 _ _ _) (by simp) ?_
      by_cases e5 : outB c.pull 1 67108864 = true
      ·rw [if_pos e5]
       simp -dsimp -implicitDefEqProofs (disch := try exact zdE) only [go_sem, e5]
      ·rw [if_neg e5]
       have e5 : outB c.pull 1 67108864 = false := by simpa using e5
       simp -dsimp -implicitDefEqProofs (disch := try exact zdE) only [go_sem, e5, zdk, zdj, zft]
       first | refine zaa (any4_ret _ _ _ _ _) (by simp) ?_ | refine zab (any4_ret _ _ _ _ _) (by simp) ?_
       by_cases e6 : any4B c.k0 c.k1 c.k2 c.k3 32768 = true
       ·rw [if_pos e6]
        simp -dsimp -implicitDefEqProofs (disch := try exact zdE) only [go_sem, e6]
       ·rw [if_neg e6]
        have e6 : any4B c.k0 c.k1 c.k2 c.k3 32768 = false := by simpa using e6
        simp -dsimp -implicitDefEqProofs (disch := try exact zdE) only [go_sem, e6, zdk, zdj, zft]
        first | refine zaa (any4_ret _ _ _ _ _) (by simp) ?_ | refine zab (any4_ret _ _ _ _ _) (by simp) ?_
        by_cases e7 : any4B c.w0 c.w1 c.w2 c.w3 100 = true
        ·rw [if_pos e7]
         simp -dsimp -implicitDefEqProofs (disch := try exact zdE) only [go_sem, e7]
        ·rw [if_neg e7]
         have e7 : any4B c.w0 c.w1 c.w2 c.w3 100 = false := by simpa using e7
         simp -dsimp -implicitDefEqProofs (disch := try exact zdE) only [go_sem, e7, zdk, zdj, zft]
         first | refine zaa (za4 _ _ _) (by simp) ?_ | refine zab (za4 _ _ _) (by simp) ?_
         by_cases e8 : outB c.rounds 1 30 = true
         ·rw [if_pos e8]
          simp -dsimp -implicitDefEqProofs (disch := try exact zdE) only [go_sem, e8]
         ·rw [if_neg e8]
          have e8 : outB c.rounds 1 30 = false := by simpa using e8
          simp -dsimp -implicitDefEqProofs (disch := try exact zdE) only [go_sem, e8, zdk, zdj, zft]
          first | refine zaa (za4 _ _ _) (by simp) ?_ | refine zab (za4 _ _ _) (by simp) ?_
          by_cases e9 : outB c.raises 0 12 = true
          ·rw [if_pos e9]
           simp -dsimp -implicitDefEqProofs (disch := try exact zdE) only [go_sem, e9]
          ·rw [if_neg e9]
           have e9 : outB c.raises 0 12 = false := by simpa using e9
           simp -dsimp -implicitDefEqProofs (disch := try exact zdE) only [go_sem, e9, zdk, zdj, zft]
           first | refine zaa (za4 _ _ _) (by simp) ?_ | refine zab (za4 _ _ _) (by simp) ?_
           by_cases e10 : outB c.flat 0 1000000000 = true
           ·rw [if_pos e10]
            simp -dsimp -implicitDefEqProofs (disch := try exact zdE) only [go_sem, e10]
           ·rw [if_neg e10]
            have e10 : outB c.flat 0 1000000000 = false := by simpa using e10
            simp -dsimp -implicitDefEqProofs (disch := try exact zdE) only [go_sem, e10, zdk, zdj, zft]
end Go.Gim
/- Reference 19: the whole number nearest to a quotient. -/
set_option maxRecDepth 100000
set_option maxHeartbeats 4000000
namespace Go.Gim
open Go.Proofs
theorem dlim_mono {x y : Int} (h : x.natAbs ≤ y.natAbs) : dlim x ≤ dlim y := dlim_of (Nat.lt_of_le_of_lt h (dlim_lt y))
theorem dlim_fd (x y : Int) : dlim (x.fdiv y) ≤ dlim x := by
 refine dlim_mono ?_
 match x, y with
 | 0, _ => simp
 | .ofNat (m + 1), .ofNat n => exact Nat.div_le_self _ _
 | .ofNat (m + 1), .negSucc n =>
  show m / (n + 1) + 1 ≤ m + 1
  have := Nat.div_le_self m (n + 1)
  omega
 | .negSucc m, 0 => simp
 | .negSucc m, .ofNat (n + 1) =>
  show m / (n + 1) + 1 ≤ m + 1
  have := Nat.div_le_self m (n + 1)
  omega
 | .negSucc m, .negSucc n =>
  show (m + 1) / (n + 1) ≤ m + 1
  exact Nat.div_le_self _ _
theorem fdiv_two {a b q : Int} (hb : 0 < b) (h1 : b * q ≤ a) (h2 : a < b * q + b) : a.fdiv b = q := by
 rw [Int.fdiv_eq_ediv_of_nonneg _ (by omega)]
 exact ((Int.ediv_emod_unique hb).2 ⟨show (a - b * q) + b * q = a by omega, by omega, by omega⟩).1
theorem near_round (num den : Int) (hd : 0 < den) : (2 * num + den).fdiv (2 * den) = num.fdiv den + if den ≤ 2 * num.fmod den then 1 else 0 := by
 have h1 := Int.mul_fdiv_add_fmod num den
 have h2 := Int.fmod_nonneg_of_pos num hd
 have h3 := Int.fmod_lt_of_pos num hd
 generalize num.fdiv den = q at *
 generalize num.fmod den = r at *
 have e : 2 * den * q = 2 * (den * q) := Int.mul_assoc _ _ _
 split
 ·refine fdiv_two (by omega) ?_ ?_
  ·rw [Int.mul_add, e]; omega
  ·rw [Int.mul_add, e]; omega
 ·refine fdiv_two (by omega) ?_ ?_
  ·rw [Int.add_zero, e]; omega
  ·rw [Int.add_zero, e]; omega
theorem rnearest_ret (num den : Int) (hd : 0 < den) (hn : dlim num ≤ 10000000) (hdl : dlim den ≤ 10000000) : Ret pg ze9 [DV num, DV den] (.int .i64 (nearF num den)) := by
 have e := near_round num den hd
 have h2 := Int.fmod_nonneg_of_pos num hd
 have h3 := Int.fmod_lt_of_pos num hd
 have l1 := dlim_fd num den
 have l2 : dlim (num.fmod den) ≤ dlim den := dlim_mono (by omega)
 have l3 := dlim_add (num.fmod den) (num.fmod den)
 have l4 := dlim_add (num.fdiv den) 1
 have l5 := zbx (x := 1) (by omega)
 have l6 := zbx (x := 10000000) (by omega)
 have l7 := zbx (x := -10000000) (by omega)
 have cq := r_quo num den (by omega) (by omega) (by omega)
 unfold nearF
 rw [e]
 refine gimbalref19_nearest.of rfl (W_b ?_)
 unfold gimbalref19_nearest.k gimbalref19_nearest.res Ot kp kd Oy Om OL Oc ci
 refine sgo ?_
 first | refine zaa (cq) (by simp) ?_ | refine zab (cq) (by simp) ?_
 generalize num.fdiv den = q at *
 generalize num.fmod den = t at *
 refine sgo ?_
 first | refine zaa (r_add t t (by omega) (by omega)) (by simp) ?_ | refine zab (r_add t t (by omega) (by omega)) (by simp) ?_
 refine sgo ?_
 first | refine zaa (r_cmp (t + t) den (by omega) (by omega)) (by simp) ?_ | refine zab (r_cmp (t + t) den (by omega) (by omega)) (by simp) ?_
 refine sgo ?_
 obtain ⟨q', hq⟩ : ∃ q' : Int, (q + if den ≤ 2 * t then 1 else 0) = q' := ⟨_, rfl⟩
 rw [hq]
 have l8 : dlim q' ≤ 10000002 := by
  rw [← hq]
  split
  ·omega
  ·rw [Int.add_zero]; omega
 refine csel_meet (fun env G nx => env 5 = .ptr 10 1 0 0 ∧ 10 < nx ∧ G 10 = some ⟨[DV q'], 2⟩) (fun h5 => ?_) (fun h5 => ?_) ?_
 ·have h5 : 0 ≤ (t + t - den).sign := by simpa using h5
  have h6 : den ≤ 2 * t := by
   rcases Int.lt_or_le (t + t - den) 0 with h | h
   ·have := sign_neg_iff.2 h; omega
   ·omega
  rw [if_pos h6] at hq
  refine sgo ?_
  first | refine zaa (r_of 1 (by omega)) (by simp) ?_ | refine zab (r_of 1 (by omega)) (by simp) ?_
  refine sgo ?_
  first | refine zaa (r_add q 1 (by omega) (by omega)) (by simp) ?_ | refine zab (r_add q 1 (by omega) (by omega)) (by simp) ?_
  simp -dsimp -implicitDefEqProofs (disch := try exact zdE) only [go_sem, hq]
  done
 ·have h5 : ¬ 0 ≤ (t + t - den).sign := by simpa using h5
  have h6 : ¬ den ≤ 2 * t := by
   intro h
   have : 0 ≤ (t + t - den).sign := Int.sign_nonneg_iff.2 (by omega)
   omega
  rw [if_neg h6, Int.add_zero] at hq
  simp -dsimp -implicitDefEqProofs (disch := try exact zdE) only [go_sem, hq]
  done
 ·rintro env G nx ⟨f5, fn, g5⟩
  simp -dsimp -implicitDefEqProofs (disch := try exact zdE) only [go_sem, f5, g5]
  first | refine zaa (r_of 10000000 (by omega)) (by simp) ?_ | refine zab (r_of 10000000 (by omega)) (by simp) ?_
  simp -dsimp -implicitDefEqProofs (disch := try exact zdE) only [go_sem, f5, g5]
  first | refine zaa (r_cmp q' 10000000 (by omega) (by omega)) (by simp) ?_ | refine zab (r_cmp q' 10000000 (by omega) (by omega)) (by simp) ?_
  simp -dsimp -implicitDefEqProofs (disch := try exact zdE) only [go_sem, f5, g5]
  first | refine zaa (r_minus 10000000 (by omega)) (by simp) ?_ | refine zab (r_minus 10000000 (by omega)) (by simp) ?_
  simp -dsimp -implicitDefEqProofs (disch := try exact zdE) only [go_sem, f5, g5]
  first | refine zaa (r_cmp q' (-10000000) (by omega) (by omega)) (by simp) ?_ | refine zab (r_cmp q' (-10000000) (by omega) (by omega)) (by simp) ?_
  by_cases h1 : 10000000 < q'
  ·have s1 : 0 < (q' - 10000000).sign := by rw [ze5]; omega
   simp -dsimp -implicitDefEqProofs (disch := try exact zdE) only [go_sem, f5, g5, s1]
   congr 2; omega
  ·have s1 : ¬ 0 < (q' - 10000000).sign := by rw [ze5]; omega
   by_cases h2 : q' < -10000000
   ·have s2 : (q' - -10000000).sign < 0 := by rw [sign_neg_iff]; omega
    simp -dsimp -implicitDefEqProofs (disch := try exact zdE) only [go_sem, f5, g5, s1, s2]
    congr 2; omega
   ·have s2 : ¬ (q' - -10000000).sign < 0 := by rw [sign_neg_iff]; omega
    simp -dsimp -implicitDefEqProofs (disch := try exact zdE) only [go_sem, f5, g5, s1, s2]
    first | refine zaa (r_small q' (by omega)) (by simp) ?_ | refine zab (r_small q' (by omega)) (by simp) ?_
    refine sgo ?_
    congr 2; omega
end Go.Gim
/- Reference 18: how steep the cost is, as a row that may be written. -/
set_option maxRecDepth 100000
set_option maxHeartbeats 4000000
namespace Go.Gim
open Go.Proofs
theorem rsteep18_G (g : Gr) (x : List Int) (h : GOkay g x) (h1 : 1 ≤ g.n) (H0 : Hp) (n0 : Nat) :
  ∃ H' n' id, (n0 ≤ id ∧ id < n' ∧ H' id = some ⟨(zc9 g x).map DV, 2⟩ ∧ ∀ b, b < n0 → H' b = H0 b) ∧ RetG pg zb8 [DGV g, ints x] H0 n0 (.own id g.n) H' n' := by
 suffices h : ∃ r H' n', (∃ id, r = .own id g.n ∧ n0 ≤ id ∧ id < n' ∧ H' id = some ⟨(zc9 g x).map DV, 2⟩ ∧ ∀ b, b < n0 → H' b = H0 b) ∧ RetG pg zb8 [DGV g, ints x] H0 n0 r H' n' by
  obtain ⟨_, H', n', ⟨id, rfl, h1⟩, h⟩ := h
  exact ⟨H', n', id, h1, h⟩
 obtain ⟨hn, h11, h60, hr, hx, hsq, hq, sP, sQ, sc, sd⟩ := h
 have hcl : (za2 g x).length = g.rows.length := by simp [za2]
 have hcr : ∀ l ∈ za2 g x, l.length = g.n ∧ ∀ v ∈ l, In64 v := fun l hl => by
  obtain ⟨r, hr', rfl⟩ := List.mem_map.1 hl
  have h1 := (hr r hr').len
  exact ⟨by simp [zch]; omega, fun v hv => by have := steepR_bd (x := x) (hr r hr') v hv; exact ⟨by omega, by omega⟩⟩
 have hcin := fun l hl => (hcr l hl).2
 have hsl : (zc9 g x).length = g.n := by simp [zc9]
 have e1 := numbers_ret x (by omega) hx.in64
 have hS0 : ∀ k, stS g x 0 k = zar g.P x g.n k - g.Q.getD k 0 := fun k => by unfold stS colS; rw [List.take_zero]; simp [sumL]
 have hSl : ∀ i k, lim (stS g x i k) ≤ 1000 := fun i k => by
  have l2 := colS_lim hcin i k
  have l3 := zhp h11 sP hx k
  have l4 := sQ k
  have l5 := zif (zar g.P x g.n k) (g.Q.getD k 0)
  have l6 := zbv (colS (za2 g x) i k) g.den
  have l7 := zhu (zar g.P x g.n k - g.Q.getD k 0) (colS (za2 g x) i k * g.den)
  unfold stS; omega
 refine gimbalref18_Steep.ofG rfl (W_b ?_)
 unfold gimbalref18_Steep.k gimbalref18_Steep.res Ot kp kd Oy Om Ol OL Oq Oi Oc On ci
 refine sgo ?_
 first | refine zaa (e1) (by simp) ?_ | refine zab (e1) (by simp) ?_
 refine sgo ?_
 obtain ⟨H1, n1, id, ⟨c1, c2, c3, c4⟩, hc⟩ := rslope_G g.P g.Q x g.c g.n H0 (n0 + 8) (by omega) h1 hsq hq hn (fun i j => by have := dl_of (sP i j); omega) (fun i => by have := dl_of (sQ i); omega) (fun i => by have := dl_of (hx.lim i); omega)
 refine zf5 hc ?_
 refine sgo ?_
 rw [show (List.range g.n).map (fun k => zar g.P x g.n k - g.Q.getD k 0) = (List.range g.n).map (stS g x 0) from List.map_congr_left fun k _ => (hS0 k).symm] at c3
 refine zel (T := Nat × Hp × Nat) (fun t => ⟨E [(1, ints x), (2, .pp (DGV g)), (5, .own id g.n), (6, .int .i64 t.1)], t.2.1, t.2.2, t.2.2⟩)
  (fun t => t.1 ≤ g.rows.length ∧ id < t.2.2 ∧ (∀ b, b < n0 → t.2.1 b = H0 b) ∧ t.2.1 id = some ⟨((List.range g.n).map (stS g x t.1)).map DV, 2⟩) (fun t => g.rows.length - t.1) (0, H1, _) (Ghost.refl _) ⟨zdo, zdo, fun b hb => c4 b (by omega), c3⟩ ?_
 clear c3
 rintro ⟨i, H, nx⟩ ⟨i1, i2, i4, i3⟩
 dsimp only at i1 i2 i3 i4
 by_cases hi : i < g.rows.length
 ·have hri := hr _ (zao default hi)
  have hml := hcr _ (zao [] (show i < (za2 g x).length by omega))
  have hgs : (za2 g x).getD i [] = zch (g.rows.getD i default) x := by simp [za2, List.getD_eq_getElem?_getD, hi]
  have hst := fun k => colS_step (ls := za2 g x) (i := i) (by omega) k
  rw [hgs] at hml hst
  obtain ⟨hl1, hl2⟩ := hml
  generalize hX : g.rows.getD i default = r at *
  simp -dsimp -implicitDefEqProofs (disch := try exact zdE) only [go_sem, hX]
  first | refine zaa (rsteep_ret r x hri hx) (by simp) ?_ | refine zab (rsteep_ret r x hri hx) (by simp) ?_
  rw [midF_zero (stS g x i) (stS g x (i + 1))] at i3
  refine sgo ?_
  refine zel (T := Nat × Hp × Nat) (fun t => ⟨E [(1, ints x), (2, .pp (DGV g)), (5, .own id g.n), (6, .int .i64 i), (7, ints (zch r x)), (8, .int .i64 t.1)], t.2.1, t.2.2, t.2.2⟩)
   (fun t => t.1 ≤ g.n ∧ id < t.2.2 ∧ (∀ b, b < n0 → t.2.1 b = H0 b) ∧ t.2.1 id = some ⟨((List.range g.n).map (midF (stS g x i) (stS g x (i + 1)) t.1)).map DV, 2⟩) (fun t => g.n - t.1) (0, H, _) (Ghost.refl _) ⟨zdo, zdo, i4, i3⟩ ?_
  clear i3
  rintro ⟨j, H2, nx2⟩ ⟨j1, j2, j4, j3⟩
  dsimp only at j1 j2 j3 j4
  by_cases hj : j < g.n
  ·have hv := getD_in hl2 j
   have hget := midF_get (f := stS g x i) (g := stS g x (i + 1)) hj
   have hset := midF_set (stS g x i) (stS g x (i + 1)) g.n j
   have e3 : stS g x i j + (zch r x).getD j 0 * g.den = stS g x (i + 1) j := by unfold stS; rw [hst j]; grind
   have l1 := hSl i j
   have l7 := za6 hv
   have l8 := zbv ((zch r x).getD j 0) g.den
   have d1 := zdi (stS g x i j)
   have d2 := zdi ((zch r x).getD j 0)
   have d3 := zdi g.den
   have d4 := zdi ((zch r x).getD j 0 * g.den)
   simp -dsimp -implicitDefEqProofs (disch := try exact zdE) only [go_sem, j3, hget]
   first | refine zaa (r_of _ hv) (by simp) ?_ | refine zab (r_of _ hv) (by simp) ?_
   refine sgo ?_
   first | refine zaa (r_mul _ _ (by omega) (by omega)) (by simp) ?_ | refine zab (r_mul _ _ (by omega) (by omega)) (by simp) ?_
   refine sgo ?_
   first | refine zaa (r_add _ _ (by omega) (by omega)) (by simp) ?_ | refine zab (r_add _ _ (by omega) (by omega)) (by simp) ?_
   simp -dsimp -implicitDefEqProofs (disch := try exact zdE) only [go_sem, j3, e3, hset]
   generalize hG : Hp.upd H2 id _ = G
   exact ⟨(j + 1, G, _), Ghost.refl _, ⟨zdo, zdo, fun b hb => by dsimp only; rw [← hG, Hp.upd_ne _ _ (by omega)]; exact j4 b hb, zdb hG⟩, zdo⟩
  ·have hje : g.n = j := by omega
   subst hje
   rw [midF_all] at j3
   refine sgo ?_
   exact ⟨(i + 1, H2, _), Ghost.refl _, ⟨zdo, zdo, j4, j3⟩, zdo⟩
 ·have hie : g.rows.length = i := by omega
  subst hie
  rw [show (List.range g.n).map (stS g x g.rows.length) = zc9 g x from List.map_congr_left fun k _ => Int.add_comm _ _] at i3
  simp -dsimp -implicitDefEqProofs (disch := try exact zdE) only [go_sem, hsl]
  exact ⟨_, rfl, zdo, _, rfl, by omega, zdo, i3, i4⟩
end Go.Gim
/- Reference 19: where to look for less. -/
set_option maxRecDepth 100000
set_option maxHeartbeats 4000000
namespace Go.Gim
open Go.Proofs
theorem four_in {i : Nat} (h : i ≤ 12) : In64 ((4 ^ i : Nat) : Int) := by
 have h1 := Nat.pow_le_pow_right (n := 4) (by decide) h
 generalize 4 ^ i = z at *
 exact ⟨by omega, by omega⟩
theorem rstep_ret (g : Gr) (x : List Int) (r : Nat) (h : GOkay g x) (hn0 : 0 < g.n) (hr : r ≤ 12) : Ret pg zgo [DGV g, ints x, .int .i64 r] (if stepB g x r = true then .tup [ints (stepL g x r), .int .i64 0] else .tup [.sl [], .int .i64 80]) := by
 have hx := h.len
 have h11 := h.hi
 have hsd := h.sd
 have hs := stateB_iff.2 h.state
 have c := rstate_ret x (by omega)
 rw [hs] at c
 have hx' : (x.length : Int) = g.n := by omega
 have dden := dl_of hsd
 have cc := rcurve_ret g x hx.symm h11 h.sixty h.right h.state h.sq (fun i j => by have := dl_of (h.sP i j); omega) (by omega)
 have hml := moreI_lim g r hr
 have dml := dl_of hml
 have dA : ∀ i j, dlim (stepA g x r i j) ≤ 20100 := fun i j => by have := dl_of (stepA_lim h hr i j); omega
 have dM := dlim_at_mat (n := g.n) dA
 have dS : ∀ i, i < g.n → dlim (downS g x i) ≤ 20100 := fun i hi => by
  have h1 := stC_lim h hi
  have h2 := zbv (stepC g x i) (-1024)
  have h3 := za6 (x := -1024) ⟨by omega, by omega⟩
  have := dl_of (x := downS g x i) (L := 2010) (by unfold downS; omega)
  omega
 have cf := rdefinite_ret (L := 20100) (by omega) (mat g.n (stepA g x r)) g.n (by omega) (zhn _ _) dM
 have eF : defS g.n (at2 (mat g.n (stepA g x r))) = stepB g x r := defS_congr fun i j hi hj => zgw hi hj
 rw [eF] at cf
 have cv := rsolve_ret (L := 20100) (by omega) (mat g.n (stepA g x r)) ((List.range g.n).map (downS g x)) g.n (by omega) (zhn _ _) (by simp) (fun i j _ _ => dM i j) (fun i hi => by rw [za0 0 hi]; exact dS i hi)
 have e2 : rowF g.n (fun i => det g.n (setC (at2 (mat g.n (stepA g x r))) i fun i => ((List.range g.n).map (downS g x)).getD i 0)) = rowF g.n (stepN g x r) := zf7 fun i hi => za1 fun a b ha hb => by
  unfold setC
  split
  ·show ((List.range g.n).map (downS g x)).getD a 0 = _
   rw [za0 0 ha]
  ·exact zgw ha hb
 rw [e2] at cv
 have cd := rdet_ret (L := 20100) (by omega) g.n (mat g.n (stepA g x r)) (by omega) (zhn _ _) fun i j _ _ => dM i j
 have e1 : det g.n (at2 (mat g.n (stepA g x r))) = stepE g x r := za1 fun i j hi hj => zgw hi hj
 rw [e1] at cd
 have dE : dlim (stepE g x r) ≤ 1000000 := by
  have := det_dlim (n := g.n) (M := stepA g x r) (L := 20100) fun i j _ _ => dA i j
  have h2 : g.n * (20100 + g.n) ≤ 11 * (20100 + 11) := Nat.mul_le_mul h11 (by omega)
  unfold stepE; omega
 have dN : ∀ i, i < g.n → dlim (stepN g x r i) ≤ 1000000 := fun i hi => by
  have := det_dlim (n := g.n) (M := setC (stepA g x r) i (downS g x)) (L := 20100) fun a b ha hb => by
   unfold setC
   split
   ·exact dS _ (by assumption)
   ·exact dA a b
  have h2 : g.n * (20100 + g.n) ≤ 11 * (20100 + 11) := Nat.mul_le_mul h11 (by omega)
  unfold stepN; omega
 have hrow : ∀ k, ∀ v ∈ (List.range k).map (fun q => dvl (rowF g.n (stepA g x r q))), V.Pure v := fun k => zbr fun x => by simp
 have hC : ∀ i, i < g.n → (mat g.n (zbq g x)).getD i [] = rowF g.n (zbq g x i) := fun i hi => by unfold mat; rw [za0 [] hi]; rfl
 have hCl : (mat g.n (zbq g x)).length = g.n := (zhn _ _).1
 refine gimbalref19_Step.of rfl (W_b ?_)
 unfold gimbalref19_Step.k gimbalref19_Step.res Ot kp kd Og Oy Om Ol OL Oq Oi Oc On ci
 refine sgo ?_
 first | refine zaa (c) (by simp) ?_ | refine zab (c) (by simp) ?_
 simp -dsimp -implicitDefEqProofs (disch := try exact zdE) only [go_sem, hx']
 first | refine zaa (r_of 0 (by omega)) (by simp) ?_ | refine zab (r_of 0 (by omega)) (by simp) ?_
 refine sgo ?_
 refine csel_meet (fun env G nx => env 1 = ints x ∧ env 3 = .pp (DGV g) ∧ env 9 = .ptr 22 1 0 0 ∧ 22 < nx ∧ G 22 = some ⟨[DV (moreI g r)], 2⟩) (fun h5 => ?_) (fun h5 => ?_) ?_
 ·have h5 : (0 : Int) < r := by simpa using h5
  refine sgo ?_
  refine zap (T := Nat × Hp × Nat) (fun t => ⟨E [(1, ints x), (2, .int .i64 r), (3, .pp (DGV g)), (9, .ptr 22 1 0 0), (10, .int .i64 ((t.1 : Int) + 1))], t.2.1, t.2.2, t.2.2⟩)
   (fun t => t.1 + 1 ≤ r ∧ 22 < t.2.2 ∧ t.2.1 22 = some ⟨[DV (g.den * ((4 ^ t.1 : Nat) : Int))], 2⟩) (fun t => r - t.1) (0, Hp.upd (fun _ => none) 22 (some ⟨[DV g.den], 2⟩), 30) rfl ⟨zdo, zdo, by dsimp only; rw [Hp.upd_same]; simp⟩ ?_
  rintro ⟨i, H, nx⟩ ⟨i1, i2, i3⟩
  dsimp only at i1 i2 i3
  by_cases hi : i + 1 < r
  ·have h7 : (i : Int) + 1 < r := by omega
   have e2 : IntKind.i64.wrap ((i : Int) + 1 + 1) = ((i + 1 : Nat) : Int) + 1 := by rw [IntWalk.i64_in _ (by omega)]; omega
   have e3 : g.den * ((4 ^ i : Nat) : Int) * 4 = g.den * ((4 ^ (i + 1) : Nat) : Int) := by rw [Int.mul_assoc, Nat.pow_succ]; rfl
   have d1 := zgs g.den ((4 ^ i : Nat) : Int)
   have d2 := zbx (four_in (i := i) (by omega))
   have d3 := zbx (x := 4) (by omega)
   simp -dsimp -implicitDefEqProofs (disch := try exact zdE) only [go_sem, i3, h7]
   first | refine zaa (r_of 4 (by omega)) (by simp) ?_ | refine zab (r_of 4 (by omega)) (by simp) ?_
   simp -dsimp -implicitDefEqProofs (disch := try exact zdE) only [go_sem, i3]
   first | refine zaa (r_mul (g.den * ((4 ^ i : Nat) : Int)) 4 (by omega) (by omega)) (by simp) ?_ | refine zab (r_mul (g.den * ((4 ^ i : Nat) : Int)) 4 (by omega) (by omega)) (by simp) ?_
   simp -dsimp -implicitDefEqProofs (disch := try exact zdE) only [go_sem, i3, e2, e3]
   exact ⟨(i + 1, H.upd 22 (some ⟨[DV (g.den * ((4 ^ (i + 1) : Nat) : Int))], 2⟩), _), rfl, ⟨zdo, zdo, by dsimp only; exact Hp.upd_same _ _ _⟩, zdo⟩
  ·have h7 : ¬ (i : Int) + 1 < r := by omega
   have e : g.den * ((4 ^ i : Nat) : Int) = moreI g r := by
    unfold moreI
    rw [if_neg (by omega), Nat.pow_mul, show r - 1 = i by omega]
   rw [e] at i3
   simp -dsimp -implicitDefEqProofs (disch := try exact zdE) only [go_sem, h7]
   exact i3
 ·have h5 : ¬ (0 : Int) < r := by simpa using h5
  have e : moreI g r = 0 := by unfold moreI; rw [if_pos (by omega)]
  rw [e]
  exact sgo trivial
  done
 rintro env G nx ⟨f1, f3, f9, fn, g22⟩
 obtain ⟨KP, hKP⟩ : ∃ KP, mat g.n (zbq g x) = KP := ⟨_, rfl⟩
 rw [hKP] at cc hCl hC
 simp -dsimp -implicitDefEqProofs (disch := try exact zdE) only [go_sem, f1, f3, f9, g22]
 first | refine zaa (cc) (by simp) ?_ | refine zab (cc) (by simp) ?_
 simp -dsimp -implicitDefEqProofs (disch := try exact zdE) only [go_sem, f1, f3, f9, g22]
 refine zap (T := Nat × V × Hp × Nat) (fun t => ⟨E [(1, ints x), (3, .pp (DGV g)), (9, .ptr 22 1 0 0), (11, .sl (KP.map dvl)), (12, t.2.1), (13, .int .i64 t.1)], t.2.2.1, t.2.2.2, t.2.2.2⟩)
  (fun t => t.1 ≤ g.n ∧ 22 < t.2.2.2 ∧ t.2.2.1 22 = some ⟨[DV (moreI g r)], 2⟩ ∧ Row 23 t.2.2.1 t.2.2.2 t.2.1 1 ((List.range t.1).map fun q => dvl (rowF g.n (stepA g x r q)))) (fun t => g.n - t.1) (0, .nil, G, _) rfl ⟨zdo, zdo, g22, Row.nil _ _ _ _⟩ ?_
 rintro ⟨i, w, H, nx2⟩ ⟨i1, i2, i3, i4⟩
 dsimp only at i1 i2 i3 i4
 by_cases hi : i < g.n
 ·have hrF := hC i hi
  have hlr := zee g.n (zbq g x i)
  have hga : (rowF g.n (zbq g x i)).getD i 0 = zbq g x i i := zik hi
  have hset : (rowF g.n (zbq g x i)).set i (zbq g x i i + moreI g r) = rowF g.n (stepA g x r i) := by
   rw [rowF_set]
   refine zf7 fun q _ => ?_
   unfold stepA dampM
   by_cases h : q = i
   ·subst h; rw [if_pos rfl, if_pos rfl]
   ·rw [if_neg h, if_neg fun e => h e.symm, Int.add_zero]
  have hls : ((rowF g.n (stepA g x r i)).map DV).length = g.n := by simp [rowF]
  have e8 : V.sl ((rowF g.n (stepA g x r i)).map DV) = dvl (rowF g.n (stepA g x r i)) := rfl
  have d1 := dl_of (curveAt_lim h i i)
  simp -dsimp -implicitDefEqProofs (disch := try exact zdE) only [go_sem, hCl, hrF]
  refine effB_copy (H0 := H) rfl (by simp [rowOk, V.isJunk, V.cells, V.cellOk, DV]) (by decide) (by simp [rowF]; omega) (by simp [rowF]; omega) ?_
  simp -dsimp -implicitDefEqProofs (disch := try exact zdE) only [go_sem, hlr, hga, i3, zec]
  first | refine zaa (r_add (zbq g x i i) (moreI g r) (by omega) (by omega)) (by simp) ?_ | refine zab (r_add (zbq g x i i) (moreI g r) (by omega) (by omega)) (by simp) ?_
  simp -dsimp -implicitDefEqProofs (disch := try exact zdE) only [go_sem, hlr, hset, zec]
  generalize hG2 : Hp.upd _ (nx2 + 9) _ = G2
  have g1 : ∀ c, c < nx2 → G2 c = H c := fun c hc => by rw [← hG2, Hp.upd_ne _ _ (by omega), Hp.upd_ne _ _ (by omega)]
  have g2 : G2 (nx2 + 9) = some ⟨(rowF g.n (stepA g x r i)).map DV, 2⟩ := by rw [← hG2, Hp.upd_same]
  clear hG2
  refine gh_row (lo := nx2) (es := 2) (ys := (rowF g.n (stepA g x r i)).map DV) 14 rfl (.inr ⟨nx2 + 9, by rw [hls]; rfl, by omega, by omega, g2⟩) (zbr fun x => by simp) (fun p hp hne c hc => ?_) fun H2 hH2 => ?_
  ·have h22 : 22 ≠ c := by omega
   simp only [List.mem_cons, List.not_mem_nil, or_false] at hp
   rcases hp with rfl | rfl | rfl | rfl | rfl | rfl | rfl <;> first | exact absurd rfl hne | exact sub_ints _ _ | (simp [V.sub]; done) | exact i4.sub_ge (by omega) | (simp [V.sub, fz1, h22]; done)
  ·have i3' : H2 22 = some ⟨[DV (moreI g r)], 2⟩ := hH2 22 _ i2 ((g1 22 i2).trans i3) (by simp)
   have i4' : Row 23 H2 nx2 w 1 ((List.range i).map fun q => dvl (rowF g.n (stepA g x r q))) := (i4.same (H' := G2) g1 (Nat.le_refl _)).told (lo := nx2) (Nat.le_refl _) (Nat.le_refl _) (hrow i) hH2
   simp -dsimp -implicitDefEqProofs (disch := try exact zdE) only [go_sem, e8]
   refine zaz (lo := 23) (nx := nx2) (H0 := H2) (xs := (List.range i).map fun q => dvl (rowF g.n (stepA g x r q))) i4' (by omega) rfl (by omega) (by omega) (by simp [rowOk, V.cells, V.cellOk, dvl, V.isJunk]) (by decide) (by simp; omega) (by simp; omega) fun v2 H3 r1 _ _ r4 => ?_
   rw [zci (fun q => dvl (rowF g.n (stepA g x r q)))] at r1
   refine sgo ?_
   exact ⟨(i + 1, v2, H3, _), rfl, ⟨zdo, zdo, (r4 22 (by omega)).trans i3', r1.same (fun _ _ => rfl) zdo⟩, zdo⟩
 ·have hie : i = g.n := by omega
  subst hie
  obtain ⟨c, hu, c1, c2, c3⟩ := i4.own_of (by simp; omega)
  rw [List.length_map, List.length_range] at hu
  subst hu
  have eM : (List.range g.n).map (fun q => dvl (rowF g.n (stepA g x r q))) = (mat g.n (stepA g x r)).map dvl := by unfold mat; rw [List.map_map]; rfl
  rw [eM] at c3
  have hlm : ((mat g.n (stepA g x r)).map dvl).length = g.n := by rw [List.length_map]; exact (zhn _ _).1
  by_cases hB : stepB g x r = true
  ·rw [hB] at cf
   simp -dsimp -implicitDefEqProofs (disch := try exact zdE) only [go_sem, hCl]
   refine zbo (fz1 c ((mat g.n (stepA g x r)).map dvl)) (zd8 c3 (zbr fun x => by simp)) (by simp -dsimp -implicitDefEqProofs (disch := try exact zdE) only [go_sem, ze4 hlm]) cf (by simp) ?_
   simp -dsimp -implicitDefEqProofs (disch := try exact zdE) only [go_sem, ze4 hlm]
   obtain ⟨H5, n5, c5, ⟨d1, d2, d3, d4⟩, hc⟩ := rsteep18_G g x h hn0 (Hp.sub (fz1 c ((mat g.n (stepA g x r)).map dvl)) H) (nx2 + 13)
   refine zf5 hc ?_
   have hsl : (zc9 g x).length = g.n := by simp [zc9]
   simp -dsimp -implicitDefEqProofs (disch := try exact zdE) only [go_sem, d3, hsl]
   refine zap (T := Nat × Hp × Nat) (fun t => ⟨E [(12, .sl ((mat g.n (stepA g x r)).map dvl)), (16, .own c5 g.n), (17, .int .i64 t.1)], t.2.1, t.2.2, t.2.2⟩)
    (fun t => t.1 ≤ g.n ∧ c5 < t.2.2 ∧ t.2.1 c5 = some ⟨((List.range g.n).map (midD g x t.1)).map DV, 2⟩) (fun t => g.n - t.1) (0, H5, _) rfl ⟨zdo, zdo, by dsimp only; rw [midD_zero]; exact d3⟩ ?_
   rintro ⟨j, H6, nx6⟩ ⟨j1, j2, j3⟩
   dsimp only at j1 j2 j3
   by_cases hj : j < g.n
   ·have hget : ((List.range g.n).map (midD g x j)).getD j 0 = stepC g x j := by rw [za0 0 hj]; unfold midD; rw [if_neg (by omega)]
    have hset := midD_set g x g.n j
    unfold downS at hset
    have q1 := dl_of (stC_lim h hj)
    have q2 := zbx (x := -1024) ⟨by omega, by omega⟩
    simp -dsimp -implicitDefEqProofs (disch := try exact zdE) only [go_sem, j3, hget]
    first | refine zaa (r_of (-1024) (by omega)) (by simp) ?_ | refine zab (r_of (-1024) (by omega)) (by simp) ?_
    simp -dsimp -implicitDefEqProofs (disch := try exact zdE) only [go_sem, j3, hget]
    first | refine zaa (r_mul (stepC g x j) (-1024) (by omega) (by omega)) (by simp) ?_ | refine zab (r_mul (stepC g x j) (-1024) (by omega) (by omega)) (by simp) ?_
    simp -dsimp -implicitDefEqProofs (disch := try exact zdE) only [go_sem, j3, hset]
    generalize hG6 : Hp.upd H6 c5 _ = G6
    exact ⟨(j + 1, G6, _), rfl, ⟨zdo, zdo, zdb hG6⟩, zdo⟩
   ·have hje : j = g.n := by omega
    rw [hje, midD_all] at j3
    have hl5 : (((List.range g.n).map (downS g x)).map DV).length = g.n := by simp
    rw [if_pos hB, hje]
    simp -dsimp -implicitDefEqProofs (disch := try exact zdE) only [go_sem, j3]
    refine zep c5 (((List.range g.n).map (downS g x)).map DV) j3 (zbr fun x => by simp) (by simp only [List.map_cons, List.map_nil, V.sub, fz1, if_true, hl5]; rfl) cv (by simp) ?_
    refine sgo ?_
    first | refine zaa (cd) (by simp) ?_ | refine zab (cd) (by simp) ?_
    refine sgo ?_
    have hNl := zee g.n (stepN g x r)
    have hEp : 0 < stepE g x r := defS_det hB
    refine zap (T := Nat × V × Hp × Nat) (fun t => ⟨E [(18, dvl (rowF g.n (stepN g x r))), (19, .ptr (nx6 + 10) 1 0 0), (20, t.2.1), (21, .int .i64 t.1)], t.2.2.1, t.2.2.2, t.2.2.2⟩)
     (fun t => t.1 ≤ g.n ∧ nx6 + 10 < t.2.2.2 ∧ t.2.2.1 (nx6 + 10) = some ⟨[DV (stepE g x r)], 2⟩ ∧ Row (nx6 + 11) t.2.2.1 t.2.2.2 t.2.1 1 (((List.range t.1).map (stepD g x r)).map (V.int .i64))) (fun t => g.n - t.1) (0, .nil, (H6.upd c5 none).upd (nx6 + 10) (some ⟨[DV (stepE g x r)], 2⟩), _) rfl ⟨zdo, zdo, by dsimp only; exact Hp.upd_same _ _ _, Row.nil _ _ _ _⟩ ?_
    rintro ⟨k, w7, H7, nx7⟩ ⟨k1, k2, k3, k4⟩
    dsimp only at k1 k2 k3 k4
    by_cases hk : k < g.n
    ·have hNk : (rowF g.n (stepN g x r)).getD k 0 = stepN g x r k := zik hk
     have cn := rnearest_ret (stepN g x r k) (stepE g x r) hEp (by have := dN k hk; omega) (by omega)
     simp -dsimp -implicitDefEqProofs (disch := try exact zdE) only [go_sem, k3, hNk, hNl]
     first | refine zaa (cn) (by simp) ?_ | refine zab (cn) (by simp) ?_
     refine sgo ?_
     refine zaz (lo := nx6 + 11) (nx := nx7) (H0 := H7) (xs := ((List.range k).map (stepD g x r)).map (V.int .i64)) k4 (by omega) rfl (by omega) (by omega) (by simp [rowOk, V.cells, V.cellOk, V.isJunk]) (by decide) (by simp; omega) (by simp; omega) fun v2 H8 r1 _ _ r4 => ?_
     rw [zdf, show (List.range k).map (stepD g x r) ++ [nearF (stepN g x r k) (stepE g x r)] = (List.range (k + 1)).map (stepD g x r) from zci _ _] at r1
     refine sgo ?_
     exact ⟨(k + 1, v2, H8, _), rfl, ⟨zdo, zdo, (r4 _ (by omega)).trans k3, r1.same (fun _ _ => rfl) zdo⟩, zdo⟩
    ·have hke : k = g.n := by omega
     rw [hke] at k4
     simp -dsimp -implicitDefEqProofs (disch := try exact zdE) only [go_sem, hNl]
     rw [k4.frz (zc5 fun x => rfl)]
     rfl
  ·rw [show stepB g x r = false by simpa using hB] at cf
   simp -dsimp -implicitDefEqProofs (disch := try exact zdE) only [go_sem, hCl]
   refine zbo (fz1 c ((mat g.n (stepA g x r)).map dvl)) (zd8 c3 (zbr fun x => by simp)) (by simp -dsimp -implicitDefEqProofs (disch := try exact zdE) only [go_sem, ze4 hlm]) cf (by simp) ?_
   simp -dsimp -implicitDefEqProofs (disch := try exact zdE) only [go_sem, ze4 hlm, hB]
   done
end Go.Gim
/- Reference 19: one round. -/
set_option maxRecDepth 100000
set_option maxHeartbeats 4000000
namespace Go.Gim
open Go.Proofs
attribute [local go_sem] zdj zii zdk
def stOf (t : Int) (b : Bool) : Int := if t = 0 then 5 else if b then 4 else 3
theorem stOf_next {t : Int} {b : Bool} (ht : 0 ≤ t) (hb : t = 0 → b = false) : (if stOf t b = 5 then 3 else stOf t b) = stOf (t + 1) b := by
 unfold stOf
 by_cases h : t = 0
 ·rw [if_pos h, if_pos rfl, if_neg (by omega), hb h]; rfl
 ·rw [if_neg h, if_neg (show ¬ t + 1 = 0 by omega)]
  cases b <;> rfl
theorem stOf_box {t : Int} (ht : 0 ≤ t) : stOf (t + 1) true = 4 := by unfold stOf; rw [if_neg (by omega)]; rfl
def rouV (x : List Int) (G : Option (List Int) × Int × Int) : V :=
 match G with
 | (some y, _, t) => .tup [ints y, .bool true, .int .i64 0, .int .i64 t]
 | (none, st, t) => .tup [ints x, .bool false, .int .i64 st, .int .i64 t]
def zerosB (d : List Int) (i : Nat) : Bool := (d.take i).all fun a => decide (a = 0)
theorem zerosB_next {d : List Int} {i : Nat} (h : i < d.length) : zerosB d (i + 1) = (zerosB d i && decide (d.getD i 0 = 0)) := by
 unfold zerosB
 rw [zbl 0 h, List.all_append]
 simp
theorem zerosB_all {d : List Int} : (d.any fun a => !decide (a = 0)) = !zerosB d d.length := by
 unfold zerosB
 rw [List.take_length, List.not_all_eq_any_not]
theorem plusL_at (x d : List Int) (i : Nat) (h : i < x.length) : (plusL x d).take i ++ [x.getD i 0 + d.getD i 0] = (plusL x d).take (i + 1) := by
 have e : x.getD i 0 + d.getD i 0 = (plusL x d).getD i 0 := by unfold plusL; rw [za0 0 h]
 rw [e, zbl 0 (by rw [zi8]; exact h)]
theorem rround_ret (g : Gr) (c : Cfg) (x : List Int) (R : Nat) (h : GOkay g x) (hn0 : 0 < g.n) (hR : c.raises = R) (hR12 : R ≤ 12) :
  Ret pg zfx [DGV g, CV c, ints x] (rouV x (rndF g x (R + 1) 0 5 0)) := by
 have hx := h.len
 have h11 := h.hi
 generalize hF : rndF g x (R + 1) 0 5 0 = F
 refine gimbalref19_round.of rfl (W_b ?_)
 unfold gimbalref19_round.k gimbalref19_round.res Ot kp kd Oh Om Ol OL Oq Oi Oc On ci
 refine sgo ?_
 refine zap (T := Nat × Int × Bool × Hp × Nat) (fun t => ⟨E [(2, ints x), (3, .pp (DGV g)), (4, .pp (CV c)), (10, .int .i64 t.2.1), (11, .bool t.2.2.1), (12, .int .i64 t.1)], t.2.2.2.1, t.2.2.2.2, t.2.2.2.2⟩)
  (fun t => t.1 ≤ R + 1 ∧ 0 ≤ t.2.1 ∧ t.2.1 ≤ t.1 ∧ (t.2.1 = 0 → t.2.2.1 = false) ∧ rndF g x (R + 1 - t.1) t.1 (stOf t.2.1 t.2.2.1) t.2.1 = F) (fun t => R + 1 - t.1) (0, 0, false, _, _) rfl ⟨zdo, zdo, zdo, fun _ => rfl, hF⟩ ?_
 rintro ⟨r, t, b, H, nx⟩ ⟨r1, r2, r3, r4, r5⟩
 dsimp only at r1 r2 r3 r4 r5
 by_cases hr : r ≤ R
 ·have hr' : (r : Int) ≤ c.raises := by omega
  have hst := rstep_ret g x r h hn0 (by omega)
  obtain ⟨m, hm⟩ : ∃ m, R + 1 - r = m + 1 := ⟨R - r, by omega⟩
  rw [hm, rndF, stOf_next r2 r4] at r5
  have hm1 : R + 1 - (r + 1) = m := by omega
  by_cases hS : stepB g x r = true
  ·rw [hS, if_neg (by simp)] at r5
   rw [if_pos hS] at hst
   have e1 : IntKind.i64.wrap (t + 1) = t + 1 := IntWalk.i64_in _ (by omega)
   have hsl : (stepL g x r).length = g.n := by simp [stepL]
   have hbd := stepL_bd g x r
   generalize stepL g x r = d at *
   simp -dsimp -implicitDefEqProofs (disch := try exact zdE) only [go_sem, hr']
   first | refine zaa (hst) (by simp) ?_ | refine zab (hst) (by simp) ?_
   simp -dsimp -implicitDefEqProofs (disch := try exact zdE) only [go_sem, e1]
   refine zap (T := Nat × V × Hp × Nat) (fun u => ⟨E [(2, ints x), (3, .pp (DGV g)), (4, .pp (CV c)), (10, .int .i64 (t + 1)), (11, .bool b), (12, .int .i64 r), (13, ints d), (15, u.2.1), (16, .bool (zerosB d u.1)), (17, .int .i64 u.1)], u.2.2.1, u.2.2.2, u.2.2.2⟩)
    (fun u => u.1 ≤ g.n ∧ Row 0 u.2.2.1 u.2.2.2 u.2.1 1 (((plusL x d).take u.1).map (V.int .i64))) (fun u => g.n - u.1) (0, .nil, H, _) rfl ⟨zdo, Row.nil _ _ _ _⟩ ?_
   rintro ⟨i, w, H2, nx2⟩ ⟨i1, i2⟩
   dsimp only at i1 i2
   by_cases hi : i < g.n
   ·have hb := hbd i
    have hxi := h.state.get i
    have hz := zerosB_next (d := d) (i := i) (by omega)
    have e2 : IntKind.i64.wrap (x.getD i 0 + d.getD i 0) = x.getD i 0 + d.getD i 0 := IntWalk.i64_in _ (by omega)
    have hpl := zi8 x d
    by_cases hzb : zerosB d i = true
    ·rw [hzb] at hz
     simp -dsimp -implicitDefEqProofs (disch := try exact zdE) only [go_sem, hx, hsl, e2]
     refine zaz (lo := 0) (nx := nx2) (H0 := H2) (xs := ((plusL x d).take i).map (V.int .i64)) i2 (by omega) rfl (by omega) (by omega) (by simp [rowOk, V.cells, V.cellOk, V.isJunk]) (by decide) (by simp; omega) (by simp; omega) fun v2 H3 q1 _ _ _ => ?_
     rw [zdf, plusL_at x d i (by omega)] at q1
     refine sgo ?_
     simp -dsimp -implicitDefEqProofs (disch := try exact zdE) only [go_sem, hzb, hsl]
     exact ⟨(i + 1, v2, H3, _), by dsimp only; rw [hz]; rfl, ⟨zdo, q1.same (fun _ _ => rfl) zdo⟩, zdo⟩
    ·have hzb : zerosB d i = false := by simpa using hzb
     rw [hzb] at hz
     simp -dsimp -implicitDefEqProofs (disch := try exact zdE) only [go_sem, hx, hsl, e2]
     refine zaz (lo := 0) (nx := nx2) (H0 := H2) (xs := ((plusL x d).take i).map (V.int .i64)) i2 (by omega) rfl (by omega) (by omega) (by simp [rowOk, V.cells, V.cellOk, V.isJunk]) (by decide) (by simp; omega) (by simp; omega) fun v2 H3 q1 _ _ _ => ?_
     rw [zdf, plusL_at x d i (by omega)] at q1
     refine sgo ?_
     simp -dsimp -implicitDefEqProofs (disch := try exact zdE) only [go_sem, hzb, hsl]
     exact ⟨(i + 1, v2, H3, _), by dsimp only; rw [hz]; rfl, ⟨zdo, q1.same (fun _ _ => rfl) zdo⟩, zdo⟩
   ·have hie : i = g.n := by omega
    subst hie
    have hpl := zi8 x d
    rw [show (plusL x d).take g.n = plusL x d from List.take_of_length_le (by omega)] at i2
    obtain ⟨cy, hu, c1, c2, c3⟩ := i2.own_of (by rw [List.length_map]; omega)
    rw [List.length_map, hpl, hx] at hu
    subst hu
    have hyl : ((plusL x d).map (V.int .i64)).length = g.n := by rw [List.length_map]; omega
    have eY : V.sl ((plusL x d).map (V.int .i64)) = ints (plusL x d) := rfl
    rw [zerosB_all, hsl] at r5
    by_cases hA : zerosB d g.n = true
    ·rw [hA, if_pos (by rfl)] at r5
     have e9 : rouV x F = .tup [ints x, .bool false, .int .i64 (stOf (t + 1) b), .int .i64 (t + 1)] := by rw [← r5]; rfl
     rw [e9]
     unfold stOf
     rw [if_neg (show ¬ t + 1 = 0 by omega)]
     have ht1 : ¬ t + 1 = 0 := by omega
     cases b
     ·simp -dsimp -implicitDefEqProofs (disch := try exact zdE) only [go_sem, hx, hA, ht1]
      done
     ·simp -dsimp -implicitDefEqProofs (disch := try exact zdE) only [go_sem, hx, hA, ht1]
      done
    ·have hA : zerosB d g.n = false := by simpa using hA
     rw [hA, if_neg (by simp)] at r5
     have cS := rstate_ret (plusL x d) (by omega)
     by_cases hZ : zea (plusL x d) = true
     ·rw [hZ, if_neg (by simp)] at r5
      rw [hZ] at cS
      have hzo := h.to (stateB_iff.1 hZ) hpl
      have v1 := rvalue18_ret g (plusL x d) hzo hn0
      have v2 := rvalue18_ret g x h hn0
      have l1 := dl_of (valC_lim hzo)
      have l2 := dl_of (valC_lim h)
      by_cases hlt : valC g (plusL x d) < valC g x
      ·rw [if_pos hlt] at r5
       rw [← r5]
       unfold rouV
       have s1 : (valC g (plusL x d) - valC g x).sign < 0 := by rw [sign_neg_iff]; omega
       simp -dsimp -implicitDefEqProofs (disch := try exact zdE) only [go_sem, hx, hA]
       refine zbo (fz1 cy ((plusL x d).map (V.int .i64))) (zd8 c3 zhj) (by simp -dsimp -implicitDefEqProofs (disch := try exact zdE) only [go_sem, ze4 hyl, eY]) cS (by simp) ?_
       simp -dsimp -implicitDefEqProofs (disch := try exact zdE) only [go_sem, ze4 hyl, eY]
       first | refine zaa (v1) (by simp) ?_ | refine zab (v1) (by simp) ?_
       refine sgo ?_
       first | refine zaa (v2) (by simp) ?_ | refine zab (v2) (by simp) ?_
       refine sgo ?_
       first | refine zaa (r_cmp (valC g (plusL x d)) (valC g x) (by omega) (by omega)) (by simp) ?_ | refine zab (r_cmp (valC g (plusL x d)) (valC g x) (by omega) (by omega)) (by simp) ?_
       simp -dsimp -implicitDefEqProofs (disch := try exact zdE) only [go_sem, s1]
       done
      ·rw [if_neg hlt] at r5
       have s1 : ¬ (valC g (plusL x d) - valC g x).sign < 0 := by rw [sign_neg_iff]; omega
       simp -dsimp -implicitDefEqProofs (disch := try exact zdE) only [go_sem, hx, hA]
       refine zbo (fz1 cy ((plusL x d).map (V.int .i64))) (zd8 c3 zhj) (by simp -dsimp -implicitDefEqProofs (disch := try exact zdE) only [go_sem, ze4 hyl, eY]) cS (by simp) ?_
       simp -dsimp -implicitDefEqProofs (disch := try exact zdE) only [go_sem, ze4 hyl, eY]
       first | refine zaa (v1) (by simp) ?_ | refine zab (v1) (by simp) ?_
       refine sgo ?_
       first | refine zaa (v2) (by simp) ?_ | refine zab (v2) (by simp) ?_
       refine sgo ?_
       first | refine zaa (r_cmp (valC g (plusL x d)) (valC g x) (by omega) (by omega)) (by simp) ?_ | refine zab (r_cmp (valC g (plusL x d)) (valC g x) (by omega) (by omega)) (by simp) ?_
       simp -dsimp -implicitDefEqProofs (disch := try exact zdE) only [go_sem, s1]
       exact ⟨(r + 1, t + 1, b, _, _), rfl, ⟨zdo, zdo, zdo, fun h0 => by dsimp only at h0; omega, by dsimp only; rw [hm1]; exact r5⟩, zdo⟩
     ·have hZ : zea (plusL x d) = false := by simpa using hZ
      rw [hZ, if_pos rfl] at r5
      rw [hZ] at cS
      simp -dsimp -implicitDefEqProofs (disch := try exact zdE) only [go_sem, hx, hA]
      refine zbo (fz1 cy ((plusL x d).map (V.int .i64))) (zd8 c3 zhj) (by simp -dsimp -implicitDefEqProofs (disch := try exact zdE) only [go_sem, ze4 hyl, eY]) cS (by simp) ?_
      simp -dsimp -implicitDefEqProofs (disch := try exact zdE) only [go_sem, ze4 hyl, eY]
      exact ⟨(r + 1, t + 1, true, _, _), rfl, ⟨zdo, zdo, zdo, fun h0 => by dsimp only at h0; omega, by dsimp only; rw [hm1, stOf_box r2]; exact r5⟩, zdo⟩
  ·have hS' : stepB g x r = false := by simpa using hS
   rw [hS', if_pos rfl] at r5
   rw [if_neg hS] at hst
   simp -dsimp -implicitDefEqProofs (disch := try exact zdE) only [go_sem, hr']
   first | refine zaa (hst) (by simp) ?_ | refine zab (hst) (by simp) ?_
   refine sgo ?_
   exact ⟨(r + 1, t, b, H, _), rfl, ⟨zdo, zdo, zdo, r4, by dsimp only; rw [hm1]; exact r5⟩, zdo⟩
 ·have hr' : ¬ (r : Int) ≤ c.raises := by omega
  have hm : R + 1 - r = 0 := by omega
  rw [hm, rndF] at r5
  rw [← r5]
  unfold rouV stOf
  by_cases ht : t = 0
  ·rw [if_pos ht]
   simp -dsimp -implicitDefEqProofs (disch := try exact zdE) only [go_sem, hr', ht]
   done
  ·rw [if_neg ht]
   cases b
   ·simp -dsimp -implicitDefEqProofs (disch := try exact zdE) only [go_sem, hr', ht]
    done
   ·simp -dsimp -implicitDefEqProofs (disch := try exact zdE) only [go_sem, hr', ht]
    done
end Go.Gim
/- Reference 19: looking for less. -/
set_option maxRecDepth 100000
set_option maxHeartbeats 4000000
namespace Go.Gim
open Go.Proofs
attribute [local go_sem] zdj zii zdk
theorem tl_len (b : ByteArray) : ∀ (k i : Nat) (r : List UInt8), b.size - i = k → (ByteArray.toList.loop b i r).length = k + r.length
 | 0, i, r, h => by
  unfold ByteArray.toList.loop
  rw [if_neg (by omega)]
  simp
 | k + 1, i, r, h => by
  unfold ByteArray.toList.loop
  rw [if_pos (by omega), tl_len b k (i + 1) _ (by omega)]
  simp; omega
theorem strV_none : strV .neq ⟨#[]⟩ ⟨#[]⟩ = some (.bool false) := by unfold strV; simp
theorem strV_some {a : ByteArray} (h : a ≠ ⟨#[]⟩) : strV .neq a ⟨#[]⟩ = some (.bool true) := by
 have : ¬ a.toList = (⟨#[]⟩ : ByteArray).toList := fun e => by
  have h1 := congrArg List.length e
  unfold ByteArray.toList at h1
  rw [tl_len a a.size 0 [] rfl, tl_len ⟨#[]⟩ 0 0 [] rfl] at h1
  refine h ?_
  obtain ⟨d⟩ := a
  have h2 : d.size = 0 := h1
  rw [Array.eq_empty_of_size_eq_zero h2]
 show some (V.bool (!decide (a.toList = (⟨#[]⟩ : ByteArray).toList))) = _
 rw [decide_eq_false this]
 rfl
theorem rsol_bad1 (g : Gr) (c : Cfg) (x : List Int) (h : (chk c).1 ≠ ⟨#[]⟩) : Ret pg zcp [DGV g, CV c, ints x] (.tup [ResV [] 0 0 0, .int .i64 130]) := by
 have c1 := r13check_ret c
 refine gimbalref19_Solve.of rfl (W_b ?_)
 unfold gimbalref19_Solve.k gimbalref19_Solve.res Ot kp Og Oy Om Ol OL Oq Oc On ci
 rw [ResV_zero]
 refine sgo ?_
 first | refine zaa (c1) (by simp) ?_ | refine zab (c1) (by simp) ?_
 simp -dsimp -implicitDefEqProofs (disch := try exact zdE) only [go_sem, strV_some h]
 done
theorem rsol_bad2 (g : Gr) (c : Cfg) (x : List Int) (h : (chk c).1 = ⟨#[]⟩) (hl : x.length ≤ 9223372036854775807) (hx : x.length ≠ g.n ∨ zea x = false) : Ret pg zcp [DGV g, CV c, ints x] (.tup [ResV [] 0 0 0, .int .i64 170]) := by
 have c1 := r13check_ret c
 rw [h] at c1
 have c2 := rstate_ret x hl
 refine gimbalref19_Solve.of rfl (W_b ?_)
 unfold gimbalref19_Solve.k gimbalref19_Solve.res Ot kp Og Oy Om Ol OL Oq Oc On ci
 rw [ResV_zero]
 by_cases hn : (x.length : Int) = g.n
 ·have hs : zea x = false := by rcases hx with h | h; omega; exact h
  rw [hs] at c2
  refine sgo ?_
  first | refine zaa (c1) (by simp) ?_ | refine zab (c1) (by simp) ?_
  simp -dsimp -implicitDefEqProofs (disch := try exact zdE) only [go_sem, strV_none]
  first | refine zaa (c2) (by simp) ?_ | refine zab (c2) (by simp) ?_
  simp -dsimp -implicitDefEqProofs (disch := try exact zdE) only [go_sem, hn]
  done
 ·refine sgo ?_
  first | refine zaa (c1) (by simp) ?_ | refine zab (c1) (by simp) ?_
  simp -dsimp -implicitDefEqProofs (disch := try exact zdE) only [go_sem, strV_none]
  first | refine zaa (c2) (by simp) ?_ | refine zab (c2) (by simp) ?_
  simp -dsimp -implicitDefEqProofs (disch := try exact zdE) only [go_sem, hn]
  done
theorem rsol_ret (g : Gr) (c : Cfg) (x : List Int) (K R : Nat) (hck : (chk c).1 = ⟨#[]⟩) (h : GOkay g x) (hn0 : 0 < g.n) (hK : c.rounds = K) (hR : c.raises = R) (hK3 : K ≤ 30) (hR12 : R ≤ 12) (hf : In64 c.flat) :
  Ret pg zcp [DGV g, CV c, ints x] (.tup [ResV (solF g c.flat R K x 0 0).1 (solF g c.flat R K x 0 0).2.1 (solF g c.flat R K x 0 0).2.2.1 (solF g c.flat R K x 0 0).2.2.2, .int .i64 0]) := by
 have hx := h.len
 have h11 := h.hi
 have c1 := r13check_ret c
 rw [hck] at c1
 have hs := stateB_iff.2 h.state
 have cc := rstate_ret x (by omega)
 rw [hs] at cc
 have hx' : (x.length : Int) = g.n := by omega
 generalize hF : solF g c.flat R K x 0 0 = F
 refine gimbalref19_Solve.of rfl (W_b ?_)
 unfold gimbalref19_Solve.k gimbalref19_Solve.res Ot kp Og Oy Om Ol OL Oq Oc On ci
 refine sgo ?_
 first | refine zaa (c1) (by simp) ?_ | refine zab (c1) (by simp) ?_
 simp -dsimp -implicitDefEqProofs (disch := try exact zdE) only [go_sem, hx', strV_none]
 first | refine zaa (cc) (by simp) ?_ | refine zab (cc) (by simp) ?_
 simp -dsimp -implicitDefEqProofs (disch := try exact zdE) only [go_sem, hx']
 refine zap (T := List Int × Nat × Int × Int × Hp × Nat) (fun t => ⟨E [(3, .pp (DGV g)), (4, .pp (CV c)), (6, .ptr 2 1 0 0), (10, .ptr 23 1 0 0)], t.2.2.2.2.1, t.2.2.2.2.2, t.2.2.2.2.2⟩)
  (fun t => GOkay g t.1 ∧ t.2.1 ≤ K ∧ t.2.2.1 = (K : Int) - t.2.1 ∧ 0 ≤ t.2.2.2.1 ∧ t.2.2.2.1 ≤ 13 * t.2.2.1 ∧ 23 < t.2.2.2.2.2 ∧ (∃ v, t.2.2.2.2.1 2 = some ⟨[.agg [v, .int .i64 0, .int .i64 0, .int .i64 0]], 4⟩ ∧ v.cellOk = true) ∧ t.2.2.2.2.1 23 = some ⟨[ResV t.1 0 t.2.2.1 t.2.2.2.1], 4⟩ ∧ solF g c.flat R t.2.1 t.1 t.2.2.1 t.2.2.2.1 = F) (fun t => t.2.1)
  (x, K, 0, 0, (Hp.upd (fun _ => none) 2 (some ⟨[.agg [.nil, .int .i64 0, .int .i64 0, .int .i64 0]], 4⟩)).upd 23 (some ⟨[.agg [ints x, .int .i64 0, .int .i64 0, .int .i64 0]], 4⟩), 25) rfl ⟨h, Nat.le_refl _, zdo, zdo, zdo, zdo, ⟨.nil, rfl, rfl⟩, rfl, hF⟩ ?_
 rintro ⟨y, k, acc, t, H, nx⟩ ⟨q1, q2, q3, q4, q5, q6, ⟨v2, q7, q7'⟩, q8, q9⟩
 dsimp only at q1 q2 q3 q4 q5 q6 q7 q8 q9
 have hfl := rflat18_ret g y c.flat q1 hn0 hf
 change Ret pg zey _ (.bool (flatB g y c.flat)) at hfl
 unfold ResV at q8
 have hle : acc ≤ c.rounds := by omega
 by_cases hB : flatB g y c.flat = true
 ·have hFe : F = (y, 1, acc, t) := by rw [← q9]; cases k <;> simp [solF, hB]
  rw [hB] at hfl
  simp -dsimp -implicitDefEqProofs (disch := try exact zdE) only [go_sem, q8, q7, hle]
  first | refine zaa (hfl) (by simp) ?_ | refine zab (hfl) (by simp) ?_
  simp -dsimp -implicitDefEqProofs (disch := try exact zdE) only [go_sem, q8, q7]
  rw [hFe]
  rfl
 ·have hB : flatB g y c.flat = false := by simpa using hB
  rw [hB] at hfl
  by_cases hk : k = 0
  ·have hFe : F = (y, 2, acc, t) := by rw [← q9, hk]; simp [solF, hB]
   have ha : acc = c.rounds := by omega
   simp -dsimp -implicitDefEqProofs (disch := try exact zdE) only [go_sem, q8, q7, hle]
   first | refine zaa (hfl) (by simp) ?_ | refine zab (hfl) (by simp) ?_
   simp -dsimp -implicitDefEqProofs (disch := try exact zdE) only [go_sem, q8, q7, ha]
   rw [hFe, ← ha]
   rfl
  ·obtain ⟨k', hk'⟩ : ∃ k', k = k' + 1 := ⟨k - 1, by omega⟩
   have ha : ¬ acc = c.rounds := by omega
   rw [hk', solF, hB, if_neg (by simp)] at q9
   have hrr := rround_ret g c y R q1 hn0 hR hR12
   have hsh := rndF_shift g y (R + 1) 0 5 0 t
   rw [Int.zero_add] at hsh
   rw [hsh] at q9
   have htr := rndF_tried g y (R + 1) 0 5 0
   obtain ⟨o, st, t1, hG⟩ : ∃ o st t1, rndF g y (R + 1) 0 5 0 = (o, st, t1) := ⟨_, _, _, rfl⟩
   rw [hG] at q9 hrr htr
   have e1 : IntKind.i64.wrap (t + t1) = t1 + t := by rw [IntWalk.i64_in _ (by dsimp only at htr; omega)]; omega
   dsimp only at q9 htr
   by_cases ho : o = none
   ·rw [ho] at q9 hrr
    unfold rouV at hrr
    dsimp only at q9 hrr
    simp -dsimp -implicitDefEqProofs (disch := try exact zdE) only [go_sem, q8, q7, hle]
    first | refine zaa (hfl) (by simp) ?_ | refine zab (hfl) (by simp) ?_
    simp -dsimp -implicitDefEqProofs (disch := try exact zdE) only [go_sem, q8, q7, ha]
    first | refine zaa (hrr) (by simp) ?_ | refine zab (hrr) (by simp) ?_
    simp -dsimp -implicitDefEqProofs (disch := try exact zdE) only [go_sem, q8, q7, e1]
    rw [← q9]
    rfl
   ·obtain ⟨z, hz⟩ : ∃ z, o = some z := Option.ne_none_iff_exists'.1 ho
    rw [hz] at q9 hrr hG
    unfold rouV at hrr
    dsimp only at q9 hrr
    obtain ⟨_, z2, z3⟩ := rndF_some g y (R + 1) 0 5 0 z st t1 hG
    have hzo := q1.to (stateB_iff.1 z2) z3
    have e2 : IntKind.i64.wrap (acc + 1) = acc + 1 := IntWalk.i64_in _ (by omega)
    simp -dsimp -implicitDefEqProofs (disch := try exact zdE) only [go_sem, q8, q7, hle]
    first | refine zaa (hfl) (by simp) ?_ | refine zab (hfl) (by simp) ?_
    simp -dsimp -implicitDefEqProofs (disch := try exact zdE) only [go_sem, q8, q7, ha]
    first | refine zaa (hrr) (by simp) ?_ | refine zab (hrr) (by simp) ?_
    simp -dsimp -implicitDefEqProofs (disch := try exact zdE) only [go_sem, q8, q7, e1, e2]
    exact ⟨(z, k', acc + 1, t1 + t, H.upd 23 (some ⟨[.agg [ints z, .int .i64 0, .int .i64 (acc + 1), .int .i64 (t1 + t)]], 4⟩), _), rfl, ⟨hzo, zdo, zdo, zdo, zdo, zdo, ⟨v2, by dsimp only; rw [Hp.upd_ne _ _ (by omega)]; exact q7, q7'⟩, by dsimp only; unfold ResV; exact Hp.upd_same _ _ _, q9⟩, zdo⟩
end Go.Gim
/- The law SolveSteps: where to look for less is as the document says. -/
set_option maxRecDepth 100000
set_option maxHeartbeats 4000000
namespace Go.Gim
open Go.Proofs
theorem zrep19 (m i : Nat) : (List.replicate m (0 : Int)).getD i 0 = 0 := by
 rw [List.getD_eq_getElem?_getD, List.getElem?_replicate]
 split <;> rfl
theorem gp_ok {m : Nat} {rows : List Row4} {prior : List (List Int)} {den : Int} {x : List Int} (hm : 1 ≤ m ∧ m ≤ 11) (h60 : rows.length ≤ 60) (hr : ∀ r ∈ rows, zhh r m = true) (hp : ∀ r ∈ prior, ∀ v ∈ r, In64 v) (hd : In64 den) (hxm : x.length = m) (hst : zea x = true) : GOkay ⟨m, rows, mirM prior m, List.replicate m 0, 0, den⟩ x where
 len := hxm
 hi := hm.2
 sixty := h60
 right := fun r h => by rw [hxm]; exact rightB_iff.1 (hr r h)
 state := stateB_iff.1 hst
 sq := mirM_sq _ _
 ql := by simp
 sP := fun i j => Nat.le_trans (za6 (at2_in (fun r h => mirM_in (rows := prior) hp m r h) i j)) (by decide)
 sQ := fun i => by show lim ((List.replicate m 0).getD i 0) ≤ 100; rw [zrep19, zbu]; omega
 sc := by show lim 0 ≤ 100; rw [zbu]; omega
 sd := Nat.le_trans (za6 hd) (by decide)
end Go.Gim
/- The law SolvePlays: what comes of looking for less is as the document says. -/
set_option maxRecDepth 100000
set_option maxHeartbeats 4000000
namespace Go.Gim
open Go.Proofs
attribute [local go_sem] zdj zii zdk zft csub_CV ResV_isJunk ResV_isAgg ResV_cells csub_ResV
theorem sol_both (g : Gr) (c : Cfg) (x : List Int) (hn0 : 0 < g.n) (hxl : x.length ≤ 9223372036854775807) (hok : x.length = g.n → zea x = true → GOkay g x) :
  ∃ X st acc t e, Ret pg zc6 [GV g, CV c, ints x] (.tup [ResV X st acc t, .int .i64 e]) ∧ Ret pg zcp [DGV g, CV c, ints x] (.tup [ResV X st acc t, .int .i64 e]) ∧ X.length ≤ 9223372036854775807 := by
 have ck := check_ret c
 rcases chk_two c with ⟨k1, k2, k3⟩ | ⟨k1, k2, k3⟩
 ·rw [k1] at ck
  by_cases hx : x.length = g.n ∧ zea x = true
  ·obtain ⟨K, hK⟩ : ∃ K : Nat, c.rounds = K := ⟨c.rounds.toNat, by have := k3.rounds; omega⟩
   obtain ⟨R, hR⟩ : ∃ R : Nat, c.raises = R := ⟨c.raises.toNat, by have := k3.raises; omega⟩
   have b1 := k3.rounds
   have b2 := k3.raises
   have b3 := k3.flat
   have ok := hok hx.1 hx.2
   have hE := solF_end g c.flat R K x 0 0
   exact ⟨_, _, _, _, _, solve_ret g c x _ K R ck ok hn0 hK hR (by omega) (by omega) ⟨by omega, by omega⟩, rsol_ret g c x K R k2 ok hn0 hK hR (by omega) (by omega) ⟨by omega, by omega⟩, by rw [hE.len]; exact hxl⟩
  ·have h : x.length ≠ g.n ∨ zea x = false := by
    by_cases h : x.length = g.n
    ·right
     cases h2 : zea x
     ·rfl
     ·exact absurd ⟨h, h2⟩ hx
    ·exact .inl h
   exact ⟨[], 0, 0, 0, 170, solve_bad2 g c x _ ck hxl h, rsol_bad2 g c x k2 hxl h, by simp⟩
 ·rw [k1] at ck
  exact ⟨[], 0, 0, 0, 130, solve_bad1 g c x _ 130 ck (by decide), rsol_bad1 g c x k2, by simp⟩
theorem SolvePlays_true (n : Int) (rows : List Row4) (prior : List (List Int)) (den : Int) (c : Cfg) (x : List Int) (hn : In64 n) (hl : rows.length ≤ 9223372036854775807) (hr : ∀ r ∈ rows, r.co.length ≤ 9223372036854775807) (hpl : prior.length ≤ 9223372036854775807) (hp : ∀ r ∈ prior, r.length ≤ 9223372036854775807 ∧ ∀ v ∈ r, In64 v) (hd : In64 den) (hxl : x.length ≤ 9223372036854775807) :
  Ret pg zf8 [.int .i64 n, .sl (rows.map RV), .sl (prior.map ints), .int .i64 den, CV c, ints x] (.bool true) := by
 have c1 := read19_ret n 5 den rows prior hl hr hpl hp hd
 have c2 := few19_ret c
 obtain ⟨q, hq⟩ : ∃ q, fewC c = q := ⟨_, rfl⟩
 rw [hq] at c2
 refine gimballaw19_SolvePlays.of rfl (W_b ?_)
 unfold gimballaw19_SolvePlays.k gimballaw19_SolvePlays.res Ot kp Og Oh Oy Om OL ci
 by_cases hrd : rd19B n 5 rows den = true
 ·obtain ⟨h1, h2, h3⟩ := rd19_ok.1 hrd
  obtain ⟨g1, g2, g3⟩ := gnewE_ok h1
  obtain ⟨m, hm⟩ : ∃ m : Nat, n = m := ⟨n.toNat, by omega⟩
  have hG : rd19G n 5 rows prior den = ⟨m, rows, mirM prior m, List.replicate m 0, 0, den⟩ := by unfold rd19G; rw [if_pos hrd, hm]; rfl
  rw [hrd, hG] at c1
  by_cases h12 : (12 : Int) < rows.length
  ·refine sgo ?_
   first | refine zaa (zg8) (by simp) ?_ | refine zab (zg8) (by simp) ?_
   refine sgo ?_
   first | refine zaa (c1) (by simp) ?_ | refine zab (c1) (by simp) ?_
   simp -dsimp -implicitDefEqProofs (disch := try exact zdE) only [go_sem, h12]
   done
  ·obtain ⟨X, st, acc, t, e, a, b, hdl⟩ := sol_both ⟨m, rows, mirM prior m, List.replicate m 0, 0, den⟩ q x (by show 0 < m; omega) hxl fun hx hs => gp_ok (by omega) g2 (by rw [hm] at g3; exact g3) (fun r h => (hp r h).2) hd hx hs
   have cs := same19_ret X X hdl hdl
   rw [decide_eq_true rfl] at cs
   generalize (⟨m, rows, mirM prior m, List.replicate m 0, 0, den⟩ : Gr) = g at *
   refine sgo ?_
   first | refine zaa (zg8) (by simp) ?_ | refine zab (zg8) (by simp) ?_
   refine sgo ?_
   first | refine zaa (c1) (by simp) ?_ | refine zab (c1) (by simp) ?_
   simp -dsimp -implicitDefEqProofs (disch := try exact zdE) only [go_sem, h12]
   first | refine zaa (c2) (by simp) ?_ | refine zab (c2) (by simp) ?_
   refine sgo ?_
   first | refine zaa (a) (by simp) ?_ | refine zab (a) (by simp) ?_
   refine sgo ?_
   first | refine zaa (b) (by simp) ?_ | refine zab (b) (by simp) ?_
   refine sgo ?_
   first | refine zaa (cs) (by simp) ?_ | refine zab (cs) (by simp) ?_
   exact sgo trivial
   done
 ·have hrd : rd19B n 5 rows den = false := by simpa using hrd
  rw [hrd] at c1
  refine sgo ?_
  first | refine zaa (zg8) (by simp) ?_ | refine zab (zg8) (by simp) ?_
  refine sgo ?_
  first | refine zaa (c1) (by simp) ?_ | refine zab (c1) (by simp) ?_
  exact sgo trivial
  done
end Go.Gim
