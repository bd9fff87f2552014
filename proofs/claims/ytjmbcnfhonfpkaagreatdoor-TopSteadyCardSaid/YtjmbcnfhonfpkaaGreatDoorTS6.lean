import Derived.Test.YtjmbcnfhonfpkaaGreatDoorL1
import Derived.Test.YtjmbcnfhonfpkaaGreatDoorB2
import Derived.Test.YtjmbcnfhonfpkaaGreatDoorTP2
import Derived.Test.YtjmbcnfhonfpkaaGreatDoorGTT
import Derived.Test.YtjmbcnfhonfpkaaGreatDoorFA2
import Derived.Test.YtjmbcnfhonfpkaaGreatDoorSV6
import Derived.Test.YtjmbcnfhonfpkaaGreatDoorSW1
set_option linter.unusedSimpArgs false
set_option linter.unusedVariables false
/- Spans: the program's own. -/
set_option maxRecDepth 100000
set_option maxHeartbeats 1000000
namespace Go.Gim
open Go.Proofs
def SpV (x : Sp) : V := .agg [.int .i64 x.lo, .int .i64 x.hi, .bool x.all]
@[simp] theorem SpV_pure (x : Sp) : (SpV x).Pure := by simp [SpV]
@[go_sem] theorem SpV_isAgg (x : Sp) : (SpV x).isAgg = true := rfl
@[simp, go_sem] theorem SpV_isJunk (x : Sp) : (SpV x).isJunk = false := rfl
@[go_sem] theorem SpV_cells (x : Sp) : (SpV x).cells = [.int .i64 x.lo, .int .i64 x.hi, .bool x.all] := rfl
@[go_sem] theorem part_SpV (x : Sp) : V.part (SpV x) 0 3 true = some (SpV x) := rfl
@[go_sem] theorem sub_SpV (g : Nat → Option (List V)) (x : Sp) : V.sub g (SpV x) = SpV x := zct _ (SpV_pure x)
@[go_sem] theorem frz_SpV (H : Hp) (n : Nat) (x : Sp) : frz H (n + 2) (SpV x) = some (SpV x) := rfl
theorem fixed_ret (n : Int) : Ret pg zhe [.int .i64 n] (.bool (fixB n)) := by
 refine span_fixed.of rfl (W_b ?_)
 unfold span_fixed.k span_fixed.res Ot kp Oh Om ci
 unfold fixB
 by_cases h1 : -2147483647 ≤ n
 ·by_cases h2 : n ≤ 2147483647
  ·simp -dsimp -implicitDefEqProofs (disch := try exact zdE) only [go_sem, h1, h2]
  ·simp -dsimp -implicitDefEqProofs (disch := try exact zdE) only [go_sem, h1, h2]
 ·simp -dsimp -implicitDefEqProofs (disch := try exact zdE) only [go_sem, h1]
theorem zau : Ret pg zdz [] (SpV ze0) := by
 refine span_whole.of rfl (W_b ?_)
 unfold span_whole.k span_whole.res Ot kp Oy
 refine sgo ?_
 rfl
theorem zfq (x : Sp) : Ret pg zbi [SpV x] (SpV (zax x)) := by
 refine span_Span_right.of rfl (W_b ?_)
 unfold span_Span_right.k span_Span_right.res Ot kp Og Oy Om Ol OL Oq
 have f1 := fixed_ret x.lo
 have f2 := fixed_ret x.hi
 unfold zax
 by_cases h1 : x.all = true
 ·rw [if_pos (.inl h1)]
  simp -dsimp -implicitDefEqProofs (disch := try exact zdE) only [go_sem, h1]
  first | refine zab (zau) (by simp) ?_ | refine zaa (zau) (by simp) ?_
  exact sgo trivial
  done
 ·have h1 : x.all = false := by simpa using h1
  by_cases h2 : fixB x.lo = true
  ·rw [h2] at f1
   by_cases h3 : fixB x.hi = true
   ·rw [h3] at f2
    by_cases h4 : x.hi < x.lo
    ·rw [if_pos (.inr (.inr (.inr h4)))]
     simp -dsimp -implicitDefEqProofs (disch := try exact zdE) only [go_sem, h1]
     first | refine zab (f1) (by simp) ?_ | refine zaa (f1) (by simp) ?_
     simp -dsimp -implicitDefEqProofs (disch := try exact zdE) only [go_sem, h1]
     first | refine zab (f2) (by simp) ?_ | refine zaa (f2) (by simp) ?_
     simp -dsimp -implicitDefEqProofs (disch := try exact zdE) only [go_sem, h4]
     first | refine zab (zau) (by simp) ?_ | refine zaa (zau) (by simp) ?_
     exact sgo trivial
     done
    ·rw [if_neg (by rw [h1, h2, h3]; simp; omega)]
     simp -dsimp -implicitDefEqProofs (disch := try exact zdE) only [go_sem, h1]
     first | refine zab (f1) (by simp) ?_ | refine zaa (f1) (by simp) ?_
     simp -dsimp -implicitDefEqProofs (disch := try exact zdE) only [go_sem, h1]
     first | refine zab (f2) (by simp) ?_ | refine zaa (f2) (by simp) ?_
     simp -dsimp -implicitDefEqProofs (disch := try exact zdE) only [go_sem, h4]
     done
   ·have h3 : fixB x.hi = false := by simpa using h3
    rw [if_pos (.inr (.inr (.inl h3)))]
    rw [h3] at f2
    simp -dsimp -implicitDefEqProofs (disch := try exact zdE) only [go_sem, h1]
    first | refine zab (f1) (by simp) ?_ | refine zaa (f1) (by simp) ?_
    simp -dsimp -implicitDefEqProofs (disch := try exact zdE) only [go_sem, h1]
    first | refine zab (f2) (by simp) ?_ | refine zaa (f2) (by simp) ?_
    refine sgo ?_
    first | refine zab (zau) (by simp) ?_ | refine zaa (zau) (by simp) ?_
    exact sgo trivial
    done
  ·have h2 : fixB x.lo = false := by simpa using h2
   rw [if_pos (.inr (.inl h2))]
   rw [h2] at f1
   simp -dsimp -implicitDefEqProofs (disch := try exact zdE) only [go_sem, h1]
   first | refine zab (f1) (by simp) ?_ | refine zaa (f1) (by simp) ?_
   refine sgo ?_
   first | refine zab (zau) (by simp) ?_ | refine zaa (zau) (by simp) ?_
   exact sgo trivial
   done
theorem zeg (a b : Int) : Ret pg zeq [.int .i64 a, .int .i64 b] (SpV (madeS a b)) := by
 refine span_made.of rfl (W_b ?_)
 unfold span_made.k span_made.res Ot kp Oy Om
 have c := zfq ⟨a, b, false⟩
 change Ret pg _ [.agg [.int .i64 a, .int .i64 b, .bool false]] (SpV (madeS a b)) at c
 refine sgo ?_
 first | refine zab (c) (by simp) ?_ | refine zaa (c) (by simp) ?_
 exact sgo trivial
 done
theorem zds (a b : Int) : Ret pg zej [.int .i64 a, .int .i64 b] (SpV (ofS a b)) := by
 refine span_Of.of rfl (W_b ?_)
 unfold span_Of.k span_Of.res Ot kp Oy Om
 unfold ofS
 refine sgo ?_
 first | refine zab (zeg (min a b) (max a b)) (by simp) ?_ | refine zaa (zeg (min a b) (max a b)) (by simp) ?_
 exact sgo trivial
 done
theorem has_ret (x : Sp) (n : Int) : Ret pg ze7 [SpV x, .int .i64 n] (.bool (hasS x n)) := by
 refine span_Span_Has.of rfl (W_b ?_)
 unfold span_Span_Has.k span_Span_Has.res Ot kp Og Oh Oy Om Ol OL Oq
 have c := zfq x
 unfold hasS
 generalize zax x = y at *
 by_cases h1 : y.all = true
 ·refine sgo ?_
  first | refine zab (c) (by simp) ?_ | refine zaa (c) (by simp) ?_
  simp -dsimp -implicitDefEqProofs (disch := try exact zdE) only [go_sem, h1]
  rfl
 ·have h1 : y.all = false := by simpa using h1
  by_cases h2 : y.lo ≤ n
  ·refine sgo ?_
   first | refine zab (c) (by simp) ?_ | refine zaa (c) (by simp) ?_
   simp -dsimp -implicitDefEqProofs (disch := try exact zdE) only [go_sem, h1, h2]
   done
  ·refine sgo ?_
   first | refine zab (c) (by simp) ?_ | refine zaa (c) (by simp) ?_
   simp -dsimp -implicitDefEqProofs (disch := try exact zdE) only [go_sem, h1, h2]
   rfl
def bothS (F : Sp → Sp → Sp) (x y : Sp) : Sp := if (zax x).all = true ∨ (zax y).all = true then ze0 else F (zax x) (zax y)
theorem both_ret (f : Nat) (F : Sp → Sp → Sp) (hf : ∀ x y, OkS x → OkS y → x.all = false → y.all = false → Ret pg f [SpV x, SpV y] (SpV (F x y))) (x y : Sp) : Ret pg zc1 [SpV x, SpV y, .fn f []] (SpV (bothS F x y)) := by
 refine span_both.of rfl (W_b ?_)
 unfold span_both.k span_both.res Ot kp kd Og Oy Om Ol OL Oq
 have c1 := zfq x
 have c2 := zfq y
 have o1 := right_is x
 have o2 := right_is y
 unfold bothS
 generalize zax x = x' at *
 generalize zax y = y' at *
 by_cases h1 : x'.all = true
 ·rw [if_pos (.inl h1)]
  refine sgo ?_
  first | refine zab (c1) (by simp) ?_ | refine zaa (c1) (by simp) ?_
  refine sgo ?_
  first | refine zab (c2) (by simp) ?_ | refine zaa (c2) (by simp) ?_
  simp -dsimp -implicitDefEqProofs (disch := try exact zdE) only [go_sem, h1]
  first | refine zab (zau) (by simp) ?_ | refine zaa (zau) (by simp) ?_
  exact sgo trivial
  done
 ·have h1 : x'.all = false := by simpa using h1
  by_cases h2 : y'.all = true
  ·rw [if_pos (.inr h2)]
   refine sgo ?_
   first | refine zab (c1) (by simp) ?_ | refine zaa (c1) (by simp) ?_
   refine sgo ?_
   first | refine zab (c2) (by simp) ?_ | refine zaa (c2) (by simp) ?_
   simp -dsimp -implicitDefEqProofs (disch := try exact zdE) only [go_sem, h1, h2]
   first | refine zab (zau) (by simp) ?_ | refine zaa (zau) (by simp) ?_
   exact sgo trivial
   done
  ·have h2 : y'.all = false := by simpa using h2
   rw [if_neg (by rw [h1, h2]; simp)]
   have c3 := hf x' y' o1 o2 h1 h2
   refine sgo ?_
   first | refine zab (c1) (by simp) ?_ | refine zaa (c1) (by simp) ?_
   refine sgo ?_
   first | refine zab (c2) (by simp) ?_ | refine zaa (c2) (by simp) ?_
   simp -dsimp -implicitDefEqProofs (disch := try exact zdE) only [go_sem, h1, h2]
   refine zda c3 (by simp) ?_
   exact sgo trivial
   done
theorem bd_ok {x : Sp} (h : OkS x) (ha : x.all = false) : (-2147483647 ≤ x.lo ∧ x.lo ≤ 2147483647) ∧ (-2147483647 ≤ x.hi ∧ x.hi ≤ 2147483647) := by have := h.lt ha; omega
theorem add1_ret (x y : Sp) (hx : OkS x) (hy : OkS y) (ha : x.all = false) (hb : y.all = false) : Ret pg zdg [SpV x, SpV y] (SpV (madeS (x.lo + y.lo) (x.hi + y.hi))) := by
 have b1 := bd_ok hx ha
 have b2 := bd_ok hy hb
 have e1 : IntKind.i64.wrap (x.lo + y.lo) = x.lo + y.lo := IntWalk.i64_in _ (by omega)
 have e2 : IntKind.i64.wrap (x.hi + y.hi) = x.hi + y.hi := IntWalk.i64_in _ (by omega)
 refine span_Span_Add_1.of rfl (W_b ?_)
 unfold span_Span_Add_1.k span_Span_Add_1.res Ot kp Oy Ol Oq
 simp -dsimp -implicitDefEqProofs (disch := try exact zdE) only [go_sem, e1, e2]
 first | refine zab (zeg (x.lo + y.lo) (x.hi + y.hi)) (by simp) ?_ | refine zaa (zeg (x.lo + y.lo) (x.hi + y.hi)) (by simp) ?_
 exact sgo trivial
 done
theorem sub1_ret (x y : Sp) (hx : OkS x) (hy : OkS y) (ha : x.all = false) (hb : y.all = false) : Ret pg zdd [SpV x, SpV y] (SpV (madeS (x.lo - y.hi) (x.hi - y.lo))) := by
 have b1 := bd_ok hx ha
 have b2 := bd_ok hy hb
 have e1 : IntKind.i64.wrap (x.lo - y.hi) = x.lo - y.hi := IntWalk.i64_in _ (by omega)
 have e2 : IntKind.i64.wrap (x.hi - y.lo) = x.hi - y.lo := IntWalk.i64_in _ (by omega)
 refine span_Span_Sub_1.of rfl (W_b ?_)
 unfold span_Span_Sub_1.k span_Span_Sub_1.res Ot kp Oy Ol Oq
 simp -dsimp -implicitDefEqProofs (disch := try exact zdE) only [go_sem, e1, e2]
 first | refine zab (zeg (x.lo - y.hi) (x.hi - y.lo)) (by simp) ?_ | refine zaa (zeg (x.lo - y.hi) (x.hi - y.lo)) (by simp) ?_
 exact sgo trivial
 done
theorem zdk (x y : Sp) : Ret pg zbd [SpV x, SpV y] (SpV (addS x y)) := by
 refine span_Span_Add.of rfl (W_b ?_)
 unfold span_Span_Add.k span_Span_Add.res Ot kp Oy OL
 have c : Ret pg zc1 [SpV x, SpV y, .fn zdg []] (SpV (addS x y)) := both_ret zdg (fun x y => madeS (x.lo + y.lo) (x.hi + y.hi)) add1_ret x y
 refine sgo ?_
 first | refine zab (c) (by simp) ?_ | refine zaa (c) (by simp) ?_
 exact sgo trivial
 done
theorem subs_ret (x y : Sp) : Ret pg zg2 [SpV x, SpV y] (SpV (subS x y)) := by
 refine span_Span_Sub.of rfl (W_b ?_)
 unfold span_Span_Sub.k span_Span_Sub.res Ot kp Oy OL
 have c : Ret pg zc1 [SpV x, SpV y, .fn zdd []] (SpV (subS x y)) := both_ret zdd (fun x y => madeS (x.lo - y.hi) (x.hi - y.lo)) sub1_ret x y
 refine sgo ?_
 first | refine zab (c) (by simp) ?_ | refine zaa (c) (by simp) ?_
 exact sgo trivial
 done
theorem negs_ret (x : Sp) : Ret pg ze6 [SpV x] (SpV (negS x)) := by
 refine span_Span_Neg.of rfl (W_b ?_)
 unfold span_Span_Neg.k span_Span_Neg.res Ot kp kd Oy OL ci
 unfold negS
 refine sgo ?_
 first | refine zab (zds 0 0) (by simp) ?_ | refine zaa (zds 0 0) (by simp) ?_
 refine sgo ?_
 first | refine zab (subs_ret (ofS 0 0) x) (by simp) ?_ | refine zaa (subs_ret (ofS 0 0) x) (by simp) ?_
 exact sgo trivial
 done
theorem ends_ret (a b c d : Int) : Ret pg zfs [.agg [.int .i64 a, .int .i64 b, .int .i64 c, .int .i64 d]] (.tup [.int .i64 (min (min (min a b) c) d), .int .i64 (max (max (max a b) c) d)]) := by
 have e0 : redV (.aptr 4 1 false) [.pp (.agg [.int .i64 a, .int .i64 b, .int .i64 c, .int .i64 d]), .int .i64 0] = some (.pp (.int .i64 a)) := rfl
 have f0 : redV (.aidx 4 1 false) [.agg [.int .i64 a, .int .i64 b, .int .i64 c, .int .i64 d], .int .i64 0] = some (.int .i64 a) := rfl
 have f1 : redV (.aidx 4 1 false) [.agg [.int .i64 a, .int .i64 b, .int .i64 c, .int .i64 d], .int .i64 1] = some (.int .i64 b) := rfl
 have f2 : redV (.aidx 4 1 false) [.agg [.int .i64 a, .int .i64 b, .int .i64 c, .int .i64 d], .int .i64 2] = some (.int .i64 c) := rfl
 have f3 : redV (.aidx 4 1 false) [.agg [.int .i64 a, .int .i64 b, .int .i64 c, .int .i64 d], .int .i64 3] = some (.int .i64 d) := rfl
 refine span_ends.of rfl (W_b ?_)
 unfold span_ends.k span_ends.res Ot kp kd Om Ol OL Oc ci
 simp -dsimp -implicitDefEqProofs (disch := try exact zdE) only [go_sem, e0]
 refine za1 (T := Nat × Int × Int × Nat) (fun t => ⟨E [(2, .int .i64 t.2.1), (3, .int .i64 t.2.2.1), (10, .agg [.int .i64 a, .int .i64 b, .int .i64 c, .int .i64 d]), (11, .int .i64 t.1)], fun _ => none, t.2.2.2, t.2.2.2⟩)
  (fun t => t.1 ≤ 4 ∧ (t.1 = 0 → t.2.1 = a ∧ t.2.2.1 = a) ∧ (t.1 = 1 → t.2.1 = a ∧ t.2.2.1 = a) ∧ (t.1 = 2 → t.2.1 = min a b ∧ t.2.2.1 = max a b) ∧ (t.1 = 3 → t.2.1 = min (min a b) c ∧ t.2.2.1 = max (max a b) c) ∧ (t.1 = 4 → t.2.1 = min (min (min a b) c) d ∧ t.2.2.1 = max (max (max a b) c) d)) (fun t => 4 - t.1) (0, a, a, _) rfl (by dsimp only; simp) ?_
 rintro ⟨i, lo, hi, nx⟩ ⟨h, h0, h1, h2, h3, h4⟩
 dsimp only at h h0 h1 h2 h3 h4
 by_cases hi4 : i < 4
 ·rcases (show i = 0 ∨ i = 1 ∨ i = 2 ∨ i = 3 by omega) with hi | hi | hi | hi
  ·obtain ⟨g1, g2⟩ := h0 hi
   have e : redV (.aidx 4 1 false) [.agg [.int .i64 a, .int .i64 b, .int .i64 c, .int .i64 d], .int .i64 (i : Int)] = some (.int .i64 a) := by rw [hi]; rfl
   simp -dsimp -implicitDefEqProofs (disch := try exact zdE) only [go_sem, e]
   exact ⟨(i + 1, _, _, _), rfl, by subst hi; dsimp only; rw [g1, g2]; simp, zdo⟩
  ·obtain ⟨g1, g2⟩ := h1 hi
   have e : redV (.aidx 4 1 false) [.agg [.int .i64 a, .int .i64 b, .int .i64 c, .int .i64 d], .int .i64 (i : Int)] = some (.int .i64 b) := by rw [hi]; rfl
   simp -dsimp -implicitDefEqProofs (disch := try exact zdE) only [go_sem, e]
   exact ⟨(i + 1, _, _, _), rfl, by subst hi; dsimp only; rw [g1, g2]; simp, zdo⟩
  ·obtain ⟨g1, g2⟩ := h2 hi
   have e : redV (.aidx 4 1 false) [.agg [.int .i64 a, .int .i64 b, .int .i64 c, .int .i64 d], .int .i64 (i : Int)] = some (.int .i64 c) := by rw [hi]; rfl
   simp -dsimp -implicitDefEqProofs (disch := try exact zdE) only [go_sem, e]
   exact ⟨(i + 1, _, _, _), rfl, by subst hi; dsimp only; rw [g1, g2]; simp, zdo⟩
  ·obtain ⟨g1, g2⟩ := h3 hi
   have e : redV (.aidx 4 1 false) [.agg [.int .i64 a, .int .i64 b, .int .i64 c, .int .i64 d], .int .i64 (i : Int)] = some (.int .i64 d) := by rw [hi]; rfl
   simp -dsimp -implicitDefEqProofs (disch := try exact zdE) only [go_sem, e]
   exact ⟨(i + 1, _, _, _), rfl, by subst hi; dsimp only; rw [g1, g2]; simp, zdo⟩
 ·have hi : i = 4 := by omega
  obtain ⟨g1, g2⟩ := h4 hi
  rw [← g1, ← g2]
  exact sgo trivial
  done
theorem fdiv_bd20 {a : Int} (h : -4611686014132420609 ≤ a ∧ a ≤ 4611686014132420609) : -4611686014132420609 ≤ a.fdiv 1048576 ∧ a.fdiv 1048576 ≤ 4611686014132420609 := by
 have h1 := Int.mul_fdiv_add_fmod a 1048576
 have h2 := Int.fmod_nonneg_of_pos a (show (0 : Int) < 1048576 by decide)
 have h3 := Int.fmod_lt_of_pos a (show (0 : Int) < 1048576 by decide)
 omega
theorem mul1_ret (x y : Sp) (hx : OkS x) (hy : OkS y) (ha : x.all = false) (hb : y.all = false) : Ret pg zde [SpV x, SpV y] (SpV (mulS' x y)) := by
 have b1 := bd_ok hx ha
 have b2 := bd_ok hy hb
 have m1 := zee (a := x.lo) (b := y.lo) (A := 2147483647) (B := 2147483647) b1.1 b2.1
 have m2 := zee (a := x.lo) (b := y.hi) (A := 2147483647) (B := 2147483647) b1.1 b2.2
 have m3 := zee (a := x.hi) (b := y.lo) (A := 2147483647) (B := 2147483647) b1.2 b2.1
 have m4 := zee (a := x.hi) (b := y.hi) (A := 2147483647) (B := 2147483647) b1.2 b2.2
 have e1 : IntKind.i64.wrap (x.lo * y.lo) = x.lo * y.lo := IntWalk.i64_in _ (by omega)
 have e2 : IntKind.i64.wrap (x.lo * y.hi) = x.lo * y.hi := IntWalk.i64_in _ (by omega)
 have e3 : IntKind.i64.wrap (x.hi * y.lo) = x.hi * y.lo := IntWalk.i64_in _ (by omega)
 have e4 : IntKind.i64.wrap (x.hi * y.hi) = x.hi * y.hi := IntWalk.i64_in _ (by omega)
 have c := ends_ret (x.lo * y.lo) (x.lo * y.hi) (x.hi * y.lo) (x.hi * y.hi)
 change Ret pg zfs _ (.tup [.int .i64 (lo4 x y), .int .i64 (hi4 x y)]) at c
 have l1 : -4611686014132420609 ≤ lo4 x y ∧ lo4 x y ≤ 4611686014132420609 := by unfold lo4; omega
 have l2 : -4611686014132420609 ≤ hi4 x y ∧ hi4 x y ≤ 4611686014132420609 := by unfold hi4; omega
 refine span_Span_Mul_1.of rfl (W_b ?_)
 unfold span_Span_Mul_1.k span_Span_Mul_1.res Ot kp Oy Om Ol Oq
 unfold mulS'
 simp -dsimp -implicitDefEqProofs (disch := try exact zdE) only [go_sem, e1, e2, e3, e4]
 first | refine zab (c) (by simp) ?_ | refine zaa (c) (by simp) ?_
 generalize lo4 x y = lo at *
 generalize hi4 x y = hi at *
 have s1 : zdt .shr .i64 lo 20 = some (.int .i64 (lo.fdiv 1048576)) := rfl
 have s2 : zdt .shr .i64 (-hi) 20 = some (.int .i64 ((-hi).fdiv 1048576)) := rfl
 have e5 : IntKind.i64.wrap (-hi) = -hi := IntWalk.i64_in _ (by omega)
 have q1 := fdiv_bd20 (a := -hi) (by omega)
 have e6 : IntKind.i64.wrap (-(-hi).fdiv 1048576) = -(-hi).fdiv 1048576 := IntWalk.i64_in _ (by omega)
 have z1 : (0 : Int) - hi = -hi := by omega
 have z2 : (0 : Int) - (-hi).fdiv 1048576 = -(-hi).fdiv 1048576 := by omega
 simp -dsimp -implicitDefEqProofs (disch := try exact zdE) only [go_sem, s1, s2, e5, e6, z1, z2]
 first | refine zab (zeg (lo.fdiv 1048576) (-(-hi).fdiv 1048576)) (by simp) ?_ | refine zaa (zeg (lo.fdiv 1048576) (-(-hi).fdiv 1048576)) (by simp) ?_
 exact sgo trivial
 done
theorem zgq (x y : Sp) : Ret pg zbp [SpV x, SpV y] (SpV (mulP x y)) := by
 refine span_Span_Mul.of rfl (W_b ?_)
 unfold span_Span_Mul.k span_Span_Mul.res Ot kp Oy OL
 have c : Ret pg zc1 [SpV x, SpV y, .fn zde []] (SpV (mulP x y)) := both_ret zde mulS' mul1_ret x y
 refine sgo ?_
 first | refine zab (c) (by simp) ?_ | refine zaa (c) (by simp) ?_
 exact sgo trivial
 done
theorem cells_Sp (x y : Sp) : redV (.eqS false [(0, false), (1, false), (2, true)]) [SpV x, SpV y] = some (.bool (decide (x = y))) := by
 have e : decide (x = y) = (decide (x.lo = y.lo) && (decide (x.hi = y.hi) && ((x.all == y.all) && true))) := by
  obtain ⟨a, b, c⟩ := x
  obtain ⟨d, e, f⟩ := y
  cases c <;> cases f <;> simp
 show (cellsEq [.int .i64 x.lo, .int .i64 x.hi, .bool x.all] [.int .i64 y.lo, .int .i64 y.hi, .bool y.all] [(0, false), (1, false), (2, true)]).map _ = _
 simp only [cellsEq, cellEq, List.getD_cons_zero, List.getD_cons_succ, if_true, Option.bind_some, Option.map_some]
 rw [e]
theorem cells_Sp' (x y : Sp) : redV (.eqS true [(0, false), (1, false), (2, true)]) [SpV x, SpV y] = some (.bool (!decide (x = y))) := by
 have h := cells_Sp x y
 unfold redV at h ⊢
 simp only [SpV, Option.map_eq_some_iff] at h ⊢
 obtain ⟨q, h1, h2⟩ := h
 refine ⟨q, h1, ?_⟩
 simp only [Bool.false_eq_true, if_false, V.bool.injEq] at h2
 simp [h2]
theorem zht (x : Sp) : Ret pg zcl [SpV x] (SpV (sqrS x)) := by
 refine span_Span_Sqr.of rfl (W_b ?_)
 unfold span_Span_Sqr.k span_Span_Sqr.res Ot kp Oh Oy Om Ol OL Oq ci
 have c1 := zgq x x
 have c2 := zfq x
 have c3 := has_ret (zax x) 0
 have e3 : hasS (zax x) 0 = hasS x 0 := by unfold hasS; rw [zch (right_is x)]
 rw [e3] at c3
 unfold sqrS
 generalize mulP x x = y at *
 generalize zax x = z at *
 generalize hasS x 0 = b at *
 by_cases h1 : z.all = true
 ·rw [if_neg (by rw [h1]; simp)]
  refine sgo ?_
  first | refine zab (c1) (by simp) ?_ | refine zaa (c1) (by simp) ?_
  refine sgo ?_
  first | refine zab (c2) (by simp) ?_ | refine zaa (c2) (by simp) ?_
  simp -dsimp -implicitDefEqProofs (disch := try exact zdE) only [go_sem, h1]
  done
 ·have h1 : z.all = false := by simpa using h1
  by_cases h2 : y.all = true
  ·rw [if_neg (by rw [h2]; simp)]
   refine sgo ?_
   first | refine zab (c1) (by simp) ?_ | refine zaa (c1) (by simp) ?_
   refine sgo ?_
   first | refine zab (c2) (by simp) ?_ | refine zaa (c2) (by simp) ?_
   simp -dsimp -implicitDefEqProofs (disch := try exact zdE) only [go_sem, h1, h2]
   done
  ·have h2 : y.all = false := by simpa using h2
   cases b
   ·rw [if_neg (by simp)]
    refine sgo ?_
    first | refine zab (c1) (by simp) ?_ | refine zaa (c1) (by simp) ?_
    refine sgo ?_
    first | refine zab (c2) (by simp) ?_ | refine zaa (c2) (by simp) ?_
    simp -dsimp -implicitDefEqProofs (disch := try exact zdE) only [go_sem, h1, h2]
    first | refine zab (c3) (by simp) ?_ | refine zaa (c3) (by simp) ?_
    exact sgo trivial
    done
   ·rw [if_pos ⟨h1, h2, rfl⟩]
    refine sgo ?_
    first | refine zab (c1) (by simp) ?_ | refine zaa (c1) (by simp) ?_
    refine sgo ?_
    first | refine zab (c2) (by simp) ?_ | refine zaa (c2) (by simp) ?_
    simp -dsimp -implicitDefEqProofs (disch := try exact zdE) only [go_sem, h1, h2]
    first | refine zab (c3) (by simp) ?_ | refine zaa (c3) (by simp) ?_
    refine sgo ?_
    rfl
theorem ins_ret (x y : Sp) : Ret pg zhu [SpV x, SpV y] (.bool (inS x y)) := by
 refine span_Span_In.of rfl (W_b ?_)
 unfold span_Span_In.k span_Span_In.res Ot kp kd Og Oh Oy Om OL
 have c1 := zfq x
 have c2 := zfq y
 unfold inS
 generalize zax x = x' at *
 generalize zax y = y' at *
 by_cases h1 : y' = ze0
 ·refine sgo ?_
  first | refine zab (c1) (by simp) ?_ | refine zaa (c1) (by simp) ?_
  refine sgo ?_
  first | refine zab (c2) (by simp) ?_ | refine zaa (c2) (by simp) ?_
  refine sgo ?_
  first | refine zab (zau) (by simp) ?_ | refine zaa (zau) (by simp) ?_
  simp -dsimp -implicitDefEqProofs (disch := try exact zdE) only [go_sem, cells_Sp, h1]
  rfl
 ·by_cases h2 : x' = ze0
  ·refine sgo ?_
   first | refine zab (c1) (by simp) ?_ | refine zaa (c1) (by simp) ?_
   refine sgo ?_
   first | refine zab (c2) (by simp) ?_ | refine zaa (c2) (by simp) ?_
   refine sgo ?_
   first | refine zab (zau) (by simp) ?_ | refine zaa (zau) (by simp) ?_
   simp -dsimp -implicitDefEqProofs (disch := try exact zdE) only [go_sem, cells_Sp, h1]
   first | refine zab (zau) (by simp) ?_ | refine zaa (zau) (by simp) ?_
   simp -dsimp -implicitDefEqProofs (disch := try exact zdE) only [go_sem, cells_Sp', h2]
   rw [decide_eq_false h1]
   rfl
  ·refine sgo ?_
   first | refine zab (c1) (by simp) ?_ | refine zaa (c1) (by simp) ?_
   refine sgo ?_
   first | refine zab (c2) (by simp) ?_ | refine zaa (c2) (by simp) ?_
   refine sgo ?_
   first | refine zab (zau) (by simp) ?_ | refine zaa (zau) (by simp) ?_
   simp -dsimp -implicitDefEqProofs (disch := try exact zdE) only [go_sem, cells_Sp, h1]
   first | refine zab (zau) (by simp) ?_ | refine zaa (zau) (by simp) ?_
   simp -dsimp -implicitDefEqProofs (disch := try exact zdE) only [go_sem, cells_Sp', h2]
   by_cases h3 : y'.lo ≤ x'.lo
   ·simp -dsimp -implicitDefEqProofs (disch := try exact zdE) only [go_sem, h3]
    rw [decide_eq_false h1, decide_eq_false h2]
    rfl
   ·simp -dsimp -implicitDefEqProofs (disch := try exact zdE) only [go_sem, h3]
    rw [decide_eq_false h1, decide_eq_false h2]
    rfl
end Go.Gim
/- Vectors of spans. -/
set_option maxRecDepth 100000
set_option maxHeartbeats 1000000
namespace Go.Gim
open Go.Proofs
def VcV (v : Nat → Sp) : V := .agg [.int .i64 (v 0).lo, .int .i64 (v 0).hi, .bool (v 0).all, .int .i64 (v 1).lo, .int .i64 (v 1).hi, .bool (v 1).all, .int .i64 (v 2).lo, .int .i64 (v 2).hi, .bool (v 2).all]
@[simp] theorem VcV_pure (x : Nat → Sp) : (VcV x).Pure := by simp [VcV]
@[go_sem] theorem VcV_isAgg (x : Nat → Sp) : (VcV x).isAgg = true := rfl
@[simp, go_sem] theorem VcV_isJunk (x : Nat → Sp) : (VcV x).isJunk = false := rfl
@[go_sem] theorem VcV_cells (v : Nat → Sp) : (VcV v).cells = [.int .i64 (v 0).lo, .int .i64 (v 0).hi, .bool (v 0).all, .int .i64 (v 1).lo, .int .i64 (v 1).hi, .bool (v 1).all, .int .i64 (v 2).lo, .int .i64 (v 2).hi, .bool (v 2).all] := rfl
@[go_sem] theorem part_VcV (x : Nat → Sp) : V.part (VcV x) 0 9 true = some (VcV x) := rfl
@[go_sem] theorem sub_VcV (g : Nat → Option (List V)) (x : Nat → Sp) : V.sub g (VcV x) = VcV x := zct _ (VcV_pure x)
@[go_sem] theorem frz_VcV (H : Hp) (n : Nat) (x : Nat → Sp) : frz H (n + 2) (VcV x) = some (VcV x) := rfl
@[go_sem] theorem at_V0 (v : Nat → Sp) : redV (.aptr 3 3 true) [.pp (VcV v), .int .i64 0] = some (.pp (SpV (v 0))) := rfl
@[go_sem] theorem at_V1 (v : Nat → Sp) : redV (.aptr 3 3 true) [.pp (VcV v), .int .i64 1] = some (.pp (SpV (v 1))) := rfl
@[go_sem] theorem at_V2 (v : Nat → Sp) : redV (.aptr 3 3 true) [.pp (VcV v), .int .i64 2] = some (.pp (SpV (v 2))) := rfl
theorem at_V (v : Nat → Sp) {i : Nat} (h : i < 3) : redV (.aptr 3 3 true) [.pp (VcV v), .int .i64 (i : Int)] = some (.pp (SpV (v i))) := by
 rcases (show i = 0 ∨ i = 1 ∨ i = 2 by omega) with rfl | rfl | rfl <;> rfl
@[go_sem] theorem part_V0 (v : Nat → Sp) : V.part (VcV v) 0 3 true = some (SpV (v 0)) := rfl
@[go_sem] theorem part_V3 (v : Nat → Sp) : V.part (VcV v) 3 3 true = some (SpV (v 1)) := rfl
@[go_sem] theorem part_V6 (v : Nat → Sp) : V.part (VcV v) 6 3 true = some (SpV (v 2)) := rfl
theorem part_Vi (v : Nat → Sp) {i : Nat} (h : i < 3) : V.part (VcV v) (0 + i * 3) 3 true = some (SpV (v i)) := by
 rcases (show i = 0 ∨ i = 1 ∨ i = 2 by omega) with rfl | rfl | rfl <;> rfl
theorem norm2_ret (v : Nat → Sp) : Ret pg zg1 [VcV v] (SpV (normV v)) := by
 refine vec_Vec_Norm2.of rfl (W_b ?_)
 unfold vec_Vec_Norm2.k vec_Vec_Norm2.res Ot kp kd Oy OL ci
 unfold normV
 refine sgo ?_
 first | refine zab (zht (v 0)) (by simp) ?_ | refine zaa (zht (v 0)) (by simp) ?_
 refine sgo ?_
 first | refine zab (zht (v 1)) (by simp) ?_ | refine zaa (zht (v 1)) (by simp) ?_
 refine sgo ?_
 first | refine zab (zdk (sqrS (v 0)) (sqrS (v 1))) (by simp) ?_ | refine zaa (zdk (sqrS (v 0)) (sqrS (v 1))) (by simp) ?_
 refine sgo ?_
 first | refine zab (zht (v 2)) (by simp) ?_ | refine zaa (zht (v 2)) (by simp) ?_
 refine sgo ?_
 first | refine zab (zdk _ (sqrS (v 2))) (by simp) ?_ | refine zaa (zdk _ (sqrS (v 2))) (by simp) ?_
 exact sgo trivial
 done
@[go_sem] theorem setS_S (x y : Sp) : V.setPart (SpV x) 0 (SpV y) = some (SpV y) := rfl
@[go_sem] theorem setS_z (y : Sp) : V.setPart (.agg [.int .i64 0, .int .i64 0, .bool false]) 0 (SpV y) = some (SpV y) := rfl
@[go_sem] theorem setV_V (x y : Nat → Sp) : V.setPart (VcV x) 0 (VcV y) = some (VcV y) := rfl
@[go_sem] theorem setV_z (y : Nat → Sp) : V.setPart (.agg [.int .i64 0, .int .i64 0, .bool false, .int .i64 0, .int .i64 0, .bool false, .int .i64 0, .int .i64 0, .bool false]) 0 (VcV y) = some (VcV y) := rfl
theorem set_Vi (u : Nat → Sp) (y : Sp) {i : Nat} (h : i < 3) : V.setPart (VcV u) (0 + i * 3) (SpV y) = some (VcV fun k => if k = i then y else u k) := by
 rcases (show i = 0 ∨ i = 1 ∨ i = 2 by omega) with rfl | rfl | rfl <;> rfl
def midV (v u : Nat → Sp) (i k : Nat) : Sp := if k < i then u k else v k
attribute [-go_sem] V.part V.setPart in
theorem each_ret (f : Nat) (F : Sp → Sp → Sp) (hf : ∀ x y, Ret pg f [SpV x, SpV y] (SpV (F x y))) (v w : Nat → Sp) : Ret pg zei [VcV v, VcV w, .fn f []] (VcV fun i => F (v i) (w i)) := by
 refine vec_Vec_each.of rfl (W_b ?_)
 unfold vec_Vec_each.k vec_Vec_each.res Ot kp kd Oy Om OL Oc ci
 refine sgo ?_
 refine za1 (T := Nat × Hp × Nat) (fun t => ⟨E [(2, .fn f []), (3, .ptr 0 1 0 0), (4, .pp (VcV w)), (6, .ptr 2 1 0 0), (8, .int .i64 t.1)], t.2.1, t.2.2, t.2.2⟩)
  (fun t => t.1 ≤ 3 ∧ 2 < t.2.2 ∧ t.2.1 0 = some ⟨[VcV (midV v (fun i => F (v i) (w i)) t.1)], 9⟩ ∧ t.2.1 2 = some ⟨[VcV fun _ => ⟨0, 0, false⟩], 9⟩) (fun t => 3 - t.1) (0, _, 4) rfl ⟨zdo, zdo, rfl, rfl⟩ ?_
 rintro ⟨i, H, nx⟩ ⟨i1, i2, i3, i4⟩
 dsimp only at i1 i2 i3 i4
 by_cases hi : i < 3
 ·have e1 := at_V w hi
  have e2 := part_Vi (midV v (fun i => F (v i) (w i)) i) hi
  have e3 : midV v (fun i => F (v i) (w i)) i i = v i := by unfold midV; rw [if_neg (by omega)]
  have e4 := set_Vi (midV v (fun i => F (v i) (w i)) i) (F (v i) (w i)) hi
  have e5 : (fun k => if k = i then F (v i) (w i) else midV v (fun i => F (v i) (w i)) i k) = midV v (fun i => F (v i) (w i)) (i + 1) := by
   funext k
   unfold midV
   by_cases h : k = i
   ·subst h; rw [if_pos rfl, if_pos (by omega)]
   ·rw [if_neg h]
    by_cases h2 : k < i
    ·rw [if_pos h2, if_pos (by omega)]
    ·rw [if_neg h2, if_neg (by omega)]
  rw [e5] at e4
  rw [e3] at e2
  simp only [Nat.zero_add] at e2 e4
  simp -dsimp -implicitDefEqProofs (disch := try exact zdE) only [go_sem, i3, i4, e1, e2, e3]
  refine zaa (hf (v i) (w i)) (by simp) ?_
  simp -dsimp -implicitDefEqProofs (disch := try exact zdE) only [go_sem, i3, i4, e4]
  exact ⟨(i + 1, H.upd 0 (some ⟨[VcV (midV v (fun i => F (v i) (w i)) (i + 1))], 9⟩), _), rfl, ⟨zdo, zdo, by dsimp only; exact Hp.upd_same _ _ _, by dsimp only; rw [Hp.upd_ne _ _ (by decide)]; exact i4⟩, zdo⟩
 ·have hie : i = 3 := by omega
  simp -dsimp -implicitDefEqProofs (disch := try exact zdE) only [go_sem, i3, i4]
  rw [hie]
  rfl
attribute [-go_sem] V.part V.setPart in
theorem zha (v w : Nat → Sp) : Ret pg zd5 [VcV v, VcV w] (SpV (dotV v w)) := by
 refine vec_Vec_Dot.of rfl (W_b ?_)
 unfold vec_Vec_Dot.k vec_Vec_Dot.res Ot kp kd Oy OL ci
 unfold dotV
 have c := each_ret zbp mulP zgq v w
 refine sgo ?_
 first | refine zab (c) (by simp) ?_ | refine zaa (c) (by simp) ?_
 refine sgo ?_
 first | refine zab (zdk (mulP (v 0) (w 0)) (mulP (v 1) (w 1))) (by simp) ?_ | refine zaa (zdk (mulP (v 0) (w 0)) (mulP (v 1) (w 1))) (by simp) ?_
 refine sgo ?_
 first | refine zab (zdk _ (mulP (v 2) (w 2))) (by simp) ?_ | refine zaa (zdk _ (mulP (v 2) (w 2))) (by simp) ?_
 exact sgo trivial
 done
end Go.Gim
/- Sums for sine and cosine: the program's own. -/
set_option maxRecDepth 100000
set_option maxHeartbeats 2000000
namespace Go.Gim
open Go.Proofs
theorem lim_one : lim 1 ≤ 2 := zar ⟨by omega, by omega⟩
theorem lim_pow {x : Int} {L : Nat} (h : lim x ≤ L) : ∀ n : Nat, lim (x ^ n) ≤ 2 + n * L
 | 0 => by have := lim_one; simp; omega
 | n + 1 => by
  have ih := lim_pow h n
  have := za5 (x ^ n) x
  rw [zcv, Nat.add_mul]
  omega
theorem zic (x : Int) (n : Nat) (hn : n ≤ 40) (hx : lim x ≤ 10) : Ret pg zgc [IV x, .int .i64 n] (IV (x ^ n)) := by
 refine kern_power.of rfl (W_b ?_)
 unfold kern_power.k kern_power.res Ot kp Oy Om OL Oc ci
 refine sgo ?_
 first | refine zab (zbf 1 ⟨by omega, by omega⟩) (by simp) ?_ | refine zaa (zbf 1 ⟨by omega, by omega⟩) (by simp) ?_
 refine sgo ?_
 refine za1 (T := Nat × Hp × Nat) (fun t => ⟨E [(2, .pp (IV x)), (4, .ptr 1 1 0 0), (5, .ptr 3 1 0 0), (7, .int .i64 n), (8, .int .i64 t.1)], t.2.1, t.2.2, t.2.2⟩)
  (fun t => t.1 ≤ n ∧ 3 < t.2.2 ∧ t.2.1 3 = some ⟨[IV (x ^ t.1)], 2⟩ ∧ t.2.1 1 = some ⟨[.agg [.bool false, .sl []]], 2⟩) (fun t => n - t.1) (0, (Hp.upd (fun _ => none) 1 (some ⟨[.agg [.bool false, .sl []]], 2⟩)).upd 3 (some ⟨[IV 1], 2⟩), 7) rfl ⟨zdo, zdo, by dsimp only; rw [Hp.upd_same]; simp, rfl⟩ ?_
 rintro ⟨i, H, nx⟩ ⟨i1, i2, i3, i4⟩
 dsimp only at i1 i2 i3 i4
 by_cases hi : i < n
 ·have l1 := lim_pow hx i
  have l2 : i * 10 ≤ 400 := by omega
  have e : x ^ i * x = x ^ (i + 1) := (zcv x i).symm
  simp -dsimp -implicitDefEqProofs (disch := try exact zdE) only [go_sem, i3, i4]
  first | refine zab (zbe (x ^ i) x (by omega) (by omega)) (by simp) ?_ | refine zaa (zbe (x ^ i) x (by omega) (by omega)) (by simp) ?_
  simp -dsimp -implicitDefEqProofs (disch := try exact zdE) only [go_sem, i3, i4, e]
  exact ⟨(i + 1, H.upd 3 (some ⟨[IV (x ^ (i + 1))], 2⟩), _), rfl, ⟨zdo, zdo, by dsimp only; exact Hp.upd_same _ _ _, by dsimp only; rw [Hp.upd_ne _ _ (by decide)]; exact i4⟩, zdo⟩
 ·have hie : i = n := by omega
  rw [hie] at i3
  simp -dsimp -implicitDefEqProofs (disch := try exact zdE) only [go_sem, i3, i4]
  done
theorem lim_fact : ∀ n : Nat, n ≤ 100 → lim (factI n) ≤ 2 + 2 * n
 | 0, _ => by have := lim_one; unfold factI; omega
 | n + 1, h => by
  have ih := lim_fact n (by omega)
  have h1 := za5 (factI n) ((n : Int) + 1)
  have h2 := zar (x := (n : Int) + 1) ⟨by omega, by omega⟩
  unfold factI
  omega
theorem fact_pos : ∀ n : Nat, 0 < factI n
 | 0 => by decide
 | n + 1 => Int.mul_pos (fact_pos n) (by omega)
theorem zgt (n : Nat) (hn : n ≤ 60) : Ret pg zeo [.int .i64 n] (IV (factI n)) := by
 refine kern_factorial.of rfl (W_b ?_)
 unfold kern_factorial.k kern_factorial.res Ot kp kd Oy Om OL Oc ci
 refine sgo ?_
 first | refine zab (zbf 1 ⟨by omega, by omega⟩) (by simp) ?_ | refine zaa (zbf 1 ⟨by omega, by omega⟩) (by simp) ?_
 refine sgo ?_
 refine za1 (T := Nat × Hp × Nat) (fun t => ⟨E [(2, .ptr 0 1 0 0), (3, .ptr 2 1 0 0), (6, .int .i64 n), (7, .int .i64 t.1)], t.2.1, t.2.2, t.2.2⟩)
  (fun t => t.1 ≤ n ∧ 2 < t.2.2 ∧ t.2.1 2 = some ⟨[IV (factI t.1)], 2⟩ ∧ t.2.1 0 = some ⟨[.agg [.bool false, .sl []]], 2⟩) (fun t => n - t.1) (0, _, 6) rfl ⟨zdo, zdo, rfl, rfl⟩ ?_
 rintro ⟨i, H, nx⟩ ⟨i1, i2, i3, i4⟩
 dsimp only at i1 i2 i3 i4
 by_cases hi : i < n
 ·have l1 := lim_fact i (by omega)
  have l2 := zar (x := ((i + 1 : Nat) : Int)) ⟨by omega, by omega⟩
  have e : factI i * ((i + 1 : Nat) : Int) = factI (i + 1) := rfl
  simp -dsimp -implicitDefEqProofs (disch := try exact zdE) only [go_sem, i3, i4]
  first | refine zab (zbf ((i + 1 : Nat) : Int) ⟨by omega, by omega⟩) (by simp) ?_ | refine zaa (zbf ((i + 1 : Nat) : Int) ⟨by omega, by omega⟩) (by simp) ?_
  simp -dsimp -implicitDefEqProofs (disch := try exact zdE) only [go_sem, i3, i4]
  first | refine zab (zbe (factI i) ((i + 1 : Nat) : Int) (by omega) (by omega)) (by simp) ?_ | refine zaa (zbe (factI i) ((i + 1 : Nat) : Int) (by omega) (by omega)) (by simp) ?_
  simp -dsimp -implicitDefEqProofs (disch := try exact zdE) only [go_sem, i3, i4, e]
  exact ⟨(i + 1, H.upd 2 (some ⟨[IV (factI (i + 1))], 2⟩), _), rfl, ⟨zdo, zdo, by dsimp only; exact Hp.upd_same _ _ _, by dsimp only; rw [Hp.upd_ne _ _ (by decide)]; exact i4⟩, zdo⟩
 ·have hie : i = n := by omega
  rw [hie] at i3
  simp -dsimp -implicitDefEqProofs (disch := try exact zdE) only [go_sem, i3, i4]
  done
theorem ksum_ret (s : Int) (c T : Nat) (hs : -4194304 ≤ s ∧ s ≤ 4194304) (hc : c ≤ 2) (hT : 1 ≤ T ∧ T ≤ 13) : Ret pg n_kern_sum [.int .i64 s, .int .i64 c, .int .i64 T] (.tup [IV (serN c T s * 1048576), IV (serD c T)]) := by
 have e1 : IntKind.i64.wrap (-s) = -s := IntWalk.i64_in _ (by omega)
 have e1' : (0 : Int) - s = -s := by omega
 have e2 : IntKind.i64.wrap ((T : Int) - 1) = ((T - 1 : Nat) : Int) := by rw [IntWalk.i64_in _ (by omega)]; omega
 have e3 : IntKind.i64.wrap (2 * ((T - 1 : Nat) : Int)) = ((2 * (T - 1) : Nat) : Int) := by rw [IntWalk.i64_in _ (by omega)]; omega
 have e4 : IntKind.i64.wrap (((2 * (T - 1) : Nat) : Int) + c) = ((2 * (T - 1) + c : Nat) : Int) := by rw [IntWalk.i64_in _ (by omega)]; omega
 have lf := lim_fact (2 * (T - 1) + c) (by omega)
 have ls := zar (x := -s) ⟨by omega, by omega⟩
 have lo := zar (x := 1048576) ⟨by omega, by omega⟩
 refine kern_sum.of rfl (W_b ?_)
 unfold kern_sum.k kern_sum.res Ot kp kd Oy Om OL Oc ci
 refine sgo ?_
 first | refine zab (zbf 1048576 ⟨by omega, by omega⟩) (by simp) ?_ | refine zaa (zbf 1048576 ⟨by omega, by omega⟩) (by simp) ?_
 simp -dsimp -implicitDefEqProofs (disch := try exact zdE) only [go_sem, e1, e1']
 first | refine zab (zbf (-s) ⟨by omega, by omega⟩) (by simp) ?_ | refine zaa (zbf (-s) ⟨by omega, by omega⟩) (by simp) ?_
 simp -dsimp -implicitDefEqProofs (disch := try exact zdE) only [go_sem, e2, e3, e4]
 first | refine zab (zgt (2 * (T - 1) + c) (by omega)) (by simp) ?_ | refine zaa (zgt (2 * (T - 1) + c) (by omega)) (by simp) ?_
 refine sgo ?_
 have ltop : lim (factI (2 * (T - 1) + c)) ≤ 60 := by omega
 have lpx : ∀ k, k ≤ 13 → lim ((-s) ^ k) ≤ 30 := fun k hk => by have := lim_pow ls k; omega
 have lpo : ∀ k, k ≤ 13 → lim ((1048576 : Int) ^ k) ≤ 30 := fun k hk => by have := lim_pow lo k; omega
 have lQ : ∀ k, lim (serQ c T k) ≤ 60 := fun k => by have := lim_fdiv (factI (2 * (T - 1) + c)) (factI (2 * k + c)); unfold serQ; omega
 have lterm : ∀ k, k < T → lim ((-s) ^ k * serB c T k) ≤ 120 := fun k hk => by
  have h1 := za5 ((-s) ^ k) (serB c T k)
  have h2 := za5 ((1048576 : Int) ^ (T - 1 - k)) (serQ c T k)
  have h3 := lpx k (by omega)
  have h4 := lpo (T - 1 - k) (by omega)
  have h5 := lQ k
  unfold serB at h1 ⊢
  omega
 have lsum : ∀ n, n ≤ T → lim (sumZ (fun k => (-s) ^ k * serB c T k) n) ≤ 120 + n := by
  intro n hn
  induction n with
  | zero => simp [sumZ, zbk]
  | succ n ih =>
   have h1 := ih (by omega)
   have h2 := lterm n (by omega)
   have h3 := zg8 (sumZ (fun k => (-s) ^ k * serB c T k) n) ((-s) ^ n * serB c T n)
   simp only [sumZ]
   omega
 refine za1 (T := Nat × Hp × Nat) (fun t => ⟨E [(1, .int .i64 c), (2, .int .i64 T), (6, .ptr 0 1 0 0), (7, .ptr 1 1 0 0), (8, .ptr 3 1 0 0), (9, .ptr 8 1 0 0), (10, .ptr 16 1 0 0), (25, .int .i64 T), (26, .int .i64 t.1)], t.2.1, t.2.2, t.2.2⟩)
  (fun t => t.1 ≤ T ∧ 16 < t.2.2 ∧ t.2.1 0 = some ⟨[IV (sumZ (fun k => (-s) ^ k * serB c T k) t.1)], 2⟩ ∧ t.2.1 1 = some ⟨[.agg [.bool false, .sl []]], 2⟩ ∧ t.2.1 3 = some ⟨[IV 1048576], 2⟩ ∧ t.2.1 8 = some ⟨[IV (-s)], 2⟩ ∧ t.2.1 16 = some ⟨[IV (factI (2 * (T - 1) + c))], 2⟩) (fun t => T - t.1)
  (0, ((((Hp.upd (fun _ => none) 0 (some ⟨[.agg [.bool false, .sl []]], 2⟩)).upd 1 (some ⟨[.agg [.bool false, .sl []]], 2⟩)).upd 3 (some ⟨[IV 1048576], 2⟩)).upd 8 (some ⟨[IV (-s)], 2⟩)).upd 16 (some ⟨[IV (factI (2 * (T - 1) + c))], 2⟩), 20) rfl ⟨zdo, zdo, by rw [show sumZ (fun k => (-s) ^ k * serB c T k) 0 = 0 from rfl, zdl]; rfl, rfl, rfl, rfl, rfl⟩ ?_
 rintro ⟨k, H, nx⟩ ⟨k1, k2, k3, k4, k5, k6, k7⟩
 dsimp only at k1 k2 k3 k4 k5 k6 k7
 by_cases hk : k < T
 ·have g1 : IntKind.i64.wrap (2 * (k : Int)) = ((2 * k : Nat) : Int) := by rw [IntWalk.i64_in _ (by omega)]; omega
  have g2 : IntKind.i64.wrap (((2 * k : Nat) : Int) + c) = ((2 * k + c : Nat) : Int) := by rw [IntWalk.i64_in _ (by omega)]; omega
  have g3 : IntKind.i64.wrap (((T - 1 : Nat) : Int) - k) = ((T - 1 - k : Nat) : Int) := by rw [IntWalk.i64_in _ (by omega)]; omega
  have lfk := lim_fact (2 * k + c) (by omega)
  have hfp := fact_pos (2 * k + c)
  have eq : (factI (2 * (T - 1) + c)).fdiv (factI (2 * k + c)) = serQ c T k := rfl
  have h1 := lpx k (by omega)
  have h2 := lpo (T - 1 - k) (by omega)
  have h3 := lQ k
  have h4 := za5 ((-s) ^ k) ((1048576 : Int) ^ (T - 1 - k))
  have h5 := za5 ((-s) ^ k * (1048576 : Int) ^ (T - 1 - k)) (serQ c T k)
  have h6 := lsum k (by omega)
  have em : sumZ (fun k => (-s) ^ k * serB c T k) k + (-s) ^ k * (1048576 : Int) ^ (T - 1 - k) * serQ c T k = sumZ (fun k => (-s) ^ k * serB c T k) (k + 1) := by
   simp only [sumZ]
   rw [Int.mul_assoc]
   rfl
  simp -dsimp -implicitDefEqProofs (disch := try exact zdE) only [go_sem, k3, k4, k5, k6, k7, g1, g2]
  first | refine zab (zgt (2 * k + c) (by omega)) (by simp) ?_ | refine zaa (zgt (2 * k + c) (by omega)) (by simp) ?_
  simp -dsimp -implicitDefEqProofs (disch := try exact zdE) only [go_sem, k3, k4, k5, k6, k7]
  first | refine zab (quo_ret (factI (2 * (T - 1) + c)) (factI (2 * k + c)) (by omega) (by omega) (by omega)) (by simp) ?_ | refine zaa (quo_ret (factI (2 * (T - 1) + c)) (factI (2 * k + c)) (by omega) (by omega) (by omega)) (by simp) ?_
  rw [eq]
  simp -dsimp -implicitDefEqProofs (disch := try exact zdE) only [go_sem, k3, k4, k5, k6, k7]
  first | refine zab (zic (-s) k (by omega) (by omega)) (by simp) ?_ | refine zaa (zic (-s) k (by omega) (by omega)) (by simp) ?_
  simp -dsimp -implicitDefEqProofs (disch := try exact zdE) only [go_sem, k3, k4, k5, k6, k7, e2, g3]
  first | refine zab (zic 1048576 (T - 1 - k) (by omega) (by omega)) (by simp) ?_ | refine zaa (zic 1048576 (T - 1 - k) (by omega) (by omega)) (by simp) ?_
  simp -dsimp -implicitDefEqProofs (disch := try exact zdE) only [go_sem, k3, k4, k5, k6, k7]
  first | refine zab (zbe ((-s) ^ k) ((1048576 : Int) ^ (T - 1 - k)) (by omega) (by omega)) (by simp) ?_ | refine zaa (zbe ((-s) ^ k) ((1048576 : Int) ^ (T - 1 - k)) (by omega) (by omega)) (by simp) ?_
  simp -dsimp -implicitDefEqProofs (disch := try exact zdE) only [go_sem, k3, k4, k5, k6, k7]
  first | refine zab (zbe ((-s) ^ k * (1048576 : Int) ^ (T - 1 - k)) (serQ c T k) (by omega) (by omega)) (by simp) ?_ | refine zaa (zbe ((-s) ^ k * (1048576 : Int) ^ (T - 1 - k)) (serQ c T k) (by omega) (by omega)) (by simp) ?_
  simp -dsimp -implicitDefEqProofs (disch := try exact zdE) only [go_sem, k3, k4, k5, k6, k7]
  first | refine zab (zb8 (sumZ (fun k => (-s) ^ k * serB c T k) k) ((-s) ^ k * (1048576 : Int) ^ (T - 1 - k) * serQ c T k) (by omega) (by omega)) (by simp) ?_ | refine zaa (zb8 (sumZ (fun k => (-s) ^ k * serB c T k) k) ((-s) ^ k * (1048576 : Int) ^ (T - 1 - k) * serQ c T k) (by omega) (by omega)) (by simp) ?_
  rw [em]
  simp -dsimp -implicitDefEqProofs (disch := try exact zdE) only [go_sem, k3, k4, k5, k6, k7]
  generalize hG : Hp.upd _ 0 (some ⟨[IV (sumZ (fun k => (-s) ^ k * serB c T k) (k + 1))], 2⟩) = G
  have u0 : G 0 = some ⟨[IV (sumZ (fun k => (-s) ^ k * serB c T k) (k + 1))], 2⟩ := by rw [← hG, Hp.upd_same]
  have ux : ∀ b, b ≠ 0 → b ≤ 16 → G b = H b := fun b h0 hb => by rw [← hG, Hp.upd_ne _ _ h0, Hp.upd_ne _ _ (by omega), Hp.upd_ne _ _ (by omega), Hp.upd_ne _ _ (by omega), Hp.upd_ne _ _ (by omega)]
  exact ⟨(k + 1, G, _), rfl, ⟨zdo, zdo, u0, (ux 1 (by omega) (by omega)).trans k4, (ux 3 (by omega) (by omega)).trans k5, (ux 8 (by omega) (by omega)).trans k6, (ux 16 (by omega) (by omega)).trans k7⟩, zdo⟩
 ·have hke : k = T := by omega
  rw [hke] at k3
  have l1 := lsum T (by omega)
  have l2 := za5 (sumZ (fun k => (-s) ^ k * serB c T k) T) 1048576
  have l3 := lpo (T - 1) (by omega)
  simp -dsimp -implicitDefEqProofs (disch := try exact zdE) only [go_sem, k3, k4, k5, k6, k7]
  first | refine zab (zbe (sumZ (fun k => (-s) ^ k * serB c T k) T) 1048576 (by omega) (by omega)) (by simp) ?_ | refine zaa (zbe (sumZ (fun k => (-s) ^ k * serB c T k) T) 1048576 (by omega) (by omega)) (by simp) ?_
  simp -dsimp -implicitDefEqProofs (disch := try exact zdE) only [go_sem, k3, k4, k5, k6, k7, e2]
  first | refine zab (zic 1048576 (T - 1) (by omega) (by omega)) (by simp) ?_ | refine zaa (zic 1048576 (T - 1) (by omega) (by omega)) (by simp) ?_
  simp -dsimp -implicitDefEqProofs (disch := try exact zdE) only [go_sem, k3, k4, k5, k6, k7]
  first | refine zab (zbe ((1048576 : Int) ^ (T - 1)) (factI (2 * (T - 1) + c)) (by omega) (by omega)) (by simp) ?_ | refine zaa (zbe ((1048576 : Int) ^ (T - 1)) (factI (2 * (T - 1) + c)) (by omega) (by omega)) (by simp) ?_
  simp -dsimp -implicitDefEqProofs (disch := try exact zdE) only [go_sem, k3, k4, k5, k6, k7]
  rfl
theorem lim_ser (s : Int) (c T : Nat) (hs : -4194304 ≤ s ∧ s ≤ 4194304) (hc : c ≤ 2) (hT : 1 ≤ T ∧ T ≤ 13) : lim (serN c T s) ≤ 140 ∧ lim (serD c T) ≤ 100 := by
 have lf := lim_fact (2 * (T - 1) + c) (by omega)
 have ls := zar (x := -s) ⟨by omega, by omega⟩
 have lo := zar (x := 1048576) ⟨by omega, by omega⟩
 have lpx : ∀ k, k ≤ 13 → lim ((-s) ^ k) ≤ 30 := fun k hk => by have := lim_pow ls k; omega
 have lpo : ∀ k, k ≤ 13 → lim ((1048576 : Int) ^ k) ≤ 30 := fun k hk => by have := lim_pow lo k; omega
 have lQ : ∀ k, lim (serQ c T k) ≤ 60 := fun k => by have := lim_fdiv (factI (2 * (T - 1) + c)) (factI (2 * k + c)); unfold serQ; omega
 have lterm : ∀ k, k < T → lim ((-s) ^ k * serB c T k) ≤ 120 := fun k hk => by
  have h1 := za5 ((-s) ^ k) (serB c T k)
  have h2 := za5 ((1048576 : Int) ^ (T - 1 - k)) (serQ c T k)
  have h3 := lpx k (by omega)
  have h4 := lpo (T - 1 - k) (by omega)
  have h5 := lQ k
  unfold serB at h1 ⊢
  omega
 have lsum : ∀ n, n ≤ T → lim (sumZ (fun k => (-s) ^ k * serB c T k) n) ≤ 120 + n := by
  intro n hn
  induction n with
  | zero => simp [sumZ, zbk]
  | succ n ih =>
   have h1 := ih (by omega)
   have h2 := lterm n (by omega)
   have h3 := zg8 (sumZ (fun k => (-s) ^ k * serB c T k) n) ((-s) ^ n * serB c T n)
   simp only [sumZ]
   omega
 have l1 := lsum T (by omega)
 have l3 := lpo (T - 1) (by omega)
 have l4 := za5 ((1048576 : Int) ^ (T - 1)) (factI (2 * (T - 1) + c))
 unfold serN serS serD
 omega
end Go.Gim
/- Sine and cosine of spans: the program's own. -/
set_option maxRecDepth 100000
set_option maxHeartbeats 2000000
namespace Go.Gim
open Go.Proofs
theorem zho (c : Nat) (h : Enc c) (hc : c ≤ 2) (s : Sp) (hs : OkS s) : Ret pg zfe [SpV s, .int .i64 c] (SpV (encS c s)) := by
 refine kern_enclosed.of rfl (W_b ?_)
 unfold kern_enclosed.k kern_enclosed.res Ot kp kd Oy Om Ol OL Oq ci
 have c1 := ins_ret s (ofS 0 4194304)
 by_cases hi : inS s (ofS 0 4194304) = true
 ·rw [hi] at c1
  obtain ⟨ha, h1, h2⟩ := (enc_in hs).1 hi
  obtain ⟨he, b1, b2, b3⟩ := enc_eq h hs ha h1 h2
  have hl := hs.lt ha
  have c2 := ksum_ret s.hi c 12 (by omega) hc (by omega)
  have c3 := ksum_ret s.lo c 13 (by omega) hc (by omega)
  obtain ⟨l1, l2⟩ := lim_ser s.hi c 12 (by omega) hc (by omega)
  obtain ⟨l3, l4⟩ := lim_ser s.lo c 13 (by omega) hc (by omega)
  have lo := zar (x := 1048576) ⟨by omega, by omega⟩
  have l5 := za5 (serN c 12 s.hi) 1048576
  have l6 := za5 (serN c 13 s.lo) 1048576
  have l7 : lim (-(serN c 13 s.lo * 1048576)) = lim (serN c 13 s.lo * 1048576) := lim_neg _
  have d1 := h.m.2.1
  have d2 := h.m.2.2
  have e1 : (serN c 12 s.hi * 1048576).fdiv (serD c 12) = encLo c s.hi := rfl
  have e2 : -((-(serN c 13 s.lo * 1048576)).fdiv (serD c 13)) = encHi c s.lo := rfl
  have l8 := lim_fdiv (-(serN c 13 s.lo * 1048576)) (serD c 13)
  have e3 : ofS (encLo c s.hi) (encHi c s.lo) = encS c s := by unfold encS; rw [if_pos hi]
  refine sgo ?_
  first | refine zab (zds 0 4194304) (by simp) ?_ | refine zaa (zds 0 4194304) (by simp) ?_
  refine sgo ?_
  first | refine zab (c1) (by simp) ?_ | refine zaa (c1) (by simp) ?_
  refine sgo ?_
  first | refine zab (c2) (by simp) ?_ | refine zaa (c2) (by simp) ?_
  refine sgo ?_
  first | refine zab (quo_ret (serN c 12 s.hi * 1048576) (serD c 12) (by omega) (by omega) (by omega)) (by simp) ?_ | refine zaa (quo_ret (serN c 12 s.hi * 1048576) (serD c 12) (by omega) (by omega) (by omega)) (by simp) ?_
  rw [e1]
  refine sgo ?_
  first | refine zab (c3) (by simp) ?_ | refine zaa (c3) (by simp) ?_
  refine sgo ?_
  first | refine zab (neg_ret (serN c 13 s.lo * 1048576) (by omega)) (by simp) ?_ | refine zaa (neg_ret (serN c 13 s.lo * 1048576) (by omega)) (by simp) ?_
  refine sgo ?_
  first | refine zab (quo_ret (-(serN c 13 s.lo * 1048576)) (serD c 13) (by omega) (by omega) (by omega)) (by simp) ?_ | refine zaa (quo_ret (-(serN c 13 s.lo * 1048576)) (serD c 13) (by omega) (by omega) (by omega)) (by simp) ?_
  refine sgo ?_
  first | refine zab (zh6 (encLo c s.hi) ⟨by omega, by omega⟩) (by simp) ?_ | refine zaa (zh6 (encLo c s.hi) ⟨by omega, by omega⟩) (by simp) ?_
  refine sgo ?_
  first | refine zab (neg_ret ((-(serN c 13 s.lo * 1048576)).fdiv (serD c 13)) (by omega)) (by simp) ?_ | refine zaa (neg_ret ((-(serN c 13 s.lo * 1048576)).fdiv (serD c 13)) (by omega)) (by simp) ?_
  rw [e2]
  refine sgo ?_
  first | refine zab (zh6 (encHi c s.lo) ⟨by omega, by omega⟩) (by simp) ?_ | refine zaa (zh6 (encHi c s.lo) ⟨by omega, by omega⟩) (by simp) ?_
  refine sgo ?_
  first | refine zab (zds (encLo c s.hi) (encHi c s.lo)) (by simp) ?_ | refine zaa (zds (encLo c s.hi) (encHi c s.lo)) (by simp) ?_
  rw [e3]
  exact sgo trivial
  done
 ·have hi : inS s (ofS 0 4194304) = false := by simpa using hi
  rw [hi] at c1
  have e3 : encS c s = ze0 := by unfold encS; rw [hi]; rfl
  rw [e3]
  refine sgo ?_
  first | refine zab (zds 0 4194304) (by simp) ?_ | refine zaa (zds 0 4194304) (by simp) ?_
  refine sgo ?_
  first | refine zab (c1) (by simp) ?_ | refine zaa (c1) (by simp) ?_
  refine sgo ?_
  rfl
theorem kernA_ret (s : Sp) (hs : OkS s) : Ret pg n_kern_A [SpV s] (SpV (encS 1 s)) := by
 refine kern_A.of rfl (W_b ?_)
 unfold kern_A.k kern_A.res Ot kp Oy OL ci
 refine sgo ?_
 first | refine zab (zho 1 enc_1 (by omega) s hs) (by simp) ?_ | refine zaa (zho 1 enc_1 (by omega) s hs) (by simp) ?_
 exact sgo trivial
 done
theorem kernB_ret (s : Sp) (hs : OkS s) : Ret pg n_kern_B [SpV s] (SpV (encS 2 s)) := by
 refine kern_B.of rfl (W_b ?_)
 unfold kern_B.k kern_B.res Ot kp Oy OL ci
 refine sgo ?_
 first | refine zab (zho 2 enc_2 (by omega) s hs) (by simp) ?_ | refine zaa (zho 2 enc_2 (by omega) s hs) (by simp) ?_
 exact sgo trivial
 done
end Go.Gim
/- Turns of spans: the program's own. -/
set_option maxRecDepth 100000
set_option maxHeartbeats 2000000
namespace Go.Gim
open Go.Proofs
def RtV (r : Nat → Nat → Sp) : V := .agg ((VcV (r 0)).cells ++ (VcV (r 1)).cells ++ (VcV (r 2)).cells)
@[simp] theorem RtV_pure (r : Nat → Nat → Sp) : (RtV r).Pure := by simp [RtV, VcV_cells]
@[go_sem] theorem RtV_isAgg (x : Nat → Nat → Sp) : (RtV x).isAgg = true := rfl
@[simp, go_sem] theorem RtV_isJunk (x : Nat → Nat → Sp) : (RtV x).isJunk = false := rfl
@[go_sem] theorem RtV_len (x : Nat → Nat → Sp) : (RtV x).cells.length = 27 := rfl
@[go_sem] theorem RtV_cok (x : Nat → Nat → Sp) : (RtV x).cells.all V.cellOk = true := rfl
@[go_sem] theorem part_RtV (x : Nat → Nat → Sp) : V.part (RtV x) 0 27 true = some (RtV x) := rfl
@[go_sem] theorem sub_RtV (g : Nat → Option (List V)) (x : Nat → Nat → Sp) : V.sub g (RtV x) = RtV x := zct _ (RtV_pure x)
@[go_sem] theorem frz_RtV (H : Hp) (n : Nat) (x : Nat → Nat → Sp) : frz H (n + 2) (RtV x) = some (RtV x) := rfl
def zeroR : V := .agg [.int .i64 0, .int .i64 0, .bool false, .int .i64 0, .int .i64 0, .bool false, .int .i64 0, .int .i64 0, .bool false, .int .i64 0, .int .i64 0, .bool false, .int .i64 0, .int .i64 0, .bool false, .int .i64 0, .int .i64 0, .bool false, .int .i64 0, .int .i64 0, .bool false, .int .i64 0, .int .i64 0, .bool false, .int .i64 0, .int .i64 0, .bool false]
@[go_sem] theorem setR_z (y : Nat → Nat → Sp) : V.setPart (.agg [.int .i64 0, .int .i64 0, .bool false, .int .i64 0, .int .i64 0, .bool false, .int .i64 0, .int .i64 0, .bool false, .int .i64 0, .int .i64 0, .bool false, .int .i64 0, .int .i64 0, .bool false, .int .i64 0, .int .i64 0, .bool false, .int .i64 0, .int .i64 0, .bool false, .int .i64 0, .int .i64 0, .bool false, .int .i64 0, .int .i64 0, .bool false]) 0 (RtV y) = some (RtV y) := rfl
@[go_sem] theorem at_R0 (r : Nat → Nat → Sp) : redV (.aptr 3 9 true) [.pp (RtV r), .int .i64 0] = some (.pp (VcV (r 0))) := rfl
@[go_sem] theorem at_R1 (r : Nat → Nat → Sp) : redV (.aptr 3 9 true) [.pp (RtV r), .int .i64 1] = some (.pp (VcV (r 1))) := rfl
@[go_sem] theorem at_R2 (r : Nat → Nat → Sp) : redV (.aptr 3 9 true) [.pp (RtV r), .int .i64 2] = some (.pp (VcV (r 2))) := rfl
theorem at_R (r : Nat → Nat → Sp) {i : Nat} (h : i < 3) : redV (.aptr 3 9 true) [.pp (RtV r), .int .i64 (i : Int)] = some (.pp (VcV (r i))) := by
 rcases (show i = 0 ∨ i = 1 ∨ i = 2 by omega) with rfl | rfl | rfl <;> rfl
theorem set_R (r : Nat → Nat → Sp) (y : Sp) {i j : Nat} (hi : i < 3) (hj : j < 3) : V.setPart (RtV r) (i * 9 + j * 3) (SpV y) = some (RtV fun a b => if a = i ∧ b = j then y else r a b) := by
 rcases (show i = 0 ∨ i = 1 ∨ i = 2 by omega) with rfl | rfl | rfl <;> rcases (show j = 0 ∨ j = 1 ∨ j = 2 by omega) with rfl | rfl | rfl <;> rfl
def midR (F : Nat → Nat → Sp) (i j a b : Nat) : Sp := if a < i ∨ (a = i ∧ b < j) then F a b else ⟨0, 0, false⟩
theorem RtV_congr {r q : Nat → Nat → Sp} (h : ∀ a b, a < 3 → b < 3 → r a b = q a b) : RtV r = RtV q := by
 unfold RtV
 simp only [VcV_cells, h 0 0 (by omega) (by omega), h 0 1 (by omega) (by omega), h 0 2 (by omega) (by omega), h 1 0 (by omega) (by omega), h 1 1 (by omega) (by omega), h 1 2 (by omega) (by omega), h 2 0 (by omega) (by omega), h 2 1 (by omega) (by omega), h 2 2 (by omega) (by omega)]
theorem midR_next (F : Nat → Nat → Sp) (i j : Nat) : (fun a b => if a = i ∧ b = j then F i j else midR F i j a b) = midR F i (j + 1) := by
 funext a b
 unfold midR
 by_cases h : a = i ∧ b = j
 ·rw [if_pos h, if_pos (by omega), h.1, h.2]
 ·rw [if_neg h]
  by_cases h2 : a < i ∨ (a = i ∧ b < j)
  ·rw [if_pos h2, if_pos (by omega)]
  ·rw [if_neg h2, if_neg (by omega)]
theorem midR_row (F : Nat → Nat → Sp) (i : Nat) : RtV (midR F i 3) = RtV (midR F (i + 1) 0) := RtV_congr fun a b ha hb => by
 unfold midR
 by_cases h2 : a < i ∨ (a = i ∧ b < 3)
 ·rw [if_pos h2, if_pos (by omega)]
 ·rw [if_neg h2, if_neg (by omega)]
theorem midR_all (F : Nat → Nat → Sp) : RtV (midR F 3 0) = RtV F := RtV_congr fun a b ha hb => by unfold midR; rw [if_pos (by omega)]
@[go_sem] theorem setR_z' (y : Nat → Nat → Sp) : V.setPart zeroR 0 (RtV y) = some (RtV y) := rfl
attribute [-go_sem] V.part V.setPart in
theorem rmade_ret (f : Nat) (caps : List V) (F : Nat → Nat → Sp) (hf : ∀ i j : Nat, i < 3 → j < 3 → Ret pg f ([.int .i64 i, .int .i64 j] ++ caps) (SpV (F i j))) (hp : ∀ v ∈ caps, V.Pure v) : Ret pg zif [.fn f caps] (RtV F) := by
 refine rot_made.of rfl (W_b ?_)
 unfold rot_made.k rot_made.res Ot kp kd Oy Om OL Oc ci
 refine sgo ?_
 refine za1 (T := Nat × Hp × Nat) (fun t => ⟨E [(0, .fn f caps), (2, .ptr 0 1 0 0), (3, .ptr 1 1 0 0), (6, .int .i64 t.1)], t.2.1, t.2.2, t.2.2⟩)
  (fun t => t.1 ≤ 3 ∧ 1 < t.2.2 ∧ t.2.1 1 = some ⟨[RtV (midR F t.1 0)], 27⟩ ∧ t.2.1 0 = some ⟨[zeroR], 27⟩) (fun t => 3 - t.1) (0, (Hp.upd (fun _ => none) 0 (some ⟨[zeroR], 27⟩)).upd 1 (some ⟨[zeroR], 27⟩), 3) rfl ⟨zdo, zdo, rfl, rfl⟩ ?_
 rintro ⟨i, H, nx⟩ ⟨i1, i2, i3, i4⟩
 dsimp only at i1 i2 i3 i4
 by_cases hi : i < 3
 ·simp -dsimp -implicitDefEqProofs (disch := try exact zdE) only [go_sem, i3, i4]
  refine za1 (T := Nat × Hp × Nat) (fun t => ⟨E [(0, .fn f caps), (2, .ptr 0 1 0 0), (3, .ptr 1 1 0 0), (4, .int .i64 i), (6, .int .i64 i), (9, .int .i64 t.1)], t.2.1, t.2.2, t.2.2⟩)
   (fun t => t.1 ≤ 3 ∧ 1 < t.2.2 ∧ t.2.1 1 = some ⟨[RtV (midR F i t.1)], 27⟩ ∧ t.2.1 0 = some ⟨[zeroR], 27⟩) (fun t => 3 - t.1) (0, H, _) rfl ⟨zdo, zdo, i3, i4⟩ ?_
  clear i3 i4
  rintro ⟨j, H2, nx2⟩ ⟨j1, j2, j3, j4⟩
  dsimp only at j1 j2 j3 j4
  by_cases hj : j < 3
  ·have e1 := set_R (midR F i j) (F i j) hi hj
   rw [midR_next] at e1
   simp -dsimp -implicitDefEqProofs (disch := try exact zdE) only [go_sem, j3, j4]
   refine zaa (hf i j hi hj) (by simpa using hp) ?_
   simp -dsimp -implicitDefEqProofs (disch := try exact zdE) only [go_sem, j3, j4, e1]
   exact ⟨(j + 1, H2.upd 1 (some ⟨[RtV (midR F i (j + 1))], 27⟩), _), rfl, ⟨zdo, zdo, by dsimp only; exact Hp.upd_same _ _ _, by dsimp only; rw [Hp.upd_ne _ _ (by decide)]; exact j4⟩, zdo⟩
  ·have hje : j = 3 := by omega
   rw [hje, midR_row] at j3
   simp -dsimp -implicitDefEqProofs (disch := try exact zdE) only [go_sem, j3, j4]
   exact ⟨(i + 1, H2, _), rfl, ⟨zdo, zdo, j3, j4⟩, zdo⟩
 ·have hie : i = 3 := by omega
  rw [hie, midR_all] at i3
  simp -dsimp -implicitDefEqProofs (disch := try exact zdE) only [go_sem, i3, i4]
  done
theorem fold9 (x y z : Sp) : V.agg [.int .i64 x.lo, .int .i64 x.hi, .bool x.all, .int .i64 y.lo, .int .i64 y.hi, .bool y.all, .int .i64 z.lo, .int .i64 z.hi, .bool z.all] = VcV (vec3 x y z) := rfl
theorem vof_ret (a b c : Int) : Ret pg zf4 [.int .i64 a, .int .i64 b, .int .i64 c] (VcV (vec3 (ofS a a) (ofS b b) (ofS c c))) := by
 refine vec_Of.of rfl (W_b ?_)
 unfold vec_Of.k vec_Of.res Ot kp Oy Om
 refine sgo ?_
 first | refine zab (zds a a) (by simp) ?_ | refine zaa (zds a a) (by simp) ?_
 refine sgo ?_
 first | refine zab (zds b b) (by simp) ?_ | refine zaa (zds b b) (by simp) ?_
 refine sgo ?_
 first | refine zab (zds c c) (by simp) ?_ | refine zaa (zds c c) (by simp) ?_
 simp -dsimp -implicitDefEqProofs (disch := try exact zdE) only [go_sem, fold9]
 done
theorem rem3 {i k : Nat} (h : i < 3) (hk : k < 3) : binV .rem (.int .i64 ((i + k : Nat) : Int)) (.int .i64 3) = some (.int .i64 (((i + k) % 3 : Nat) : Int)) := by
 rcases (show i = 0 ∨ i = 1 ∨ i = 2 by omega) with rfl | rfl | rfl <;> rcases (show k = 0 ∨ k = 1 ∨ k = 2 by omega) with rfl | rfl | rfl <;> rfl
theorem cross_ret (w : Nat → Sp) (i j : Nat) (hi : i < 3) (hj : j < 3) : Ret pg n_rot_cross [VcV w, .int .i64 i, .int .i64 j] (SpV (zii w i j)) := by
 refine rot_cross.of rfl (W_b ?_)
 unfold rot_cross.k rot_cross.res Ot kp Oy Om OL ci
 have g1 : IntKind.i64.wrap (3 - (i : Int)) = ((3 - i : Nat) : Int) := by rw [IntWalk.i64_in _ (by omega)]; omega
 by_cases h1 : i = j
 ·have h1' : (i : Int) = j := by omega
  have e : zii w i j = ofS 0 0 := by unfold zii; rw [if_pos h1]
  rw [e]
  simp -dsimp -implicitDefEqProofs (disch := try exact zdE) only [go_sem, h1', g1]
  first | refine zab (zds 0 0) (by simp) ?_ | refine zaa (zds 0 0) (by simp) ?_
  exact sgo trivial
  done
 ·have h1' : ¬ (i : Int) = j := by omega
  have g2 : IntKind.i64.wrap (((3 - i : Nat) : Int) - j) = ((3 - i - j : Nat) : Int) := by rw [IntWalk.i64_in _ (by omega)]; omega
  have hk : 3 - i - j < 3 := by omega
  have e1 := at_V w hk
  have rm := rem3 (i := i) (k := 1) hi (by omega)
  by_cases h2 : (i + 1) % 3 = j
  ·have h2' : (((i + 1) % 3 : Nat) : Int) = j := by omega
   have e : zii w i j = negS (w (3 - i - j)) := by unfold zii; rw [if_neg h1, if_pos h2]
   rw [e]
   simp -dsimp -implicitDefEqProofs (disch := try exact zdE) only [go_sem, h1', g1, g2, e1, rm, h2']
   first | refine zab (negs_ret (w (3 - i - j))) (by simp) ?_ | refine zaa (negs_ret (w (3 - i - j))) (by simp) ?_
   exact sgo trivial
   done
  ·have h2' : ¬ (((i + 1) % 3 : Nat) : Int) = j := by omega
   have e : zii w i j = w (3 - i - j) := by unfold zii; rw [if_neg h1, if_neg h2]
   rw [e]
   simp -dsimp -implicitDefEqProofs (disch := try exact zdE) only [go_sem, h1', g1, g2, e1, rm, h2']
   done
theorem twice_ret (w : Nat → Sp) (i j : Nat) (hi : i < 3) (hj : j < 3) : Ret pg n_rot_twice [VcV w, .int .i64 i, .int .i64 j] (SpV (twiceR w i j)) := by
 refine rot_twice.of rfl (W_b ?_)
 unfold rot_twice.k rot_twice.res Ot kp kd Oy Om OL ci
 by_cases h1 : i = j
 ·subst h1
  have e : twiceR w i i = negS (addS (sqrS (w (min ((i + 1) % 3) ((i + 2) % 3)))) (sqrS (w (max ((i + 1) % 3) ((i + 2) % 3))))) := by unfold twiceR; rw [if_neg (by omega)]
  rw [e]
  have r1 := rem3 (i := i) (k := 1) hi (by omega)
  have r2 := rem3 (i := i) (k := 2) hi (by omega)
  have r2' : binV .rem (.int .i64 ((i : Int) + 2)) (.int .i64 3) = some (.int .i64 (((i + 2) % 3 : Nat) : Int)) := by rw [show (i : Int) + 2 = ((i + 2 : Nat) : Int) by omega]; exact r2
  have m1 : min (((i + 1) % 3 : Nat) : Int) (((i + 2) % 3 : Nat) : Int) = ((min ((i + 1) % 3) ((i + 2) % 3) : Nat) : Int) := by omega
  have m2 : max (((i + 1) % 3 : Nat) : Int) (((i + 2) % 3 : Nat) : Int) = ((max ((i + 1) % 3) ((i + 2) % 3) : Nat) : Int) := by omega
  have a1 := at_V w (i := min ((i + 1) % 3) ((i + 2) % 3)) (by omega)
  have a2 := at_V w (i := max ((i + 1) % 3) ((i + 2) % 3)) (by omega)
  generalize min ((i + 1) % 3) ((i + 2) % 3) = p at *
  generalize max ((i + 1) % 3) ((i + 2) % 3) = q at *
  simp -dsimp -implicitDefEqProofs (disch := try exact zdE) only [go_sem, r1, r2, r2', m1, m2, a1, a2]
  first | refine zab (zht (w p)) (by simp) ?_ | refine zaa (zht (w p)) (by simp) ?_
  simp -dsimp -implicitDefEqProofs (disch := try exact zdE) only [go_sem, a1, a2]
  first | refine zab (zht (w q)) (by simp) ?_ | refine zaa (zht (w q)) (by simp) ?_
  refine sgo ?_
  first | refine zab (zdk (sqrS (w p)) (sqrS (w q))) (by simp) ?_ | refine zaa (zdk (sqrS (w p)) (sqrS (w q))) (by simp) ?_
  refine sgo ?_
  first | refine zab (negs_ret (addS (sqrS (w p)) (sqrS (w q)))) (by simp) ?_ | refine zaa (negs_ret (addS (sqrS (w p)) (sqrS (w q)))) (by simp) ?_
  exact sgo trivial
  done
 ·have h1' : ¬ (i : Int) = j := by omega
  have e : twiceR w i j = mulP (w (min i j)) (w (max i j)) := by unfold twiceR; rw [if_pos h1]
  rw [e]
  have m1 : min (i : Int) (j : Int) = ((min i j : Nat) : Int) := by omega
  have m2 : max (i : Int) (j : Int) = ((max i j : Nat) : Int) := by omega
  have a1 := at_V w (i := min i j) (by omega)
  have a2 := at_V w (i := max i j) (by omega)
  generalize min i j = p at *
  generalize max i j = q at *
  simp -dsimp -implicitDefEqProofs (disch := try exact zdE) only [go_sem, h1', m1, m2, a1, a2]
  first | refine zab (zgq (w p) (w q)) (by simp) ?_ | refine zaa (zgq (w p) (w q)) (by simp) ?_
  exact sgo trivial
  done
theorem id_retR : Ret pg n_rot_Id [] (RtV idR) := by
 refine rot_Id.of rfl (W_b ?_)
 unfold rot_Id.k rot_Id.res Ot kp Oy ci
 have e : RtV idR = RtV fun i => if i = 0 then vec3 (ofS 1048576 1048576) (ofS 0 0) (ofS 0 0) else if i = 1 then vec3 (ofS 0 0) (ofS 1048576 1048576) (ofS 0 0) else vec3 (ofS 0 0) (ofS 0 0) (ofS 1048576 1048576) := RtV_congr fun a b ha hb => by
  rcases (show a = 0 ∨ a = 1 ∨ a = 2 by omega) with rfl | rfl | rfl <;> rcases (show b = 0 ∨ b = 1 ∨ b = 2 by omega) with rfl | rfl | rfl <;> rfl
 rw [e]
 refine sgo ?_
 first | refine zab (vof_ret 1048576 0 0) (by simp) ?_ | refine zaa (vof_ret 1048576 0 0) (by simp) ?_
 refine sgo ?_
 first | refine zab (vof_ret 0 1048576 0) (by simp) ?_ | refine zaa (vof_ret 0 1048576 0) (by simp) ?_
 refine sgo ?_
 first | refine zab (vof_ret 0 0 1048576) (by simp) ?_ | refine zaa (vof_ret 0 0 1048576) (by simp) ?_
 refine sgo ?_
 rfl
theorem exp1_ret (w : Nat → Sp) (A B : Sp) (i j : Nat) (hi : i < 3) (hj : j < 3) : Ret pg n_rot_Exp_1 [.int .i64 i, .int .i64 j, .pp (RtV idR), .pp (SpV A), .pp (VcV w), .pp (SpV B)] (SpV (addS (addS (idR i j) (mulP A (zii w i j))) (mulP B (twiceR w i j)))) := by
 refine rot_Exp_1.of rfl (W_b ?_)
 unfold rot_Exp_1.k rot_Exp_1.res Ot kp kd Oy Om OL
 have a1 := at_R idR hi
 have a2 := at_V (idR i) hj
 simp -dsimp -implicitDefEqProofs (disch := try exact zdE) only [go_sem, a1, a2]
 first | refine zab (cross_ret w i j hi hj) (by simp) ?_ | refine zaa (cross_ret w i j hi hj) (by simp) ?_
 refine sgo ?_
 first | refine zab (zgq A (zii w i j)) (by simp) ?_ | refine zaa (zgq A (zii w i j)) (by simp) ?_
 refine sgo ?_
 first | refine zab (zdk (idR i j) (mulP A (zii w i j))) (by simp) ?_ | refine zaa (zdk (idR i j) (mulP A (zii w i j))) (by simp) ?_
 refine sgo ?_
 first | refine zab (twice_ret w i j hi hj) (by simp) ?_ | refine zaa (twice_ret w i j hi hj) (by simp) ?_
 refine sgo ?_
 first | refine zab (zgq B (twiceR w i j)) (by simp) ?_ | refine zaa (zgq B (twiceR w i j)) (by simp) ?_
 refine sgo ?_
 first | refine zab (zdk _ (mulP B (twiceR w i j))) (by simp) ?_ | refine zaa (zdk _ (mulP B (twiceR w i j))) (by simp) ?_
 exact sgo trivial
 done
theorem apply_retR (r : Nat → Nat → Sp) (v : Nat → Sp) : Ret pg zg7 [RtV r, VcV v] (VcV (zem r v)) := by
 refine rot_Rot_Apply.of rfl (W_b ?_)
 unfold rot_Rot_Apply.k rot_Rot_Apply.res Ot kp kd Oy OL ci
 refine sgo ?_
 first | refine zab (zha (r 0) v) (by simp) ?_ | refine zaa (zha (r 0) v) (by simp) ?_
 refine sgo ?_
 first | refine zab (zha (r 1) v) (by simp) ?_ | refine zaa (zha (r 1) v) (by simp) ?_
 refine sgo ?_
 first | refine zab (zha (r 2) v) (by simp) ?_ | refine zaa (zha (r 2) v) (by simp) ?_
 refine sgo ?_
 rfl
theorem rexp_ret (w : Nat → Sp) (hw : OkV w) : Ret pg n_rot_Exp [VcV w] (RtV (expR w)) := by
 refine rot_Exp.of rfl (W_b ?_)
 unfold rot_Exp.k rot_Exp.res Ot kp kd Oy OL
 have c4 := rmade_ret n_rot_Exp_1 [.pp (RtV idR), .pp (SpV (encS 1 (normV w))), .pp (VcV w), .pp (SpV (encS 2 (normV w)))] (expR w) (fun i j hi hj => exp1_ret w (encS 1 (normV w)) (encS 2 (normV w)) i j hi hj) (by simp)
 refine sgo ?_
 first | refine zab (norm2_ret w) (by simp) ?_ | refine zaa (norm2_ret w) (by simp) ?_
 refine sgo ?_
 first | refine zab (kernA_ret (normV w) (norm_ok w)) (by simp) ?_ | refine zaa (kernA_ret (normV w) (norm_ok w)) (by simp) ?_
 refine sgo ?_
 first | refine zab (kernB_ret (normV w) (norm_ok w)) (by simp) ?_ | refine zaa (kernB_ret (normV w) (norm_ok w)) (by simp) ?_
 refine sgo ?_
 first | refine zab (id_retR) (by simp) ?_ | refine zaa (id_retR) (by simp) ?_
 refine sgo ?_
 refine zg9 (fzl [(13, [RtV idR]), (11, [SpV (encS 1 (normV w))]), (12, [SpV (encS 2 (normV w))])]) (fzl_ok fun p hp => by
  simp only [List.mem_cons, List.not_mem_nil, or_false] at hp
  rcases hp with rfl | rfl | rfl <;> exact ⟨⟨_, _, rfl, by simp -dsimp -implicitDefEqProofs (disch := try exact zdE) only [go_sem] <;> rfl⟩, by simp⟩) (by simp -dsimp -implicitDefEqProofs (disch := try exact zdE) only [go_sem] <;> rfl) c4 (by simp) ?_
 exact sgo trivial
 done
end Go.Gim
/- The law TopSpans: what is enclosed stays enclosed. -/
set_option maxRecDepth 100000
set_option maxHeartbeats 2000000
namespace Go.Gim
open Go.Proofs
attribute [local go_sem] CV_isAgg zgg CV_cells part_CV csub_CV ResV_isJunk ResV_isAgg ResV_cells csub_ResV
def gtC : Cfg := { dfC with k0 := 32768, k1 := 32768, k2 := 32768, k3 := 32768, keys := 5, flat := 0 }
theorem gentle_ret : Ret pg zfi [] (CV gtC) := by
 refine gimbaltop_gentle.of rfl (W_b ?_)
 unfold gimbaltop_gentle.k gimbaltop_gentle.res Ot kp Oy OL Oq ci
 refine sgo ?_
 first | refine zab (za0) (by simp) ?_ | refine zaa (za0) (by simp) ?_
 refine sgo ?_
 rfl
theorem sameT_ret (a b : List Int) (ha : a.length ≤ 9223372036854775807) (hb : b.length ≤ 9223372036854775807) : Ret pg zgj [ints a, ints b] (.bool (decide (a = b))) := by
 refine gimbaltop_same.of rfl (W_b ?_)
 unfold gimbaltop_same.k gimbaltop_same.res Ot kp kd Om Ol Oi Oc On ci
 by_cases hl : (a.length : Int) = b.length
 ·simp -dsimp -implicitDefEqProofs (disch := try exact zdE) only [go_sem, hl]
  refine za1 (T := Nat × Nat) (fun t => ⟨E [(0, ints a), (1, ints b), (5, .int .i64 t.1)], fun _ => none, t.2, t.2⟩) (fun t => t.1 ≤ a.length ∧ ∀ k, k < t.1 → a.getD k 0 = b.getD k 0) (fun t => a.length - t.1) (0, _) rfl ⟨zdo, fun k h => by dsimp only at h; omega⟩ ?_
  rintro ⟨i, nx⟩ ⟨i1, i2⟩
  dsimp only at i1 i2
  by_cases hi : i < a.length
  ·by_cases he : a.getD i 0 = b.getD i 0
   ·simp -dsimp -implicitDefEqProofs (disch := try exact zdE) only [go_sem, he]
    exact ⟨(i + 1, _), rfl, ⟨zdo, fun k hk => by dsimp only at hk; by_cases hki : k = i; (subst hki; exact he); exact i2 k (by omega)⟩, zdo⟩
   ·have hn : decide (a = b) = false := decide_eq_false fun h => he (by rw [h])
    rw [hn]
    simp -dsimp -implicitDefEqProofs (disch := try exact zdE) only [go_sem, he]
    done
  ·have hie : i = a.length := by omega
   have hy : decide (a = b) = true := decide_eq_true (List.ext_getElem (by omega) fun k h1 h2 => by
    have := i2 k (by omega)
    simpa [List.getD_eq_getElem?_getD, h1, h2] using this)
   rw [hy]
   exact sgo trivial
   done
 ·have hn : decide (a = b) = false := decide_eq_false fun h => hl (by rw [h])
  rw [hn]
  simp -dsimp -implicitDefEqProofs (disch := try exact zdE) only [go_sem, hl]
  done
def ta : Row4 := ⟨[1, 0, 0], 7, 100, 1⟩
def tb : Row4 := ⟨[0, 1, 0], -2, 100, 1⟩
def tc : Row4 := ⟨[0, 0, 1], 0, 100, 1⟩
def tg : Gr := ⟨3, [ta, tb, tc], mat 3 (fun _ _ => 0), List.replicate 3 0, 0, 1⟩
theorem t_at (i j : Nat) : at2 (mat 3 fun _ _ => 0) i j = 0 := by
 rcases i with _ | _ | _ | i <;> rcases j with _ | _ | _ | j <;> rfl
theorem t_get (i : Nat) : (List.replicate 3 (0 : Int)).getD i 0 = 0 := by
 rw [List.getD_eq_getElem?_getD, List.getElem?_replicate]
 split <;> rfl
theorem t_ok : GOkay tg [0, 0, 0] where
 len := rfl
 hi := by decide
 sixty := by decide
 right := fun r h => rightB_iff.1 ((show ∀ r ∈ [ta, tb, tc], rightB r 3 = true by decide) r h)
 state := stateB_iff.1 (by decide)
 sq := mat_sq _ _
 ql := rfl
 sP := fun i j => by show lim (at2 (mat 3 fun _ _ => 0) i j) ≤ 100; rw [t_at, zbk]; omega
 sQ := fun i => by show lim ((List.replicate 3 (0 : Int)).getD i 0) ≤ 100; rw [t_get, zbk]; omega
 sc := by show lim 0 ≤ 100; rw [zbk]; omega
 sd := Nat.le_trans (zar (x := 1) (by decide)) (by decide)
theorem zb2 : Ret pg zfw [] (.bool true) := by
 have g1 := gnew_ret 3 [ta, tb, tc] (by decide) (by decide)
 rw [show gnewE 3 [ta, tb, tc] = 0 by decide, if_pos rfl] at g1
 change Ret pg n_graph_New _ (.tup [GV tg, _]) at g1
 have ck := check_ret gtC
 rw [show (chk gtC).2 = 0 by decide] at ck
 have z1 := solve_ret tg gtC [0, 0, 0] _ 12 6 ck t_ok (by decide) rfl rfl (by decide) (by decide) (by decide)
 obtain ⟨acc, tr, hz⟩ : ∃ acc tr, solF tg gtC.flat 6 12 [0, 0, 0] 0 0 = ([7, -2, 0], 1, acc, tr) := ⟨1, 1, by decide +kernel⟩
 rw [hz] at z1
 have w3 := sameT_ret [7, -2, 0] [7, -2, 0] (by decide) (by decide)
 rw [decide_eq_true rfl] at w3
 have eb : redV .bsz [.int .i64 0, .int .i64 0, .int .i64 0] = some (ints [0, 0, 0]) := by
  simp only [redV]
  rw [if_pos (by decide)]
  rfl
 refine gimbaltop_alive.of rfl (W_b ?_)
 unfold gimbaltop_alive.k gimbaltop_alive.res Ot kp kd Oh Oy Om OL ci
 refine sgo ?_
 refine zg9 (fzl [(1, [.int .i64 1, .int .i64 0, .int .i64 0]), (3, [.int .i64 0, .int .i64 1, .int .i64 0]), (5, [.int .i64 0, .int .i64 0, .int .i64 1]), (7, [RV ta, RV tb, RV tc])]) (fzl_ok fun p hp => by
  simp only [List.mem_cons, List.not_mem_nil, or_false] at hp
  rcases hp with rfl | rfl | rfl | rfl <;> exact ⟨⟨_, _, rfl, by simp -dsimp -implicitDefEqProofs (disch := try exact zdE) only [go_sem] <;> rfl⟩, by simp⟩) (by simp -dsimp -implicitDefEqProofs (disch := try exact zdE) only [go_sem] <;> rfl) g1 (by simp) ?_
 refine sgo ?_
 first | refine zab (gentle_ret) (by simp) ?_ | refine zaa (gentle_ret) (by simp) ?_
 simp -dsimp -implicitDefEqProofs (disch := try exact zdE) only [go_sem, eb]
 refine zaa (args := [GV tg, CV gtC, ints [0, 0, 0]]) z1 (by simp) ?_
 refine sgo ?_
 refine zg9 (fz1 37 [.int .i64 7, .int .i64 (-2), .int .i64 0]) (fz1_ok (es := 1) (by rfl) (by simp)) (by simp -dsimp -implicitDefEqProofs (disch := try exact zdE) only [go_sem] <;> rfl) w3 (by simp) ?_
 exact sgo trivial
 done
end Go.Gim
