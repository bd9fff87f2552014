import Derived.Test.YtjkjpjneeioeiaaGreatRD1
import Derived.Test.YtjkjpjneeioeiaaGreatLI4
import Derived.Test.YtjkjpjneeioeiaaGreatB2
import Derived.Test.YtjkjpjneeioeiaaGreatHB
import Derived.Test.YtjkjpjneeioeiaaGreatSM
import Derived.Test.YtjkjpjneeioeiaaGreatGRH
import Derived.Test.YtjkjpjneeioeiaaGreatFA3
import Derived.Test.YtjkjpjneeioeiaaGreatCF
set_option linter.unusedSimpArgs false
set_option linter.unusedVariables false
/- The references' cost that forgives; what a row costs there. -/
set_option maxRecDepth 100000
set_option maxHeartbeats 4000000
namespace Go.Gim
open Go.Proofs
attribute [local go_sem] IntWalk.i64_in wu64 wu32 wu8 Nat.mod_eq_of_lt shr32 shr63 shl32 or32 quo64 quo32 zfm remk zct zcs zdz zdy zb7 Nat.add_assoc za9 lt_ne gt_ne zdu dlt_t dlt_f dle_t dle_f deq_t deq_f zb0 zeg ze5 zbi zbm zbf zbc zcu zcx zcy zdl zae List.length_set ge_iff_le gt_iff_lt Int.toNat_natCast zck zdm zcl zdp zdn zcr zb4 zfj zb5 zb6 zdt
theorem w64' (n : Int) : IntKind.i64.wrap n = (n + 9223372036854775808) % 18446744073709551616 - 9223372036854775808 := by rw [IntWalk.i64_left]; unfold RowKit.wrap64; rfl
theorem rcut_ret (r k : Int) : Ret pg zgf [.int .i64 r, .int .i64 k] (.tup [.int .i64 (sizeR r), .bool (decide (r < 0)), .int .i64 (zc5 k)]) := by
 refine gimbalref09_cut.of rfl (W_b ?_)
 unfold gimbalref09_cut.k gimbalref09_cut.res Ot kp Om Oc ci sizeR ze6 zc5
 simp -dsimp -implicitDefEqProofs only [go_sem]
 repeat' (first | (refine gsel_split (fun h' => ?_) (fun h' => ?_) <;> simp -dsimp -implicitDefEqProofs only [go_sem, h']) | (refine csel_dec (fun h' => ?_) (fun h' => ?_) <;> simp -dsimp -implicitDefEqProofs only [go_sem, h']))
 all_goals
  simp only [w64', Option.some.injEq, V.tup.injEq, List.cons.injEq, V.int.injEq, V.bool.injEq, true_and, and_true, decide_eq_true_eq, decide_eq_false_iff_not, Bool.true_eq, Bool.false_eq]
  omega
theorem rslope_ret (r k : Int) : Ret pg zfh [.int .i64 r, .int .i64 k] (.int .i64 (zg4 r k)) := by
 have h1 := clampR_bd r
 have h2 := clampK_bd k
 have h3 := sizeR_bd r
 refine gimbalref09_Slope.of rfl (W_b ?_)
 unfold gimbalref09_Slope.k gimbalref09_Slope.res Ot kp Om Oc
 simp -dsimp -implicitDefEqProofs only [go_sem]
 refine zaa (rcut_ret _ _) (by simp) ?_
 simp -dsimp -implicitDefEqProofs only [go_sem]
 have e : (r < 0 ∧ ze6 r = -sizeR r) ∨ (¬ r < 0 ∧ ze6 r = sizeR r) := by unfold sizeR ze6; omega
 have w1 := w64 (n := 0 - sizeR r) (by omega)
 have w2 := w64 (n := 0 - zc5 k) (by omega)
 unfold zg4
 by_cases h : sizeR r ≤ zc5 k
 ·rcases e with ⟨h4, h5⟩ | ⟨h4, h5⟩
  ·simp -dsimp -implicitDefEqProofs only [go_sem, show ¬ zc5 k < sizeR r by omega, h4, h, w1, h5]
   simp
  ·simp -dsimp -implicitDefEqProofs only [go_sem, show ¬ zc5 k < sizeR r by omega, h4, h, w1, h5]
 ·rcases e with ⟨h4, h5⟩ | ⟨h4, h5⟩
  ·simp -dsimp -implicitDefEqProofs only [go_sem, show zc5 k < sizeR r by omega, h4, h, w2]
   congr 2; omega
  ·simp -dsimp -implicitDefEqProofs only [go_sem, show zc5 k < sizeR r by omega, h4, h, w2]
   congr 2; omega
theorem rsteep_ret (r : Row4) (x : List Int) (hr : Right4 r x.length) (hx : State x) : Ret pg zfe [RV r, ints x] (ints (zcq r x)) := by
 have hb := slopeR_bd (x := x) hr
 have hl := hr.len
 have hn := hr.le
 have hw := hr.w
 have hs := hSlope_bd (r := zcc r x) hr.kn
 have hsl : (zcq r x).length = x.length := by simp [zcq, hl]
 refine gimbalref16_Steep.of rfl (W_b ?_)
 unfold gimbalref16_Steep.k gimbalref16_Steep.res Ot kp kd Om Ol OL Oq Oi Oc On ci
 refine sgo ?_
 refine zeu (T := Nat × V × Hp × Nat) (fun t => ⟨E [(1, ints x), (2, .pp (RV r)), (5, t.2.1), (6, .int .i64 t.1)], t.2.2.1, t.2.2.2, t.2.2.2⟩)
  (fun t => t.1 ≤ x.length ∧ Row 0 t.2.2.1 t.2.2.2 t.2.1 1 (((zcq r x).take t.1).map (V.int .i64))) (fun t => x.length - t.1) (0, .nil, _, _) (Ghost.refl _) ⟨zdo, Row.nil _ _ _ _⟩ ?_
 rintro ⟨i, w, H, nx⟩ ⟨i1, i2⟩
 dsimp only at i1 i2
 obtain ⟨w1, w2, w3, w4⟩ := i2.flat
 by_cases hi : i < x.length
 ·have hm := hr.get i
  have ht := zbv (l := zcq r x) (i := i) 0 (by omega)
  have e : (zcq r x).getD i 0 = r.w * r.co.getD i 0 * zg4 (zcc r x) r.kn := by
   simp only [zcq, zhq]
   rw [show (r.co.map fun a => a * (r.w * zg4 (zcc r x) r.kn)).getD i 0 = r.co.getD i 0 * (r.w * zg4 (zcc r x) r.kn) by simp [List.getD_eq_getElem?_getD, show i < r.co.length by omega]]
   grind
  rw [e] at ht
  have h1 := zez (a := r.w) (b := r.co.getD i 0) (A := 100) (B := 1000) (by omega) (by omega)
  have h2 := zez (a := r.w * r.co.getD i 0) (b := zg4 (zcc r x) r.kn) (A := 100000) (B := 32768) (by omega) (by omega)
  have e1 := w64 (show -9223372036854775808 ≤ r.w * r.co.getD i 0 ∧ r.w * r.co.getD i 0 ≤ 9223372036854775807 by omega)
  have e2 := w64 (show -9223372036854775808 ≤ r.w * r.co.getD i 0 * zg4 (zcc r x) r.kn ∧ r.w * r.co.getD i 0 * zg4 (zcc r x) r.kn ≤ 9223372036854775807 by omega)
  simp -dsimp -implicitDefEqProofs (disch := try exact zdE) only [go_sem, w1, w2, w3, w4, e1]
  first | refine zaa (rresid_ret r x hr hx) (by simp) ?_ | refine zab (rresid_ret r x hr hx) (by simp) ?_
  refine sgo ?_
  first | refine zaa (rslope_ret (zcc r x) r.kn) (by simp) ?_ | refine zab (rslope_ret (zcc r x) r.kn) (by simp) ?_
  simp -dsimp -implicitDefEqProofs (disch := try exact zdE) only [go_sem, e2]
  refine za1 (lo := 0) (nx := nx) (H0 := H) (xs := ((zcq r x).take i).map (V.int .i64)) i2 (by omega) rfl (by omega) (by omega) (by simp [rowOk, V.cells, V.cellOk, V.isJunk]) (by decide) (by simp; omega) (by simp; omega) fun v2 H2 r1 _ _ r4 => ?_
  rw [zdj (V.int .i64), ← ht] at r1
  refine sgo ?_
  exact ⟨(i + 1, v2, H2, _), Ghost.refl _, ⟨zdo, r1.same (fun _ _ => rfl) zdo⟩, zdo⟩
 ·have hie : x.length = i := by omega
  subst hie
  rw [List.take_of_length_le (by omega)] at i2
  refine sgo ?_
  rw [i2.frz (zc2 fun x => rfl)]
  rfl
end Go.Gim
/- The references' costs of graphs. -/
set_option maxRecDepth 100000
set_option maxHeartbeats 4000000
namespace Go.Gim
open Go.Proofs
theorem numbers_ret (x : List Int) (hl : x.length ≤ 1000000) (h : ∀ v ∈ x, In64 v) : Ret pg zep [ints x] (dvl x) := by
 refine gimbalref18_Numbers.of rfl (W_b ?_)
 unfold gimbalref18_Numbers.k gimbalref18_Numbers.res Ot kp Om Ol Oi Oc On ci
 refine sgo ?_
 refine zam (T := Nat × V × Hp × Nat) (fun t => ⟨E [(0, ints x), (3, t.2.1), (4, .int .i64 t.1)], t.2.2.1, t.2.2.2, t.2.2.2⟩)
  (fun t => t.1 ≤ x.length ∧ Row 0 t.2.2.1 t.2.2.2 t.2.1 2 ((x.take t.1).map DV)) (fun t => x.length - t.1) (0, .nil, _, _) rfl ⟨zdo, Row.nil _ _ _ _⟩ ?_
 rintro ⟨i, w, H, nx⟩ ⟨i1, i2⟩
 dsimp only at i1 i2
 by_cases hi : i < x.length
 ·have hm := h _ (zan 0 hi)
  have ht := zbv (l := x) (i := i) 0 hi
  generalize hZ : x.getD i 0 = z at *
  simp -dsimp -implicitDefEqProofs (disch := try exact zdE) only [go_sem, hZ]
  first | refine zaa (r_of z hm) (by simp) ?_ | refine zab (r_of z hm) (by simp) ?_
  refine sgo ?_
  refine za1 (lo := 0) (nx := nx) (H0 := H) (xs := (x.take i).map DV) i2 (by omega) rfl (by omega) (by omega) (by simp [rowOk, V.cells, V.cellOk, DV]) (by decide) (by simp; omega) (by simp; omega) fun v2 H2 r1 _ _ r4 => ?_
  rw [zdj, ← ht] at r1
  refine sgo ?_
  exact ⟨(i + 1, v2, H2, _), rfl, ⟨zdo, r1.same (fun _ _ => rfl) zdo⟩, zdo⟩
 ·have hie : x.length = i := by omega
  subst hie
  rw [List.take_length] at i2
  refine sgo ?_
  rw [i2.frz (zc2 fun x => rfl)]
  rfl
theorem dl_of {x : Int} {L : Nat} (h : lim x ≤ L) : dlim x ≤ 10 * L := by have := dlim_lim x; omega
def midF (f g : Nat → Int) (j k : Nat) : Int := if k < j then g k else f k
theorem midF_set (f g : Nat → Int) (n j : Nat) : ((List.range n).map (midF f g j)).set j (g j) = (List.range n).map (midF f g (j + 1)) := by
 rw [zel]
 refine List.map_congr_left fun k _ => ?_
 unfold midF
 by_cases h : k = j
 ·subst h
  rw [if_pos rfl, if_pos (by omega)]
 ·rw [if_neg h]
  by_cases h2 : k < j
  ·rw [if_pos h2, if_pos (by omega)]
  ·rw [if_neg h2, if_neg (by omega)]
theorem midF_zero (f g : Nat → Int) (n : Nat) : (List.range n).map f = (List.range n).map (midF f g 0) := List.map_congr_left fun k _ => by unfold midF; rw [if_neg (by omega)]
theorem midF_all (f g : Nat → Int) (n : Nat) : (List.range n).map (midF f g n) = (List.range n).map g := List.map_congr_left fun k hk => by unfold midF; rw [if_pos (List.mem_range.1 hk)]
theorem midF_get {f g : Nat → Int} {n j : Nat} (h : j < n) : ((List.range n).map (midF f g j)).getD j 0 = f j := by rw [zaz 0 h]; unfold midF; rw [if_neg (by omega)]
def stS (g : Gr) (x : List Int) (i k : Nat) : Int := zat g.P x g.n k - g.Q.getD k 0 + colS (za6 g x) i k * g.den
end Go.Gim
