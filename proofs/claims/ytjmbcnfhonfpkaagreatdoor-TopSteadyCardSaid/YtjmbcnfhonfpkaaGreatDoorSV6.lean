import Derived.Test.YtjmbcnfhonfpkaaGreatDoorCF
import Derived.Test.YtjmbcnfhonfpkaaGreatDoorLS4
import Derived.Test.YtjmbcnfhonfpkaaGreatDoorDV7
import Derived.Test.YtjmbcnfhonfpkaaGreatDoorLB2
import Derived.Test.YtjmbcnfhonfpkaaGreatDoorMG5
import Derived.Test.YtjmbcnfhonfpkaaGreatDoorGTT
import Derived.Test.YtjmbcnfhonfpkaaGreatDoorCX3
import Derived.Test.YtjmbcnfhonfpkaaGreatDoorCK1
set_option linter.unusedSimpArgs false
set_option linter.unusedVariables false
/- Clones that may be written, how much is added to a diagonal, a damped matrix (solve). -/
set_option maxRecDepth 100000
set_option maxHeartbeats 4000000
namespace Go.Gim
open Go.Proofs
theorem cloneL_G (l : List Int) (H : Hp) (n0 : Nat) (hne : l ≠ []) (hl : l.length ≤ 1000000) :
  ∃ H' n' id, (n0 ≤ id ∧ id < n' ∧ H' id = some ⟨l.map IV, 2⟩ ∧ ∀ b, b < n0 → H' b = H b) ∧ RetG pg zbb [ivl l] H n0 (.own id l.length) H' n' := by
 suffices h : ∃ r H' n', (∃ id, r = .own id l.length ∧ n0 ≤ id ∧ id < n' ∧ H' id = some ⟨l.map IV, 2⟩ ∧ ∀ b, b < n0 → H' b = H b) ∧ RetG pg zbb [ivl l] H n0 r H' n' by
  obtain ⟨_, H', n', ⟨id, rfl, h1⟩, h⟩ := h
  exact ⟨H', n', id, h1, h⟩
 obtain ⟨a, l', rfl⟩ : ∃ a l', l = a :: l' := by cases l with | nil => exact absurd rfl hne | cons a l => exact ⟨a, l, rfl⟩
 have e : ivl (a :: l') = .sl (IV a :: l'.map IV) := rfl
 rw [e]
 refine slices_Clone_Llong_Int_long_Int.ofG rfl (W_b ?_)
 unfold slices_Clone_Llong_Int_long_Int.k slices_Clone_Llong_Int_long_Int.res Ot kp Om
 refine sgo ?_
 refine isnilB_sl ?_
 refine sgo ?_
 refine effB_copy (H0 := H) rfl (rowOk_iv (a :: l')) (by decide) (by simp at hl ⊢; omega) (by simp at hl ⊢; omega) ?_
 refine sgo ?_
 exact ⟨_, rfl, zdo, _, by simp; rfl, by omega, zdo, Hp.upd_same _ _ _, fun b hb => by dsimp only; rw [Hp.upd_ne _ _ (by omega), Hp.upd_ne _ _ (by omega)]⟩
theorem cloneI_G (l : List Int) (H : Hp) (n0 : Nat) (hne : l ≠ []) (hl : l.length ≤ 1000000) :
  ∃ H' n' id, (n0 ≤ id ∧ id < n' ∧ H' id = some ⟨l.map (V.int .i64), 1⟩ ∧ ∀ b, b < n0 → H' b = H b) ∧ RetG pg zam [ints l] H n0 (.own id l.length) H' n' := by
 suffices h : ∃ r H' n', (∃ id, r = .own id l.length ∧ n0 ≤ id ∧ id < n' ∧ H' id = some ⟨l.map (V.int .i64), 1⟩ ∧ ∀ b, b < n0 → H' b = H b) ∧ RetG pg zam [ints l] H n0 r H' n' by
  obtain ⟨_, H', n', ⟨id, rfl, h1⟩, h⟩ := h
  exact ⟨H', n', id, h1, h⟩
 obtain ⟨a, l', rfl⟩ : ∃ a l', l = a :: l' := by cases l with | nil => exact absurd rfl hne | cons a l => exact ⟨a, l, rfl⟩
 have e : ints (a :: l') = .sl (V.int .i64 a :: l'.map (V.int .i64)) := rfl
 rw [e]
 refine slices_Clone_Lint64_int64.ofG rfl (W_b ?_)
 unfold slices_Clone_Lint64_int64.k slices_Clone_Lint64_int64.res Ot kp Om
 refine sgo ?_
 refine isnilB_sl ?_
 refine sgo ?_
 refine effB_copy (H0 := H) rfl (by simp [rowOk, V.cells, V.cellOk, V.isJunk]) (by decide) (by simp at hl ⊢; omega) (by simp at hl ⊢; omega) ?_
 refine sgo ?_
 exact ⟨_, rfl, zdo, _, by simp; rfl, by omega, zdo, Hp.upd_same _ _ _, fun b hb => by dsimp only; rw [Hp.upd_ne _ _ (by omega), Hp.upd_ne _ _ (by omega)]⟩
theorem shl1 (k : Nat) (h : k ≤ 24) : zdt .shl .i64 1 (k : Int) = some (.int .i64 ((2 ^ k : Nat) : Int)) := by
 have h2 : 2 ^ k ≤ 2 ^ 24 := Nat.pow_le_pow_right (by decide) h
 unfold zdt
 rw [if_neg (by omega)]
 have e : min (Int.toNat (k : Int)) IntKind.i64.bits = k := by rw [Int.toNat_natCast]; show min k 64 = k; omega
 rw [e]
 have e2 : (1 : Int) * 2 ^ k = ((2 ^ k : Nat) : Int) := by rw [Int.one_mul, Int.natCast_pow]; rfl
 rw [e2]
 show some (V.int .i64 (IntKind.i64.wrap ((2 ^ k : Nat) : Int))) = _
 generalize 2 ^ k = N at *
 rw [IntWalk.i64_in _ (by omega)]
def moreI (g : Gr) (r : Nat) : Int := if r = 0 then 0 else g.den * ((2 ^ (2 * (r - 1)) : Nat) : Int)
theorem moreI_lim (g : Gr) (r : Nat) (hr : r ≤ 12) : lim (moreI g r) ≤ lim g.den + 2 := by
 unfold moreI
 split
 ·rw [zbk]; omega
 ·have h2 : 2 ^ (2 * (r - 1)) ≤ 2 ^ 24 := Nat.pow_le_pow_right (by decide) (by omega)
  generalize 2 ^ (2 * (r - 1)) = N at *
  have := za5 g.den (N : Int)
  have := zar (x := (N : Int)) ⟨by omega, by omega⟩
  omega
theorem damping_ret (g : Gr) (r : Nat) (hr : r ≤ 12) (hd : lim g.den ≤ 1000000) : Ret pg zg5 [GV g, .int .i64 r] (IV (moreI g r)) := by
 refine solve_damping.of rfl (W_b ?_)
 unfold solve_damping.k solve_damping.res Ot kp kd Oy Om OL ci
 by_cases h0 : r = 0
 ·subst h0
  have e : moreI g 0 = 0 := rfl
  rw [e, zdl]
  exact sgo trivial
 ·obtain ⟨s, rfl⟩ : ∃ s, r = s + 1 := ⟨r - 1, by omega⟩
  have h2 : 2 ^ (2 * s) ≤ 2 ^ 24 := Nat.pow_le_pow_right (by decide) (by omega)
  have e1 : IntKind.i64.wrap (((s + 1 : Nat) : Int) - 1) = (s : Int) := by rw [IntWalk.i64_in _ (by omega)]; omega
  have e2 : IntKind.i64.wrap (2 * (s : Int)) = ((2 * s : Nat) : Int) := by rw [IntWalk.i64_in _ (by omega)]; omega
  have e3 : zdt .shl .i64 1 (2 * ((s + 1 - 1 : Nat) : Int)) = some (.int .i64 ((2 ^ (2 * s) : Nat) : Int)) := by rw [← shl1 (2 * s) (by omega)]; congr 1
  have e4 : moreI g (s + 1) = g.den * ((2 ^ (2 * s) : Nat) : Int) := by unfold moreI; rw [if_neg (by omega)]; rfl
  have e5 : ¬ ((s + 1 : Nat) : Int) = 0 := by omega
  rw [e4]
  clear e4
  generalize 2 ^ (2 * s) = N at *
  have hl2 := zar (x := (N : Int)) ⟨by omega, by omega⟩
  simp -dsimp -implicitDefEqProofs (disch := try exact zdE) only [go_sem, e5, e1, e2, e3]
  first | refine zab (zbf (N : Int) ⟨by omega, by omega⟩) (by simp) ?_ | refine zaa (zbf (N : Int) ⟨by omega, by omega⟩) (by simp) ?_
  refine sgo ?_
  first | refine zab (zbe g.den (N : Int) (by omega) (by omega)) (by simp) ?_ | refine zaa (zbe g.den (N : Int) (by omega) (by omega)) (by simp) ?_
  exact sgo trivial
  done
def dampM (M : Nat → Nat → Int) (more : Int) (i j : Nat) : Int := M i j + if i = j then more else 0
theorem damped_ret (A : List (List Int)) (n L : Nat) (more : Int) (hn : n ≤ 12) (hn0 : 0 < n) (hL : L ≤ 1000000000) (hA : Sq A n) (hlim : ∀ i j, lim (at2 A i j) ≤ L) (hm : lim more ≤ L) :
  Ret pg zhv [.sl (A.map ivl), IV more] (.sl ((mat n (dampM (at2 A) more)).map ivl)) := by
 have hAl := hA.1
 have hrow : ∀ k, ∀ x ∈ (List.range k).map (fun i => ivl ((List.range n).map (dampM (at2 A) more i))), V.Pure x := fun k => zgm fun x => by simp
 refine solve_damped.of rfl (W_b ?_)
 unfold solve_damped.k solve_damped.res Ot kp kd Oy Om Ol OL Oi Oc On ci
 simp -dsimp -implicitDefEqProofs (disch := try exact zdE) only [go_sem, hAl]
 refine za1 (T := Nat × V × Hp × Nat) (fun t => ⟨E [(3, .pp (IV more)), (5, t.2.1), (8, .sl (A.map ivl)), (9, .int .i64 n), (10, .int .i64 t.1)], t.2.2.1, t.2.2.2, t.2.2.2⟩)
  (fun t => t.1 ≤ n ∧ Row 0 t.2.2.1 t.2.2.2 t.2.1 1 ((List.range t.1).map fun i => ivl ((List.range n).map (dampM (at2 A) more i)))) (fun t => n - t.1) (0, .nil, _, _) rfl ⟨zdo, Row.nil _ _ _ _⟩ ?_
 rintro ⟨i, w, H, nx⟩ ⟨i1, i2⟩
 dsimp only at i1 i2
 by_cases hi : i < n
 ·have hrl := hA.row hi
  have s1 := hlim i i
  have hgi : (A.getD i []).getD i 0 = at2 A i i := rfl
  have hgk : ∀ k, at2 A i k = (A.getD i []).getD k 0 := fun _ => rfl
  generalize hR : A.getD i [] = r at *
  simp -dsimp -implicitDefEqProofs (disch := try exact zdE) only [go_sem, hR, hrl]
  obtain ⟨H1, n1, c, ⟨c1, c2, c3, c4⟩, hc⟩ := cloneL_G r H (nx + 9) (fun e => by rw [e] at hrl; simp at hrl; omega) (by omega)
  refine zd3 hc ?_
  have hri : c < n1 := c2
  have hrc : r.length = n := hrl
  simp -dsimp -implicitDefEqProofs (disch := try exact zdE) only [go_sem, hrl, c3, hgi]
  first | refine zab (zb8 _ _ (by omega) (by omega)) (by simp) ?_ | refine zaa (zb8 _ _ (by omega) (by omega)) (by simp) ?_
  have hset : r.set i (at2 A i i + more) = (List.range n).map (dampM (at2 A) more i) := by
   refine List.ext_getElem (by simp [hrl]) fun k h1 h2 => ?_
   rw [List.getElem_set, List.getElem_map, List.getElem_range]
   unfold dampM
   by_cases hk : i = k
   ·subst hk; rw [if_pos rfl, if_pos rfl]
   ·rw [if_neg hk, if_neg hk]
    rw [hgk k]
    simp [List.getD_eq_getElem?_getD, List.getElem?_eq_getElem (show k < r.length by simpa using h1)]
  simp -dsimp -implicitDefEqProofs (disch := try exact zdE) only [go_sem, hrl, c3, hgi, hset]
  have i3 : Row 0 (H1.upd c (some ⟨((List.range n).map (dampM (at2 A) more i)).map IV, 2⟩)) (n1 + 10) w 1 ((List.range i).map fun i => ivl ((List.range n).map (dampM (at2 A) more i))) := i2.same (fun b hb => by rw [Hp.upd_ne _ _ (by omega), c4 b (by omega)]) (by omega)
  have hwc : ∀ n, w ≠ .own c n := fun n e => by
   rcases i2 with ⟨rfl, _⟩ | ⟨b, rfl, _, hb, _⟩
   ·cases e
   ·cases e; omega
  obtain ⟨i4, i5⟩ := i3.sub (ys := ((List.range n).map (dampM (at2 A) more i)).map IV) (hrow i) hwc
  have i4 : Row 0 ((Hp.sub (fz1 c (((List.range n).map (dampM (at2 A) more i)).map IV)) H1).upd c none) (n1 + 10) w 1 ((List.range i).map fun i => ivl ((List.range n).map (dampM (at2 A) more i))) := i4.same (fun b _ => by by_cases h : b = c <;> simp [Hp.sub, Hp.upd, fz1, h]) (Nat.le_refl _)
  have hAs : List.map (V.sub (fz1 c (((List.range n).map (dampM (at2 A) more i)).map IV))) (A.map ivl) = A.map ivl := zex (zgm fun x => by simp) _
  have e7 : V.sl (((List.range n).map (dampM (at2 A) more i)).map IV) = ivl ((List.range n).map (dampM (at2 A) more i)) := rfl
  have hfl : (((List.range n).map (dampM (at2 A) more i)).map IV).length = n := by simp
  refine gh_fz1 c (((List.range n).map (dampM (at2 A) more i)).map IV) (Hp.upd_same _ _ _) (zgm fun x => by simp) (by simp only [List.map_cons, List.map_nil, i5, V.sub, hAs, fz1, hfl, if_true]; rfl) ?_
  simp -dsimp -implicitDefEqProofs (disch := try exact zdE) only [go_sem, e7]
  refine zf7 (lo := 0) (nx := n1 + 10) (e := ivl ((List.range n).map (dampM (at2 A) more i))) (H0 := (Hp.sub (fz1 c (((List.range n).map (dampM (at2 A) more i)).map IV)) H1).upd c none) (xs := (List.range i).map fun i => ivl ((List.range n).map (dampM (at2 A) more i))) i4 (by omega) rfl (by omega) (by omega) (by simp [rowOk, V.cells, V.cellOk, ivl]) (by decide) (by simp; omega) (by simp; omega) fun v2 H2 r1 _ _ r4 => ?_
  rw [range_snoc (fun i => ivl ((List.range n).map (dampM (at2 A) more i)))] at r1
  refine sgo ?_
  exact ⟨(i + 1, v2, H2, _), rfl, ⟨zdo, r1.same (fun _ _ => rfl) zdo⟩, zdo⟩
 ·have hie : i = n := by omega
  subst hie
  refine sgo ?_
  rw [i2.frz (zfk fun x => rfl)]
  simp only [mat, List.map_map]
  rfl
end Go.Gim
/- Is a long number small; the whole number nearest to a quotient (solve). -/
set_option maxRecDepth 100000
set_option maxHeartbeats 4000000
namespace Go.Gim
open Go.Proofs
theorem small_no (x : Int) (hl : lim x ≤ 8796093022208) (h : x < -9223372036854775808 ∨ 9223372036854775807 < x) : Ret pg zcr [IV x] (.tup [.int .i64 0, .bool false]) := by
 have hd1 := zar (x := -9223372036854775808) ⟨by omega, by omega⟩
 have hd2 := zar (x := 9223372036854775807) ⟨by omega, by omega⟩
 refine long_Int_Small.of rfl (W_b ?_)
 unfold long_Int_Small.k long_Int_Small.res Ot kp kd Og Oy Om Ol OL Oq Oi Oc On ci
 refine sgo ?_
 first | refine zab (zbf (-9223372036854775808) ⟨by omega, by omega⟩) (by simp) ?_ | refine zaa (zbf (-9223372036854775808) ⟨by omega, by omega⟩) (by simp) ?_
 by_cases h1 : x < -9223372036854775808
 ·have s1 : (x - -9223372036854775808).sign < 0 := by rw [sign_neg_iff]; omega
  refine sgo ?_
  first | refine zab (zcw _ _ (by omega) (by omega)) (by simp) ?_ | refine zaa (zcw _ _ (by omega) (by omega)) (by simp) ?_
  simp -dsimp -implicitDefEqProofs (disch := try exact zdE) only [go_sem, s1]
  done
 ·have s1 : ¬ (x - -9223372036854775808).sign < 0 := by rw [sign_neg_iff]; omega
  have s2 : 0 < (x - 9223372036854775807).sign := by rw [sign_pos_iff]; omega
  refine sgo ?_
  first | refine zab (zcw _ _ (by omega) (by omega)) (by simp) ?_ | refine zaa (zcw _ _ (by omega) (by omega)) (by simp) ?_
  simp -dsimp -implicitDefEqProofs (disch := try exact zdE) only [go_sem, s1]
  first | refine zab (zbf 9223372036854775807 ⟨by omega, by omega⟩) (by simp) ?_ | refine zaa (zbf 9223372036854775807 ⟨by omega, by omega⟩) (by simp) ?_
  refine sgo ?_
  first | refine zab (zcw _ _ (by omega) (by omega)) (by simp) ?_ | refine zaa (zcw _ _ (by omega) (by omega)) (by simp) ?_
  simp -dsimp -implicitDefEqProofs (disch := try exact zdE) only [go_sem, s2]
  done
theorem or_comm64 (a b : Int) : intV .or .u64 a b = intV .or .u64 b a := by
 show some (bitsV .u64 (· ||| ·) a b) = some (bitsV .u64 (· ||| ·) b a)
 unfold bitsV
 simp only [BitVec.or_comm]
theorem small_step (xs : List Nat) (hl : xs.length ≤ 2) (hx : ∀ z ∈ xs, z < W32) (i : Nat) (hi : i < xs.length) :
  ∃ s : Nat, zdt .shl .u64 ((xs.getD i 0 : Nat) : Int) (32 * (i : Int)) = some (.int .u64 (s : Int)) ∧ intV .or .u64 ((val W32 (xs.take i) : Nat) : Int) (s : Int) = some (.int .u64 ((val W32 (xs.take (i + 1)) : Nat) : Int)) := by
 have hd : xs.getD i 0 < 4294967296 := zco hx (by decide)
 match xs, hl, hi with
 | [a], _, hi =>
  obtain rfl : i = 0 := by simp at hi; omega
  have ha : a < 4294967296 := hd
  have := or32 (a := 0) (b := a) (by omega) ha
  refine ⟨a, ?_, ?_⟩
  ·show some (V.int .u64 (IntKind.u64.wrap ((a : Int) * 2 ^ 0))) = _
   rw [Int.pow_zero, Int.mul_one, wu64, Nat.mod_eq_of_lt (by omega)]
  ·simpa [val] using this
 | [a, b], _, hi =>
  have ha : a < 4294967296 := hx a (by simp)
  have hb : b < 4294967296 := hx b (by simp)
  by_cases h0 : i = 0
  ·subst h0
   have := or32 (a := 0) (b := a) (by omega) ha
   refine ⟨a, ?_, ?_⟩
   ·show some (V.int .u64 (IntKind.u64.wrap ((a : Int) * 2 ^ 0))) = _
    rw [Int.pow_zero, Int.mul_one, wu64, Nat.mod_eq_of_lt (by omega)]
   ·simpa [val] using this
  ·obtain rfl : i = 1 := by simp at hi; omega
   have h1 := shl32 b
   rw [Nat.mod_eq_of_lt (by omega)] at h1
   have h2 := or32 (a := b) (b := a) hb ha
   rw [or_comm64] at h2
   refine ⟨b * 4294967296, h1, ?_⟩
   have e : val W32 ([a, b].take 1) = a := by simp [val]
   have e2 : val W32 ([a, b].take (1 + 1)) = b * 4294967296 + a := by simp [val, W32]; omega
   rw [e, e2]
   exact h2
theorem zh6 (x : Int) (h : In64 x) : Ret pg zcr [IV x] (.tup [.int .i64 x, .bool true]) := by
 have hd0 := zar h
 have hd1 := zar (x := -9223372036854775808) ⟨by omega, by omega⟩
 have hd2 := zar (x := 9223372036854775807) ⟨by omega, by omega⟩
 have s1 : ¬ (x - -9223372036854775808).sign < 0 := by rw [sign_neg_iff]; omega
 have s2 : ¬ 0 < (x - 9223372036854775807).sign := by rw [sign_pos_iff]; omega
 have hlt := zeu w2 x.natAbs
 have hval := zbo w2 x.natAbs
 have hlen : (digs W32 x.natAbs).length ≤ 2 := hd0
 refine long_Int_Small.of rfl (W_b ?_)
 unfold long_Int_Small.k long_Int_Small.res Ot kp kd Og Oy Om Ol OL Oq Oi Oc On ci
 refine sgo ?_
 first | refine zab (zbf (-9223372036854775808) ⟨by omega, by omega⟩) (by simp) ?_ | refine zaa (zbf (-9223372036854775808) ⟨by omega, by omega⟩) (by simp) ?_
 refine sgo ?_
 first | refine zab (zcw _ _ (by omega) (by omega)) (by simp) ?_ | refine zaa (zcw _ _ (by omega) (by omega)) (by simp) ?_
 simp -dsimp -implicitDefEqProofs (disch := try exact zdE) only [go_sem, s1]
 first | refine zab (zbf 9223372036854775807 ⟨by omega, by omega⟩) (by simp) ?_ | refine zaa (zbf 9223372036854775807 ⟨by omega, by omega⟩) (by simp) ?_
 refine sgo ?_
 first | refine zab (zcw _ _ (by omega) (by omega)) (by simp) ?_ | refine zaa (zcw _ _ (by omega) (by omega)) (by simp) ?_
 simp -dsimp -implicitDefEqProofs (disch := try exact zdE) only [go_sem, s2]
 generalize hX : digs W32 x.natAbs = xs at *
 have hst := small_step xs hlen hlt
 refine za1 (T := Nat × Nat) (fun t => ⟨E [(1, .pp (IV x)), (5, .int .u64 ((val W32 (xs.take t.1) : Nat) : Int)), (20, .sl (nats .u32 xs)), (21, .int .i64 xs.length), (22, .int .i64 t.1)], Hp.upd (fun _ => none) 4 (some ⟨[IV (-9223372036854775808)], 2⟩), t.2, t.2⟩)
  (fun t => t.1 ≤ xs.length ∧ 4 < t.2) (fun t => xs.length - t.1) (0, _) rfl ⟨zdo, zdo⟩ ?_
 rintro ⟨i, nx⟩ ⟨i1, i2⟩
 dsimp only at i1 i2
 by_cases hi : i < xs.length
 ·obtain ⟨s, e1, e2⟩ := hst i hi
  have hd : xs.getD i 0 < 4294967296 := zco hlt (by decide)
  have e3 : IntKind.i64.wrap (32 * (i : Int)) = 32 * (i : Int) := IntWalk.i64_in _ (by omega)
  have e4 : IntKind.u64.wrap ((xs.getD i 0 : Nat) : Int) = ((xs.getD i 0 : Nat) : Int) := by rw [wu64, Nat.mod_eq_of_lt (by omega)]
  simp -dsimp -implicitDefEqProofs (disch := try exact zdE) only [go_sem, hX, e3, e4, e1, e2, zbq, za9]
  exact ⟨(i + 1, _), rfl, ⟨zdo, zdo⟩, zdo⟩
 ·have hie : i = xs.length := by omega
  subst hie
  rw [List.take_length, hval]
  by_cases hx : x < 0
  ·have e2 : decide (x < 0) = true := decide_eq_true hx
   simp -dsimp -implicitDefEqProofs (disch := try exact zdE) only [go_sem, e2]
   have e3 : IntKind.i64.wrap (IntKind.u64.wrap (0 - (x.natAbs : Int))) = x := by
    rw [IntKind.wrap_i64]
    simp only [IntKind.wrap, IntKind.bits, IntKind.signed]
    simp
    omega
   rw [e3]
  ·have e2 : decide (x < 0) = false := decide_eq_false hx
   simp -dsimp -implicitDefEqProofs (disch := try exact zdE) only [go_sem, e2]
   rw [show (x.natAbs : Int) = x by omega]
def nearF (num den : Int) : Int := max (-10000000) (min ((2 * num + den).fdiv (2 * den)) 10000000)
theorem nearest_ret (num den : Int) (hd : 0 < den) (hn : lim num ≤ 1000000000000) (hdl : lim den ≤ 1000000000000) : Ret pg zg4 [IV num, IV den] (.int .i64 (nearF num den)) := by
 have h2 := zar (x := 2) ⟨by omega, by omega⟩
 have l1 := za5 num 2
 have l2 := za5 den 2
 have l3 := zg8 (num * 2) den
 have hq0 : den * 2 ≠ 0 := by omega
 have eq : (num * 2 + den).fdiv (den * 2) = (2 * num + den).fdiv (2 * den) := by rw [Int.mul_comm num, Int.mul_comm den]
 have lq := lim_fdiv (num * 2 + den) (den * 2)
 unfold nearF
 refine solve_nearest.of rfl (W_b ?_)
 unfold solve_nearest.k solve_nearest.res Ot kp kd Oy Om OL Oc ci
 refine sgo ?_
 first | refine zab (zbf 2 ⟨by omega, by omega⟩) (by simp) ?_ | refine zaa (zbf 2 ⟨by omega, by omega⟩) (by simp) ?_
 refine sgo ?_
 first | refine zab (zbe num 2 (by omega) (by omega)) (by simp) ?_ | refine zaa (zbe num 2 (by omega) (by omega)) (by simp) ?_
 refine sgo ?_
 first | refine zab (zb8 _ _ (by omega) (by omega)) (by simp) ?_ | refine zaa (zb8 _ _ (by omega) (by omega)) (by simp) ?_
 refine sgo ?_
 first | refine zab (zbf 2 ⟨by omega, by omega⟩) (by simp) ?_ | refine zaa (zbf 2 ⟨by omega, by omega⟩) (by simp) ?_
 refine sgo ?_
 first | refine zab (zbe den 2 (by omega) (by omega)) (by simp) ?_ | refine zaa (zbe den 2 (by omega) (by omega)) (by simp) ?_
 refine sgo ?_
 first | refine zab (quo_ret (num * 2 + den) (den * 2) hq0 (by omega) (by omega)) (by simp) ?_ | refine zaa (quo_ret (num * 2 + den) (den * 2) hq0 (by omega) (by omega)) (by simp) ?_
 rw [eq] at lq ⊢
 generalize (2 * num + den).fdiv (2 * den) = q at *
 refine sgo ?_
 by_cases hs : In64 q
 ·first | refine zab (zh6 q hs) (by simp) ?_ | refine zaa (zh6 q hs) (by simp) ?_
  exact sgo trivial
  done
 ·have hs2 : q < -9223372036854775808 ∨ 9223372036854775807 < q := by unfold In64 at hs; omega
  first | refine zab (small_no q (by omega) hs2) (by simp) ?_ | refine zaa (small_no q (by omega) hs2) (by simp) ?_
  refine sgo ?_
  first | refine zab (zhc q (by omega)) (by simp) ?_ | refine zaa (zhc q (by omega)) (by simp) ?_
  refine sgo ?_
  rcases hs2 with h | h
  ·rw [Int.sign_eq_neg_one_of_neg (by omega), IntWalk.i64_in _ (by omega)]
   congr 2; omega
  ·rw [Int.sign_eq_one_of_pos (by omega), IntWalk.i64_in _ (by omega)]
   congr 2; omega
end Go.Gim
/- How steep the cost is, as a row that may be written. -/
set_option maxRecDepth 100000
set_option maxHeartbeats 4000000
namespace Go.Gim
open Go.Proofs
theorem csteep_G (g : Gr) (x : List Int) (h : GOkay g x) (hn0 : 0 < g.n) (H : Hp) (n0 : Nat) :
  ∃ H' n' id, (n0 ≤ id ∧ id < n' ∧ H' id = some ⟨(zf9 g x).map IV, 2⟩ ∧ ∀ b, b < n0 → H' b = H b) ∧ RetG pg zd2 [GV g, ints x] H n0 (.own id g.n) H' n' := by
 suffices h : ∃ r H' n', (∃ id, r = .own id g.n ∧ n0 ≤ id ∧ id < n' ∧ H' id = some ⟨(zf9 g x).map IV, 2⟩ ∧ ∀ b, b < n0 → H' b = H b) ∧ RetG pg zd2 [GV g, ints x] H n0 r H' n' by
  obtain ⟨_, H', n', ⟨id, rfl, h1⟩, h⟩ := h
  exact ⟨H', n', id, h1, h⟩
 obtain ⟨hn, h11, h60, hr, hx, hsq, hq, sP, sQ, sc, sd⟩ := h
 have r1 : ∀ r ∈ g.rows, Ret pg zdr [RV r, .pp (ints x)] (ints (zfn r x)) := fun r hrr => by
  refine cost_Steep_1.of rfl (W_b ?_)
  unfold cost_Steep_1.k cost_Steep_1.res Ot kp Om Ol OL
  refine sgo ?_
  first | refine zab (steep_ret r x (hr r hrr) hx) (by simp) ?_ | refine zaa (steep_ret r x (hr r hrr) hx) (by simp) ?_
  exact sgo trivial
 have e1 := eachL_ret g.rows zdr [.pp (ints x)] (fun r => zfn r x) (by omega) (by simp) r1
 have e2 := eachN_ret x zav [] (fun a => a) (by omega) (by simp) fun a ha => zbf a (hx.in64 a ha)
 rw [List.map_id'] at e2
 have hcs : g.rows.map (fun r => zfn r x) = zbl g x := rfl
 have hcl : (zbl g x).length = g.rows.length := by simp [zbl]
 have hcr : ∀ l ∈ zbl g x, l.length = g.n ∧ ∀ v ∈ l, In64 v := fun l hl => by
  obtain ⟨r, hr', rfl⟩ := List.mem_map.1 hl
  have h1 := (hr r hr').len
  exact ⟨by simp [zfn]; omega, fun v hv => by have := steepR_bd (x := x) (hr r hr') v hv; exact ⟨by omega, by omega⟩⟩
 have hcin := fun l hl => (hcr l hl).2
 refine cost_Steep.ofG rfl (W_b ?_)
 unfold cost_Steep.k cost_Steep.res Ot kp kd Oy Om Ol OL Oq Oi Oc On ci
 refine sgo ?_
 first | refine zab (e1) (by simp) ?_ | refine zaa (e1) (by simp) ?_
 simp -dsimp -implicitDefEqProofs (disch := try exact zdE) only [go_sem, hcs, hn]
 refine zf0 (T := Nat × Nat) (fun t => ⟨E [(2, .pp (GV g)), (3, .pp (ints x)), (5, .own (n0 + 5) g.n), (18, .sl ((zbl g x).map ints)), (19, .int .i64 (zbl g x).length), (20, .int .i64 t.1)], Hp.upd H (n0 + 5) (some ⟨((List.range g.n).map (colS (zbl g x) t.1)).map IV, 2⟩), t.2, t.2⟩) (fun t => t.1 ≤ g.rows.length ∧ n0 + 5 < t.2) (fun t => g.rows.length - t.1) (0, n0 + 13) (by rw [colS_zero (zbl g x)]; exact Ghost.refl _) ⟨zdo, zdo⟩ ?_
 rintro ⟨i, nx⟩ ⟨i1, i2⟩
 dsimp only at i1 i2
 by_cases hi : i < g.rows.length
 ·have hml := hcr _ (zaz [] (show i < (zbl g x).length by omega))
  have hset := fun j => midS_set (n := g.n) (j := j) (show i < (zbl g x).length by omega)
  generalize hZ : (zbl g x).getD i [] = l at *
  obtain ⟨hl1, hl2⟩ := hml
  rw [midS_zero]
  simp -dsimp -implicitDefEqProofs (disch := try exact zdE) only [go_sem, hZ, hl1]
  refine zf0 (T := Nat × Nat) (fun t => ⟨E [(2, .pp (GV g)), (3, .pp (ints x)), (5, .own (n0 + 5) g.n), (18, .sl ((zbl g x).map ints)), (19, .int .i64 (zbl g x).length), (20, .int .i64 i), (24, ints l), (25, .int .i64 g.n), (26, .int .i64 t.1)], Hp.upd H (n0 + 5) (some ⟨((List.range g.n).map (midS (zbl g x) i t.1)).map IV, 2⟩), t.2, t.2⟩) (fun t => t.1 ≤ g.n ∧ n0 + 5 < t.2) (fun t => g.n - t.1) (0, _) (Ghost.refl _) ⟨zdo, zdo⟩ ?_
  rintro ⟨j, nx2⟩ ⟨j1, j2⟩
  dsimp only at j1 j2
  by_cases hj : j < g.n
  ·have hv := getD_in hl2 j
   have l1 := zar hv
   have l2 := colS_lim hcin i j
   have hget : ((List.range g.n).map (midS (zbl g x) i j)).getD j 0 = colS (zbl g x) i j := by rw [zbh 0 hj]; unfold midS; rw [if_neg (by omega)]
   have hset := hset j
   simp -dsimp -implicitDefEqProofs (disch := try exact zdE) only [go_sem, hget]
   first | refine zab (zbf _ hv) (by simp) ?_ | refine zaa (zbf _ hv) (by simp) ?_
   refine sgo ?_
   first | refine zab (zb8 _ _ (by omega) (by omega)) (by simp) ?_ | refine zaa (zb8 _ _ (by omega) (by omega)) (by simp) ?_
   simp -dsimp -implicitDefEqProofs (disch := try exact zdE) only [go_sem, hset]
   exact ⟨(j + 1, _), Ghost.refl _, ⟨zdo, zdo⟩, zdo⟩
  ·have hje : g.n = j := by omega
   subst hje
   rw [midS_all]
   refine sgo ?_
   exact ⟨(i + 1, _), Ghost.refl _, ⟨zdo, zdo⟩, zdo⟩
 ·have hie : g.rows.length = i := by omega
  subst hie
  refine sgo ?_
  first | refine zab (e2) (by simp) ?_ | refine zaa (e2) (by simp) ?_
  refine sgo ?_
  first | refine zab (qslope_ret g.P g.Q x g.c g.n (by omega) hsq hq hn (fun i j => by have := sP i j; omega) (fun i => by have := sQ i; omega) (fun i => by have := hx.lim i; omega)) (by simp) ?_ | refine zaa (qslope_ret g.P g.Q x g.c g.n (by omega) hsq hq hn (fun i j => by have := sP i j; omega) (fun i => by have := sQ i; omega) (fun i => by have := hx.lim i; omega)) (by simp) ?_
  refine sgo ?_
  rw [outS_zero]
  refine zf0 (T := Nat × Nat) (fun t => ⟨E [(2, .pp (GV g)), (5, .own (n0 + 5) g.n), (10, ivl ((List.range g.n).map fun k => zbn g.P x g.n k - g.Q.getD k 0)), (49, .int .i64 g.n), (50, .int .i64 t.1)], Hp.upd H (n0 + 5) (some ⟨((List.range g.n).map (outS g x t.1)).map IV, 2⟩), t.2, t.2⟩) (fun t => t.1 ≤ g.n ∧ n0 + 5 < t.2) (fun t => g.n - t.1) (0, _) (Ghost.refl _) ⟨zdo, zdo⟩ ?_
  rintro ⟨j, nx2⟩ ⟨j1, j2⟩
  dsimp only at j1 j2
  by_cases hj : j < g.n
  ·have l2 := colS_lim hcin g.rows.length j
   have l3 := applyAt_lim' h11 sP hx j
   have l4 := sQ j
   have l5 := lim_sub (zbn g.P x g.n j) (g.Q.getD j 0)
   have l6 := za5 (colS (zbl g x) g.rows.length j) g.den
   have hget : ((List.range g.n).map (outS g x j)).getD j 0 = colS (zbl g x) g.rows.length j := by rw [zbh 0 hj]; unfold outS; rw [if_neg (by omega)]
   have hget2 : ((List.range g.n).map fun k => zbn g.P x g.n k - g.Q.getD k 0).getD j 0 = zbn g.P x g.n j - g.Q.getD j 0 := zbh 0 hj
   have hset := outS_set g x j
   unfold stepC at hset
   simp -dsimp -implicitDefEqProofs (disch := try exact zdE) only [go_sem, hget]
   first | refine zab (zbe _ _ (by omega) (by omega)) (by simp) ?_ | refine zaa (zbe _ _ (by omega) (by omega)) (by simp) ?_
   simp -dsimp -implicitDefEqProofs (disch := try exact zdE) only [go_sem, hget2]
   first | refine zab (zb8 _ _ (by omega) (by omega)) (by simp) ?_ | refine zaa (zb8 _ _ (by omega) (by omega)) (by simp) ?_
   simp -dsimp -implicitDefEqProofs (disch := try exact zdE) only [go_sem, hset]
   exact ⟨(j + 1, _), Ghost.refl _, ⟨zdo, zdo⟩, zdo⟩
  ·have hje : j = g.n := by omega
   subst hje
   rw [outS_all]
   have hsl : (zf9 g x).length = g.n := by simp [zf9]
   simp -dsimp -implicitDefEqProofs (disch := try exact zdE) only [go_sem, hsl]
   exact ⟨_, rfl, zdo, _, rfl, by omega, zdo, Hp.upd_same _ _ _, fun b hb => by dsimp only; rw [Hp.upd_ne _ _ (by omega)]⟩
end Go.Gim
/- Where to look for less (solve.Step). -/
set_option maxRecDepth 100000
set_option maxHeartbeats 4000000
namespace Go.Gim
open Go.Proofs
def stepA (g : Gr) (x : List Int) (r : Nat) : Nat → Nat → Int := dampM (curveAt g x) (moreI g r)
def downS (g : Gr) (x : List Int) (i : Nat) : Int := stepC g x i * -1024
def stepN (g : Gr) (x : List Int) (r i : Nat) : Int := det g.n (setC (stepA g x r) i (downS g x))
def stepE (g : Gr) (x : List Int) (r : Nat) : Int := det g.n (stepA g x r)
def stepD (g : Gr) (x : List Int) (r i : Nat) : Int := nearF (stepN g x r i) (stepE g x r)
def stepL (g : Gr) (x : List Int) (r : Nat) : List Int := (List.range g.n).map (stepD g x r)
def stepB (g : Gr) (x : List Int) (r : Nat) : Bool := defS g.n (stepA g x r)
theorem nearF_bd (a b : Int) : -10000000 ≤ nearF a b ∧ nearF a b ≤ 10000000 := by unfold nearF; omega
theorem curveAt_lim {g : Gr} {x : List Int} (h : GOkay g x) (i j : Nat) : lim (curveAt g x i j) ≤ 1000 := by
 have h1 := bendSum_bd h.right (shares_bd h.right) i j g.rows.length
 have h60 := h.sixty
 have l1 := zar (x := zfl g.rows (zdw g x) i j g.rows.length) ⟨by omega, by omega⟩
 have l2 := za5 (zfl g.rows (zdw g x) i j g.rows.length) g.den
 have l3 := za5 (at2 g.P i j) 1024
 have l4 := zar (x := 1024) ⟨by omega, by omega⟩
 have l5 := zg8 (zfl g.rows (zdw g x) i j g.rows.length * g.den) (at2 g.P i j * 1024)
 have := h.sP i j
 have := h.sd
 unfold curveAt
 omega
theorem stepA_lim {g : Gr} {x : List Int} {r : Nat} (h : GOkay g x) (hr : r ≤ 12) (i j : Nat) : lim (stepA g x r i j) ≤ 1100 := by
 have h1 := curveAt_lim h i j
 have h2 := moreI_lim g r hr
 have h3 := zg8 (curveAt g x i j) (if i = j then moreI g r else 0)
 have h4 : lim (if i = j then moreI g r else 0) ≤ 102 := by have := h.sd; split; omega; rw [zbk]; omega
 unfold stepA dampM
 omega
theorem stC_lim {g : Gr} {x : List Int} (h : GOkay g x) {k : Nat} (hk : k < g.n) : lim (stepC g x k) ≤ 2000 :=
 steepC_lim h _ (List.mem_map.2 ⟨k, List.mem_range.2 hk, rfl⟩)
def midD (g : Gr) (x : List Int) (j k : Nat) : Int := if k < j then downS g x k else stepC g x k
theorem midD_set (g : Gr) (x : List Int) (n j : Nat) : ((List.range n).map (midD g x j)).set j (downS g x j) = (List.range n).map (midD g x (j + 1)) := by
 rw [zia]
 refine List.map_congr_left fun k _ => ?_
 unfold midD
 by_cases h : k = j
 ·subst h
  rw [if_pos rfl, if_pos (by omega)]
 ·rw [if_neg h]
  by_cases h2 : k < j
  ·rw [if_pos h2, if_pos (by omega)]
  ·rw [if_neg h2, if_neg (by omega)]
theorem midD_zero (g : Gr) (x : List Int) : (List.range g.n).map (midD g x 0) = zf9 g x := List.map_congr_left fun k _ => by unfold midD; rw [if_neg (by omega)]; rfl
theorem midD_all (g : Gr) (x : List Int) : (List.range g.n).map (midD g x g.n) = (List.range g.n).map (downS g x) := List.map_congr_left fun k hk => by unfold midD; rw [if_pos (List.mem_range.1 hk)]
theorem step_solve {g : Gr} {x : List Int} {r : Nat} (h : GOkay g x) (hn0 : 0 < g.n) (hr : r ≤ 12) (hB : stepB g x r = true) : Ret pg zfb [.sl ((mat g.n (stepA g x r)).map ivl), ivl ((List.range g.n).map (downS g x))] (.tup [ivl (rowF g.n (stepN g x r)), IV (stepE g x r), .int .i64 0]) := by
 have h11 := h.hi
 have sA := fun i j => lim_at_mat (n := g.n) (stepA_lim h hr) i j
 have cs := lsolve_ret (mat g.n (stepA g x r)) ((List.range g.n).map (downS g x)) g.n 2010 (by omega) (by omega) (mat_sq _ _) (by simp) (fun i j => by have := sA i j; omega) fun i => by
  by_cases hi : i < g.n
  ·rw [zbh 0 hi]
   have := stC_lim h hi
   have := za5 (stepC g x i) (-1024)
   have := zar (x := -1024) ⟨by omega, by omega⟩
   unfold downS; omega
  ·rw [List.getD_eq_getElem?_getD, List.getElem?_eq_none (by simp; omega)]
   simp only [Option.getD_none]
   rw [zbk]; omega
 have e1 : det g.n (at2 (mat g.n (stepA g x r))) = stepE g x r := zaw fun i j hi hj => mat_at hi hj
 have hd : 0 < stepE g x r := defS_det hB
 rw [detS_eq, solveS_eq, e1, if_neg (by omega)] at cs
 have e2 : rowF g.n (fun i => det g.n (setC (at2 (mat g.n (stepA g x r))) i fun i => ((List.range g.n).map (downS g x)).getD i 0)) = rowF g.n (stepN g x r) := zh9 fun i hi => zaw fun a b ha hb => by
  unfold setC
  split
  ·show ((List.range g.n).map (downS g x)).getD a 0 = _
   rw [zbh 0 ha]
  ·exact mat_at ha hb
 rw [e2] at cs
 exact cs
theorem step_ret (g : Gr) (x : List Int) (r : Nat) (h : GOkay g x) (hn0 : 0 < g.n) (hr : r ≤ 12) : Ret pg n_solve_Step [GV g, ints x, .int .i64 r] (if stepB g x r = true then .tup [ints (stepL g x r), .int .i64 0] else .tup [.sl [], .int .i64 80]) := by
 have hx := h.len
 have h11 := h.hi
 have hsd := h.sd
 have hs := stateB_iff.2 h.state
 have c := cstate_ret x (by omega)
 rw [hs] at c
 have hx' : (x.length : Int) = g.n := by omega
 have cc := curve_ret g x hx.symm h11 h.sixty h.right h.state h.sq (fun i j => by have := h.sP i j; omega) (by omega)
 have cd := damping_ret g r hr (by omega)
 have hml := moreI_lim g r hr
 have cm := damped_ret (mat g.n (curveAt g x)) g.n 1000 (moreI g r) (by omega) hn0 (by omega) (mat_sq _ _) (lim_at_mat (curveAt_lim h)) (by omega)
 have eA : mat g.n (dampM (at2 (mat g.n (curveAt g x))) (moreI g r)) = mat g.n (stepA g x r) := mat_congr fun i j hi hj => by unfold stepA dampM; rw [mat_at hi hj]
 rw [eA] at cm
 have sA := fun i j => lim_at_mat (n := g.n) (stepA_lim h hr) i j
 have cf := ldefinite_ret (mat g.n (stepA g x r)) g.n 1100 (by omega) (by omega) (mat_sq _ _) sA
 have eF : defS g.n (at2 (mat g.n (stepA g x r))) = stepB g x r := defS_congr fun i j hi hj => mat_at hi hj
 rw [eF] at cf
 refine solve_Step.of rfl (W_b ?_)
 unfold solve_Step.k solve_Step.res Ot kp kd Og Oy Om Ol OL Oq Oi Oc On ci
 simp -dsimp -implicitDefEqProofs (disch := try exact zdE) only [go_sem, hx']
 first | refine zab (c) (by simp) ?_ | refine zaa (c) (by simp) ?_
 refine sgo ?_
 first | refine zab (cc) (by simp) ?_ | refine zaa (cc) (by simp) ?_
 refine sgo ?_
 first | refine zab (cd) (by simp) ?_ | refine zaa (cd) (by simp) ?_
 refine sgo ?_
 first | refine zab (cm) (by simp) ?_ | refine zaa (cm) (by simp) ?_
 refine sgo ?_
 first | refine zab (cf) (by simp) ?_ | refine zaa (cf) (by simp) ?_
 cases hB : stepB g x r
 ·exact sgo trivial
 ·refine sgo ?_
  obtain ⟨H1, n1, c0, ⟨d1, d2, d3, d4⟩, hc⟩ := csteep_G g x h hn0 (fun _ => none) 36
  refine zd3 hc ?_
  have hsl : (zf9 g x).length = g.n := by simp [zf9]
  simp -dsimp -implicitDefEqProofs (disch := try exact zdE) only [go_sem, d3, hsl]
  refine za1 (T := Nat × Hp × Nat) (fun t => ⟨E [(6, .nil), (8, .sl ((mat g.n (stepA g x r)).map ivl)), (9, .own c0 g.n), (48, .int .i64 g.n), (49, .int .i64 t.1)], t.2.1, t.2.2, t.2.2⟩)
   (fun t => t.1 ≤ g.n ∧ c0 < t.2.2 ∧ t.2.1 c0 = some ⟨((List.range g.n).map (midD g x t.1)).map IV, 2⟩) (fun t => g.n - t.1) (0, H1, _) rfl ⟨zdo, zdo, by dsimp only; rw [midD_zero]; exact d3⟩ ?_
  rintro ⟨i, H2, nx⟩ ⟨i1, i2, i3⟩
  dsimp only at i1 i2 i3
  by_cases hi : i < g.n
  ·have hget : ((List.range g.n).map (midD g x i)).getD i 0 = stepC g x i := by rw [zbh 0 hi]; unfold midD; rw [if_neg (by omega)]
   have l1 := stC_lim h hi
   have l2 := zar (x := -1024) ⟨by omega, by omega⟩
   have hset := midD_set g x g.n i
   unfold downS at hset
   simp -dsimp -implicitDefEqProofs (disch := try exact zdE) only [go_sem, i3, hget]
   first | refine zab (zbf (-1024) ⟨by omega, by omega⟩) (by simp) ?_ | refine zaa (zbf (-1024) ⟨by omega, by omega⟩) (by simp) ?_
   simp -dsimp -implicitDefEqProofs (disch := try exact zdE) only [go_sem, i3, hget]
   first | refine zab (zbe (stepC g x i) (-1024) (by omega) (by omega)) (by simp) ?_ | refine zaa (zbe (stepC g x i) (-1024) (by omega) (by omega)) (by simp) ?_
   simp -dsimp -implicitDefEqProofs (disch := try exact zdE) only [go_sem, i3, hset]
   exact ⟨(i + 1, _, _), rfl, ⟨zdo, zdo, Hp.upd_same _ _ _⟩, zdo⟩
  ·have hie : i = g.n := by omega
   rw [hie] at i3 ⊢
   clear hie hi i1
   rw [midD_all] at i3
   have hde : 0 < stepE g x r := defS_det hB
   have hlE : lim (stepE g x r) ≤ 2 ^ g.n * (1100 + 1) := by have := det_pw (n := g.n) (M := stepA g x r) (stepA_lim h hr); exact this
   have h2n : 2 ^ g.n ≤ 2 ^ 11 := Nat.pow_le_pow_right (by decide) h11
   have hlN : ∀ j, lim (stepN g x r j) ≤ 2 ^ g.n * (2010 + 1) := fun j => by
    have e : stepN g x r j = det g.n (setC (stepA g x r) j fun a => if a < g.n then downS g x a else 0) := zaw fun a b ha hb => by unfold setC; dsimp only; rw [if_pos ha]
    rw [e]
    refine det_pw (n := g.n) fun a b => ?_
    have := stepA_lim h hr a b
    unfold setC; dsimp only
    split
    ·split
     ·rename_i ha
      have := stC_lim h ha
      have := za5 (stepC g x a) (-1024)
      have := zar (x := -1024) ⟨by omega, by omega⟩
      unfold downS; omega
     ·rw [zbk]; omega
    ·omega
   have hAs : List.map (V.sub (fz1 c0 (((List.range g.n).map (downS g x)).map IV))) ((mat g.n (stepA g x r)).map ivl) = (mat g.n (stepA g x r)).map ivl := zex (zgm fun x => by simp) _
   have hdl : (((List.range g.n).map (downS g x)).map IV).length = g.n := by simp
   refine sgo ?_
   refine zik c0 (((List.range g.n).map (downS g x)).map IV) i3 (zgm fun x => by simp) («as» := [.sl ((mat g.n (stepA g x r)).map ivl), ivl ((List.range g.n).map (downS g x))]) (by simp only [List.map_cons, List.map_nil, V.sub, hAs, fz1, hdl, if_true]; rfl) (step_solve h hn0 hr hB) (by simp) ?_
   have hnl : (rowF g.n (stepN g x r)).length = g.n := zgl _ _
   simp -dsimp -implicitDefEqProofs (disch := try exact zdE) only [go_sem, hnl]
   refine za1 (T := Nat × V × Hp × Nat) (fun t => ⟨E [(6, t.2.1), (12, .ptr (nx + 8) 1 0 0), (69, ivl (rowF g.n (stepN g x r))), (70, .int .i64 g.n), (71, .int .i64 t.1)], t.2.2.1, t.2.2.2, t.2.2.2⟩)
    (fun t => t.1 ≤ g.n ∧ nx + 8 < t.2.2.2 ∧ t.2.2.1 (nx + 8) = some ⟨[IV (stepE g x r)], 2⟩ ∧ Row (nx + 9) t.2.2.1 t.2.2.2 t.2.1 1 (((List.range t.1).map (stepD g x r)).map (V.int .i64))) (fun t => g.n - t.1) (0, .nil, _, _) rfl ⟨zdo, zdo, Hp.upd_same _ _ _, Row.nil _ _ _ _⟩ ?_
   rintro ⟨j, w, H3, nx3⟩ ⟨j1, j2, j3, j4⟩
   dsimp only at j1 j2 j3 j4
   by_cases hj : j < g.n
   ·have hgj : (rowF g.n (stepN g x r)).getD j 0 = stepN g x r j := rowF_get hj
    simp -dsimp -implicitDefEqProofs (disch := try exact zdE) only [go_sem, hnl, hgj, j3]
    first | refine zab (nearest_ret (stepN g x r j) (stepE g x r) hde (by have := hlN j; omega) (by omega)) (by simp) ?_ | refine zaa (nearest_ret (stepN g x r j) (stepE g x r) hde (by have := hlN j; omega) (by omega)) (by simp) ?_
    refine sgo ?_
    refine zf7 (lo := nx + 9) (nx := nx3) (H0 := H3.upd (nx3 + 3) (some ⟨[IV (stepN g x r j)], 2⟩)) (e := .int .i64 (stepD g x r j)) (xs := ((List.range j).map (stepD g x r)).map (V.int .i64)) (j4.same (fun b hb => Hp.upd_ne _ _ (by omega)) (by omega)) (by omega) rfl (by omega) (by omega) (by simp [rowOk, V.cells, V.cellOk, V.isJunk]) (by decide) (by simp; omega) (by simp; omega) fun v2 H4 r1 _ _ r4 => ?_
    rw [zh1, range_snoc] at r1
    refine sgo ?_
    exact ⟨(j + 1, v2, H4, _), rfl, ⟨zdo, zdo, by dsimp only; rw [r4 _ (by omega), Hp.upd_ne _ _ (by omega)]; exact j3, r1.same (fun _ _ => rfl) zdo⟩, zdo⟩
   ·have hje : j = g.n := by omega
    rw [hje] at j4 ⊢
    refine sgo ?_
    rw [j4.frz (zfk fun x => rfl)]
    rfl
end Go.Gim
/- A state with a step (solve.moved); one round of looking for less and all of them, as plain functions. -/
set_option maxRecDepth 100000
set_option maxHeartbeats 4000000
namespace Go.Gim
open Go.Proofs
def plusL (x d : List Int) : List Int := (List.range x.length).map fun k => x.getD k 0 + d.getD k 0
theorem plusL_len (x d : List Int) : (plusL x d).length = x.length := by simp [plusL]
def midM (x d : List Int) (j k : Nat) : Int := if k < j then x.getD k 0 + d.getD k 0 else x.getD k 0
theorem midM_set (x d : List Int) (j : Nat) : ((List.range x.length).map (midM x d j)).set j (x.getD j 0 + d.getD j 0) = (List.range x.length).map (midM x d (j + 1)) := by
 rw [zia]
 refine List.map_congr_left fun k _ => ?_
 unfold midM
 by_cases h : k = j
 ·subst h
  rw [if_pos rfl, if_pos (by omega)]
 ·rw [if_neg h]
  by_cases h2 : k < j
  ·rw [if_pos h2, if_pos (by omega)]
  ·rw [if_neg h2, if_neg (by omega)]
theorem midM_zero (x d : List Int) : (List.range x.length).map (midM x d 0) = x := by
 refine List.ext_getElem (by simp) fun k h1 h2 => ?_
 simp [midM, List.getD_eq_getElem?_getD, List.getElem?_eq_getElem h2]
theorem midM_all (x d : List Int) : (List.range x.length).map (midM x d x.length) = plusL x d := List.map_congr_left fun k hk => by unfold midM; rw [if_pos (List.mem_range.1 hk)]
theorem moved_ret (x d : List Int) (hx : State x) (hd : ∀ k, -10000000 ≤ d.getD k 0 ∧ d.getD k 0 ≤ 10000000) (hl : d.length = x.length) (hn : 0 < x.length) (hs : x.length ≤ 1000000) : Ret pg n_solve_moved [ints x, ints d] (ints (plusL x d)) := by
 refine solve_moved.of rfl (W_b ?_)
 unfold solve_moved.k solve_moved.res Ot kp kd Oy Om Ol Oi Oc On ci
 refine sgo ?_
 obtain ⟨H1, n1, c0, ⟨d1, d2, d3, d4⟩, hc⟩ := cloneI_G x (fun _ => none) 4 (fun e => by rw [e] at hn; simp at hn) hs
 refine zd3 hc ?_
 simp -dsimp -implicitDefEqProofs (disch := try exact zdE) only [go_sem, hl]
 refine za1 (T := Nat × Hp × Nat) (fun t => ⟨E [(1, ints d), (5, .own c0 x.length), (10, .int .i64 x.length), (11, .int .i64 t.1)], t.2.1, t.2.2, t.2.2⟩)
  (fun t => t.1 ≤ x.length ∧ c0 < t.2.2 ∧ t.2.1 c0 = some ⟨((List.range x.length).map (midM x d t.1)).map (V.int .i64), 1⟩) (fun t => x.length - t.1) (0, H1, _) rfl ⟨zdo, zdo, by dsimp only; rw [midM_zero]; exact d3⟩ ?_
 rintro ⟨i, H2, nx⟩ ⟨i1, i2, i3⟩
 dsimp only at i1 i2 i3
 by_cases hi : i < x.length
 ·have hget : ((List.range x.length).map (midM x d i)).getD i 0 = x.getD i 0 := by rw [zbh 0 hi]; unfold midM; rw [if_neg (by omega)]
  have h1 := hx.get i
  have h2 := hd i
  have hset := midM_set x d i
  have e1 : IntKind.i64.wrap (x.getD i 0 + d.getD i 0) = x.getD i 0 + d.getD i 0 := IntWalk.i64_in _ (by omega)
  simp -dsimp -implicitDefEqProofs (disch := try exact zdE) only [go_sem, i3, hget, hl, e1, hset]
  exact ⟨(i + 1, _, _), rfl, ⟨zdo, zdo, Hp.upd_same _ _ _⟩, zdo⟩
 ·have hie : i = x.length := by omega
  rw [hie] at i3 ⊢
  rw [midM_all] at i3
  have hpl := plusL_len x d
  simp -dsimp -implicitDefEqProofs (disch := try exact zdE) only [go_sem, i3]
  rw [zfk fun x => rfl]
  rfl
theorem solve1_ret (a : Int) : Ret pg zd0 [.int .i64 a] (.bool (!decide (a = 0))) := by
 refine solve_Solve_1.of rfl (W_b ?_)
 unfold solve_Solve_1.k solve_Solve_1.res Ot kp Om ci
 exact sgo trivial
theorem solveC_ret (d : List Int) (hl : d.length ≤ 9223372036854775807) : Ret pg zbz [ints d, .fn zd0 []] (.bool (d.any fun a => !decide (a = 0))) := by
 obtain ⟨k, hk, he⟩ := indexI_ret d zd0 [] (fun a => !decide (a = 0)) hl (by simp) fun a _ => solve1_ret a
 rw [← he]
 refine slices_ContainsFunc_Lint64_int64.of rfl (W_b ?_)
 unfold slices_ContainsFunc_Lint64_int64.k slices_ContainsFunc_Lint64_int64.res Ot kp Om ci
 refine sgo ?_
 first | refine zab (hk) (by simp) ?_ | refine zaa (hk) (by simp) ?_
 exact sgo trivial
def rndF (g : Gr) (x : List Int) : Nat → Nat → Int → Int → Option (List Int) × Int × Int
 | 0, _, st, t => (none, st, t)
 | k + 1, r, st, t =>
  if stepB g x r = false then rndF g x k (r + 1) st t
  else if (stepL g x r).any (fun a => !decide (a = 0)) = false then (none, if st = 5 then 3 else st, t + 1)
  else if stateB (plusL x (stepL g x r)) = false then rndF g x k (r + 1) 4 (t + 1)
  else if valC g (plusL x (stepL g x r)) < valC g x then (some (plusL x (stepL g x r)), if st = 5 then 3 else st, t + 1)
  else rndF g x k (r + 1) (if st = 5 then 3 else st) (t + 1)
def flatB (g : Gr) (x : List Int) (most : Int) : Bool := (zf9 g x).all fun s => decide (s ≤ g.den * most) && decide (-s ≤ g.den * most)
def solF (g : Gr) (most : Int) (R : Nat) : Nat → List Int → Int → Int → List Int × Int × Int × Int
 | 0, x, acc, t => if flatB g x most = true then (x, 1, acc, t) else (x, 2, acc, t)
 | k + 1, x, acc, t =>
  if flatB g x most = true then (x, 1, acc, t)
  else match rndF g x (R + 1) 0 5 t with
   | (none, st, t') => (x, st, acc, t')
   | (some y, _, t') => solF g most R k y (acc + 1) t'
end Go.Gim
/- Looking for less (solve.Solve). -/
set_option maxRecDepth 100000
set_option maxHeartbeats 1000000
namespace Go.Gim
open Go.Proofs
attribute [local go_sem] CV_isAgg zgg CV_cells
def ResV (x : List Int) (st acc t : Int) : V := .agg [ints x, .int .i64 st, .int .i64 acc, .int .i64 t]
theorem GOkay.to {g : Gr} {x y : List Int} (h : GOkay g x) (hy : State y) (hl : y.length = x.length) : GOkay g y :=
 ⟨by rw [hl]; exact h.len, h.hi, h.sixty, by rw [hl]; exact h.right, hy, h.sq, h.ql, h.sP, h.sQ, h.sc, h.sd⟩
theorem csel_meet {P : Program} {b : Bool} {A B : K} {Kn : St → Prop} {Q : AX → St → Prop} {u : Dep Kn} {u' : Dep Q} {S : St} (I : (Nat → V) → Hp → Nat → Prop) (hA : b = true → Wb P A (fun x S' => x = .normal ∧ S'.hi = S'.nx ∧ I S'.env S'.H S'.nx) dp S) (hB : b = false → Wb P B (fun x S' => x = .normal ∧ S'.hi = S'.nx ∧ I S'.env S'.H S'.nx) dp S) (hK : ∀ env H nx, I env H nx → Kn ⟨env, H, nx, nx⟩) :
  csel (.bool b) (Wb P A (thn Kn Q u u') dp S) (Wb P B (thn Kn Q u u') dp S) dp dp := by
 have key : ∀ (x : AX) (S' : St), (x = .normal ∧ S'.hi = S'.nx ∧ I S'.env S'.H S'.nx) → thn Kn Q u u' x S' := fun x S' hx => by
  obtain ⟨rfl, h1, h2⟩ := hx
  have := hK _ _ _ h2
  obtain ⟨e, H, n, h⟩ := S'
  dsimp only at h1 this
  subst h1
  exact this
 exact ⟨b, rfl, fun h => zez key (hA h), fun h => zez key (hB h)⟩
theorem stepL_bd (g : Gr) (x : List Int) (r k : Nat) : -10000000 ≤ (stepL g x r).getD k 0 ∧ (stepL g x r).getD k 0 ≤ 10000000 := by
 unfold stepL
 by_cases hk : k < g.n
 ·rw [zbh 0 hk]; exact nearF_bd _ _
 ·rw [List.getD_eq_getElem?_getD, List.getElem?_eq_none (by simp; omega)]
  simp
theorem solve_ret (g : Gr) (c : Cfg) (x : List Int) (s : ByteArray) (K R : Nat) (hck : Ret pg zek [CV c] (.tup [.str s, .int .i64 0])) (h : GOkay g x) (hn0 : 0 < g.n) (hK : c.rounds = K) (hR : c.raises = R) (hK3 : K ≤ 30) (hR12 : R ≤ 12) (hf : In64 c.flat) :
  Ret pg n_solve_Solve [GV g, CV c, ints x] (.tup [ResV (solF g c.flat R K x 0 0).1 (solF g c.flat R K x 0 0).2.1 (solF g c.flat R K x 0 0).2.2.1 (solF g c.flat R K x 0 0).2.2.2, .int .i64 0]) := by
 have hx := h.len
 have h11 := h.hi
 have hs := stateB_iff.2 h.state
 have cc := cstate_ret x (by omega)
 rw [hs] at cc
 have hx' : (x.length : Int) = g.n := by omega
 have hcl := cloneI_ret x (fun e => by rw [e] at hx; simp at hx; omega) (by omega)
 generalize hF : solF g c.flat R K x 0 0 = F
 refine solve_Solve.of rfl (W_b ?_)
 unfold solve_Solve.k solve_Solve.res Ot kp Og Oy Om Ol OL Oq Oc On ci
 refine sgo ?_
 first | refine zab (hck) (by simp) ?_ | refine zaa (hck) (by simp) ?_
 simp -dsimp -implicitDefEqProofs (disch := try exact zdE) only [go_sem, hx']
 first | refine zab (cc) (by simp) ?_ | refine zaa (cc) (by simp) ?_
 refine sgo ?_
 first | refine zab (hcl) (by simp) ?_ | refine zaa (hcl) (by simp) ?_
 refine sgo ?_
 have hRe : (R : Int) = c.raises := hR.symm
 refine za1 (T := List Int × Nat × Int × Int × Hp × Nat) (fun t => ⟨E [(3, .pp (GV g)), (4, .pp (CV c)), (6, .ptr 2 1 0 0), (10, .ptr 26 1 0 0)], t.2.2.2.2.1, t.2.2.2.2.2, t.2.2.2.2.2⟩)
  (fun t => ∃ st, GOkay g t.1 ∧ t.2.1 ≤ K ∧ t.2.2.1 = (K : Int) - t.2.1 ∧ 0 ≤ t.2.2.2.1 ∧ t.2.2.2.1 ≤ 13 * t.2.2.1 ∧ 26 < t.2.2.2.2.2 ∧ (∃ v, t.2.2.2.2.1 2 = some ⟨[.agg [v, .int .i64 0, .int .i64 0, .int .i64 0]], 4⟩ ∧ v.cellOk = true) ∧ t.2.2.2.2.1 26 = some ⟨[ResV t.1 st t.2.2.1 t.2.2.2.1], 4⟩ ∧ solF g c.flat R t.2.1 t.1 t.2.2.1 t.2.2.2.1 = F) (fun t => t.2.1)
  (x, K, 0, 0, _, _) rfl ⟨0, h, Nat.le_refl _, zdo, zdo, zdo, zdo, ⟨.nil, rfl, rfl⟩, rfl, hF⟩ ?_
 rintro ⟨y, k, acc, t, H, nx⟩ ⟨st, q1, q2, q3, q4, q5, q6, ⟨v2, q7, q7'⟩, q8, q9⟩
 dsimp only at q1 q2 q3 q4 q5 q6 q7 q8 q9
 have hfl := flat_ret g y c.flat q1 hf
 change Ret pg n_cost_Flat _ (.bool (flatB g y c.flat)) at hfl
 unfold ResV at q8
 by_cases hB : flatB g y c.flat = true
 ·have hFe : F = (y, 1, acc, t) := by rw [← q9]; cases k <;> simp [solF, hB]
  rw [hB] at hfl
  simp -dsimp -implicitDefEqProofs (disch := try exact zdE) only [go_sem, q8, q7]
  first | refine zab (hfl) (by simp) ?_ | refine zaa (hfl) (by simp) ?_
  simp -dsimp -implicitDefEqProofs (disch := try exact zdE) only [go_sem, q8, q7]
  rw [hFe]
  rfl
 ·have hB : flatB g y c.flat = false := by simpa using hB
  rw [hB] at hfl
  by_cases hk : k = 0
  ·have hFe : F = (y, 2, acc, t) := by rw [← q9, hk]; simp [solF, hB]
   have ha : acc = c.rounds := by omega
   simp -dsimp -implicitDefEqProofs (disch := try exact zdE) only [go_sem, q8, q7]
   first | refine zab (hfl) (by simp) ?_ | refine zaa (hfl) (by simp) ?_
   simp -dsimp -implicitDefEqProofs (disch := try exact zdE) only [go_sem, q8, q7, ha]
   rw [hFe, ← ha]
   rfl
  ·obtain ⟨k', hk'⟩ : ∃ k', k = k' + 1 := ⟨k - 1, by omega⟩
   have ha : ¬ acc = c.rounds := by omega
   rw [hk', solF, hB, if_neg (by simp)] at q9
   obtain ⟨G, hG⟩ : ∃ G, rndF g y (R + 1) 0 5 t = G := ⟨_, rfl⟩
   rw [hG] at q9
   have h2 : 2 < nx := by omega
   simp -dsimp -implicitDefEqProofs (disch := try exact zdE) only [go_sem, q8, q7]
   first | refine zab (hfl) (by simp) ?_ | refine zaa (hfl) (by simp) ?_
   simp -dsimp -implicitDefEqProofs (disch := try exact zdE) only [go_sem, q8, q7, ha]
   refine za1 (T := Nat × Int × Int × Hp × Nat) (fun t => ⟨E [(3, .pp (GV g)), (4, .pp (CV c)), (6, .ptr 2 1 0 0), (10, .ptr 26 1 0 0), (11, .int .i64 t.1)], t.2.2.2.1, t.2.2.2.2, t.2.2.2.2⟩)
    (fun s => s.1 ≤ R + 1 ∧ 0 ≤ s.2.2.1 ∧ s.2.2.1 ≤ 13 * acc + s.1 ∧ 26 < s.2.2.2.2 ∧ s.2.2.2.1 2 = some ⟨[.agg [v2, .int .i64 0, .int .i64 0, .int .i64 0]], 4⟩ ∧ s.2.2.2.1 26 = some ⟨[ResV y s.2.1 acc s.2.2.1], 4⟩ ∧ rndF g y (R + 1 - s.1) s.1 s.2.1 s.2.2.1 = G) (fun s => R + 1 - s.1)
    (0, 5, t, Hp.upd H 26 (some ⟨[.agg [ints y, .int .i64 5, .int .i64 acc, .int .i64 t]], 4⟩), nx + 16) rfl ⟨zdo, zdo, zdo, zdo, by dsimp only; rw [Hp.upd_ne _ _ (by omega)]; exact q7, by dsimp only; unfold ResV; exact Hp.upd_same _ _ _, hG⟩ ?_
   rintro ⟨r, st1, t1, H1, nx1⟩ ⟨r1, r2, r3, r4, r5, r6, r7⟩
   dsimp only at r1 r2 r3 r4 r5 r6 r7
   unfold ResV at r6
   by_cases hr : r ≤ R
   ·have hr' : (r : Int) ≤ c.raises := by omega
    have hst := step_ret g y r q1 hn0 (by omega)
    obtain ⟨m, hm⟩ : ∃ m, R + 1 - r = m + 1 := ⟨R - r, by omega⟩
    rw [hm, rndF] at r7
    have hm1 : R + 1 - (r + 1) = m := by omega
    obtain ⟨st2, hst2⟩ : ∃ st2 : Int, (if st1 = 5 then 3 else st1) = st2 := ⟨_, rfl⟩
    rw [hst2] at r7
    by_cases hS : stepB g y r = true
    ·rw [hS, if_neg (by simp)] at r7
     rw [if_pos hS] at hst
     have e1 : IntKind.i64.wrap (t1 + 1) = t1 + 1 := IntWalk.i64_in _ (by omega)
     simp -dsimp -implicitDefEqProofs (disch := try exact zdE) only [go_sem, r5, r6, hr']
     first | refine zab (hst) (by simp) ?_ | refine zaa (hst) (by simp) ?_
     simp -dsimp -implicitDefEqProofs (disch := try exact zdE) only [go_sem, r5, r6, e1]
     refine csel_meet (fun env G nx => env 3 = .pp (GV g) ∧ env 4 = .pp (CV c) ∧ env 6 = .ptr 2 1 0 0 ∧ env 10 = .ptr 26 1 0 0 ∧ env 11 = .int .i64 r ∧ env 12 = ints (stepL g y r) ∧ 26 < nx ∧ G 2 = some ⟨[.agg [v2, .int .i64 0, .int .i64 0, .int .i64 0]], 4⟩ ∧ G 26 = some ⟨[.agg [ints y, .int .i64 st2, .int .i64 acc, .int .i64 (t1 + 1)]], 4⟩) (fun h5 => ?_) (fun h5 => ?_) ?_
     ·have h5 : st1 = 5 := by simpa using h5
      rw [if_pos h5] at hst2
      refine sgo ?_
      exact ⟨r5, by rw [hst2]⟩
     ·have h5 : ¬ st1 = 5 := by simpa using h5
      rw [if_neg h5] at hst2
      refine sgo ?_
      exact ⟨r5, by rw [hst2]⟩
     ·rintro env G2 nx2 ⟨f3, f4, f6, f10, f11, f12, fn, g2, g26⟩
      have hsl : (stepL g y r).length = g.n := by simp [stepL]
      have hyl := q1.len
      have cA := solveC_ret (stepL g y r) (by omega)
      have hzl := plusL_len y (stepL g y r)
      by_cases hA : ((stepL g y r).any fun a => !decide (a = 0)) = true
      ·rw [hA, if_neg (by simp)] at r7
       rw [hA] at cA
       have cM := moved_ret y (stepL g y r) q1.state (stepL_bd g y r) (by omega) (by omega) (by omega)
       have cS := cstate_ret (plusL y (stepL g y r)) (by omega)
       by_cases hZ : stateB (plusL y (stepL g y r)) = true
       ·rw [hZ, if_neg (by simp)] at r7
        rw [hZ] at cS
        have hzo := q1.to (stateB_iff.1 hZ) hzl
        have cL := less_ret' g (plusL y (stepL g y r)) y hzo q1
        by_cases hlt : valC g (plusL y (stepL g y r)) < valC g y
        ·rw [if_pos hlt] at r7
         rw [← r7] at q9
         dsimp only at q9
         rw [decide_eq_true hlt] at cL
         have e2 : IntKind.i64.wrap (acc + 1) = acc + 1 := IntWalk.i64_in _ (by omega)
         simp -dsimp -implicitDefEqProofs (disch := try exact zdE) only [go_sem, f3, f4, f6, f10, f11, f12, g2, g26]
         first | refine zab (cA) (by simp) ?_ | refine zaa (cA) (by simp) ?_
         simp -dsimp -implicitDefEqProofs (disch := try exact zdE) only [go_sem, f3, f4, f6, f10, f11, f12, g2, g26]
         first | refine zab (cM) (by simp) ?_ | refine zaa (cM) (by simp) ?_
         simp -dsimp -implicitDefEqProofs (disch := try exact zdE) only [go_sem, f3, f4, f6, f10, f11, f12, g2, g26]
         first | refine zab (cS) (by simp) ?_ | refine zaa (cS) (by simp) ?_
         simp -dsimp -implicitDefEqProofs (disch := try exact zdE) only [go_sem, f3, f4, f6, f10, f11, f12, g2, g26]
         first | refine zab (cL) (by simp) ?_ | refine zaa (cL) (by simp) ?_
         simp -dsimp -implicitDefEqProofs (disch := try exact zdE) only [go_sem, f3, f4, f6, f10, f11, f12, g2, g26, e2]
         exact ⟨(plusL y (stepL g y r), k', acc + 1, t1 + 1, G2.upd 26 (some ⟨[.agg [ints (plusL y (stepL g y r)), .int .i64 st2, .int .i64 (acc + 1), .int .i64 (t1 + 1)]], 4⟩), nx2 + 26), rfl, ⟨st2, hzo, zdo, zdo, zdo, zdo, zdo, ⟨v2, by dsimp only; rw [Hp.upd_ne _ _ (by omega)]; exact g2, q7'⟩, by dsimp only; unfold ResV; exact Hp.upd_same _ _ _, q9⟩, zdo⟩
        ·rw [if_neg hlt] at r7
         rw [decide_eq_false hlt] at cL
         simp -dsimp -implicitDefEqProofs (disch := try exact zdE) only [go_sem, f3, f4, f6, f10, f11, f12, g2, g26]
         first | refine zab (cA) (by simp) ?_ | refine zaa (cA) (by simp) ?_
         simp -dsimp -implicitDefEqProofs (disch := try exact zdE) only [go_sem, f3, f4, f6, f10, f11, f12, g2, g26]
         first | refine zab (cM) (by simp) ?_ | refine zaa (cM) (by simp) ?_
         simp -dsimp -implicitDefEqProofs (disch := try exact zdE) only [go_sem, f3, f4, f6, f10, f11, f12, g2, g26]
         first | refine zab (cS) (by simp) ?_ | refine zaa (cS) (by simp) ?_
         simp -dsimp -implicitDefEqProofs (disch := try exact zdE) only [go_sem, f3, f4, f6, f10, f11, f12, g2, g26]
         first | refine zab (cL) (by simp) ?_ | refine zaa (cL) (by simp) ?_
         simp -dsimp -implicitDefEqProofs (disch := try exact zdE) only [go_sem, f3, f4, f6, f10, f11, f12, g2, g26]
         exact ⟨(r + 1, st2, t1 + 1, G2, nx2 + 21), rfl, ⟨zdo, zdo, zdo, zdo, g2, g26, by dsimp only; rw [hm1]; exact r7⟩, zdo⟩
       ·have hZ : stateB (plusL y (stepL g y r)) = false := by simpa using hZ
        rw [hZ, if_pos rfl] at r7
        rw [hZ] at cS
        simp -dsimp -implicitDefEqProofs (disch := try exact zdE) only [go_sem, f3, f4, f6, f10, f11, f12, g2, g26]
        first | refine zab (cA) (by simp) ?_ | refine zaa (cA) (by simp) ?_
        simp -dsimp -implicitDefEqProofs (disch := try exact zdE) only [go_sem, f3, f4, f6, f10, f11, f12, g2, g26]
        first | refine zab (cM) (by simp) ?_ | refine zaa (cM) (by simp) ?_
        simp -dsimp -implicitDefEqProofs (disch := try exact zdE) only [go_sem, f3, f4, f6, f10, f11, f12, g2, g26]
        first | refine zab (cS) (by simp) ?_ | refine zaa (cS) (by simp) ?_
        simp -dsimp -implicitDefEqProofs (disch := try exact zdE) only [go_sem, f3, f4, f6, f10, f11, f12, g2, g26]
        exact ⟨(r + 1, 4, t1 + 1, G2.upd 26 (some ⟨[.agg [ints y, .int .i64 4, .int .i64 acc, .int .i64 (t1 + 1)]], 4⟩), nx2 + 17), rfl, ⟨zdo, zdo, zdo, zdo, by dsimp only; rw [Hp.upd_ne _ _ (by omega)]; exact g2, by dsimp only; unfold ResV; exact Hp.upd_same _ _ _, by dsimp only; rw [hm1]; exact r7⟩, zdo⟩
      ·have hA : ((stepL g y r).any fun a => !decide (a = 0)) = false := by simpa using hA
       rw [hA, if_pos rfl] at r7
       rw [← r7] at q9
       dsimp only at q9
       rw [hA] at cA
       simp -dsimp -implicitDefEqProofs (disch := try exact zdE) only [go_sem, f3, f4, f6, f10, f11, f12, g2, g26]
       first | refine zab (cA) (by simp) ?_ | refine zaa (cA) (by simp) ?_
       simp -dsimp -implicitDefEqProofs (disch := try exact zdE) only [go_sem, f3, f4, f6, f10, f11, f12, g2, g26]
       rw [← q9]
       rfl
    ·have hS' : stepB g y r = false := by simpa using hS
     rw [hS', if_pos rfl] at r7
     rw [if_neg hS] at hst
     simp -dsimp -implicitDefEqProofs (disch := try exact zdE) only [go_sem, r5, r6, hr']
     first | refine zab (hst) (by simp) ?_ | refine zaa (hst) (by simp) ?_
     simp -dsimp -implicitDefEqProofs (disch := try exact zdE) only [go_sem, r5, r6]
     exact ⟨(r + 1, st1, t1, H1, _), rfl, ⟨zdo, zdo, zdo, zdo, r5, r6, by dsimp only; rw [hm1]; exact r7⟩, zdo⟩
   ·have hr' : ¬ (r : Int) ≤ c.raises := by omega
    have hm : R + 1 - r = 0 := by omega
    rw [hm, rndF] at r7
    rw [← r7] at q9
    dsimp only at q9
    simp -dsimp -implicitDefEqProofs (disch := try exact zdE) only [go_sem, r5, r6, hr']
    rw [← q9]
    rfl
end Go.Gim
