import Derived.Test.YtjkjpjneeioeiaaGreatRD1
import Derived.Test.YtjkjpjneeioeiaaGreatSB
import Derived.Test.YtjkjpjneeioeiaaGreatHB
import Derived.Test.YtjkjpjneeioeiaaGreatSM
import Derived.Test.YtjkjpjneeioeiaaGreatGRC
import Derived.Test.YtjkjpjneeioeiaaGreatFA3
import Derived.Test.YtjkjpjneeioeiaaGreatCF
set_option linter.unusedSimpArgs false
set_option linter.unusedVariables false
/- The reference reads a told number back. -/
set_option maxRecDepth 100000
set_option maxHeartbeats 4000000
namespace Go.Gim
open Go.Proofs
theorem u8_nat {x : Nat} (h : x < 256) : (UInt8.ofNat x).toNat = x := by rw [UInt8.toNat_ofNat']; omega
theorem idxS_bst {l : List Nat} {i : Nat} (h : ∀ x ∈ l, x < 256) (hi : i < l.length) : redV .idxS [.str (bst l), .int .i64 (i : Int)] = some (.int .u8 (l.getD i 0)) := by
 have e : l.getD i 0 = l[i] := by simp [List.getD_eq_getElem?_getD, hi]
 have hx := h l[i] (List.getElem_mem hi)
 simp only [redV, bst, List.toList_toArray, Int.toNat_natCast]
 rw [if_pos (by omega), List.getElem?_map, List.getElem?_eq_getElem hi, e]
 simp only [Option.map_some, u8_nat hx]
theorem toList_loop (b : ByteArray) : ∀ (n i : Nat) (r : List UInt8), b.size - i = n → ByteArray.toList.loop b i r = r.reverse ++ b.data.toList.drop i
 | 0, i, r, h => by
  rw [ByteArray.toList.loop]
  have hs : b.size = b.data.toList.length := by simp
  rw [if_neg (by omega), List.drop_eq_nil_of_le (by omega), List.append_nil]
 | n + 1, i, r, h => by
  rw [ByteArray.toList.loop]
  have hs : b.size = b.data.toList.length := by simp
  rw [if_pos (by omega), toList_loop b n (i + 1) _ (by omega), List.drop_eq_getElem_cons (show i < b.data.toList.length by omega), List.reverse_cons, List.append_assoc]
  congr 1
  simp only [List.singleton_append]
  congr 1
  have hi : i < b.data.size := by simpa using (show i < b.data.toList.length by omega)
  show b.get! i = _
  simp only [ByteArray.get!]
  rw [getElem!_pos b.data i hi]; simp
theorem toList_data (b : ByteArray) : b.toList = b.data.toList := by
 have := toList_loop b _ 0 [] rfl
 simpa [ByteArray.toList] using this
theorem bst_list (l : List Nat) : (bst l).toList = l.map UInt8.ofNat := by rw [toList_data]; rfl
theorem bst_ne {a b : List Nat} (ha : ∀ x ∈ a, x < 256) (hb : ∀ x ∈ b, x < 256) (h : a ≠ b) : strV .eql (bst a) (bst b) = some (.bool false) := by
 unfold strV
 simp only [bst_list, Option.some.injEq, V.bool.injEq, decide_eq_false_iff_not]
 intro e
 refine h ?_
 have k : ∀ l : List Nat, (∀ x ∈ l, x < 256) → (l.map UInt8.ofNat).map UInt8.toNat = l := fun l hl => by
  rw [List.map_map]
  refine (List.map_congr_left fun x hx => ?_).trans (List.map_id l)
  exact u8_nat (hl x hx)
 rw [← k a ha, ← k b hb, e]
theorem digs_top {n : Nat} (h : n ≠ 0) : (digs 10 n).getD ((digs 10 n).length - 1) 0 ≠ 0 := by
 intro e
 have hl : 0 < (digs 10 n).length := List.length_pos_iff.2 fun h' => h ((zgt d2).1 h')
 have h1 : val 10 ((digs 10 n).take ((digs 10 n).length - 1)) = val 10 (digs 10 n) := val_take fun i hi hi' => by
  have : i = (digs 10 n).length - 1 := by omega
  subst this
  rw [List.getD_eq_getElem?_getD, List.getElem?_eq_getElem hi'] at e
  exact e
 have h2 := zgu d2 (l := (digs 10 n).take ((digs 10 n).length - 1)) fun x hx => zbp d2 n x (List.mem_of_mem_take hx)
 have h3 := digs_ge d2 h
 rw [h1, zau d2, List.length_take, Nat.min_eq_left (by omega)] at h2
 omega
theorem decL_at {d : List Nat} {i : Nat} (h : i < d.length) : ((d.map (48 + ·)).reverse).getD i 0 = 48 + d.getD (d.length - 1 - i) 0 := by
 simp [List.getD_eq_getElem?_getD, List.getElem?_reverse, h, show d.length - 1 - i < d.length by omega]
theorem rparse_ret (v : Int) (hv : 0 ≤ v) (hd : dlim v ≤ 2000) : Ret pg zf3 [.str (decS v)] (.tup [DV v, .int .i64 0]) := by
 refine gimbalref01_Parse.of rfl (W_b ?_)
 unfold gimbalref01_Parse.k gimbalref01_Parse.res Ot kp Og Oh Oy Om Oc ci
 rw [decS_bst]
 have hlen := decL_len v
 by_cases h0 : v = 0
 ·subst h0
  have e : decL 0 = [48] := rfl
  have s1 : strV .eql (bst [48]) ⟨#[48]⟩ = some (.bool true) := bst_eq (a := [48]) (b := [48]) rfl
  have s2 : (bst [48]).size = 1 := rfl
  rw [e]
  simp -dsimp -implicitDefEqProofs (disch := try exact zdE) only [go_sem, s1, s2]
  rw [zi2]
 ·have hn : v.natAbs ≠ 0 := by omega
  have hneg : ¬ v < 0 := by omega
  have hT : decL v = ((digs 10 v.natAbs).map (48 + ·)).reverse := by unfold decL; rw [if_neg h0, if_neg hneg]; rfl
  have hdl := zbp d2 v.natAbs
  have htop := digs_top hn
  have hval := zau d2 v.natAbs
  have hl0 : 0 < (digs 10 v.natAbs).length := List.length_pos_iff.2 fun h' => hn ((zgt d2).1 h')
  have hd' : (digs 10 v.natAbs).length ≤ 2000 := hd
  rw [hT]
  generalize digs 10 v.natAbs = d at *
  have hTl : ((d.map (48 + ·)).reverse).length = d.length := by simp
  have hTb : ∀ x ∈ (d.map (48 + ·)).reverse, x < 256 := fun x hx => by
   rw [List.mem_reverse] at hx
   obtain ⟨y, hy, rfl⟩ := List.mem_map.1 hx
   have := hdl y hy; omega
  have hTa := fun i (h : i < d.length) => decL_at (d := d) h
  generalize hTT : (d.map (48 + ·)).reverse = T at *
  have hix := fun i (h : i < d.length) => idxS_bst (l := T) (i := i) hTb (by omega)
  have hsz := bst_size T
  have hx0 : redV .idxS [.str (bst T), .int .i64 0] = some (.int .u8 (T.getD 0 0)) := hix 0 hl0
  have t0 := hTa 0 hl0
  rw [Nat.sub_zero] at t0
  have ht10 := hdl _ (zao 0 (show d.length - 1 < d.length by omega))
  have s1 : strV .eql (bst T) ⟨#[48]⟩ = some (.bool false) := bst_ne (b := [48]) hTb (by simp) fun e => by
   rw [e] at t0
   have : ([48] : List Nat).getD 0 0 = 48 := rfl
   omega
  rw [t0] at hx0
  generalize d.getD (d.length - 1) 0 = top at *
  have q1 : (((48 + top : Nat) : Int) = 45) = False := by simp; omega
  have q2 : (((48 + top : Nat) : Int) = 48) = False := by simp; omega
  simp -dsimp -implicitDefEqProofs (disch := try exact zdE) only [go_sem, s1, hsz, hTl, hx0, q1, q2]
  refine zap (T := Nat × V × Hp × Nat) (fun t => ⟨E [(0, .str (bst T)), (2, .ptr 0 1 0 0), (4, .int .i64 0), (5, .bool false), (6, t.2.1), (7, .int .i64 ((d.length : Int) - 1 - t.1))], t.2.2.1, t.2.2.2, t.2.2.2⟩)
   (fun t => t.1 ≤ d.length ∧ 0 < t.2.2.2 ∧ t.2.2.1 0 = some ⟨[.agg [.bool false, .nil]], 2⟩ ∧ Row 1 t.2.2.1 t.2.2.2 t.2.1 1 (nats .i64 (d.take t.1))) (fun t => d.length - t.1) (0, .nil, _, _) (by dsimp only; rw [show ((d.length - 1 : Nat) : Int) = (d.length : Int) - 1 - ((0 : Nat) : Int) by omega]) ⟨zdo, zdo, rfl, Row.nil _ _ _ _⟩ ?_
  rintro ⟨k, w, H, nx⟩ ⟨k1, k2, k3, k4⟩
  dsimp only at k1 k2 k3 k4
  by_cases hk : k < d.length
  ·have e1 : (d.length : Int) - 1 - (k : Int) = ((d.length - 1 - k : Nat) : Int) := by omega
   have hxk := hix (d.length - 1 - k) (by omega)
   rw [hTa _ (by omega), show d.length - 1 - (d.length - 1 - k) = k by omega] at hxk
   have hx10 := hdl _ (zao 0 hk)
   have ht := zbl (l := d) (i := k) 0 hk
   generalize d.getD k 0 = x at *
   have q3 : decide (((48 + x : Nat) : Int) < 48) = false := decide_eq_false (by omega)
   have q4 : decide ((57 : Int) < ((48 + x : Nat) : Int)) = false := decide_eq_false (by omega)
   have q5 : IntKind.u8.wrap (((48 + x : Nat) : Int) - 48) = (x : Int) := by rw [show ((48 + x : Nat) : Int) - 48 = (x : Int) by omega, wu8]; omega
   have q6 : IntKind.i64.wrap (x : Int) = (x : Int) := w64 (by omega)
   rw [e1]
   simp -dsimp -implicitDefEqProofs (disch := try exact zdE) only [go_sem, hxk, q3, q4, q5, q6]
   refine zaz (lo := 1) (nx := nx) (H0 := H) (xs := nats .i64 (d.take k)) k4 (by omega) rfl (by omega) (by omega) (by simp [rowOk, V.cells, V.cellOk, V.isJunk]) (by decide) (by simp [nats]; omega) (by simp [nats]; omega) fun v2 H2 r1 _ _ r4 => ?_
   have hna : nats .i64 (d.take k) ++ [.int .i64 (x : Int)] = nats .i64 (d.take (k + 1)) := by rw [ht]; simp [nats]
   rw [hna] at r1
   refine sgo ?_
   exact ⟨(k + 1, v2, H2, _), by dsimp only; rw [show (((d.length - 1 - k : Nat) : Int) - 1) = ((d.length - 1 : Nat) : Int) - ((k + 1 : Nat) : Int) by omega], ⟨zdo, zdo, (r4 0 (by omega)).trans k3, r1.same (fun _ _ => rfl) zdo⟩, zdo⟩
  ·have hke : d.length = k := by omega
   subst hke
   rw [List.take_length] at k4
   have e1 : (d.length : Int) - 1 - (d.length : Int) = -1 := by omega
   obtain ⟨c, rfl, c1, c2, c3⟩ := k4.own_of (by rw [zae]; exact hl0)
   have hmd := r_made false d hdl (by omega)
   have hsg : sg false (val 10 d) = v := by rw [hval]; simp [sg]; omega
   rw [hsg] at hmd
   rw [e1]
   refine sgo ?_
   refine zbo (fz1 c (nats .i64 d)) (zd8 c3 (zbr fun x => by simp)) (by simp -dsimp -implicitDefEqProofs (disch := try exact zdE) only [go_sem]) hmd (by simp) ?_
   have h0c : (0 = c) = False := by simp; omega
   have p0 : Hp.sub (fz1 c (nats .i64 d)) H 0 = some ⟨[.agg [.bool false, .nil]], 2⟩ := sub_at (fz1_ne (by omega)) k3 (by simp -dsimp -implicitDefEqProofs (disch := try exact zdE) only [go_sem] <;> rfl)
   simp -dsimp -implicitDefEqProofs (disch := try exact zdE) only [go_sem, p0, h0c]
end Go.Gim
/- The references' cost that forgives; what a row costs there. -/
set_option maxRecDepth 100000
set_option maxHeartbeats 4000000
namespace Go.Gim
open Go.Proofs
attribute [local go_sem] IntWalk.i64_in wu64 wu32 wu8 Nat.mod_eq_of_lt shr32 shr63 shl32 or32 quo64 quo32 zfk remk zct zcs zd1 zd0 zb5 Nat.add_assoc za7 lt_ne gt_ne zdu dlt_t dlt_f dle_t dle_f deq_t deq_f zby zec zfd zbf zbk zbc zba zcu zcw zcx zdl zae List.length_set ge_iff_le gt_iff_lt Int.toNat_natCast zcf zdm zcj zdp zdn zcr zb2 zfj zb3 zb4 zdt
theorem w64' (n : Int) : IntKind.i64.wrap n = (n + 9223372036854775808) % 18446744073709551616 - 9223372036854775808 := by rw [IntWalk.i64_left]; unfold RowKit.wrap64; rfl
theorem rcut_ret (r k : Int) : Ret pg zfg [.int .i64 r, .int .i64 k] (.tup [.int .i64 (sizeR r), .bool (decide (r < 0)), .int .i64 (zbz k)]) := by
 refine gimbalref09_cut.of rfl (W_b ?_)
 unfold gimbalref09_cut.k gimbalref09_cut.res Ot kp Om Oc ci sizeR zeo zbz
 simp -dsimp -implicitDefEqProofs only [go_sem]
 repeat' (first | (refine gsel_split (fun h' => ?_) (fun h' => ?_) <;> simp -dsimp -implicitDefEqProofs only [go_sem, h']) | (refine csel_dec (fun h' => ?_) (fun h' => ?_) <;> simp -dsimp -implicitDefEqProofs only [go_sem, h']))
 all_goals
  simp only [w64', Option.some.injEq, V.tup.injEq, List.cons.injEq, V.int.injEq, V.bool.injEq, true_and, and_true, decide_eq_true_eq, decide_eq_false_iff_not, Bool.true_eq, Bool.false_eq]
  omega
theorem rslope_ret (r k : Int) : Ret pg zf2 [.int .i64 r, .int .i64 k] (.int .i64 (zhw r k)) := by
 have h1 := clampR_bd r
 have h2 := clampK_bd k
 have h3 := sizeR_bd r
 refine gimbalref09_Slope.of rfl (W_b ?_)
 unfold gimbalref09_Slope.k gimbalref09_Slope.res Ot kp Om Oc
 simp -dsimp -implicitDefEqProofs only [go_sem]
 refine zaa (rcut_ret _ _) (by simp) ?_
 simp -dsimp -implicitDefEqProofs only [go_sem]
 have e : (r < 0 ∧ zeo r = -sizeR r) ∨ (¬ r < 0 ∧ zeo r = sizeR r) := by unfold sizeR zeo; omega
 have w1 := w64 (n := 0 - sizeR r) (by omega)
 have w2 := w64 (n := 0 - zbz k) (by omega)
 unfold zhw
 by_cases h : sizeR r ≤ zbz k
 ·rcases e with ⟨h4, h5⟩ | ⟨h4, h5⟩
  ·simp -dsimp -implicitDefEqProofs only [go_sem, show ¬ zbz k < sizeR r by omega, h4, h, w1, h5]
   simp
  ·simp -dsimp -implicitDefEqProofs only [go_sem, show ¬ zbz k < sizeR r by omega, h4, h, w1, h5]
 ·rcases e with ⟨h4, h5⟩ | ⟨h4, h5⟩
  ·simp -dsimp -implicitDefEqProofs only [go_sem, show zbz k < sizeR r by omega, h4, h, w2]
   congr 2; omega
  ·simp -dsimp -implicitDefEqProofs only [go_sem, show zbz k < sizeR r by omega, h4, h, w2]
   congr 2; omega
theorem dl (x : Int) (h : -9223372036854775808 ≤ x ∧ x ≤ 9223372036854775807) : dlim x ≤ 20 := zbx h
theorem rrho_ret (r k : Int) : Ret pg zg3 [.int .i64 r, .int .i64 k] (.str (decS (hRho r k))) := by
 have h1 := clampR_bd r
 have h2 := clampK_bd k
 have h3 := sizeR_bd r
 have o1 := r_of (sizeR r) (by omega)
 have o2 := r_of (zbz k) (by omega)
 have e : zeo r * zeo r = sizeR r * sizeR r := by
  have : zeo r = sizeR r ∨ zeo r = -sizeR r := by unfold sizeR; omega
  rcases this with h | h <;> rw [h]
  rw [Int.neg_mul_neg]
 have d1 := dl (sizeR r) (by omega)
 have d2 := dl (zbz k) (by omega)
 have m1 := zgs (sizeR r) (sizeR r)
 have m2 := zgs (zbz k) (sizeR r)
 have m3 := zgs (zbz k) (zbz k)
 have a1 := dlim_add (zbz k * sizeR r) (zbz k * sizeR r)
 have a2 := dlim_sub (zbz k * sizeR r + zbz k * sizeR r) (zbz k * zbz k)
 refine gimbalref09_Rho.of rfl (W_b ?_)
 unfold gimbalref09_Rho.k gimbalref09_Rho.res Ot kp kd Oy Om OL
 refine sgd ?_
 refine zaa (rcut_ret _ _) (by simp) ?_
 refine sgd ?_
 refine zaa o1 (by simp) ?_
 unfold hRho
 by_cases h : sizeR r ≤ zbz k
 ·simp -dsimp -implicitDefEqProofs (disch := try exact zdL) only [go_sem, zaj, zai, zaf, zax, zaq, zac, h]
  refine zaa (r_mul _ _ (by omega) (by omega)) (by simp) ?_
  refine sgd ?_
  refine zaa (r_string _ (by omega)) (by simp) ?_
  simp -dsimp -implicitDefEqProofs (disch := try exact zdL) only [go_sem, zaj, zai, zaf, zax, zaq, zac, h, e]
 ·simp -dsimp -implicitDefEqProofs (disch := try exact zdL) only [go_sem, zaj, zai, zaf, zax, zaq, zac, h]
  refine zaa o2 (by simp) ?_
  refine sgd ?_
  refine zab (r_mul _ _ (by omega) (by omega)) (by simp) ?_
  refine sgd ?_
  refine zab (r_mul _ _ (by omega) (by omega)) (by simp) ?_
  refine sgd ?_
  refine zab (r_add _ _ (by omega) (by omega)) (by simp) ?_
  refine sgd ?_
  refine zab (r_mul _ _ (by omega) (by omega)) (by simp) ?_
  refine sgd ?_
  refine zab (r_sub _ _ (by omega) (by omega)) (by simp) ?_
  refine sgd ?_
  refine zab (r_string _ (by omega)) (by simp) ?_
  have e2 : zbz k * sizeR r + zbz k * sizeR r = 2 * zbz k * sizeR r := by rw [← Int.two_mul, Int.mul_assoc]
  simp -dsimp -implicitDefEqProofs (disch := try exact zdL) only [go_sem, zaj, zai, zaf, zax, zaq, zac, h, e2]
theorem dl64 {x : Int} (h : In64 x) : dlim x ≤ 20 := zbx h
theorem hRho_in {r k : Int} (hr : -1000000000 ≤ r ∧ r ≤ 1000000000) (hk : 1 ≤ k ∧ k ≤ 32768) : In64 (hRho r k) := by
 have h1 := hRho_lo r k
 have h2 := hRho_hi hr hk
 exact ⟨by omega, by omega⟩
theorem rcost_ret (r : Row4) (x : List Int) (hr : Right4 r x.length) (hx : State x) : Ret pg zgp [RV r, ints x] (DV (costR r x)) := by
 have hi := hRho_in (residR_bd r x) hr.kn
 have h0 := hRho_lo (zca r x) r.kn
 have d1 := dl64 hi
 have hw := hr.w
 have d2 := dl64 (x := r.w) ⟨by omega, by omega⟩
 refine gimbalref16_Cost.of rfl (W_b ?_)
 unfold gimbalref16_Cost.k gimbalref16_Cost.res Ot kp kd Oy Om Ol OL Oq
 simp -dsimp -implicitDefEqProofs (disch := try exact zdE) only [go_sem, ← zi2]
 first | refine zaa (zi6 r x hr hx) (by simp) ?_ | refine zab (zi6 r x hr hx) (by simp) ?_
 refine sgo ?_
 first | refine zaa (rrho_ret (zca r x) r.kn) (by simp) ?_ | refine zab (rrho_ret (zca r x) r.kn) (by simp) ?_
 refine sgo ?_
 first | refine zaa (rparse_ret _ h0 (by omega)) (by simp) ?_ | refine zab (rparse_ret _ h0 (by omega)) (by simp) ?_
 refine sgo ?_
 first | refine zaa (r_of r.w (by omega)) (by simp) ?_ | refine zab (r_of r.w (by omega)) (by simp) ?_
 refine sgo ?_
 first | refine zaa (r_mul _ _ (by omega) (by omega)) (by simp) ?_ | refine zab (r_mul _ _ (by omega) (by omega)) (by simp) ?_
 have e : hRho (zca r x) r.kn * r.w = costR r x := Int.mul_comm _ _
 simp -dsimp -implicitDefEqProofs (disch := try exact zdE) only [go_sem, e]
theorem rsteep_ret (r : Row4) (x : List Int) (hr : Right4 r x.length) (hx : State x) : Ret pg zfz [RV r, ints x] (ints (zch r x)) := by
 have hb := slopeR_bd (x := x) hr
 have hl := hr.len
 have hn := hr.le
 have hw := hr.w
 have hs := hSlope_bd (r := zca r x) hr.kn
 have hsl : (zch r x).length = x.length := by simp [zch, hl]
 refine gimbalref16_Steep.of rfl (W_b ?_)
 unfold gimbalref16_Steep.k gimbalref16_Steep.res Ot kp kd Om Ol OL Oq Oi Oc On ci
 refine sgo ?_
 refine zel (T := Nat × V × Hp × Nat) (fun t => ⟨E [(1, ints x), (2, .pp (RV r)), (5, t.2.1), (6, .int .i64 t.1)], t.2.2.1, t.2.2.2, t.2.2.2⟩)
  (fun t => t.1 ≤ x.length ∧ Row 0 t.2.2.1 t.2.2.2 t.2.1 1 (((zch r x).take t.1).map (V.int .i64))) (fun t => x.length - t.1) (0, .nil, _, _) (Ghost.refl _) ⟨zdo, Row.nil _ _ _ _⟩ ?_
 rintro ⟨i, w, H, nx⟩ ⟨i1, i2⟩
 dsimp only at i1 i2
 obtain ⟨w1, w2, w3, w4⟩ := i2.flat
 by_cases hi : i < x.length
 ·have hm := hr.get i
  have ht := zbl (l := zch r x) (i := i) 0 (by omega)
  have e : (zch r x).getD i 0 = r.w * r.co.getD i 0 * zhw (zca r x) r.kn := by
   simp only [zch, zij]
   rw [show (r.co.map fun a => a * (r.w * zhw (zca r x) r.kn)).getD i 0 = r.co.getD i 0 * (r.w * zhw (zca r x) r.kn) by simp [List.getD_eq_getElem?_getD, show i < r.co.length by omega]]
   grind
  rw [e] at ht
  have h1 := zfl (a := r.w) (b := r.co.getD i 0) (A := 100) (B := 1000) (by omega) (by omega)
  have h2 := zfl (a := r.w * r.co.getD i 0) (b := zhw (zca r x) r.kn) (A := 100000) (B := 32768) (by omega) (by omega)
  have e1 := w64 (show -9223372036854775808 ≤ r.w * r.co.getD i 0 ∧ r.w * r.co.getD i 0 ≤ 9223372036854775807 by omega)
  have e2 := w64 (show -9223372036854775808 ≤ r.w * r.co.getD i 0 * zhw (zca r x) r.kn ∧ r.w * r.co.getD i 0 * zhw (zca r x) r.kn ≤ 9223372036854775807 by omega)
  simp -dsimp -implicitDefEqProofs (disch := try exact zdE) only [go_sem, w1, w2, w3, w4, e1]
  first | refine zaa (zi6 r x hr hx) (by simp) ?_ | refine zab (zi6 r x hr hx) (by simp) ?_
  refine sgo ?_
  first | refine zaa (rslope_ret (zca r x) r.kn) (by simp) ?_ | refine zab (rslope_ret (zca r x) r.kn) (by simp) ?_
  simp -dsimp -implicitDefEqProofs (disch := try exact zdE) only [go_sem, e2]
  refine zaz (lo := 0) (nx := nx) (H0 := H) (xs := ((zch r x).take i).map (V.int .i64)) i2 (by omega) rfl (by omega) (by omega) (by simp [rowOk, V.cells, V.cellOk, V.isJunk]) (by decide) (by simp; omega) (by simp; omega) fun v2 H2 r1 _ _ r4 => ?_
  rw [zdf (V.int .i64), ← ht] at r1
  refine sgo ?_
  exact ⟨(i + 1, v2, H2, _), Ghost.refl _, ⟨zdo, r1.same (fun _ _ => rfl) zdo⟩, zdo⟩
 ·have hie : x.length = i := by omega
  subst hie
  rw [List.take_of_length_le (by omega)] at i2
  refine sgo ?_
  rw [i2.frz (zc5 fun x => rfl)]
  rfl
end Go.Gim
/- The references' costs of graphs. -/
set_option maxRecDepth 100000
set_option maxHeartbeats 4000000
namespace Go.Gim
open Go.Proofs
theorem numbers_ret (x : List Int) (hl : x.length ≤ 1000000) (h : ∀ v ∈ x, In64 v) : Ret pg zdx [ints x] (dvl x) := by
 refine gimbalref18_Numbers.of rfl (W_b ?_)
 unfold gimbalref18_Numbers.k gimbalref18_Numbers.res Ot kp Om Ol Oi Oc On ci
 refine sgo ?_
 refine zap (T := Nat × V × Hp × Nat) (fun t => ⟨E [(0, ints x), (3, t.2.1), (4, .int .i64 t.1)], t.2.2.1, t.2.2.2, t.2.2.2⟩)
  (fun t => t.1 ≤ x.length ∧ Row 0 t.2.2.1 t.2.2.2 t.2.1 2 ((x.take t.1).map DV)) (fun t => x.length - t.1) (0, .nil, _, _) rfl ⟨zdo, Row.nil _ _ _ _⟩ ?_
 rintro ⟨i, w, H, nx⟩ ⟨i1, i2⟩
 dsimp only at i1 i2
 by_cases hi : i < x.length
 ·have hm := h _ (zao 0 hi)
  have ht := zbl (l := x) (i := i) 0 hi
  generalize hZ : x.getD i 0 = z at *
  simp -dsimp -implicitDefEqProofs (disch := try exact zdE) only [go_sem, hZ]
  first | refine zaa (r_of z hm) (by simp) ?_ | refine zab (r_of z hm) (by simp) ?_
  refine sgo ?_
  refine zaz (lo := 0) (nx := nx) (H0 := H) (xs := (x.take i).map DV) i2 (by omega) rfl (by omega) (by omega) (by simp [rowOk, V.cells, V.cellOk, DV]) (by decide) (by simp; omega) (by simp; omega) fun v2 H2 r1 _ _ r4 => ?_
  rw [zdf, ← ht] at r1
  refine sgo ?_
  exact ⟨(i + 1, v2, H2, _), rfl, ⟨zdo, r1.same (fun _ _ => rfl) zdo⟩, zdo⟩
 ·have hie : x.length = i := by omega
  subst hie
  rw [List.take_length] at i2
  refine sgo ?_
  rw [i2.frz (zc5 fun x => rfl)]
  rfl
theorem dl_of {x : Int} {L : Nat} (h : lim x ≤ L) : dlim x ≤ 10 * L := by have := zdi x; omega
theorem costs_in {g : Gr} {x : List Int} (hr : ∀ r ∈ g.rows, Right4 r x.length) : ∀ v ∈ costs g x, In64 v := fun v hv => by
 obtain ⟨r, hr', rfl⟩ := List.mem_map.1 hv
 have := costR_bd (x := x) (hr r hr')
 exact ⟨by omega, by omega⟩
theorem rvalue18_ret (g : Gr) (x : List Int) (h : GOkay g x) (h1 : 1 ≤ g.n) : Ret pg zei [DGV g, ints x] (DV (valC g x)) := by
 obtain ⟨hn, h11, h60, hr, hx, hsq, hq, sP, sQ, sc, sd⟩ := h
 have hcb := costs_in hr
 have hcl : (costs g x).length = g.rows.length := by simp [costs]
 have e1 := numbers_ret x (by omega) hx.in64
 have e2 := rvalue_ret g.P g.Q x g.c g.n (by omega) h1 hsq hq hn (fun i j => by have := dl_of (sP i j); omega) (fun i => by have := dl_of (sQ i); omega) (by have := dl_of sc; omega) (fun i => by have := dl_of (hx.lim i); omega)
 have l3 := qval_lim hsq hq h11 sP sQ sc hx
 refine gimbalref18_Value.of rfl (W_b ?_)
 unfold gimbalref18_Value.k gimbalref18_Value.res Ot kp kd Oy Om Ol OL Oq Oi Oc On ci
 simp -dsimp -implicitDefEqProofs (disch := try exact zdE) only [go_sem, ← zi2]
 first | refine zaa (e1) (by simp) ?_ | refine zab (e1) (by simp) ?_
 refine sgo ?_
 first | refine zaa (e2) (by simp) ?_ | refine zab (e2) (by simp) ?_
 simp -dsimp -implicitDefEqProofs (disch := try exact zdE) only [go_sem, ← zi2]
 refine zel (T := Nat × Nat) (fun t => ⟨E [(1, ints x), (2, .pp (DGV g)), (4, .ptr 1 1 0 0), (5, .ptr 7 1 0 0), (6, .int .i64 t.1)], (Hp.upd (fun _ => none) 1 (some ⟨[DV 0], 2⟩)).upd 7 (some ⟨[DV (qval g.P g.Q g.c x + sumL ((costs g x).take t.1) * g.den)], 2⟩), t.2, t.2⟩) (fun t => t.1 ≤ g.rows.length ∧ 7 < t.2) (fun t => g.rows.length - t.1) (0, 10) (by
  rw [show qval g.P g.Q g.c x + sumL ((costs g x).take 0) * g.den = qval g.P g.Q g.c x by rw [List.take_zero]; simp [sumL]]
  exact Ghost.refl _) ⟨zdo, zdo⟩ ?_
 rintro ⟨i, nx⟩ ⟨i1, i2⟩
 dsimp only at i1 i2
 by_cases hi : i < g.rows.length
 ·have hri := hr _ (zao default hi)
  have hv := getD_in hcb i
  have hgc : (costs g x).getD i 0 = costR (g.rows.getD i default) x := by simp [costs, List.getD_eq_getElem?_getD, hi]
  have ht := sumL_take (l := costs g x) (i := i) (by omega)
  rw [hgc] at hv ht
  generalize hX : g.rows.getD i default = r at *
  have l2 := sumL_lim (l := (costs g x).take i) (L := 2) fun v h => za6 (hcb v (List.mem_of_mem_take h))
  have l4 : ((costs g x).take i).length ≤ 60 := by rw [List.length_take]; omega
  have l5 := zbv (sumL ((costs g x).take i)) g.den
  have l6 := zhu (qval g.P g.Q g.c x) (sumL ((costs g x).take i) * g.den)
  have l7 := za6 hv
  have l8 := zbv (costR r x) g.den
  have e3 : qval g.P g.Q g.c x + sumL ((costs g x).take i) * g.den + costR r x * g.den = qval g.P g.Q g.c x + sumL ((costs g x).take (i + 1)) * g.den := by rw [ht]; grind
  have d1 := zdi (qval g.P g.Q g.c x + sumL ((costs g x).take i) * g.den)
  have d2 := zdi (costR r x)
  have d3 := zdi g.den
  have d4 := zdi (costR r x * g.den)
  simp -dsimp -implicitDefEqProofs (disch := try exact zdE) only [go_sem, hX]
  first | refine zaa (rcost_ret r x hri hx) (by simp) ?_ | refine zab (rcost_ret r x hri hx) (by simp) ?_
  refine sgo ?_
  first | refine zaa (r_mul _ _ (by omega) (by omega)) (by simp) ?_ | refine zab (r_mul _ _ (by omega) (by omega)) (by simp) ?_
  refine sgo ?_
  first | refine zaa (r_add _ _ (by omega) (by omega)) (by simp) ?_ | refine zab (r_add _ _ (by omega) (by omega)) (by simp) ?_
  simp -dsimp -implicitDefEqProofs (disch := try exact zdE) only [go_sem, e3]
  exact ⟨(i + 1, _), Ghost.refl _, ⟨zdo, zdo⟩, zdo⟩
 ·have hie : g.rows.length = i := by omega
  subst hie
  rw [List.take_of_length_le (by omega)]
  have e3 : qval g.P g.Q g.c x + sumL (costs g x) * g.den = valC g x := Int.add_comm _ _
  simp -dsimp -implicitDefEqProofs (disch := try exact zdE) only [go_sem, e3]
def midF (f g : Nat → Int) (j k : Nat) : Int := if k < j then g k else f k
theorem midF_set (f g : Nat → Int) (n j : Nat) : ((List.range n).map (midF f g j)).set j (g j) = (List.range n).map (midF f g (j + 1)) := by
 rw [ze6]
 refine List.map_congr_left fun k _ => ?_
 unfold midF
 by_cases h : k = j
 ·subst h
  rw [if_pos rfl, if_pos (by omega)]
 ·rw [if_neg h]
  by_cases h2 : k < j
  ·rw [if_pos h2, if_pos (by omega)]
  ·rw [if_neg h2, if_neg (by omega)]
theorem midF_zero (f g : Nat → Int) (n : Nat) : (List.range n).map f = (List.range n).map (midF f g 0) := List.map_congr_left fun k _ => by unfold midF; rw [if_neg (by omega)]
theorem midF_all (f g : Nat → Int) (n : Nat) : (List.range n).map (midF f g n) = (List.range n).map g := List.map_congr_left fun k hk => by unfold midF; rw [if_pos (List.mem_range.1 hk)]
theorem midF_get {f g : Nat → Int} {n j : Nat} (h : j < n) : ((List.range n).map (midF f g j)).getD j 0 = f j := by rw [za0 0 h]; unfold midF; rw [if_neg (by omega)]
def stS (g : Gr) (x : List Int) (i k : Nat) : Int := zar g.P x g.n k - g.Q.getD k 0 + colS (za2 g x) i k * g.den
theorem rsteep18_ret (g : Gr) (x : List Int) (h : GOkay g x) (h1 : 1 ≤ g.n) : Ret pg zb8 [DGV g, ints x] (dvl (zc9 g x)) := by
 obtain ⟨hn, h11, h60, hr, hx, hsq, hq, sP, sQ, sc, sd⟩ := h
 have hcl : (za2 g x).length = g.rows.length := by simp [za2]
 have hcr : ∀ l ∈ za2 g x, l.length = g.n ∧ ∀ v ∈ l, In64 v := fun l hl => by
  obtain ⟨r, hr', rfl⟩ := List.mem_map.1 hl
  have h1 := (hr r hr').len
  exact ⟨by simp [zch]; omega, fun v hv => by have := steepR_bd (x := x) (hr r hr') v hv; exact ⟨by omega, by omega⟩⟩
 have hcin := fun l hl => (hcr l hl).2
 have hsl : (zc9 g x).length = g.n := by simp [zc9]
 have e1 := numbers_ret x (by omega) hx.in64
 have hS0 : ∀ k, stS g x 0 k = zar g.P x g.n k - g.Q.getD k 0 := fun k => by unfold stS colS; rw [List.take_zero]; simp [sumL]
 have hSl : ∀ i k, lim (stS g x i k) ≤ 1000 := fun i k => by
  have l2 := colS_lim hcin i k
  have l3 := zhp h11 sP hx k
  have l4 := sQ k
  have l5 := zif (zar g.P x g.n k) (g.Q.getD k 0)
  have l6 := zbv (colS (za2 g x) i k) g.den
  have l7 := zhu (zar g.P x g.n k - g.Q.getD k 0) (colS (za2 g x) i k * g.den)
  unfold stS; omega
 refine gimbalref18_Steep.of rfl (W_b ?_)
 unfold gimbalref18_Steep.k gimbalref18_Steep.res Ot kp kd Oy Om Ol OL Oq Oi Oc On ci
 refine sgo ?_
 first | refine zaa (e1) (by simp) ?_ | refine zab (e1) (by simp) ?_
 refine sgo ?_
 obtain ⟨H1, n1, id, ⟨c1, c2, c3, _⟩, hc⟩ := rslope_G g.P g.Q x g.c g.n (fun _ => none) 8 (by omega) h1 hsq hq hn (fun i j => by have := dl_of (sP i j); omega) (fun i => by have := dl_of (sQ i); omega) (fun i => by have := dl_of (hx.lim i); omega)
 refine zf5 hc ?_
 refine sgo ?_
 rw [show (List.range g.n).map (fun k => zar g.P x g.n k - g.Q.getD k 0) = (List.range g.n).map (stS g x 0) from List.map_congr_left fun k _ => (hS0 k).symm] at c3
 refine zap (T := Nat × Hp × Nat) (fun t => ⟨E [(1, ints x), (2, .pp (DGV g)), (5, .own id g.n), (6, .int .i64 t.1)], t.2.1, t.2.2, t.2.2⟩)
  (fun t => t.1 ≤ g.rows.length ∧ id < t.2.2 ∧ t.2.1 id = some ⟨((List.range g.n).map (stS g x t.1)).map DV, 2⟩) (fun t => g.rows.length - t.1) (0, H1, _) rfl ⟨zdo, zdo, c3⟩ ?_
 clear c3 c2
 rintro ⟨i, H, nx⟩ ⟨i1, i2, i3⟩
 dsimp only at i1 i2 i3
 by_cases hi : i < g.rows.length
 ·have hri := hr _ (zao default hi)
  have hml := hcr _ (zao [] (show i < (za2 g x).length by omega))
  have hgs : (za2 g x).getD i [] = zch (g.rows.getD i default) x := by simp [za2, List.getD_eq_getElem?_getD, hi]
  have hst := fun k => colS_step (ls := za2 g x) (i := i) (by omega) k
  rw [hgs] at hml hst
  obtain ⟨hl1, hl2⟩ := hml
  generalize hX : g.rows.getD i default = r at *
  simp -dsimp -implicitDefEqProofs (disch := try exact zdE) only [go_sem, hX]
  first | refine zaa (rsteep_ret r x hri hx) (by simp) ?_ | refine zab (rsteep_ret r x hri hx) (by simp) ?_
  rw [midF_zero (stS g x i) (stS g x (i + 1))] at i3
  refine sgo ?_
  refine zap (T := Nat × Hp × Nat) (fun t => ⟨E [(1, ints x), (2, .pp (DGV g)), (5, .own id g.n), (6, .int .i64 i), (7, ints (zch r x)), (8, .int .i64 t.1)], t.2.1, t.2.2, t.2.2⟩)
   (fun t => t.1 ≤ g.n ∧ id < t.2.2 ∧ t.2.1 id = some ⟨((List.range g.n).map (midF (stS g x i) (stS g x (i + 1)) t.1)).map DV, 2⟩) (fun t => g.n - t.1) (0, H, _) rfl ⟨zdo, zdo, i3⟩ ?_
  clear i3 i2
  rintro ⟨j, H2, nx2⟩ ⟨j1, j2, j3⟩
  dsimp only at j1 j2 j3
  by_cases hj : j < g.n
  ·have hv := getD_in hl2 j
   have hget := midF_get (f := stS g x i) (g := stS g x (i + 1)) hj
   have hset := midF_set (stS g x i) (stS g x (i + 1)) g.n j
   have e3 : stS g x i j + (zch r x).getD j 0 * g.den = stS g x (i + 1) j := by unfold stS; rw [hst j]; grind
   have l1 := hSl i j
   have l7 := za6 hv
   have l8 := zbv ((zch r x).getD j 0) g.den
   have d1 := zdi (stS g x i j)
   have d2 := zdi ((zch r x).getD j 0)
   have d3 := zdi g.den
   have d4 := zdi ((zch r x).getD j 0 * g.den)
   simp -dsimp -implicitDefEqProofs (disch := try exact zdE) only [go_sem, j3, hget]
   first | refine zaa (r_of _ hv) (by simp) ?_ | refine zab (r_of _ hv) (by simp) ?_
   refine sgo ?_
   first | refine zaa (r_mul _ _ (by omega) (by omega)) (by simp) ?_ | refine zab (r_mul _ _ (by omega) (by omega)) (by simp) ?_
   refine sgo ?_
   first | refine zaa (r_add _ _ (by omega) (by omega)) (by simp) ?_ | refine zab (r_add _ _ (by omega) (by omega)) (by simp) ?_
   simp -dsimp -implicitDefEqProofs (disch := try exact zdE) only [go_sem, j3, e3, hset]
   generalize hG : Hp.upd H2 id _ = G
   exact ⟨(j + 1, G, _), rfl, ⟨zdo, zdo, zdb hG⟩, zdo⟩
  ·have hje : g.n = j := by omega
   subst hje
   rw [midF_all] at j3
   refine sgo ?_
   exact ⟨(i + 1, H2, _), rfl, ⟨zdo, zdo, j3⟩, zdo⟩
 ·have hie : g.rows.length = i := by omega
  subst hie
  rw [show (List.range g.n).map (stS g x g.rows.length) = zc9 g x from List.map_congr_left fun k _ => Int.add_comm _ _] at i3
  simp -dsimp -implicitDefEqProofs (disch := try exact zdE) only [go_sem, i3]
  rw [zc5 fun x => zax _ _ _]
  rfl
theorem rflat18_ret (g : Gr) (x : List Int) (most : Int) (h : GOkay g x) (h1 : 1 ≤ g.n) (hm : In64 most) : Ret pg zey [DGV g, ints x, .int .i64 most] (.bool ((zc9 g x).all fun s => decide (s ≤ g.den * most) && decide (-s ≤ g.den * most))) := by
 have sd := h.sd
 have l1 := za6 hm
 have l2 := zbv g.den most
 have hsl := steepC_lim h
 have d0 := zdi most
 have d1 := zdi g.den
 have d2 := zdi (g.den * most)
 have hln : (zc9 g x).length ≤ 11 := by have := h.hi; simp [zc9]; omega
 have ec : most * g.den = g.den * most := Int.mul_comm _ _
 refine gimbalref18_Flat.of rfl (W_b ?_)
 unfold gimbalref18_Flat.k gimbalref18_Flat.res Ot kp kd Og Oy Om OL Oi Oc On ci
 refine sgo ?_
 first | refine zaa (r_of _ hm) (by simp) ?_ | refine zab (r_of _ hm) (by simp) ?_
 refine sgo ?_
 first | refine zaa (r_mul _ _ (by omega) (by omega)) (by simp) ?_ | refine zab (r_mul _ _ (by omega) (by omega)) (by simp) ?_
 simp -dsimp -implicitDefEqProofs (disch := try exact zdE) only [go_sem, ec]
 first | refine zaa (rsteep18_ret g x h h1) (by simp) ?_ | refine zab (rsteep18_ret g x h h1) (by simp) ?_
 refine sgo ?_
 generalize hX : zc9 g x = l at *
 generalize g.den * most = top at *
 refine zel (T := Nat × Hp × Nat) (fun t => ⟨E [(7, .ptr 7 1 0 0), (8, dvl l), (9, .int .i64 t.1)], t.2.1, t.2.2, t.2.2⟩)
  (fun t => t.1 ≤ l.length ∧ 7 < t.2.2 ∧ t.2.1 7 = some ⟨[DV top], 2⟩ ∧ ∀ v ∈ l.take t.1, v ≤ top ∧ -v ≤ top) (fun t => l.length - t.1) (0, _, _) (Ghost.refl _) ⟨zdo, zdo, rfl, by simp⟩ ?_
 rintro ⟨i, H, nx⟩ ⟨i1, i2, i3, i4⟩
 dsimp only at i1 i2 i3 i4
 by_cases hi : i < l.length
 ·have hm := zao 0 hi
  have hv := hsl _ hm
  have ht := zbl (l := l) (i := i) 0 hi
  generalize hV : l.getD i 0 = v at *
  have d3 := zdi v
  have hno : ¬ (v ≤ top ∧ -v ≤ top) → (l.all fun s => decide (s ≤ top) && decide (-s ≤ top)) = false := fun h => by
   rw [List.all_eq_false]
   exact ⟨v, hm, by simpa using h⟩
  simp -dsimp -implicitDefEqProofs (disch := try exact zdE) only [go_sem, i3, hV]
  first | refine zaa (r_cmp _ _ (by omega) (by omega)) (by simp) ?_ | refine zab (r_cmp _ _ (by omega) (by omega)) (by simp) ?_
  simp -dsimp -implicitDefEqProofs (disch := try exact zdE) only [go_sem, i3, hV]
  first | refine zaa (r_minus top (by omega)) (by simp) ?_ | refine zab (r_minus top (by omega)) (by simp) ?_
  refine sgo ?_
  first | refine zaa (r_cmp v (-top) (by omega) (by have : dlim (-top) = dlim top := by { simp [dlim] }; omega)) (by simp) ?_ | refine zab (r_cmp v (-top) (by omega) (by have : dlim (-top) = dlim top := by { simp [dlim] }; omega)) (by simp) ?_
  have hg1 := sign_gt v top
  have hg2 := sign_lt v (-top)
  by_cases h1 : top < v
  ·rw [hno (by omega)]
   rw [decide_eq_true h1] at hg1
   simp -dsimp -implicitDefEqProofs (disch := try exact zdE) only [go_sem, hg1]
  ·rw [decide_eq_false h1] at hg1
   by_cases h2 : v < -top
   ·rw [hno (by omega)]
    rw [decide_eq_true h2] at hg2
    simp -dsimp -implicitDefEqProofs (disch := try exact zdE) only [go_sem, hg1, hg2]
   ·rw [decide_eq_false h2] at hg2
    simp -dsimp -implicitDefEqProofs (disch := try exact zdE) only [go_sem, hg1, hg2]
    exact ⟨(i + 1, _, _), Ghost.refl _, ⟨zdo, zdo, i3, fun w hw => by
     rw [ht] at hw
     rcases List.mem_append.1 hw with hw | hw
     ·exact i4 w hw
     ·rw [List.mem_singleton.1 hw]; omega⟩, zdo⟩
 ·have hie : l.length = i := by omega
  subst hie
  rw [List.take_length] at i4
  have hyes : (l.all fun s => decide (s ≤ top) && decide (-s ≤ top)) = true := by
   rw [List.all_eq_true]
   exact fun v hv => by simpa using i4 v hv
  rw [hyes]
  exact sgo trivial
end Go.Gim
