import Derived.Test.YtjkjpjneeioeiaaGreatLR2
/- The document's whole numbers: sums, differences, order, texts. -/
set_option maxRecDepth 100000
set_option linter.unusedSimpArgs false
set_option linter.unusedVariables false
namespace Go.Gim
open Go.Proofs
attribute [local go_sem] IntWalk.i64_in wu64 wu32 wu8 Nat.mod_eq_of_lt shr32 shr63 shl32 or32 quo64 quo32 zfr remk zcm zcl zdv zdu zb7 Nat.add_assoc zbc lt_ne gt_ne zdp dlt_t dlt_f dle_t dle_f deq_t deq_f zb8 ze0 zez zbu zbt zbj zbe zcn zcp zcq zde zaj List.length_set ge_iff_le gt_iff_lt Int.toNat_natCast zcj zdh zck zdj zdi zch zb1 zei zb5 zb6 zdo
theorem r_plus (a b : List Nat) (ha : ∀ x ∈ a, x < 10) (hb : ∀ x ∈ b, x < 10) (hla : a.length ≤ 1099511627776) (hlb : b.length ≤ 1099511627776) :
  ∃ l : List Nat, (∀ x ∈ l, x < 10) ∧ l.length ≤ max a.length b.length + 1 ∧ val 10 l = val 10 a + val 10 b ∧ Ret pg zdb [.sl (nats .i64 a), .sl (nats .i64 b)] (.sl (nats .i64 l)) := by
 suffices h : ∃ r H' n', (∃ l : List Nat, (∀ x ∈ l, x < 10) ∧ l.length ≤ max a.length b.length + 1 ∧ val 10 l = val 10 a + val 10 b ∧ Row 0 H' n' r 1 (nats .i64 l)) ∧ RetG pg zdb [.sl (nats .i64 a), .sl (nats .i64 b)] (fun _ => none) 0 r H' n' by
  obtain ⟨r, H', n', ⟨l, h1, h2, h3, h4⟩, h⟩ := h
  exact ⟨l, h1, h2, h3, h.toRet (h4.frz (zab _ _ _ _))⟩
 refine gimbalref01_plus.ofG rfl (W_b ?_)
 unfold gimbalref01_plus.k gimbalref01_plus.res Ot
 simp -dsimp -implicitDefEqProofs (disch := first | omega | (simp only [zL] <;> omega) | (apply zaa <;> simp)) only [go_sem, zan, zam, zak, zat, zao, zab]
 refine zaq (T := Nat × Nat × V × Hp × Nat × List Nat) (fun t => ⟨E [(0, .sl (nats .i64 a)), (1, .sl (nats .i64 b)), (5, t.2.2.1), (6, .int .i64 t.2.1), (7, .int .i64 t.1)], t.2.2.2.1, t.2.2.2.2.1, t.2.2.2.2.1⟩)
  (fun t => t.2.2.2.2.2.length = t.1 ∧ t.1 ≤ max a.length b.length + 1 ∧ t.2.1 ≤ 1 ∧ (max a.length b.length < t.1 → t.2.1 = 0) ∧ Row 0 t.2.2.2.1 t.2.2.2.2.1 t.2.2.1 1 (nats .i64 t.2.2.2.2.2) ∧ (∀ x ∈ t.2.2.2.2.2, x < 10) ∧ val 10 t.2.2.2.2.2 + 10 ^ t.1 * (val 10 (a.drop t.1) + val 10 (b.drop t.1) + t.2.1) = val 10 a + val 10 b) (fun t => 2 * (max a.length b.length + 1 - t.1) + t.2.1) (0, 0, .nil, _, _, []) rfl ⟨rfl, by dsimp only; omega, by dsimp only; omega, fun _ => rfl, Row.nil _ _ _ _, by simp, by simp [val]⟩ ?_
 rintro ⟨i, o, v, H, nx, ds⟩ ⟨i1, i2, i3, i4, i5, i6, i7⟩
 dsimp only at i1 i2 i3 i4 i5 i6 i7
 have g1 : a.getD i 0 < 10 := zbs (i := i) ha (by decide)
 have g2 : b.getD i 0 < 10 := zbs (i := i) hb (by decide)
 have hqa : ¬ i < a.length → a.getD i 0 = 0 := fun hq => by simp [List.getD_eq_getElem?_getD, List.getElem?_eq_none (Nat.le_of_not_lt hq)]
 have hqb : ¬ i < b.length → b.getD i 0 = 0 := fun hq => by simp [List.getD_eq_getElem?_getD, List.getElem?_eq_none (Nat.le_of_not_lt hq)]
 by_cases hd : i < a.length ∨ i < b.length ∨ 0 < o
 ·rw [val_drop 10 a i, val_drop 10 b i] at i7
  generalize hX : a.getD i 0 = x at *
  generalize hY : b.getD i 0 = y at *
  have fin : ∀ s, s = x + y + o → (ds ++ [s % 10]).length = i + 1 ∧ i + 1 ≤ max a.length b.length + 1 ∧ s / 10 ≤ 1 ∧ (max a.length b.length < i + 1 → s / 10 = 0) ∧ (∀ x ∈ ds ++ [s % 10], x < 10) ∧ val 10 (ds ++ [s % 10]) + 10 ^ (i + 1) * (val 10 (a.drop (i + 1)) + val 10 (b.drop (i + 1)) + s / 10) = val 10 a + val 10 b ∧ 2 * (max a.length b.length + 1 - (i + 1)) + s / 10 < 2 * (max a.length b.length + 1 - i) + o := fun s hs => by
   refine ⟨by simp [i1], by omega, by omega, fun h => ?_, fun z hz => ?_, ?_, ?_⟩
   ·by_cases h1 : max a.length b.length < i
    ·omega
    ·have h2 := hqa (by omega); have h3 := hqb (by omega); omega
   ·rcases List.mem_append.1 hz with hz | hz
    ·exact i6 z hz
    ·simp at hz; omega
   ·rw [← i7, zc1, i1, Nat.add_assoc, Nat.pow_succ]
    simp only [val, Nat.mul_zero, Nat.add_zero]
    congr 1
    rw [Nat.mul_assoc, ← Nat.mul_add]
    congr 1
    have := Nat.mod_add_div s 10
    omega
   ·omega
  have hh : max a.length b.length ≤ 1099511627776 := by omega
  by_cases hq : i < a.length <;> by_cases hr : i < b.length
  ·simp -dsimp -implicitDefEqProofs (disch := first | omega | (simp only [zL] <;> omega) | (apply zaa <;> simp)) only [go_sem, zan, zam, zak, zat, zao, zab, hX, hY]
   refine zaz (lo := 0) (nx := nx) (H0 := H) (xs := nats .i64 ds) i5 (by omega) rfl (by omega) (by omega) (by simp [rowOk, V.isJunk, V.cells, V.cellOk]) (by decide) (by simp [zaj]; omega) (by simp [zaj]; omega) fun v2 H2 r1 _ _ _ => ?_
   obtain ⟨f1, f2, f3, f4, f5, f6, f7⟩ := fin (o + (x + y)) (by omega)
   rw [zdy (m := (o + (x + y)) % 10) (by first | rfl | (congr 1; omega))] at r1
   simp -dsimp -implicitDefEqProofs (disch := first | omega | (simp only [zL] <;> omega) | (apply zaa <;> simp)) only [go_sem, zan, zam, zak, zat, zao, zab, hX, hY]
   exact ⟨(i + 1, (o + (x + y)) / 10, v2, H2, _, ds ++ [(o + (x + y)) % 10]), rfl, ⟨f1, f2, f3, f4, r1.same (fun _ _ => rfl) (by dsimp only; omega), f5, (by simpa only [Nat.add_assoc] using f6)⟩, f7⟩
  ·have e1 := hqb hr
   simp -dsimp -implicitDefEqProofs (disch := first | omega | (simp only [zL] <;> omega) | (apply zaa <;> simp)) only [go_sem, zan, zam, zak, zat, zao, zab, hX, hY]
   refine zaz (lo := 0) (nx := nx) (H0 := H) (xs := nats .i64 ds) i5 (by omega) rfl (by omega) (by omega) (by simp [rowOk, V.isJunk, V.cells, V.cellOk]) (by decide) (by simp [zaj]; omega) (by simp [zaj]; omega) fun v2 H2 r1 _ _ _ => ?_
   obtain ⟨f1, f2, f3, f4, f5, f6, f7⟩ := fin (o + x) (by omega)
   rw [zdy (m := (o + x) % 10) (by first | rfl | (congr 1; omega))] at r1
   simp -dsimp -implicitDefEqProofs (disch := first | omega | (simp only [zL] <;> omega) | (apply zaa <;> simp)) only [go_sem, zan, zam, zak, zat, zao, zab, hX, hY]
   exact ⟨(i + 1, (o + x) / 10, v2, H2, _, ds ++ [(o + x) % 10]), rfl, ⟨f1, f2, f3, f4, r1.same (fun _ _ => rfl) (by dsimp only; omega), f5, (by simpa only [Nat.add_assoc] using f6)⟩, f7⟩
  ·have e1 := hqa hq
   simp -dsimp -implicitDefEqProofs (disch := first | omega | (simp only [zL] <;> omega) | (apply zaa <;> simp)) only [go_sem, zan, zam, zak, zat, zao, zab, hX, hY]
   refine zaz (lo := 0) (nx := nx) (H0 := H) (xs := nats .i64 ds) i5 (by omega) rfl (by omega) (by omega) (by simp [rowOk, V.isJunk, V.cells, V.cellOk]) (by decide) (by simp [zaj]; omega) (by simp [zaj]; omega) fun v2 H2 r1 _ _ _ => ?_
   obtain ⟨f1, f2, f3, f4, f5, f6, f7⟩ := fin (o + y) (by omega)
   rw [zdy (m := (o + y) % 10) (by first | rfl | (congr 1; omega))] at r1
   simp -dsimp -implicitDefEqProofs (disch := first | omega | (simp only [zL] <;> omega) | (apply zaa <;> simp)) only [go_sem, zan, zam, zak, zat, zao, zab, hX, hY]
   exact ⟨(i + 1, (o + y) / 10, v2, H2, _, ds ++ [(o + y) % 10]), rfl, ⟨f1, f2, f3, f4, r1.same (fun _ _ => rfl) (by dsimp only; omega), f5, (by simpa only [Nat.add_assoc] using f6)⟩, f7⟩
  ·have e1 := hqb hr
   have e2 := hqa hq
   simp -dsimp -implicitDefEqProofs (disch := first | omega | (simp only [zL] <;> omega) | (apply zaa <;> simp)) only [go_sem, zan, zam, zak, zat, zao, zab, hX, hY]
   refine zaz (lo := 0) (nx := nx) (H0 := H) (xs := nats .i64 ds) i5 (by omega) rfl (by omega) (by omega) (by simp [rowOk, V.isJunk, V.cells, V.cellOk]) (by decide) (by simp [zaj]; omega) (by simp [zaj]; omega) fun v2 H2 r1 _ _ _ => ?_
   obtain ⟨f1, f2, f3, f4, f5, f6, f7⟩ := fin o (by omega)
   rw [zdy (m := o % 10) (by first | rfl | (congr 1; omega))] at r1
   simp -dsimp -implicitDefEqProofs (disch := first | omega | (simp only [zL] <;> omega) | (apply zaa <;> simp)) only [go_sem, zan, zam, zak, zat, zao, zab, hX, hY]
   exact ⟨(i + 1, o / 10, v2, H2, _, ds ++ [o % 10]), rfl, ⟨f1, f2, f3, f4, r1.same (fun _ _ => rfl) (by dsimp only; omega), f5, (by simpa only [Nat.add_assoc] using f6)⟩, f7⟩
 ·have e1 : a.drop i = [] := List.drop_eq_nil_of_le (by omega)
  have e2 : b.drop i = [] := List.drop_eq_nil_of_le (by omega)
  rw [e1, e2, show o = 0 by omega] at i7
  simp only [val, Nat.add_zero, Nat.mul_zero] at i7
  simp -dsimp -implicitDefEqProofs (disch := first | omega | (simp only [zL] <;> omega) | (apply zaa <;> simp)) only [go_sem, zan, zam, zak, zat, zao, zab]
  exact ⟨_, rfl, by dsimp only; omega, ds, i6, by omega, i7, i5.same (fun _ _ => rfl) (by dsimp only; omega)⟩
theorem subL10_abs {x y : Nat} (h : y ≤ x) : val 10 (subL 10 (digs 10 x) (digs 10 y) 0) = x - y := by
 have := subL_val d2 (digs 10 x) (digs 10 y) 0 (zbz d2 _) (zbz d2 _) (by omega) (zgk d2 h) (by rw [zav d2, zav d2]; omega)
 rw [zav d2, zav d2] at this
 omega
theorem ncmp_ge' {x y : Nat} : (0 ≤ ncmp x y) ↔ y ≤ x := by unfold ncmp; split <;> (try split) <;> omega
theorem r_add (x y : Int) (hx : dlim x ≤ 1099511627776) (hy : dlim y ≤ 1099511627776) : Ret pg zdn [DV x, DV y] (DV (x + y)) := by
 have lx := zbz d2 x.natAbs
 have ly := zbz d2 y.natAbs
 unfold dlim at hx hy
 refine gimbalref01_Int_Add.of rfl (W_b ?_)
 unfold gimbalref01_Int_Add.k gimbalref01_Int_Add.res Ot
 by_cases hs : decide (x < 0) = decide (y < 0)
 ·obtain ⟨l, p1, p2, p3, p4⟩ := r_plus _ _ lx ly (by omega) (by omega)
  rw [zav d2, zav d2] at p3
  have hm := r_made (decide (x < 0)) l p1 (by omega)
  rw [p3] at hm
  have e : sg (decide (x < 0)) (x.natAbs + y.natAbs) = x + y := by
   unfold sg; split <;> simp_all <;> omega
  rw [e, hs] at hm
  simp -dsimp -implicitDefEqProofs (disch := first | omega | (simp only [zL] <;> omega) | (apply zaa <;> simp)) only [go_sem, zan, zam, zak, zat, zao, zab, hs]
  refine zae p4 (by simp) ?_
  simp -dsimp -implicitDefEqProofs (disch := first | omega | (simp only [zL] <;> omega) | (apply zaa <;> simp)) only [go_sem, zan, zam, zak, zat, zao, zab]
  refine zae hm (by simp) ?_
  simp -dsimp -implicitDefEqProofs (disch := first | omega | (simp only [zL] <;> omega) | (apply zaa <;> simp)) only [go_sem, zan, zam, zak, zat, zao, zab]
 ·have hc := r_size x.natAbs y.natAbs (by omega) (by omega)
  simp -dsimp -implicitDefEqProofs (disch := first | omega | (simp only [zL] <;> omega) | (apply zaa <;> simp)) only [go_sem, zan, zam, zak, zat, zao, zab, hs]
  refine zac hc (by simp) ?_
  by_cases hge : y.natAbs ≤ x.natAbs
  ·have := ncmp_ge'.2 hge
   have hd := r_less _ _ lx ly (by omega) (by omega)
   have hm := r_made (decide (x < 0)) _ (subL_lt d2 _ (digs 10 y.natAbs) 0 lx) (by rw [zfe]; omega)
   rw [subL10_abs hge, show sg (decide (x < 0)) (x.natAbs - y.natAbs) = x + y by unfold sg; split <;> simp_all <;> omega] at hm
   simp -dsimp -implicitDefEqProofs (disch := first | omega | (simp only [zL] <;> omega) | (apply zaa <;> simp)) only [go_sem, zan, zam, zak, zat, zao, zab]
   refine zae hd (by simp) ?_
   simp -dsimp -implicitDefEqProofs (disch := first | omega | (simp only [zL] <;> omega) | (apply zaa <;> simp)) only [go_sem, zan, zam, zak, zat, zao, zab]
   refine zae hm (by simp) ?_
   simp -dsimp -implicitDefEqProofs (disch := first | omega | (simp only [zL] <;> omega) | (apply zaa <;> simp)) only [go_sem, zan, zam, zak, zat, zao, zab]
  ·have : ¬ 0 ≤ ncmp x.natAbs y.natAbs := fun h => hge (ncmp_ge'.1 h)
   have hd := r_less _ _ ly lx (by omega) (by omega)
   have hm := r_made (decide (y < 0)) _ (subL_lt d2 _ (digs 10 x.natAbs) 0 ly) (by rw [zfe]; omega)
   rw [subL10_abs (by omega), show sg (decide (y < 0)) (y.natAbs - x.natAbs) = x + y by unfold sg; split <;> simp_all <;> omega] at hm
   simp -dsimp -implicitDefEqProofs (disch := first | omega | (simp only [zL] <;> omega) | (apply zaa <;> simp)) only [go_sem, zan, zam, zak, zat, zao, zab]
   refine zae hd (by simp) ?_
   simp -dsimp -implicitDefEqProofs (disch := first | omega | (simp only [zL] <;> omega) | (apply zaa <;> simp)) only [go_sem, zan, zam, zak, zat, zao, zab]
   refine zae hm (by simp) ?_
   simp -dsimp -implicitDefEqProofs (disch := first | omega | (simp only [zL] <;> omega) | (apply zaa <;> simp)) only [go_sem, zan, zam, zak, zat, zao, zab]
theorem r_minus (x : Int) (hx : dlim x ≤ 1099511627776) : Ret pg zcx [DV x] (DV (-x)) := by
 refine gimbalref01_Int_Minus.of rfl (W_b ?_)
 unfold gimbalref01_Int_Minus.k gimbalref01_Int_Minus.res Ot
 unfold dlim at hx
 have hm := r_made (!decide (x < 0)) (digs 10 x.natAbs) (zbz d2 _) (by omega)
 rw [zav d2, show sg (!decide (x < 0)) x.natAbs = -x by unfold sg; split <;> simp_all <;> omega] at hm
 simp -dsimp -implicitDefEqProofs (disch := first | omega | (simp only [zL] <;> omega) | (apply zaa <;> simp)) only [go_sem, zan, zam, zak, zat, zao, zab]
 refine zac hm (by simp) ?_
 simp -dsimp -implicitDefEqProofs (disch := first | omega | (simp only [zL] <;> omega) | (apply zaa <;> simp)) only [go_sem, zan, zam, zak, zat, zao, zab]
theorem r_cmp (x y : Int) (hx : dlim x ≤ 1099511627776) (hy : dlim y ≤ 1099511627776) : Ret pg zbo [DV x, DV y] (.int .i64 (x - y).sign) := by
 unfold dlim at hx hy
 have hc := r_size x.natAbs y.natAbs (by omega) (by omega)
 refine gimbalref01_Int_Cmp.of rfl (W_b ?_)
 unfold gimbalref01_Int_Cmp.k gimbalref01_Int_Cmp.res Ot
 have sp : ∀ z : Int, 0 < z → z.sign = 1 := fun z h => Int.sign_eq_one_of_pos h
 have sn : ∀ z : Int, z < 0 → z.sign = -1 := fun z h => Int.sign_eq_neg_one_of_neg h
 by_cases hx0 : x < 0 <;> by_cases hy0 : y < 0
 ·simp -dsimp -implicitDefEqProofs (disch := first | omega | (simp only [zL] <;> omega) | (apply zaa <;> simp)) only [go_sem, zan, zam, zak, zat, zao, zab]
  refine zac hc (by simp) ?_
  have : IntKind.i64.wrap (0 - ncmp x.natAbs y.natAbs) = (x - y).sign := by
   unfold ncmp
   split
   ·rw [sp _ (by omega)]; rfl
   ·split
    ·rw [show x - y = 0 by omega]; rfl
    ·rw [sn _ (by omega)]; rfl
  simp -dsimp -implicitDefEqProofs (disch := first | omega | (simp only [zL] <;> omega) | (apply zaa <;> simp)) only [go_sem, zan, zam, zak, zat, zao, zab, this]
 ·simp -dsimp -implicitDefEqProofs (disch := first | omega | (simp only [zL] <;> omega) | (apply zaa <;> simp)) only [go_sem, zan, zam, zak, zat, zao, zab, sn (x - y) (by omega)]
 ·simp -dsimp -implicitDefEqProofs (disch := first | omega | (simp only [zL] <;> omega) | (apply zaa <;> simp)) only [go_sem, zan, zam, zak, zat, zao, zab, sp (x - y) (by omega)]
 ·simp -dsimp -implicitDefEqProofs (disch := first | omega | (simp only [zL] <;> omega) | (apply zaa <;> simp)) only [go_sem, zan, zam, zak, zat, zao, zab]
  refine zac hc (by simp) ?_
  have : ncmp x.natAbs y.natAbs = (x - y).sign := by
   unfold ncmp
   split
   ·rw [sn _ (by omega)]
   ·split
    ·rw [show x - y = 0 by omega]; rfl
    ·rw [sp _ (by omega)]
  simp -dsimp -implicitDefEqProofs (disch := first | omega | (simp only [zL] <;> omega) | (apply zaa <;> simp)) only [go_sem, zan, zam, zak, zat, zao, zab, this]
end Go.Gim
