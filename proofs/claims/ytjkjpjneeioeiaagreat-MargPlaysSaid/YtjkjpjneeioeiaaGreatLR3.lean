import Derived.Test.YtjkjpjneeioeiaaGreatLR2
/- The document's whole numbers: sums, differences, order, texts. -/
set_option maxRecDepth 100000
set_option linter.unusedSimpArgs false
set_option linter.unusedVariables false
namespace Go.Gim
open Go.Proofs
attribute [local go_sem] IntWalk.i64_in wu64 wu32 wu8 Nat.mod_eq_of_lt shr32 shr63 shl32 or32 quo64 quo32 zfb remk zcw zcv zd0 zdz zb9 Nat.add_assoc za8 lt_ne gt_ne zds dlt_t dlt_f dle_t dle_f deq_t deq_f zca zep zel zbr zbq zbf zbc zcx zcy zcz zdh zae List.length_set ge_iff_le gt_iff_lt Int.toNat_natCast zcg zdi zcq zdk zdj zcp zb0 zea zb7 zb8 zdr
theorem r_plus (a b : List Nat) (ha : ∀ x ∈ a, x < 10) (hb : ∀ x ∈ b, x < 10) (hla : a.length ≤ 1099511627776) (hlb : b.length ≤ 1099511627776) :
  ∃ l : List Nat, (∀ x ∈ l, x < 10) ∧ l.length ≤ max a.length b.length + 1 ∧ val 10 l = val 10 a + val 10 b ∧ Ret pg zd7 [.sl (nats .i64 a), .sl (nats .i64 b)] (.sl (nats .i64 l)) := by
 suffices h : ∃ r H' n', (∃ l : List Nat, (∀ x ∈ l, x < 10) ∧ l.length ≤ max a.length b.length + 1 ∧ val 10 l = val 10 a + val 10 b ∧ Row 0 H' n' r 1 (nats .i64 l)) ∧ RetG pg zd7 [.sl (nats .i64 a), .sl (nats .i64 b)] (fun _ => none) 0 r H' n' by
  obtain ⟨r, H', n', ⟨l, h1, h2, h3, h4⟩, h⟩ := h
  exact ⟨l, h1, h2, h3, h.toRet (h4.frz (zac _ _ _ _))⟩
 refine gimbalref01_plus.ofG rfl (W_b ?_)
 unfold gimbalref01_plus.k gimbalref01_plus.res Ot kp Og Om Ol Oi Oc On ci
 refine sgd ?_
 refine zap (T := Nat × Nat × V × Hp × Nat × List Nat) (fun t => ⟨E [(0, .sl (nats .i64 a)), (1, .sl (nats .i64 b)), (5, t.2.2.1), (6, .int .i64 t.2.1), (7, .int .i64 t.1)], t.2.2.2.1, t.2.2.2.2.1, t.2.2.2.2.1⟩)
  (fun t => t.2.2.2.2.2.length = t.1 ∧ t.1 ≤ max a.length b.length + 1 ∧ t.2.1 ≤ 1 ∧ (max a.length b.length < t.1 → t.2.1 = 0) ∧ Row 0 t.2.2.2.1 t.2.2.2.2.1 t.2.2.1 1 (nats .i64 t.2.2.2.2.2) ∧ (∀ x ∈ t.2.2.2.2.2, x < 10) ∧ val 10 t.2.2.2.2.2 + 10 ^ t.1 * (val 10 (a.drop t.1) + val 10 (b.drop t.1) + t.2.1) = val 10 a + val 10 b) (fun t => 2 * (max a.length b.length + 1 - t.1) + t.2.1) (0, 0, .nil, _, _, []) rfl ⟨rfl, zdo, zdo, fun _ => rfl, Row.nil _ _ _ _, by simp, by simp [val]⟩ ?_
 rintro ⟨i, o, v, H, nx, ds⟩ ⟨i1, i2, i3, i4, i5, i6, i7⟩
 dsimp only at i1 i2 i3 i4 i5 i6 i7
 have g1 : a.getD i 0 < 10 := zbt (i := i) ha (by decide)
 have g2 : b.getD i 0 < 10 := zbt (i := i) hb (by decide)
 have hqa : ¬ i < a.length → a.getD i 0 = 0 := fun hq => by simp [List.getD_eq_getElem?_getD, List.getElem?_eq_none (Nat.le_of_not_lt hq)]
 have hqb : ¬ i < b.length → b.getD i 0 = 0 := fun hq => by simp [List.getD_eq_getElem?_getD, List.getElem?_eq_none (Nat.le_of_not_lt hq)]
 by_cases hd : i < a.length ∨ i < b.length ∨ 0 < o
 ·rw [val_drop 10 a i, val_drop 10 b i] at i7
  generalize hX : a.getD i 0 = x at *
  generalize hY : b.getD i 0 = y at *
  have fin : ∀ s, s = x + y + o → (ds ++ [s % 10]).length = i + 1 ∧ i + 1 ≤ max a.length b.length + 1 ∧ s / 10 ≤ 1 ∧ (max a.length b.length < i + 1 → s / 10 = 0) ∧ (∀ x ∈ ds ++ [s % 10], x < 10) ∧ val 10 (ds ++ [s % 10]) + 10 ^ (i + 1) * (val 10 (a.drop (i + 1)) + val 10 (b.drop (i + 1)) + s / 10) = val 10 a + val 10 b ∧ 2 * (max a.length b.length + 1 - (i + 1)) + s / 10 < 2 * (max a.length b.length + 1 - i) + o := fun s hs => by
   refine ⟨by simp [i1], by omega, by omega, fun h => ?_, fun z hz => ?_, ?_, ?_⟩
   ·by_cases h1 : max a.length b.length < i
    ·omega
    ·have h2 := hqa (by omega); have h3 := hqb (by omega); omega
   ·rcases List.mem_append.1 hz with hz | hz
    ·exact i6 z hz
    ·simp at hz; omega
   ·rw [← i7, zdv, i1, Nat.add_assoc, Nat.pow_succ]
    simp only [val, Nat.mul_zero, Nat.add_zero]
    congr 1
    rw [Nat.mul_assoc, ← Nat.mul_add]
    congr 1
    have := Nat.mod_add_div s 10
    omega
   ·omega
  have hh : max a.length b.length ≤ 1099511627776 := by omega
  by_cases hq : i < a.length <;> by_cases hr : i < b.length
  ·simp -dsimp -implicitDefEqProofs (disch := try exact zdL) only [go_sem, zao, zan, zah, zaz, zas, zac, hX, hY]
   refine zaq (lo := 0) (nx := nx) (H0 := H) (xs := nats .i64 ds) i5 (by omega) rfl (by omega) (by omega) (by simp [rowOk, V.isJunk, V.cells, V.cellOk]) (by decide) (by simp [zae]; omega) (by simp [zae]; omega) fun v2 H2 r1 _ _ _ => ?_
   obtain ⟨f1, f2, f3, f4, f5, f6, f7⟩ := fin (o + (x + y)) (by omega)
   rw [zdt (m := (o + (x + y)) % 10) (by first | rfl | (congr 1; omega))] at r1
   simp -dsimp -implicitDefEqProofs (disch := try exact zdL) only [go_sem, zao, zan, zah, zaz, zas, zac, hX, hY]
   exact ⟨(i + 1, (o + (x + y)) / 10, v2, H2, _, ds ++ [(o + (x + y)) % 10]), rfl, ⟨f1, f2, f3, f4, r1.same (fun _ _ => rfl) zdo, f5, (by simpa only [Nat.add_assoc] using f6)⟩, f7⟩
  ·have e1 := hqb hr
   simp -dsimp -implicitDefEqProofs (disch := try exact zdL) only [go_sem, zao, zan, zah, zaz, zas, zac, hX, hY]
   refine zaq (lo := 0) (nx := nx) (H0 := H) (xs := nats .i64 ds) i5 (by omega) rfl (by omega) (by omega) (by simp [rowOk, V.isJunk, V.cells, V.cellOk]) (by decide) (by simp [zae]; omega) (by simp [zae]; omega) fun v2 H2 r1 _ _ _ => ?_
   obtain ⟨f1, f2, f3, f4, f5, f6, f7⟩ := fin (o + x) (by omega)
   rw [zdt (m := (o + x) % 10) (by first | rfl | (congr 1; omega))] at r1
   simp -dsimp -implicitDefEqProofs (disch := try exact zdL) only [go_sem, zao, zan, zah, zaz, zas, zac, hX, hY]
   exact ⟨(i + 1, (o + x) / 10, v2, H2, _, ds ++ [(o + x) % 10]), rfl, ⟨f1, f2, f3, f4, r1.same (fun _ _ => rfl) zdo, f5, (by simpa only [Nat.add_assoc] using f6)⟩, f7⟩
  ·have e1 := hqa hq
   simp -dsimp -implicitDefEqProofs (disch := try exact zdL) only [go_sem, zao, zan, zah, zaz, zas, zac, hX, hY]
   refine zaq (lo := 0) (nx := nx) (H0 := H) (xs := nats .i64 ds) i5 (by omega) rfl (by omega) (by omega) (by simp [rowOk, V.isJunk, V.cells, V.cellOk]) (by decide) (by simp [zae]; omega) (by simp [zae]; omega) fun v2 H2 r1 _ _ _ => ?_
   obtain ⟨f1, f2, f3, f4, f5, f6, f7⟩ := fin (o + y) (by omega)
   rw [zdt (m := (o + y) % 10) (by first | rfl | (congr 1; omega))] at r1
   simp -dsimp -implicitDefEqProofs (disch := try exact zdL) only [go_sem, zao, zan, zah, zaz, zas, zac, hX, hY]
   exact ⟨(i + 1, (o + y) / 10, v2, H2, _, ds ++ [(o + y) % 10]), rfl, ⟨f1, f2, f3, f4, r1.same (fun _ _ => rfl) zdo, f5, (by simpa only [Nat.add_assoc] using f6)⟩, f7⟩
  ·have e1 := hqb hr
   have e2 := hqa hq
   simp -dsimp -implicitDefEqProofs (disch := try exact zdL) only [go_sem, zao, zan, zah, zaz, zas, zac, hX, hY]
   refine zaq (lo := 0) (nx := nx) (H0 := H) (xs := nats .i64 ds) i5 (by omega) rfl (by omega) (by omega) (by simp [rowOk, V.isJunk, V.cells, V.cellOk]) (by decide) (by simp [zae]; omega) (by simp [zae]; omega) fun v2 H2 r1 _ _ _ => ?_
   obtain ⟨f1, f2, f3, f4, f5, f6, f7⟩ := fin o (by omega)
   rw [zdt (m := o % 10) (by first | rfl | (congr 1; omega))] at r1
   simp -dsimp -implicitDefEqProofs (disch := try exact zdL) only [go_sem, zao, zan, zah, zaz, zas, zac, hX, hY]
   exact ⟨(i + 1, o / 10, v2, H2, _, ds ++ [o % 10]), rfl, ⟨f1, f2, f3, f4, r1.same (fun _ _ => rfl) zdo, f5, (by simpa only [Nat.add_assoc] using f6)⟩, f7⟩
 ·have e1 : a.drop i = [] := List.drop_eq_nil_of_le (by omega)
  have e2 : b.drop i = [] := List.drop_eq_nil_of_le (by omega)
  rw [e1, e2, show o = 0 by omega] at i7
  simp only [val, Nat.add_zero, Nat.mul_zero] at i7
  refine sgd ?_
  exact ⟨_, rfl, zdo, ds, i6, by omega, i7, i5.same (fun _ _ => rfl) zdo⟩
theorem subL10_abs {x y : Nat} (h : y ≤ x) : val 10 (subL 10 (digs 10 x) (digs 10 y) 0) = x - y := by
 have := subL_val d2 (digs 10 x) (digs 10 y) 0 (zbl d2 _) (zbl d2 _) (by omega) (zeq d2 h) (by rw [zaw d2, zaw d2]; omega)
 rw [zaw d2, zaw d2] at this
 omega
theorem ncmp_ge' {x y : Nat} : (0 ≤ ncmp x y) ↔ y ≤ x := by unfold ncmp; split <;> (try split) <;> omega
theorem r_add (x y : Int) (hx : dlim x ≤ 1099511627776) (hy : dlim y ≤ 1099511627776) : Ret pg za2 [DV x, DV y] (DV (x + y)) := by
 have lx := zbl d2 x.natAbs
 have ly := zbl d2 y.natAbs
 unfold dlim at hx hy
 refine gimbalref01_Int_Add.of rfl (W_b ?_)
 unfold gimbalref01_Int_Add.k gimbalref01_Int_Add.res Ot kp kd Oy Om Ol Oq ci
 by_cases hs : decide (x < 0) = decide (y < 0)
 ·obtain ⟨l, p1, p2, p3, p4⟩ := r_plus _ _ lx ly (by omega) (by omega)
  rw [zaw d2, zaw d2] at p3
  have hm := r_made (decide (x < 0)) l p1 (by omega)
  rw [p3] at hm
  have e : sg (decide (x < 0)) (x.natAbs + y.natAbs) = x + y := by
   unfold sg; split <;> simp_all <;> omega
  rw [e, hs] at hm
  simp -dsimp -implicitDefEqProofs (disch := try exact zdL) only [go_sem, zao, zan, zah, zaz, zas, zac, hs]
  refine zab p4 (by simp) ?_
  refine sgd ?_
  refine zab hm (by simp) ?_
  exact sgd trivial
 ·have hc := r_size x.natAbs y.natAbs (by omega) (by omega)
  simp -dsimp -implicitDefEqProofs (disch := try exact zdL) only [go_sem, zao, zan, zah, zaz, zas, zac, hs]
  refine zaa hc (by simp) ?_
  by_cases hge : y.natAbs ≤ x.natAbs
  ·have := ncmp_ge'.2 hge
   have hd := r_less _ _ lx ly (by omega) (by omega)
   have hm := r_made (decide (x < 0)) _ (subL_lt d2 _ (digs 10 y.natAbs) 0 lx) (by rw [ze9]; omega)
   rw [subL10_abs hge, show sg (decide (x < 0)) (x.natAbs - y.natAbs) = x + y by unfold sg; split <;> simp_all <;> omega] at hm
   refine sgd ?_
   refine zab hd (by simp) ?_
   refine sgd ?_
   refine zab hm (by simp) ?_
   exact sgd trivial
  ·have : ¬ 0 ≤ ncmp x.natAbs y.natAbs := fun h => hge (ncmp_ge'.1 h)
   have hd := r_less _ _ ly lx (by omega) (by omega)
   have hm := r_made (decide (y < 0)) _ (subL_lt d2 _ (digs 10 x.natAbs) 0 ly) (by rw [ze9]; omega)
   rw [subL10_abs (by omega), show sg (decide (y < 0)) (y.natAbs - x.natAbs) = x + y by unfold sg; split <;> simp_all <;> omega] at hm
   refine sgd ?_
   refine zab hd (by simp) ?_
   refine sgd ?_
   refine zab hm (by simp) ?_
   exact sgd trivial
theorem r_minus (x : Int) (hx : dlim x ≤ 1099511627776) : Ret pg zb3 [DV x] (DV (-x)) := by
 refine gimbalref01_Int_Minus.of rfl (W_b ?_)
 unfold gimbalref01_Int_Minus.k gimbalref01_Int_Minus.res Ot kp Oy Ol Oq
 unfold dlim at hx
 have hm := r_made (!decide (x < 0)) (digs 10 x.natAbs) (zbl d2 _) (by omega)
 rw [zaw d2, show sg (!decide (x < 0)) x.natAbs = -x by unfold sg; split <;> simp_all <;> omega] at hm
 refine sgd ?_
 refine zaa hm (by simp) ?_
 exact sgd trivial
theorem r_sub (x y : Int) (hx : dlim x ≤ 1099511627776) (hy : dlim y ≤ 1099511627776) : Ret pg zbj [DV x, DV y] (DV (x - y)) := by
 have hn := r_minus y hy
 have ha := r_add x (-y) hx (by rw [dlim_neg]; exact hy)
 refine gimbalref01_Int_Sub.of rfl (W_b ?_)
 unfold gimbalref01_Int_Sub.k gimbalref01_Int_Sub.res Ot kp kd Oy OL
 refine sgd ?_
 refine zab hn (by simp) ?_
 refine sgd ?_
 refine zab ha (by simp) ?_
 refine sgd ?_
 rfl
theorem r_cmp (x y : Int) (hx : dlim x ≤ 1099511627776) (hy : dlim y ≤ 1099511627776) : Ret pg zbk [DV x, DV y] (.int .i64 (x - y).sign) := by
 unfold dlim at hx hy
 have hc := r_size x.natAbs y.natAbs (by omega) (by omega)
 refine gimbalref01_Int_Cmp.of rfl (W_b ?_)
 unfold gimbalref01_Int_Cmp.k gimbalref01_Int_Cmp.res Ot kp Om Ol Oq Oc
 have sp : ∀ z : Int, 0 < z → z.sign = 1 := fun z h => Int.sign_eq_one_of_pos h
 have sn : ∀ z : Int, z < 0 → z.sign = -1 := fun z h => Int.sign_eq_neg_one_of_neg h
 by_cases hx0 : x < 0 <;> by_cases hy0 : y < 0
 ·refine sgd ?_
  refine zaa hc (by simp) ?_
  have : IntKind.i64.wrap (0 - ncmp x.natAbs y.natAbs) = (x - y).sign := by
   unfold ncmp
   split
   ·rw [sp _ (by omega)]; rfl
   ·split
    ·rw [show x - y = 0 by omega]; rfl
    ·rw [sn _ (by omega)]; rfl
  simp -dsimp -implicitDefEqProofs (disch := try exact zdL) only [go_sem, zao, zan, zah, zaz, zas, zac, this]
 ·simp -dsimp -implicitDefEqProofs (disch := try exact zdL) only [go_sem, zao, zan, zah, zaz, zas, zac, sn (x - y) (by omega)]
 ·simp -dsimp -implicitDefEqProofs (disch := try exact zdL) only [go_sem, zao, zan, zah, zaz, zas, zac, sp (x - y) (by omega)]
 ·refine sgd ?_
  refine zaa hc (by simp) ?_
  have : ncmp x.natAbs y.natAbs = (x - y).sign := by
   unfold ncmp
   split
   ·rw [sn _ (by omega)]
   ·split
    ·rw [show x - y = 0 by omega]; rfl
    ·rw [sp _ (by omega)]
  simp -dsimp -implicitDefEqProofs (disch := try exact zdL) only [go_sem, zao, zan, zah, zaz, zas, zac, this]
theorem r_string (x : Int) (hx : dlim x ≤ 1099511627776) : Ret pg zbg [DV x] (.str (decS x)) := by
 refine gimbalref01_Int_String.of rfl (W_b ?_)
 unfold gimbalref01_Int_String.k gimbalref01_Int_String.res Ot kp Om Ol Oq Oi On ci
 by_cases h0 : x = 0
 ·subst h0
  have e : digs 10 (Int.natAbs 0) = [] := zav _
  simp -dsimp -implicitDefEqProofs (disch := try exact zdL) only [go_sem, zao, zan, zah, zaz, zas, zac, e, List.length_nil]
  rfl
 ·have hne : (digs 10 x.natAbs).length ≠ 0 := by rw [zdq d2 (by omega)]; simp
  have hlen : (digs 10 x.natAbs).length ≤ 1099511627776 := hx
  have lx := zbl d2 x.natAbs
  have hdec : decL x = (if x < 0 then [45] else []) ++ ((digs 10 x.natAbs).map (48 + ·)).reverse := by rw [decL, if_neg h0]
  generalize hD : digs 10 x.natAbs = D at *
  by_cases hn : x < 0
  ·rw [if_pos hn] at hdec
   simp -dsimp -implicitDefEqProofs (disch := try exact zdL) only [go_sem, zao, zan, zah, zaz, zas, zac, hD]
   refine zaq (lo := 0) (nx := 10) (H0 := fun _ => none) (xs := []) (Row.nil _ _ _ _) (by omega) rfl (by omega) (by omega) (by simp [rowOk, V.isJunk, V.cells, V.cellOk]) (by decide) (by simp) (by simp) fun v1 H1 r0 _ _ _ => ?_
   simp -dsimp -implicitDefEqProofs (disch := try exact zdL) only [go_sem, zao, zan, zah, zaz, zas, zac, hD]
   refine zap (T := Nat × V × Hp × Nat) (fun t => ⟨E [(1, .pp (DV x)), (3, t.2.1), (4, .int .i64 ((t.1 : Int) - 1))], t.2.2.1, t.2.2.2, t.2.2.2⟩)
    (fun t => t.1 ≤ D.length ∧ Row 0 t.2.2.1 t.2.2.2 t.2.1 1 (nats .u8 ([45] ++ ((D.map (48 + ·)).drop t.1).reverse))) (fun t => t.1) (D.length, _, _, _) (by dsimp only; rw [zcg (n := D.length) (by omega)]) ⟨Nat.le_refl _, by dsimp only; rw [List.drop_eq_nil_of_le (by simp)]; exact r0.same (fun _ _ => rfl) (by omega)⟩ ?_
   rintro ⟨j, v, H, nx⟩ ⟨i1, i2⟩
   dsimp only at i1 i2
   by_cases hj : j = 0
   ·subst hj
    rw [List.drop_zero, ← hdec] at i2
    refine sgd ?_
    refine zfo (effV_b2s i2.slOf) ?_
    refine sgd ?_
    rfl
   ·have g : D.getD (j - 1) 0 < 10 := zbt lx (by decide)
    have hd : (D.map (48 + ·)).drop (j - 1) = (48 + D.getD (j - 1) 0) :: (D.map (48 + ·)).drop j := by
     rw [zcu (by simp; omega), show j - 1 + 1 = j by omega]
     congr 1
     simp [List.getD_eq_getElem?_getD, show j - 1 < D.length by omega]
    generalize hX : D.getD (j - 1) 0 = z at *
    have hm : (48 + z) % 256 = 48 + z := by omega
    simp -dsimp -implicitDefEqProofs (disch := try exact zdL) only [go_sem, zao, zan, zah, zaz, zas, zac, hD, hX, hm]
    refine zaq (lo := 0) (nx := nx) (H0 := H) (xs := nats .u8 ([45] ++ ((D.map (48 + ·)).drop j).reverse)) i2 (by omega) rfl (by omega) (by omega) (by simp [rowOk, V.isJunk, V.cells, V.cellOk]) (by decide) (by simp [zae]; omega) (by simp [zae]; omega) fun v2 H2 r1 _ _ _ => ?_
    rw [zdt rfl] at r1
    simp -dsimp -implicitDefEqProofs (disch := try exact zdL) only [go_sem, zao, zan, zah, zaz, zas, zac, hD, hX]
    refine ⟨(j - 1, v2, H2, _), rfl, ⟨zdo, ?_⟩, zdo⟩
    dsimp only
    rw [hd, List.reverse_cons]
    exact r1.same (fun _ _ => rfl) (by omega)
  ·rw [if_neg hn] at hdec
   simp -dsimp -implicitDefEqProofs (disch := try exact zdL) only [go_sem, zao, zan, zah, zaz, zas, zac, hD]
   refine zap (T := Nat × V × Hp × Nat) (fun t => ⟨E [(1, .pp (DV x)), (3, t.2.1), (4, .int .i64 ((t.1 : Int) - 1))], t.2.2.1, t.2.2.2, t.2.2.2⟩)
    (fun t => t.1 ≤ D.length ∧ Row 0 t.2.2.1 t.2.2.2 t.2.1 1 (nats .u8 ([] ++ ((D.map (48 + ·)).drop t.1).reverse))) (fun t => t.1) (D.length, _, _, _) (by dsimp only; rw [zcg (n := D.length) (by omega)]) ⟨Nat.le_refl _, by dsimp only; rw [List.drop_eq_nil_of_le (by simp)]; exact Row.nil _ _ _ _⟩ ?_
   rintro ⟨j, v, H, nx⟩ ⟨i1, i2⟩
   dsimp only at i1 i2
   by_cases hj : j = 0
   ·subst hj
    rw [List.drop_zero, ← hdec] at i2
    refine sgd ?_
    refine zfo (effV_b2s i2.slOf) ?_
    refine sgd ?_
    rfl
   ·have g : D.getD (j - 1) 0 < 10 := zbt lx (by decide)
    have hd : (D.map (48 + ·)).drop (j - 1) = (48 + D.getD (j - 1) 0) :: (D.map (48 + ·)).drop j := by
     rw [zcu (by simp; omega), show j - 1 + 1 = j by omega]
     congr 1
     simp [List.getD_eq_getElem?_getD, show j - 1 < D.length by omega]
    generalize hX : D.getD (j - 1) 0 = z at *
    have hm : (48 + z) % 256 = 48 + z := by omega
    simp -dsimp -implicitDefEqProofs (disch := try exact zdL) only [go_sem, zao, zan, zah, zaz, zas, zac, hD, hX, hm]
    refine zaq (lo := 0) (nx := nx) (H0 := H) (xs := nats .u8 ([] ++ ((D.map (48 + ·)).drop j).reverse)) i2 (by omega) rfl (by omega) (by omega) (by simp [rowOk, V.isJunk, V.cells, V.cellOk]) (by decide) (by simp [zae]; omega) (by simp [zae]; omega) fun v2 H2 r1 _ _ _ => ?_
    rw [zdt rfl] at r1
    simp -dsimp -implicitDefEqProofs (disch := try exact zdL) only [go_sem, zao, zan, zah, zaz, zas, zac, hD, hX]
    refine ⟨(j - 1, v2, H2, _), rfl, ⟨zdo, ?_⟩, zdo⟩
    dsimp only
    rw [hd, List.reverse_cons]
    exact r1.same (fun _ _ => rfl) (by omega)
end Go.Gim
