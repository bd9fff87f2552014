import Derived.Test.YtjkjpjneeioeiaaGreatLR1
set_option linter.unusedSimpArgs false
set_option linter.unusedVariables false
/- The document's whole numbers: made of machine numbers, sums and differences of digits, texts. -/
set_option maxRecDepth 100000
namespace Go.Gim
open Go.Proofs
attribute [local go_sem] IntWalk.i64_in wu64 wu32 wu8 Nat.mod_eq_of_lt shr32 shr63 shl32 or32 quo64 quo32 zfk remk zct zcs zd1 zd0 zb5 Nat.add_assoc za7 lt_ne gt_ne zdu dlt_t dlt_f dle_t dle_f deq_t deq_f zby zec zfd zbf zbk zbc zba zcu zcw zcx zdl zae List.length_set ge_iff_le gt_iff_lt Int.toNat_natCast zcf zdm zcj zdp zdn zcr zb2 zfj zb3 zb4 zdt
theorem zen {k : IntKind} {l : List Nat} {m : Nat} {e : V} (h : e = .int k (m : Int)) : nats k l ++ [e] = nats k (l ++ [m]) := by subst h; simp [nats]
theorem val_drop (B : Nat) (l : List Nat) (i : Nat) : val B (l.drop i) = l.getD i 0 + B * val B (l.drop (i + 1)) := by
 rw [val_cons' B (l.drop i), zjd, zig]
theorem zi2 : DV 0 = .agg [.bool false, .sl []] := by simp [DV, zbe, nats]
theorem r_made_nil (b : Bool) : Ret pg zav [.bool b, .nil] (DV 0) := by
 refine gimbalref01_made.of rfl (W_b ?_)
 unfold gimbalref01_made.k gimbalref01_made.res Ot kp Oh Oy Om On ci
 refine sgd ?_
 refine zap (T := Nat) (fun t => ⟨E [(0, .bool b), (1, .nil), (4, .ptr 0 1 0 0), (5, .int .i64 0)], Hp.upd (fun _ => none) 0 (some ⟨[.agg [.bool false, .nil]], 2⟩), t, t⟩) (fun t => 0 < t) (fun t => 0) _ rfl (by omega) ?_
 intro nx h0
 have e1 : redV (.slc 1 false true false) [.nil, .int .i64 0] = some .nil := rfl
 cases b <;> simp -dsimp -implicitDefEqProofs (disch := try exact zdL) only [go_sem, zaj, zai, zaf, zax, zaq, zac, e1, zi2]
theorem rem10i (m : Int) : binV .rem (.int .i64 m) (.int .i64 10) = some (.int .i64 (m.tmod 10)) := by rw [binV_rem, if_neg (by decide)]
theorem quo10i {m : Int} (h : -9223372036854775808 ≤ m ∧ m ≤ 9223372036854775807) : binV .quo (.int .i64 m) (.int .i64 10) = some (.int .i64 (m.tdiv 10)) := by
 rw [binV_quo, if_neg (by decide)]
 have := tdiv_abs m
 generalize m.tdiv 10 = q at *
 rw [IntWalk.i64_in _ (by omega)]
theorem r_of (n : Int) (h : -9223372036854775808 ≤ n ∧ n ≤ 9223372036854775807) : Ret pg zag [.int .i64 n] (DV n) := by
 refine gimbalref01_Of.of rfl (W_b ?_)
 unfold gimbalref01_Of.k gimbalref01_Of.res Ot kp Oy Om ci
 have hlen := zbx h
 unfold dlim at hlen
 refine sgd ?_
 refine zap (T := Int × V × Hp × Nat × List Nat) (fun t => ⟨E [(0, .int .i64 t.1), (2, .ptr 0 1 0 0), (3, t.2.1), (4, .bool (decide (n < 0)))], t.2.2.1, t.2.2.2.1, t.2.2.2.1⟩)
  (fun t => 1 < t.2.2.2.1 ∧ (-9223372036854775808 ≤ t.1 ∧ t.1 ≤ 9223372036854775807) ∧ t.2.2.1 0 = some ⟨[.agg [.bool false, .nil]], 2⟩ ∧ Row 1 t.2.2.1 t.2.2.2.1 t.2.1 1 (nats .i64 t.2.2.2.2) ∧ t.2.2.2.2 ++ digs 10 t.1.natAbs = digs 10 n.natAbs) (fun t => t.1.natAbs) (n, .nil, _, _, []) rfl ⟨zdo, h, rfl, Row.nil _ _ _ _, by simp⟩ ?_
 rintro ⟨m, v, H, nx, ds⟩ ⟨i0, i1, i2, i3, i4⟩
 dsimp only at i0 i1 i2 i3 i4
 have hl : ds.length ≤ 20 := by rw [← i4, List.length_append] at hlen; omega
 by_cases hm : m = 0
 ·subst hm
  rw [Int.natAbs_zero, zbe, List.append_nil] at i4
  subst i4
  have hmd := r_made (decide (n < 0)) (digs 10 n.natAbs) (zbp d2 _) (by omega)
  rw [zau d2, show sg (decide (n < 0)) n.natAbs = n by unfold sg; split <;> simp_all <;> omega] at hmd
  rcases i3 with ⟨rfl, hd⟩ | ⟨b, rfl, hb1, hb2, hb3⟩
  ·have : n = 0 := by
    have := congrArg List.length hd
    rw [zae] at this
    have := (zgt d2).1 (List.length_eq_zero_iff.1 this)
    omega
   subst this
   refine sgd ?_
   refine zaa (r_made_nil _) (by simp) ?_
   simp -dsimp -implicitDefEqProofs (disch := try exact zdL) only [go_sem, zaj, zai, zaf, zax, zaq, zac, i2]
  ·have hb0 : (0 = b) = False := by simp; omega
   refine sgd ?_
   refine zep b (nats .i64 (digs 10 n.natAbs)) hb3 zic (by simp [V.sub, fz1, zae, sub_DV, sub_agg]) hmd (by simp) ?_
   simp -dsimp -implicitDefEqProofs (disch := try exact zdL) only [go_sem, zaj, zai, zaf, zax, zaq, zac, i2, hb0]
 ·have hs := digs_step (v := m.natAbs) (by omega)
  rw [hs] at i4
  have e1 := tmod_abs m
  have e2 := tdiv_abs m
  have e3 : m.natAbs / 10 < m.natAbs := Nat.div_lt_self (by omega) (by decide)
  have q1 := quo10i i1
  have q2 := rem10i m
  generalize m.tmod 10 = c at *
  generalize m.tdiv 10 = q at *
  have e4 : c.natAbs < 10 := by omega
  by_cases hc : c < 0
  ·simp -dsimp -implicitDefEqProofs (disch := try exact zdL) only [go_sem, zaj, zai, zaf, zax, zaq, zac, q1, q2]
   refine zaz (lo := 1) (nx := nx) (H0 := H) (xs := nats .i64 ds) i3 (by omega) rfl (by omega) (by omega) (by simp [rowOk, V.isJunk, V.cells, V.cellOk]) (by decide) (by simp [zae]; omega) (by simp [zae]; omega) fun v2 H2 r1 _ _ r4 => ?_
   rw [zen (m := m.natAbs % 10) (by congr 1; omega)] at r1
   simp -dsimp -implicitDefEqProofs (disch := try exact zdL) only [go_sem, zaj, zai, zaf, zax, zaq, zac, q1, q2]
   exact ⟨(q, v2, H2, _, ds ++ [m.natAbs % 10]), rfl, ⟨zdo, zdo, (r4 0 (by omega)).trans i2, r1.same (fun _ _ => rfl) zdo, by rw [List.append_assoc, e2]; exact i4⟩, zdo⟩
  ·simp -dsimp -implicitDefEqProofs (disch := try exact zdL) only [go_sem, zaj, zai, zaf, zax, zaq, zac, q1, q2]
   refine zaz (lo := 1) (nx := nx) (H0 := H) (xs := nats .i64 ds) i3 (by omega) rfl (by omega) (by omega) (by simp [rowOk, V.isJunk, V.cells, V.cellOk]) (by decide) (by simp [zae]; omega) (by simp [zae]; omega) fun v2 H2 r1 _ _ r4 => ?_
   rw [zen (m := m.natAbs % 10) (by congr 1; omega)] at r1
   simp -dsimp -implicitDefEqProofs (disch := try exact zdL) only [go_sem, zaj, zai, zaf, zax, zaq, zac, q1, q2]
   exact ⟨(q, v2, H2, _, ds ++ [m.natAbs % 10]), rfl, ⟨zdo, zdo, (r4 0 (by omega)).trans i2, r1.same (fun _ _ => rfl) zdo, by rw [List.append_assoc, e2]; exact i4⟩, zdo⟩
theorem r_less (a b : List Nat) (ha : ∀ x ∈ a, x < 10) (hb : ∀ x ∈ b, x < 10) (hl : a.length ≤ 1099511627776) (hlb : b.length ≤ 1099511627776) : Ret pg zdz [.sl (nats .i64 a), .sl (nats .i64 b)] (.sl (nats .i64 (subL 10 a b 0))) := by
 refine gimbalref01_less.of rfl (W_b ?_)
 unfold gimbalref01_less.k gimbalref01_less.res Ot kp Om Ol Oi Oc On ci
 refine sgd ?_
 refine zap (T := Nat × Nat × V × Hp × Nat × List Nat) (fun t => ⟨E [(0, .sl (nats .i64 a)), (1, .sl (nats .i64 b)), (5, t.2.2.1), (6, .int .i64 t.2.1), (7, .int .i64 t.1)], t.2.2.2.1, t.2.2.2.2.1, t.2.2.2.2.1⟩)
  (fun t => t.2.2.2.2.2.length = t.1 ∧ t.1 ≤ a.length ∧ t.2.1 ≤ 1 ∧ Row 0 t.2.2.2.1 t.2.2.2.2.1 t.2.2.1 1 (nats .i64 t.2.2.2.2.2) ∧ t.2.2.2.2.2 ++ subL 10 (a.drop t.1) (b.drop t.1) t.2.1 = subL 10 a b 0) (fun t => a.length - t.1) (0, 0, .nil, _, _, []) rfl ⟨rfl, zdo, zdo, Row.nil _ _ _ _, by simp⟩ ?_
 rintro ⟨i, o, v, H, nx, ds⟩ ⟨i1, i2, i3, i4, i5⟩
 dsimp only at i1 i2 i3 i4 i5
 have g1 : a.getD i 0 < 10 := zbw (i := i) ha (by decide)
 have g2 : b.getD i 0 < 10 := zbw (i := i) hb (by decide)
 by_cases hi : i < a.length
 ·rw [zdg hi, subL, zjd, zig] at i5
  have hq0 : ¬ i < b.length → b.getD i 0 = 0 := fun hq => by simp [List.getD_eq_getElem?_getD, List.getElem?_eq_none (Nat.le_of_not_lt hq)]
  generalize hX : a.getD i 0 = x at *
  generalize hY : b.getD i 0 = y at *
  have hlen := congrArg List.length i5
  simp only [zgd, List.length_append] at hlen
  by_cases hlt : x < y + o
  ·rw [if_pos hlt] at i5
   by_cases hq : i < b.length
   ·simp -dsimp -implicitDefEqProofs (disch := try exact zdL) only [go_sem, zaj, zai, zaf, zax, zaq, zac, hX, hY]
    refine zaz (lo := 0) (nx := nx) (H0 := H) (xs := nats .i64 ds) i4 (by omega) rfl (by omega) (by omega) (by simp [rowOk, V.isJunk, V.cells, V.cellOk]) (by decide) (by simp [zae]; omega) (by simp [zae]; omega) fun v2 H2 r1 _ _ _ => ?_
    rw [zen (m := x + 10 - y - o) (by congr 1; omega)] at r1
    simp -dsimp -implicitDefEqProofs (disch := try exact zdL) only [go_sem, zaj, zai, zaf, zax, zaq, zac, hX, hY]
    exact ⟨(i + 1, 1, v2, H2, _, ds ++ [x + 10 - y - o]), rfl, ⟨by simp [i1], zdo, zdo, r1.same (fun _ _ => rfl) zdo, by rw [List.append_assoc]; exact i5⟩, zdo⟩
   ·have := hq0 hq
    simp -dsimp -implicitDefEqProofs (disch := try exact zdL) only [go_sem, zaj, zai, zaf, zax, zaq, zac, hX, hY]
    refine zaz (lo := 0) (nx := nx) (H0 := H) (xs := nats .i64 ds) i4 (by omega) rfl (by omega) (by omega) (by simp [rowOk, V.isJunk, V.cells, V.cellOk]) (by decide) (by simp [zae]; omega) (by simp [zae]; omega) fun v2 H2 r1 _ _ _ => ?_
    rw [zen (m := x + 10 - y - o) (by congr 1; omega)] at r1
    simp -dsimp -implicitDefEqProofs (disch := try exact zdL) only [go_sem, zaj, zai, zaf, zax, zaq, zac, hX, hY]
    exact ⟨(i + 1, 1, v2, H2, _, ds ++ [x + 10 - y - o]), rfl, ⟨by simp [i1], zdo, zdo, r1.same (fun _ _ => rfl) zdo, by rw [List.append_assoc]; exact i5⟩, zdo⟩
  ·rw [if_neg hlt] at i5
   by_cases hq : i < b.length
   ·simp -dsimp -implicitDefEqProofs (disch := try exact zdL) only [go_sem, zaj, zai, zaf, zax, zaq, zac, hX, hY]
    refine zaz (lo := 0) (nx := nx) (H0 := H) (xs := nats .i64 ds) i4 (by omega) rfl (by omega) (by omega) (by simp [rowOk, V.isJunk, V.cells, V.cellOk]) (by decide) (by simp [zae]; omega) (by simp [zae]; omega) fun v2 H2 r1 _ _ _ => ?_
    rw [zen (m := x - y - o) (by congr 1; omega)] at r1
    simp -dsimp -implicitDefEqProofs (disch := try exact zdL) only [go_sem, zaj, zai, zaf, zax, zaq, zac, hX, hY]
    exact ⟨(i + 1, 0, v2, H2, _, ds ++ [x - y - o]), rfl, ⟨by simp [i1], zdo, zdo, r1.same (fun _ _ => rfl) zdo, by rw [List.append_assoc]; exact i5⟩, zdo⟩
   ·have := hq0 hq
    simp -dsimp -implicitDefEqProofs (disch := try exact zdL) only [go_sem, zaj, zai, zaf, zax, zaq, zac, hX, hY]
    refine zaz (lo := 0) (nx := nx) (H0 := H) (xs := nats .i64 ds) i4 (by omega) rfl (by omega) (by omega) (by simp [rowOk, V.isJunk, V.cells, V.cellOk]) (by decide) (by simp [zae]; omega) (by simp [zae]; omega) fun v2 H2 r1 _ _ _ => ?_
    rw [zen (m := x - y - o) (by congr 1; omega)] at r1
    simp -dsimp -implicitDefEqProofs (disch := try exact zdL) only [go_sem, zaj, zai, zaf, zax, zaq, zac, hX, hY]
    exact ⟨(i + 1, 0, v2, H2, _, ds ++ [x - y - o]), rfl, ⟨by simp [i1], zdo, zdo, r1.same (fun _ _ => rfl) zdo, by rw [List.append_assoc]; exact i5⟩, zdo⟩
 ·have he : i = a.length := by omega
  subst he
  rw [List.drop_length, subL, List.append_nil] at i5
  subst i5
  refine sgd ?_
  rw [i4.frz (zac _ _ _ _)]
  rfl
end Go.Gim
/- The document's whole numbers: sums, differences, order, texts. -/
set_option maxRecDepth 100000
namespace Go.Gim
open Go.Proofs
attribute [local go_sem] IntWalk.i64_in wu64 wu32 wu8 Nat.mod_eq_of_lt shr32 shr63 shl32 or32 quo64 quo32 zfk remk zct zcs zd1 zd0 zb5 Nat.add_assoc za7 lt_ne gt_ne zdu dlt_t dlt_f dle_t dle_f deq_t deq_f zby zec zfd zbf zbk zbc zba zcu zcw zcx zdl zae List.length_set ge_iff_le gt_iff_lt Int.toNat_natCast zcf zdm zcj zdp zdn zcr zb2 zfj zb3 zb4 zdt
theorem r_plus (a b : List Nat) (ha : ∀ x ∈ a, x < 10) (hb : ∀ x ∈ b, x < 10) (hla : a.length ≤ 1099511627776) (hlb : b.length ≤ 1099511627776) :
  ∃ l : List Nat, (∀ x ∈ l, x < 10) ∧ l.length ≤ max a.length b.length + 1 ∧ val 10 l = val 10 a + val 10 b ∧ Ret pg ze0 [.sl (nats .i64 a), .sl (nats .i64 b)] (.sl (nats .i64 l)) := by
 suffices h : ∃ r H' n', (∃ l : List Nat, (∀ x ∈ l, x < 10) ∧ l.length ≤ max a.length b.length + 1 ∧ val 10 l = val 10 a + val 10 b ∧ Row 0 H' n' r 1 (nats .i64 l)) ∧ RetG pg ze0 [.sl (nats .i64 a), .sl (nats .i64 b)] (fun _ => none) 0 r H' n' by
  obtain ⟨r, H', n', ⟨l, h1, h2, h3, h4⟩, h⟩ := h
  exact ⟨l, h1, h2, h3, h.toRet (h4.frz (zac _ _ _ _))⟩
 refine gimbalref01_plus.ofG rfl (W_b ?_)
 unfold gimbalref01_plus.k gimbalref01_plus.res Ot kp Og Om Ol Oi Oc On ci
 refine sgd ?_
 refine zap (T := Nat × Nat × V × Hp × Nat × List Nat) (fun t => ⟨E [(0, .sl (nats .i64 a)), (1, .sl (nats .i64 b)), (5, t.2.2.1), (6, .int .i64 t.2.1), (7, .int .i64 t.1)], t.2.2.2.1, t.2.2.2.2.1, t.2.2.2.2.1⟩)
  (fun t => t.2.2.2.2.2.length = t.1 ∧ t.1 ≤ max a.length b.length + 1 ∧ t.2.1 ≤ 1 ∧ (max a.length b.length < t.1 → t.2.1 = 0) ∧ Row 0 t.2.2.2.1 t.2.2.2.2.1 t.2.2.1 1 (nats .i64 t.2.2.2.2.2) ∧ (∀ x ∈ t.2.2.2.2.2, x < 10) ∧ val 10 t.2.2.2.2.2 + 10 ^ t.1 * (val 10 (a.drop t.1) + val 10 (b.drop t.1) + t.2.1) = val 10 a + val 10 b) (fun t => 2 * (max a.length b.length + 1 - t.1) + t.2.1) (0, 0, .nil, _, _, []) rfl ⟨rfl, zdo, zdo, fun _ => rfl, Row.nil _ _ _ _, by simp, by simp [val]⟩ ?_
 rintro ⟨i, o, v, H, nx, ds⟩ ⟨i1, i2, i3, i4, i5, i6, i7⟩
 dsimp only at i1 i2 i3 i4 i5 i6 i7
 have g1 : a.getD i 0 < 10 := zbw (i := i) ha (by decide)
 have g2 : b.getD i 0 < 10 := zbw (i := i) hb (by decide)
 have hqa : ¬ i < a.length → a.getD i 0 = 0 := fun hq => by simp [List.getD_eq_getElem?_getD, List.getElem?_eq_none (Nat.le_of_not_lt hq)]
 have hqb : ¬ i < b.length → b.getD i 0 = 0 := fun hq => by simp [List.getD_eq_getElem?_getD, List.getElem?_eq_none (Nat.le_of_not_lt hq)]
 by_cases hd : i < a.length ∨ i < b.length ∨ 0 < o
 ·rw [val_drop 10 a i, val_drop 10 b i] at i7
  generalize hX : a.getD i 0 = x at *
  generalize hY : b.getD i 0 = y at *
  have fin : ∀ s, s = x + y + o → (ds ++ [s % 10]).length = i + 1 ∧ i + 1 ≤ max a.length b.length + 1 ∧ s / 10 ≤ 1 ∧ (max a.length b.length < i + 1 → s / 10 = 0) ∧ (∀ x ∈ ds ++ [s % 10], x < 10) ∧ val 10 (ds ++ [s % 10]) + 10 ^ (i + 1) * (val 10 (a.drop (i + 1)) + val 10 (b.drop (i + 1)) + s / 10) = val 10 a + val 10 b ∧ 2 * (max a.length b.length + 1 - (i + 1)) + s / 10 < 2 * (max a.length b.length + 1 - i) + o := fun s hs => by
   refine ⟨by simp [i1], by omega, by omega, fun h => ?_, fun z hz => ?_, ?_, ?_⟩
   ·by_cases h1 : max a.length b.length < i
    ·omega
    ·have h2 := hqa (by omega); have h3 := hqb (by omega); omega
   ·rcases List.mem_append.1 hz with hz | hz
    ·exact i6 z hz
    ·simp at hz; omega
   ·rw [← i7, zeq, i1, Nat.add_assoc, Nat.pow_succ]
    simp only [val, Nat.mul_zero, Nat.add_zero]
    congr 1
    rw [Nat.mul_assoc, ← Nat.mul_add]
    congr 1
    have := Nat.mod_add_div s 10
    omega
   ·omega
  have hh : max a.length b.length ≤ 1099511627776 := by omega
  by_cases hq : i < a.length <;> by_cases hr : i < b.length
  ·simp -dsimp -implicitDefEqProofs (disch := try exact zdL) only [go_sem, zaj, zai, zaf, zax, zaq, zac, hX, hY]
   refine zaz (lo := 0) (nx := nx) (H0 := H) (xs := nats .i64 ds) i5 (by omega) rfl (by omega) (by omega) (by simp [rowOk, V.isJunk, V.cells, V.cellOk]) (by decide) (by simp [zae]; omega) (by simp [zae]; omega) fun v2 H2 r1 _ _ _ => ?_
   obtain ⟨f1, f2, f3, f4, f5, f6, f7⟩ := fin (o + (x + y)) (by omega)
   rw [zen (m := (o + (x + y)) % 10) (by first | rfl | (congr 1; omega))] at r1
   simp -dsimp -implicitDefEqProofs (disch := try exact zdL) only [go_sem, zaj, zai, zaf, zax, zaq, zac, hX, hY]
   exact ⟨(i + 1, (o + (x + y)) / 10, v2, H2, _, ds ++ [(o + (x + y)) % 10]), rfl, ⟨f1, f2, f3, f4, r1.same (fun _ _ => rfl) zdo, f5, (by simpa only [Nat.add_assoc] using f6)⟩, f7⟩
  ·have e1 := hqb hr
   simp -dsimp -implicitDefEqProofs (disch := try exact zdL) only [go_sem, zaj, zai, zaf, zax, zaq, zac, hX, hY]
   refine zaz (lo := 0) (nx := nx) (H0 := H) (xs := nats .i64 ds) i5 (by omega) rfl (by omega) (by omega) (by simp [rowOk, V.isJunk, V.cells, V.cellOk]) (by decide) (by simp [zae]; omega) (by simp [zae]; omega) fun v2 H2 r1 _ _ _ => ?_
   obtain ⟨f1, f2, f3, f4, f5, f6, f7⟩ := fin (o + x) (by omega)
   rw [zen (m := (o + x) % 10) (by first | rfl | (congr 1; omega))] at r1
   simp -dsimp -implicitDefEqProofs (disch := try exact zdL) only [go_sem, zaj, zai, zaf, zax, zaq, zac, hX, hY]
   exact ⟨(i + 1, (o + x) / 10, v2, H2, _, ds ++ [(o + x) % 10]), rfl, ⟨f1, f2, f3, f4, r1.same (fun _ _ => rfl) zdo, f5, (by simpa only [Nat.add_assoc] using f6)⟩, f7⟩
  ·have e1 := hqa hq
   simp -dsimp -implicitDefEqProofs (disch := try exact zdL) only [go_sem, zaj, zai, zaf, zax, zaq, zac, hX, hY]
   refine zaz (lo := 0) (nx := nx) (H0 := H) (xs := nats .i64 ds) i5 (by omega) rfl (by omega) (by omega) (by simp [rowOk, V.isJunk, V.cells, V.cellOk]) (by decide) (by simp [zae]; omega) (by simp [zae]; omega) fun v2 H2 r1 _ _ _ => ?_
   obtain ⟨f1, f2, f3, f4, f5, f6, f7⟩ := fin (o + y) (by omega)
   rw [zen (m := (o + y) % 10) (by first | rfl | (congr 1; omega))] at r1
   simp -dsimp -implicitDefEqProofs (disch := try exact zdL) only [go_sem, zaj, zai, zaf, zax, zaq, zac, hX, hY]
   exact ⟨(i + 1, (o + y) / 10, v2, H2, _, ds ++ [(o + y) % 10]), rfl, ⟨f1, f2, f3, f4, r1.same (fun _ _ => rfl) zdo, f5, (by simpa only [Nat.add_assoc] using f6)⟩, f7⟩
  ·have e1 := hqb hr
   have e2 := hqa hq
   simp -dsimp -implicitDefEqProofs (disch := try exact zdL) only [go_sem, zaj, zai, zaf, zax, zaq, zac, hX, hY]
   refine zaz (lo := 0) (nx := nx) (H0 := H) (xs := nats .i64 ds) i5 (by omega) rfl (by omega) (by omega) (by simp [rowOk, V.isJunk, V.cells, V.cellOk]) (by decide) (by simp [zae]; omega) (by simp [zae]; omega) fun v2 H2 r1 _ _ _ => ?_
   obtain ⟨f1, f2, f3, f4, f5, f6, f7⟩ := fin o (by omega)
   rw [zen (m := o % 10) (by first | rfl | (congr 1; omega))] at r1
   simp -dsimp -implicitDefEqProofs (disch := try exact zdL) only [go_sem, zaj, zai, zaf, zax, zaq, zac, hX, hY]
   exact ⟨(i + 1, o / 10, v2, H2, _, ds ++ [o % 10]), rfl, ⟨f1, f2, f3, f4, r1.same (fun _ _ => rfl) zdo, f5, (by simpa only [Nat.add_assoc] using f6)⟩, f7⟩
 ·have e1 : a.drop i = [] := List.drop_eq_nil_of_le (by omega)
  have e2 : b.drop i = [] := List.drop_eq_nil_of_le (by omega)
  rw [e1, e2, show o = 0 by omega] at i7
  simp only [val, Nat.add_zero, Nat.mul_zero] at i7
  refine sgd ?_
  exact ⟨_, rfl, zdo, ds, i6, by omega, i7, i5.same (fun _ _ => rfl) zdo⟩
theorem subL10_abs {x y : Nat} (h : y ≤ x) : val 10 (subL 10 (digs 10 x) (digs 10 y) 0) = x - y := by
 have := subL_val d2 (digs 10 x) (digs 10 y) 0 (zbp d2 _) (zbp d2 _) (by omega) (zih d2 h) (by rw [zau d2, zau d2]; omega)
 rw [zau d2, zau d2] at this
 omega
theorem ncmp_ge' {x y : Nat} : (0 ≤ ncmp x y) ↔ y ≤ x := by unfold ncmp; split <;> (try split) <;> omega
theorem r_add (x y : Int) (hx : dlim x ≤ 1099511627776) (hy : dlim y ≤ 1099511627776) : Ret pg zal [DV x, DV y] (DV (x + y)) := by
 have lx := zbp d2 x.natAbs
 have ly := zbp d2 y.natAbs
 unfold dlim at hx hy
 refine gimbalref01_Int_Add.of rfl (W_b ?_)
 unfold gimbalref01_Int_Add.k gimbalref01_Int_Add.res Ot kp kd Oy Om Ol Oq ci
 by_cases hs : decide (x < 0) = decide (y < 0)
 ·obtain ⟨l, p1, p2, p3, p4⟩ := r_plus _ _ lx ly (by omega) (by omega)
  rw [zau d2, zau d2] at p3
  have hm := r_made (decide (x < 0)) l p1 (by omega)
  rw [p3] at hm
  have e : sg (decide (x < 0)) (x.natAbs + y.natAbs) = x + y := by
   unfold sg; split <;> simp_all <;> omega
  rw [e, hs] at hm
  simp -dsimp -implicitDefEqProofs (disch := try exact zdL) only [go_sem, zaj, zai, zaf, zax, zaq, zac, hs]
  refine zab p4 (by simp) ?_
  refine sgd ?_
  refine zab hm (by simp) ?_
  exact sgd trivial
 ·have hc := r_size x.natAbs y.natAbs (by omega) (by omega)
  simp -dsimp -implicitDefEqProofs (disch := try exact zdL) only [go_sem, zaj, zai, zaf, zax, zaq, zac, hs]
  refine zaa hc (by simp) ?_
  by_cases hge : y.natAbs ≤ x.natAbs
  ·have := ncmp_ge'.2 hge
   have hd := r_less _ _ lx ly (by omega) (by omega)
   have hm := r_made (decide (x < 0)) _ (subL_lt d2 _ (digs 10 y.natAbs) 0 lx) (by rw [zgd]; omega)
   rw [subL10_abs hge, show sg (decide (x < 0)) (x.natAbs - y.natAbs) = x + y by unfold sg; split <;> simp_all <;> omega] at hm
   refine sgd ?_
   refine zab hd (by simp) ?_
   refine sgd ?_
   refine zab hm (by simp) ?_
   exact sgd trivial
  ·have : ¬ 0 ≤ ncmp x.natAbs y.natAbs := fun h => hge (ncmp_ge'.1 h)
   have hd := r_less _ _ ly lx (by omega) (by omega)
   have hm := r_made (decide (y < 0)) _ (subL_lt d2 _ (digs 10 x.natAbs) 0 ly) (by rw [zgd]; omega)
   rw [subL10_abs (by omega), show sg (decide (y < 0)) (y.natAbs - x.natAbs) = x + y by unfold sg; split <;> simp_all <;> omega] at hm
   refine sgd ?_
   refine zab hd (by simp) ?_
   refine sgd ?_
   refine zab hm (by simp) ?_
   exact sgd trivial
theorem r_minus (x : Int) (hx : dlim x ≤ 1099511627776) : Ret pg zbi [DV x] (DV (-x)) := by
 refine gimbalref01_Int_Minus.of rfl (W_b ?_)
 unfold gimbalref01_Int_Minus.k gimbalref01_Int_Minus.res Ot kp Oy Ol Oq
 unfold dlim at hx
 have hm := r_made (!decide (x < 0)) (digs 10 x.natAbs) (zbp d2 _) (by omega)
 rw [zau d2, show sg (!decide (x < 0)) x.natAbs = -x by unfold sg; split <;> simp_all <;> omega] at hm
 refine sgd ?_
 refine zaa hm (by simp) ?_
 exact sgd trivial
theorem r_sub (x y : Int) (hx : dlim x ≤ 1099511627776) (hy : dlim y ≤ 1099511627776) : Ret pg zce [DV x, DV y] (DV (x - y)) := by
 have hn := r_minus y hy
 have ha := r_add x (-y) hx (by rw [dlim_neg]; exact hy)
 refine gimbalref01_Int_Sub.of rfl (W_b ?_)
 unfold gimbalref01_Int_Sub.k gimbalref01_Int_Sub.res Ot kp kd Oy OL
 refine sgd ?_
 refine zab hn (by simp) ?_
 refine sgd ?_
 refine zab ha (by simp) ?_
 refine sgd ?_
 rfl
theorem r_cmp (x y : Int) (hx : dlim x ≤ 1099511627776) (hy : dlim y ≤ 1099511627776) : Ret pg zas [DV x, DV y] (.int .i64 (x - y).sign) := by
 unfold dlim at hx hy
 have hc := r_size x.natAbs y.natAbs (by omega) (by omega)
 refine gimbalref01_Int_Cmp.of rfl (W_b ?_)
 unfold gimbalref01_Int_Cmp.k gimbalref01_Int_Cmp.res Ot kp Om Ol Oq Oc
 have sp : ∀ z : Int, 0 < z → z.sign = 1 := fun z h => Int.sign_eq_one_of_pos h
 have sn : ∀ z : Int, z < 0 → z.sign = -1 := fun z h => Int.sign_eq_neg_one_of_neg h
 by_cases hx0 : x < 0 <;> by_cases hy0 : y < 0
 ·refine sgd ?_
  refine zaa hc (by simp) ?_
  have : IntKind.i64.wrap (0 - ncmp x.natAbs y.natAbs) = (x - y).sign := by
   unfold ncmp
   split
   ·rw [sp _ (by omega)]; rfl
   ·split
    ·rw [show x - y = 0 by omega]; rfl
    ·rw [sn _ (by omega)]; rfl
  simp -dsimp -implicitDefEqProofs (disch := try exact zdL) only [go_sem, zaj, zai, zaf, zax, zaq, zac, this]
 ·simp -dsimp -implicitDefEqProofs (disch := try exact zdL) only [go_sem, zaj, zai, zaf, zax, zaq, zac, sn (x - y) (by omega)]
 ·simp -dsimp -implicitDefEqProofs (disch := try exact zdL) only [go_sem, zaj, zai, zaf, zax, zaq, zac, sp (x - y) (by omega)]
 ·refine sgd ?_
  refine zaa hc (by simp) ?_
  have : ncmp x.natAbs y.natAbs = (x - y).sign := by
   unfold ncmp
   split
   ·rw [sn _ (by omega)]
   ·split
    ·rw [show x - y = 0 by omega]; rfl
    ·rw [sp _ (by omega)]
  simp -dsimp -implicitDefEqProofs (disch := try exact zdL) only [go_sem, zaj, zai, zaf, zax, zaq, zac, this]
theorem r_string (x : Int) (hx : dlim x ≤ 1099511627776) : Ret pg zc3 [DV x] (.str (decS x)) := by
 refine gimbalref01_Int_String.of rfl (W_b ?_)
 unfold gimbalref01_Int_String.k gimbalref01_Int_String.res Ot kp Om Ol Oq Oi On ci
 by_cases h0 : x = 0
 ·subst h0
  have e : digs 10 (Int.natAbs 0) = [] := zbe _
  simp -dsimp -implicitDefEqProofs (disch := try exact zdL) only [go_sem, zaj, zai, zaf, zax, zaq, zac, e, List.length_nil]
  rfl
 ·have hne : (digs 10 x.natAbs).length ≠ 0 := by rw [zhf d2 (by omega)]; simp
  have hlen : (digs 10 x.natAbs).length ≤ 1099511627776 := hx
  have lx := zbp d2 x.natAbs
  have hdec : decL x = (if x < 0 then [45] else []) ++ ((digs 10 x.natAbs).map (48 + ·)).reverse := by rw [decL, if_neg h0]
  generalize hD : digs 10 x.natAbs = D at *
  by_cases hn : x < 0
  ·rw [if_pos hn] at hdec
   simp -dsimp -implicitDefEqProofs (disch := try exact zdL) only [go_sem, zaj, zai, zaf, zax, zaq, zac, hD]
   refine zaz (lo := 0) (nx := 10) (H0 := fun _ => none) (xs := []) (Row.nil _ _ _ _) (by omega) rfl (by omega) (by omega) (by simp [rowOk, V.isJunk, V.cells, V.cellOk]) (by decide) (by simp) (by simp) fun v1 H1 r0 _ _ _ => ?_
   simp -dsimp -implicitDefEqProofs (disch := try exact zdL) only [go_sem, zaj, zai, zaf, zax, zaq, zac, hD]
   refine zap (T := Nat × V × Hp × Nat) (fun t => ⟨E [(1, .pp (DV x)), (3, t.2.1), (4, .int .i64 ((t.1 : Int) - 1))], t.2.2.1, t.2.2.2, t.2.2.2⟩)
    (fun t => t.1 ≤ D.length ∧ Row 0 t.2.2.1 t.2.2.2 t.2.1 1 (nats .u8 ([45] ++ ((D.map (48 + ·)).drop t.1).reverse))) (fun t => t.1) (D.length, _, _, _) (by dsimp only; rw [zcf (n := D.length) (by omega)]) ⟨Nat.le_refl _, by dsimp only; rw [List.drop_eq_nil_of_le (by simp)]; exact r0.same (fun _ _ => rfl) (by omega)⟩ ?_
   rintro ⟨j, v, H, nx⟩ ⟨i1, i2⟩
   dsimp only at i1 i2
   by_cases hj : j = 0
   ·subst hj
    rw [List.drop_zero, ← hdec] at i2
    refine sgd ?_
    refine effB_of (effV_b2s i2.slOf) ?_
    refine sgd ?_
    rfl
   ·have g : D.getD (j - 1) 0 < 10 := zbw lx (by decide)
    have hd : (D.map (48 + ·)).drop (j - 1) = (48 + D.getD (j - 1) 0) :: (D.map (48 + ·)).drop j := by
     rw [zdg (by simp; omega), show j - 1 + 1 = j by omega]
     congr 1
     simp [List.getD_eq_getElem?_getD, show j - 1 < D.length by omega]
    generalize hX : D.getD (j - 1) 0 = z at *
    have hm : (48 + z) % 256 = 48 + z := by omega
    simp -dsimp -implicitDefEqProofs (disch := try exact zdL) only [go_sem, zaj, zai, zaf, zax, zaq, zac, hD, hX, hm]
    refine zaz (lo := 0) (nx := nx) (H0 := H) (xs := nats .u8 ([45] ++ ((D.map (48 + ·)).drop j).reverse)) i2 (by omega) rfl (by omega) (by omega) (by simp [rowOk, V.isJunk, V.cells, V.cellOk]) (by decide) (by simp [zae]; omega) (by simp [zae]; omega) fun v2 H2 r1 _ _ _ => ?_
    rw [zen rfl] at r1
    simp -dsimp -implicitDefEqProofs (disch := try exact zdL) only [go_sem, zaj, zai, zaf, zax, zaq, zac, hD, hX]
    refine ⟨(j - 1, v2, H2, _), rfl, ⟨zdo, ?_⟩, zdo⟩
    dsimp only
    rw [hd, List.reverse_cons]
    exact r1.same (fun _ _ => rfl) (by omega)
  ·rw [if_neg hn] at hdec
   simp -dsimp -implicitDefEqProofs (disch := try exact zdL) only [go_sem, zaj, zai, zaf, zax, zaq, zac, hD]
   refine zap (T := Nat × V × Hp × Nat) (fun t => ⟨E [(1, .pp (DV x)), (3, t.2.1), (4, .int .i64 ((t.1 : Int) - 1))], t.2.2.1, t.2.2.2, t.2.2.2⟩)
    (fun t => t.1 ≤ D.length ∧ Row 0 t.2.2.1 t.2.2.2 t.2.1 1 (nats .u8 ([] ++ ((D.map (48 + ·)).drop t.1).reverse))) (fun t => t.1) (D.length, _, _, _) (by dsimp only; rw [zcf (n := D.length) (by omega)]) ⟨Nat.le_refl _, by dsimp only; rw [List.drop_eq_nil_of_le (by simp)]; exact Row.nil _ _ _ _⟩ ?_
   rintro ⟨j, v, H, nx⟩ ⟨i1, i2⟩
   dsimp only at i1 i2
   by_cases hj : j = 0
   ·subst hj
    rw [List.drop_zero, ← hdec] at i2
    refine sgd ?_
    refine effB_of (effV_b2s i2.slOf) ?_
    refine sgd ?_
    rfl
   ·have g : D.getD (j - 1) 0 < 10 := zbw lx (by decide)
    have hd : (D.map (48 + ·)).drop (j - 1) = (48 + D.getD (j - 1) 0) :: (D.map (48 + ·)).drop j := by
     rw [zdg (by simp; omega), show j - 1 + 1 = j by omega]
     congr 1
     simp [List.getD_eq_getElem?_getD, show j - 1 < D.length by omega]
    generalize hX : D.getD (j - 1) 0 = z at *
    have hm : (48 + z) % 256 = 48 + z := by omega
    simp -dsimp -implicitDefEqProofs (disch := try exact zdL) only [go_sem, zaj, zai, zaf, zax, zaq, zac, hD, hX, hm]
    refine zaz (lo := 0) (nx := nx) (H0 := H) (xs := nats .u8 ([] ++ ((D.map (48 + ·)).drop j).reverse)) i2 (by omega) rfl (by omega) (by omega) (by simp [rowOk, V.isJunk, V.cells, V.cellOk]) (by decide) (by simp [zae]; omega) (by simp [zae]; omega) fun v2 H2 r1 _ _ _ => ?_
    rw [zen rfl] at r1
    simp -dsimp -implicitDefEqProofs (disch := try exact zdL) only [go_sem, zaj, zai, zaf, zax, zaq, zac, hD, hX]
    refine ⟨(j - 1, v2, H2, _), rfl, ⟨zdo, ?_⟩, zdo⟩
    dsimp only
    rw [hd, List.reverse_cons]
    exact r1.same (fun _ _ => rfl) (by omega)
end Go.Gim
/- The document's whole numbers: products. -/
set_option maxRecDepth 100000
namespace Go.Gim
open Go.Proofs
attribute [local go_sem] IntWalk.i64_in wu64 wu32 wu8 Nat.mod_eq_of_lt shr32 shr63 shl32 or32 quo64 quo32 zfk remk zct zcs zd1 zd0 zb5 Nat.add_assoc za7 lt_ne gt_ne zdu dlt_t dlt_f dle_t dle_f deq_t deq_f zby zec zfd zbf zbk zbc zba zcu zcw zcx zdl zae List.length_set ge_iff_le gt_iff_lt Int.toNat_natCast zcf zdm zcj zdp zdn zcr zb2 zfj zb3 zb4 zdt
theorem mul_step {P vo vo' vo2 o c x y s T Q R : Nat} (h1 : vo' + P * c = vo + Q * (x * T)) (h2 : vo2 + P * o = vo' + P * (s % 10)) (hs : s = o + c + x * y) (hQ : P = Q * R) : vo2 + P * 10 * (s / 10) = vo + Q * (x * (T + R * y)) := by
 have e := Nat.mod_add_div s 10
 have e1 : P * 10 * (s / 10) = P * (10 * (s / 10)) := by rw [Nat.mul_assoc]
 have e2 : P * (s % 10) + P * (10 * (s / 10)) = P * s := by rw [← Nat.mul_add, e]
 have e3 : P * s = P * o + P * c + P * (x * y) := by rw [hs, Nat.mul_add, Nat.mul_add]
 have e4 : Q * (x * (T + R * y)) = Q * (x * T) + P * (x * y) := by
  rw [Nat.mul_add x, Nat.mul_add Q, hQ]
  congr 1
  rw [Nat.mul_assoc]; congr 1; rw [Nat.mul_left_comm]
 omega
theorem r_mul (x y : Int) (hx : dlim x ≤ 1099511627776) (hy : dlim y ≤ 1099511627776) : Ret pg zak [DV x, DV y] (DV (x * y)) := by
 unfold dlim at hx hy
 generalize hX : digs 10 x.natAbs = xs at hx
 generalize hY : digs 10 y.natAbs = ys at hy
 have lx : ∀ z ∈ xs, z < 10 := by rw [← hX]; exact zbp d2 _
 have ly : ∀ z ∈ ys, z < 10 := by rw [← hY]; exact zbp d2 _
 refine gimbalref01_Int_Mul.of rfl (W_b ?_)
 unfold gimbalref01_Int_Mul.k gimbalref01_Int_Mul.res Ot kp kd Og Oy Om Ol Oq Oi Oc On ci
 simp -dsimp -implicitDefEqProofs (disch := try exact zdL) only [go_sem, zaj, zai, zaf, zax, zaq, zac, hX, hY]
 refine zap (T := Nat × Nat × List Nat) (fun t => ⟨E [(2, .pp (DV x)), (3, .pp (DV y)), (4, .ptr 2 1 0 0), (5, .own 11 (xs.length + (ys.length + 1))), (6, .int .i64 t.1)], (Hp.upd (fun _ => none) 2 (some ⟨[.agg [.bool false, .nil]], 2⟩)).upd 11 (some ⟨nats .i64 t.2.2, 1⟩), t.2.1, t.2.1⟩)
  (fun t => 11 < t.2.1 ∧ t.2.2.length = xs.length + (ys.length + 1) ∧ t.1 ≤ xs.length ∧ (∀ z ∈ t.2.2, z < 10) ∧ val 10 t.2.2 = val 10 (xs.take t.1) * val 10 ys) (fun t => xs.length - t.1) (0, _, List.replicate (xs.length + (ys.length + 1)) 0) rfl
  ⟨zdo, by simp, by simp, by intro z hz; rw [List.eq_of_mem_replicate hz]; decide, by simp [val]; exact zh3 _ (fun z hz => List.eq_of_mem_replicate hz)⟩ ?_
 rintro ⟨i, nx, out⟩ ⟨h0, h1, h2, h3, h4⟩
 dsimp only at h0 h1 h2 h3 h4
 by_cases hi : i < xs.length
 ·have hm : xs.getD i 0 < 10 := zbw lx (by decide)
  have htk := zbg (B := 10) hi
  have hbd : val 10 (xs.take (i + 1)) * val 10 ys < 10 ^ (i + 1 + ys.length) := by
   rw [Nat.pow_add]
   refine Nat.mul_lt_mul'' ?_ (zgu d2 ly)
   have := zgu (B := 10) d2 (l := xs.take (i + 1)) fun z hz => lx z (List.mem_of_mem_take hz)
   rwa [show (xs.take (i + 1)).length = i + 1 by simp; omega] at this
  generalize hxi : xs.getD i 0 = m at *
  have hsum : val 10 out + 10 ^ i * (m * val 10 ys) = val 10 (xs.take (i + 1)) * val 10 ys := by rw [h4, htk, Nat.add_mul, Nat.mul_assoc]
  simp -dsimp -implicitDefEqProofs (disch := try exact zdL) only [go_sem, zaj, zai, zaf, zax, zaq, zac, hX, hY]
  refine zap (T := Nat × Nat × Nat × List Nat) (fun t => ⟨E [(2, .pp (DV x)), (3, .pp (DV y)), (4, .ptr 2 1 0 0), (5, .own 11 (xs.length + (ys.length + 1))), (6, .int .i64 i), (7, .int .i64 t.2.1), (8, .int .i64 t.1)], (Hp.upd (fun _ => none) 2 (some ⟨[.agg [.bool false, .nil]], 2⟩)).upd 11 (some ⟨nats .i64 t.2.2.2, 1⟩), t.2.2.1, t.2.2.1⟩)
   (fun t => 11 < t.2.2.1 ∧ t.2.2.2.length = xs.length + (ys.length + 1) ∧ t.1 ≤ ys.length + 1 ∧ t.2.1 < 10 ∧ (∀ z ∈ t.2.2.2, z < 10) ∧ val 10 t.2.2.2 + 10 ^ (i + t.1) * t.2.1 = val 10 out + 10 ^ i * (m * val 10 (ys.take t.1))) (fun t => ys.length + 1 - t.1) (0, 0, _, out) rfl ⟨zdo, h1, zdo, zdo, h3, by simp [val]⟩ ?_
  rintro ⟨k, o, nx', out'⟩ ⟨k0, k1, k2, k3, k4, k5⟩
  dsimp only at k0 k1 k2 k3 k4 k5
  have hok : 0 < o → k ≤ ys.length := fun ho => by
   rcases Nat.lt_or_ge ys.length k with h | h
   ·exfalso
    rw [List.take_of_length_le (by omega), hsum] at k5
    have e1 : 10 ^ (i + 1 + ys.length) ≤ 10 ^ (i + k) := Nat.pow_le_pow_right (by decide) (by omega)
    have e2 := Nat.le_mul_of_pos_right (10 ^ (i + k)) ho
    omega
   ·exact h
  have hc : out'.getD (i + k) 0 < 10 := zbw k4 (by decide)
  by_cases hk : k < ys.length
  ·have hb : ys.getD k 0 < 10 := zbw ly (by decide)
   have hvs : ∀ v, val 10 (out'.set (i + k) v) + 10 ^ (i + k) * out'.getD (i + k) 0 = val 10 out' + 10 ^ (i + k) * v := fun v => val_set (by omega)
   have htk2 := zbg (B := 10) hk
   generalize hyk : ys.getD k 0 = b at *
   generalize hgo : out'.getD (i + k) 0 = c at *
   have hmb : m * b ≤ 9 * 9 := Nat.mul_le_mul (by omega) (by omega)
   simp -dsimp -implicitDefEqProofs (disch := try exact zdL) only [go_sem, zaj, zai, zaf, zax, zaq, zac, hX, hY, hxi, hyk, hgo]
   refine ⟨(k + 1, (c + (o + m * b)) / 10, _, out'.set (i + k) ((c + (o + m * b)) % 10)), rfl, ⟨zdo, by simp [k1], zdo, zdo, fun z hz => ?_, ?_⟩, zdo⟩
   ·rcases List.mem_or_eq_of_mem_set hz with hz | rfl
    ·exact k4 z hz
    ·exact Nat.mod_lt _ (by decide)
   ·dsimp only
    rw [htk2, ← Nat.add_assoc i k 1, Nat.pow_succ 10 (i + k)]
    exact mul_step k5 (hvs _) (by omega) (Nat.pow_add _ _ _)
  ·by_cases ho : 0 < o
   ·have he : k = ys.length := by have := hok ho; omega
    have hvs : ∀ v, val 10 (out'.set (i + k) v) + 10 ^ (i + k) * out'.getD (i + k) 0 = val 10 out' + 10 ^ (i + k) * v := fun v => val_set (by omega)
    generalize hgo : out'.getD (i + k) 0 = c at *
    simp -dsimp -implicitDefEqProofs (disch := try exact zdL) only [go_sem, zaj, zai, zaf, zax, zaq, zac, hX, hY, hxi, hgo]
    refine ⟨(k + 1, (c + o) / 10, _, out'.set (i + k) ((c + o) % 10)), rfl, ⟨zdo, by simp [k1], zdo, zdo, fun z hz => ?_, ?_⟩, zdo⟩
    ·rcases List.mem_or_eq_of_mem_set hz with hz | rfl
     ·exact k4 z hz
     ·exact Nat.mod_lt _ (by decide)
    ·dsimp only
     have := mul_step (y := 0) (R := 10 ^ k) k5 (hvs ((c + o) % 10)) (by omega) (Nat.pow_add _ _ _)
     rw [← Nat.add_assoc i k 1, Nat.pow_succ 10 (i + k), this, Nat.mul_zero, Nat.add_zero, List.take_of_length_le (by omega), List.take_of_length_le (by omega)]
   ·have ho0 : o = 0 := by omega
    subst ho0
    simp -dsimp -implicitDefEqProofs (disch := try exact zdL) only [go_sem, zaj, zai, zaf, zax, zaq, zac, hX, hY]
    refine ⟨(i + 1, _, out'), rfl, ⟨zdo, k1, zdo, k4, ?_⟩, zdo⟩
    dsimp only
    rw [Nat.mul_zero, Nat.add_zero, List.take_of_length_le (by omega)] at k5
    rw [k5, hsum]
 ·have he : i = xs.length := by omega
  subst he
  rw [List.take_length, ← hX, ← hY, zau d2, zau d2] at h4
  have hmr := r_made (!decide (decide (x < 0) = decide (y < 0))) out h3 (by omega)
  rw [h4] at hmr
  have hsg : DV (sg (!decide (decide (x < 0) = decide (y < 0))) (x.natAbs * y.natAbs)) = DV (x * y) := by
   congr 1
   rw [← Int.natAbs_mul]
   unfold sg
   by_cases h1 : x < 0 <;> by_cases h2 : y < 0
   ·have := Int.mul_nonneg_of_nonpos_of_nonpos (show x ≤ 0 by omega) (show y ≤ 0 by omega)
    simp [h1, h2]; omega
   ·have := Int.mul_nonpos_of_nonpos_of_nonneg (show x ≤ 0 by omega) (show 0 ≤ y by omega)
    simp [h1, h2]; omega
   ·have := Int.mul_nonpos_of_nonneg_of_nonpos (show 0 ≤ x by omega) (show y ≤ 0 by omega)
    simp [h1, h2]; omega
   ·have := Int.mul_nonneg (show 0 ≤ x by omega) (show 0 ≤ y by omega)
    simp [h1, h2]; omega
  rw [hsg] at hmr
  simp -dsimp -implicitDefEqProofs (disch := try exact zdL) only [go_sem, zaj, zai, zaf, zax, zaq, zac, hX, hY]
  refine zep 11 (nats .i64 out) rfl zic (by simp [V.sub, fz1, zae, h1]) hmr (by simp) ?_
  exact sgd trivial
end Go.Gim
/- The document's whole numbers: as small ones. -/
set_option maxRecDepth 100000
namespace Go.Gim
open Go.Proofs
attribute [local go_sem] IntWalk.i64_in wu64 wu32 wu8 Nat.mod_eq_of_lt shr32 shr63 shl32 or32 quo64 quo32 zfk remk zct zcs zd1 zd0 zb5 Nat.add_assoc za7 lt_ne gt_ne zdu dlt_t dlt_f dle_t dle_f deq_t deq_f zby zec zfd zbf zbk zbc zba zcu zcw zcx zdl zae List.length_set ge_iff_le gt_iff_lt Int.toNat_natCast zcf zdm zcj zdp zdn zcr zb2 zfj zb3 zb4 zdt
theorem ze5 {a : Int} : 0 < a.sign ↔ 0 < a := by
 rcases Int.lt_trichotomy a 0 with h | h | h
 ·rw [Int.sign_eq_neg_one_of_neg h]; omega
 ·subst h; simp
 ·rw [Int.sign_eq_one_of_pos h]; omega
theorem sign_neg_iff {a : Int} : a.sign < 0 ↔ a < 0 := by
 rcases Int.lt_trichotomy a 0 with h | h | h
 ·rw [Int.sign_eq_neg_one_of_neg h]; omega
 ·subst h; simp
 ·rw [Int.sign_eq_one_of_pos h]; omega
theorem r_small (x : Int) (h : -9223372036854775808 ≤ x ∧ x ≤ 9223372036854775807) : Ret pg zc7 [DV x] (.tup [.int .i64 x, .bool true]) := by
 have hd := zbx h
 have hd1 := zbx (x := -9223372036854775808) (by omega)
 have hd2 := zbx (x := 9223372036854775807) (by omega)
 have s1 : ¬ (x - -9223372036854775808).sign < 0 := by rw [sign_neg_iff]; omega
 have s2 : ¬ 0 < (x - 9223372036854775807).sign := by rw [ze5]; omega
 have hlen : (digs 10 x.natAbs).length ≤ 20 := hd
 have hlt := zbp d2 x.natAbs
 have hval := zau d2 x.natAbs
 refine gimbalref01_Int_Small.of rfl (W_b ?_)
 unfold gimbalref01_Int_Small.k gimbalref01_Int_Small.res Ot kp Og Oy Om Ol OL Oq Oi Oc On ci
 refine sgd ?_
 refine zaa (r_of _ (by omega)) (by simp) ?_
 refine sgd ?_
 refine zaa (r_of _ (by omega)) (by simp) ?_
 refine sgd ?_
 refine zaa (r_cmp _ _ (by omega) (by omega)) (by simp) ?_
 simp -dsimp -implicitDefEqProofs (disch := try exact zdL) only [go_sem, zaj, zai, zaf, zax, zaq, zac, s1]
 refine zaa (r_cmp _ _ (by omega) (by omega)) (by simp) ?_
 simp -dsimp -implicitDefEqProofs (disch := try exact zdL) only [go_sem, zaj, zai, zaf, zax, zaq, zac, s2]
 generalize hX : digs 10 x.natAbs = xs at *
 have hstep : ∀ k, k < xs.length → val 10 (xs.drop k) = xs.getD k 0 + 10 * val 10 (xs.drop (k + 1)) := fun k hk => by rw [zdg hk, val]
 have hle : ∀ k, k ≤ xs.length → val 10 (xs.drop k) ≤ x.natAbs := fun k hk => by
  have := zfo (B := 10) hk
  have h2 := Nat.le_mul_of_pos_left (val 10 (xs.drop k)) (Nat.pow_pos (n := k) (show 0 < 10 by decide))
  omega
 refine zap (T := Nat × Nat) (fun t => ⟨E [(1, .pp (DV x)), (6, .int .i64 (if x < 0 then -(val 10 (xs.drop t.1) : Int) else val 10 (xs.drop t.1))), (7, .int .i64 ((t.1 : Int) - 1))], (Hp.upd (fun _ => none) 4 (some ⟨[DV (-9223372036854775808)], 2⟩)).upd 7 (some ⟨[DV 9223372036854775807], 2⟩), t.2, t.2⟩)
  (fun t => t.1 ≤ xs.length) (fun t => t.1) (xs.length, _) (by simp [val]; rfl) zdo ?_
 rintro ⟨k, nx⟩ k1
 dsimp only at k1
 by_cases hk : k = 0
 ·subst hk
  have e : (if x < 0 then -(val 10 (xs.drop 0) : Int) else val 10 (xs.drop 0)) = x := by
   rw [List.drop_zero, hval]; split <;> omega
  rw [e]
  exact sgd trivial
 ·obtain ⟨m, rfl⟩ : ∃ m, k = m + 1 := ⟨k - 1, by omega⟩
  have h1 := hstep m (by omega)
  have h2 := hle m (by omega)
  have hdg : xs.getD m 0 < 10 := zbw hlt (by decide)
  have e1 : ((m + 1 : Nat) : Int) - 1 = (m : Int) := by omega
  generalize val 10 (xs.drop (m + 1)) = v at *
  generalize hV : val 10 (xs.drop m) = v' at *
  generalize hG : xs.getD m 0 = d at *
  by_cases hx : x < 0
  ·have e2 : decide (x < 0) = true := decide_eq_true hx
   rw [if_pos hx]
   simp -dsimp -implicitDefEqProofs (disch := try exact zdL) only [go_sem, zaj, zai, zaf, zax, zaq, zac, hX, e1, e2, hG]
   exact ⟨(m, _), by dsimp only; rw [if_pos hx, hV, show (10 : Int) * -(v : Int) - (d : Int) = -(v' : Int) by omega], zdo, zdo⟩
  ·have e2 : decide (x < 0) = false := decide_eq_false hx
   rw [if_neg hx]
   simp -dsimp -implicitDefEqProofs (disch := try exact zdL) only [go_sem, zaj, zai, zaf, zax, zaq, zac, hX, e1, e2, hG]
   exact ⟨(m, _), by dsimp only; rw [if_neg hx, hV, show (10 : Int) * (v : Int) + (d : Int) = (v' : Int) by omega], zdo, zdo⟩
end Go.Gim
