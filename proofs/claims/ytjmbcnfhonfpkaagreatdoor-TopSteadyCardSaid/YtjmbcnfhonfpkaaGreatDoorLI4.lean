import Derived.Test.YtjmbcnfhonfpkaaGreatDoorL1
import Derived.Test.YtjmbcnfhonfpkaaGreatDoorM3
import Derived.Test.YtjmbcnfhonfpkaaGreatDoorGB
set_option linter.unusedSimpArgs false
set_option linter.unusedVariables false
/- Whole numbers of any size: their parts, sums, differences, products. -/
set_option maxRecDepth 100000
namespace Go.Gim
open Go.Proofs
attribute [local go_sem] IntWalk.i64_in wu64 wu32 wu8 Nat.mod_eq_of_lt shr32 shr63 shl32 or32 quo64 quo32 zeh remk zcb zca zdc zdb zbx Nat.add_assoc zat lt_ne gt_ne zc7 dlt_t dlt_f dle_t dle_f deq_t deq_f zbq zec zeb za9 zbc za8 zay zcc zcf zcg zcx zag List.length_set ge_iff_le gt_iff_lt Int.toNat_natCast zb5 zcy zb6 zc0 zcz zb9 zbt zev zbv zbw zc6
def IV (x : Int) : V := .agg [.bool (decide (x < 0)), .sl (nats .u32 (digs W32 x.natAbs))]
theorem IV_sg (b : Bool) (n : Nat) : IV (sg b n) = .agg [.bool (b && decide (0 < n)), .sl (nats .u32 (digs W32 n))] := by
 unfold IV
 rw [sg_abs]
 congr 3
 unfold sg
 cases b <;> simp <;> omega
@[simp] theorem IV_pure (x : Int) : (IV x).Pure := by simp [IV]
theorem zgr (b : Bool) (l : List Nat) (hl : ∀ x ∈ l, x < W32) (hs : l.length ≤ 35184372088832) : Ret pg zcm [.bool b, .sl (nats .u32 l)] (IV (sg b (val W32 l))) := by
 refine long_made.of rfl (W_b ?_)
 unfold long_made.k long_made.res Ot kp Oh Oy Om On ci
 simp -dsimp -implicitDefEqProofs (disch := try exact zdL) only [go_sem]
 refine za1 (T := Nat × Nat) (fun t => ⟨E [(0, .bool b), (1, .sl (nats .u32 l)), (4, .ptr 0 1 0 0), (5, .int .i64 t.1)], Hp.upd (fun _ => none) 0 (some ⟨[.agg [.bool false, .nil]], 2⟩), t.2, t.2⟩) (fun t => 0 < t.2 ∧ t.1 ≤ l.length ∧ ∀ i, t.1 ≤ i → (hi : i < l.length) → l[i] = 0) (fun t => t.1) (l.length, 4) rfl ⟨by omega, by omega, fun i h1 h2 => by omega⟩ ?_
 rintro ⟨n, nx⟩ ⟨h0, h1, h2⟩
 dsimp only at h0 h1 h2
 by_cases hn : 0 < n
 ·have hg : ∀ i (hi : i < l.length), l.getD i 0 = l[i] := fun i hi => by simp [List.getD_eq_getElem?_getD, hi]
  by_cases hz : l.getD (n - 1) 0 = 0
  ·simp -dsimp -implicitDefEqProofs (disch := try exact zdL) only [go_sem]
   refine ⟨(n - 1, _), rfl, ⟨by omega, zdo, fun i h3 h4 => ?_⟩, zdo⟩
   dsimp only at h3
   by_cases hi : i = n - 1
   ·subst hi; rw [← hg]; exact hz
   ·exact h2 i (by omega) h4
  ·have hd := made_digs w2 hl h1 h2 (fun _ => by rw [← hg]; exact hz)
   have hp : 0 < val W32 l := by
    rcases Nat.eq_zero_or_pos (val W32 l) with h | h
    ·rw [h, zdm] at hd
     have := congrArg List.length hd
     rw [List.length_take] at this; simp only [List.length_nil] at this; omega
    ·exact h
   cases b <;> simp -dsimp -implicitDefEqProofs (disch := try exact zdL) only [go_sem, IV_sg, hd] <;> simp [hp]
 ·have hd := made_digs w2 hl h1 h2 (fun h => by omega)
  have hn0 : n = 0 := by omega
  subst hn0
  have hv : val W32 l = 0 := by
   refine (digs_nil w2).1 ?_
   rw [← hd]; rfl
  cases b <;> simp -dsimp -implicitDefEqProofs (disch := try exact zdL) only [go_sem, IV_sg, hv, zdm] <;> simp [nats]
theorem zaf (x : Int) : (IV x).cells = [.bool (decide (x < 0)), .sl (nats .u32 (digs W32 x.natAbs))] := rfl
theorem zae (x : Int) : (IV x).isAgg = true := rfl
@[simp] theorem zad (x : Int) : (IV x).isJunk = false := rfl
theorem zas (H : Hp) (n : Nat) (x : Int) : frz H (n + 2) (IV x) = some (IV x) := rfl
theorem zal (x : Int) : V.part (IV x) 0 2 true = some (IV x) := rfl
theorem sgi {a b : Prop} (k : b) (h : a = b := by simp -dsimp -implicitDefEqProofs (disch := (first | omega | (simp only [zL] <;> omega) | (apply zhn <;> simp))) only [go_sem, zaf, zae, zad, zas, zal, zah]; try rfl) : a := h ▸ k
theorem sub_IV (g) (x : Int) : V.sub g (IV x) = IV x := zct g (IV_pure x)
theorem zbf (n : Int) (h : -9223372036854775808 ≤ n ∧ n ≤ 9223372036854775807) : Ret pg zav [.int .i64 n] (IV n) := by
 refine long_Of.of rfl (W_b ?_)
 unfold long_Of.k long_Of.res Ot kp Oy Om ci
 have key : (val W32 [n.natAbs % 4294967296, n.natAbs / 4294967296]) = n.natAbs := by
  have h2 : n.natAbs < 18446744073709551616 := by omega
  show n.natAbs % 4294967296 + 4294967296 * (n.natAbs / 4294967296 + 4294967296 * 0) = n.natAbs
  omega
 have sgn : sg (decide (n < 0)) n.natAbs = n := by unfold sg; split <;> simp_all <;> omega
 have p1 : (2 : Int) ^ min 32 64 = 4294967296 := by decide
 have hm := zgr (decide (n < 0)) [n.natAbs % 4294967296, n.natAbs / 4294967296] (by
  intro x hx
  show x < 4294967296
  simp at hx
  rcases hx with rfl | rfl
  ·exact Nat.mod_lt _ (by decide)
  ·omega) (by simp)
 rw [key, sgn] at hm
 by_cases hn : n < 0
 ·have e1 : IntKind.u64.wrap n = n + 18446744073709551616 := by simp [IntKind.wrap, IntKind.bits, IntKind.signed]; omega
  have e2 : IntKind.u64.wrap (0 - (n + 18446744073709551616)) = -n := by simp [IntKind.wrap, IntKind.bits, IntKind.signed]; omega
  have e3 : IntKind.u32.wrap (-n) = ((n.natAbs % 4294967296 : Nat) : Int) := by rw [IntKind.wrap_u32]; omega
  have e4 : IntKind.u32.wrap ((-n).fdiv 4294967296) = ((n.natAbs / 4294967296 : Nat) : Int) := by rw [IntKind.wrap_u32, Int.fdiv_eq_ediv_of_nonneg _ (by omega)]; omega
  rw [dlt_t hn] at hm
  simp -dsimp -implicitDefEqProofs (disch := try exact zdL) only [go_sem, zaf, zae, zad, zas, zal, zah, e1, e2, p1, e3, e4, zdt]
  refine zik 16 (nats .u32 [n.natAbs % 4294967296, n.natAbs / 4294967296]) rfl nats_pure (by simp [V.sub, fz1, zag, sub_IV, sub_agg]) hm (by simp) ?_
  exact sgi trivial
 ·have e1 : IntKind.u64.wrap n = n := by simp [IntKind.wrap, IntKind.bits, IntKind.signed]; omega
  have e3 : IntKind.u32.wrap n = ((n.natAbs % 4294967296 : Nat) : Int) := by rw [IntKind.wrap_u32]; omega
  have e4 : IntKind.u32.wrap (n.fdiv 4294967296) = ((n.natAbs / 4294967296 : Nat) : Int) := by rw [IntKind.wrap_u32, Int.fdiv_eq_ediv_of_nonneg _ (by omega)]; omega
  rw [dlt_f (by omega)] at hm
  simp -dsimp -implicitDefEqProofs (disch := try exact zdL) only [go_sem, zaf, zae, zad, zas, zal, zah, e1, p1, e3, e4, zdt]
  refine zik 13 (nats .u32 [n.natAbs % 4294967296, n.natAbs / 4294967296]) rfl nats_pure (by simp [V.sub, fz1, zag, sub_IV, sub_agg]) hm (by simp) ?_
  exact sgi trivial
theorem zhc (x : Int) (hs : lim x ≤ 35184372088832) : Ret pg zcn [IV x] (.int .i64 x.sign) := by
 refine long_Int_Sign.of rfl (W_b ?_)
 unfold long_Int_Sign.k long_Int_Sign.res Ot kp Om Ol Oq Oc On ci
 refine sgi ?_
 unfold lim at hs
 by_cases h0 : x = 0
 ·subst h0
  simp -dsimp -implicitDefEqProofs (disch := try exact zdL) only [go_sem, zaf, zae, zad, zas, zal, zah, Int.natAbs_zero, zdm, Int.sign_zero]
 ·have : (digs W32 x.natAbs).length ≠ 0 := by rw [zhp w2 (by omega)]; simp
  by_cases hn : x < 0
  ·simp -dsimp -implicitDefEqProofs (disch := try exact zdL) only [go_sem, zaf, zae, zad, zas, zal, zah, Int.sign_eq_neg_one_of_neg hn]
  ·simp -dsimp -implicitDefEqProofs (disch := try exact zdL) only [go_sem, zaf, zae, zad, zas, zal, zah, Int.sign_eq_one_of_pos (show 0 < x by omega)]
theorem neg_ret (x : Int) (hs : lim x ≤ 35184372088832) : Ret pg zc4 [IV x] (IV (-x)) := by
 refine long_Int_Neg.of rfl (W_b ?_)
 unfold long_Int_Neg.k long_Int_Neg.res Ot kp Oy Ol Oq
 refine sgi ?_
 have hm := zgr (!decide (x < 0)) (digs W32 x.natAbs) (zeu w2 _) hs
 rw [zbo w2, show sg (!decide (x < 0)) x.natAbs = -x by unfold sg; split <;> simp_all <;> omega] at hm
 refine zab hm (by simp) ?_
 exact sgi trivial
theorem cmp_ret (x y : Nat) (hx : (digs W32 x).length ≤ 35184372088832) (hy : (digs W32 y).length ≤ 35184372088832) : Ret pg n_long_cmp [.sl (nats .u32 (digs W32 x)), .sl (nats .u32 (digs W32 y))] (.int .i64 (ncmp x y)) := by
 refine long_cmp.of rfl (W_b ?_)
 unfold long_cmp.k long_cmp.res Ot kp kd Om Ol Oi Oc On ci
 have lx := zeu w2 x
 have ly := zeu w2 y
 by_cases hl : (digs W32 x).length = (digs W32 y).length
 ·refine sgi ?_
  refine za1 (T := Nat × Nat) (fun t => ⟨E [(0, .sl (nats .u32 (digs W32 x))), (1, .sl (nats .u32 (digs W32 y))), (5, .int .i64 ((t.1 : Int) - 1))], fun _ => none, t.2, t.2⟩) (fun t => t.1 ≤ (digs W32 x).length ∧ (digs W32 x).drop t.1 = (digs W32 y).drop t.1) (fun t => t.1) ((digs W32 x).length, _) rfl ⟨by omega, by rw [hl, List.drop_length, ← hl, List.drop_length]⟩ ?_
  rintro ⟨n, nx⟩ ⟨h1, h2⟩
  dsimp only at h1 h2
  by_cases hn : n = 0
  ·subst hn
   have e : x = y := digs_inj w2 (by simpa using h2)
   simp -dsimp -implicitDefEqProofs (disch := try exact zdL) only [go_sem, zaf, zae, zad, zas, zal, zah, ncmp, e, Nat.lt_irrefl]
  ·have hd : (digs W32 x).drop (n - 1 + 1) = (digs W32 y).drop (n - 1 + 1) := by rw [show n - 1 + 1 = n by omega]; exact h2
   have g1 := getD_get (l := digs W32 x) (i := n - 1) (by omega)
   have g2 := getD_get (l := digs W32 y) (i := n - 1) (by omega)
   rcases Nat.lt_trichotomy ((digs W32 x).getD (n - 1) 0) ((digs W32 y).getD (n - 1) 0) with h | h | h
   ·have := val_take_lt w2 hl (i := n - 1) (by omega) lx ly hd (by rw [← g1, ← g2]; exact h)
    rw [zbo w2, zbo w2] at this
    simp -dsimp -implicitDefEqProofs (disch := try exact zdL) only [go_sem, zaf, zae, zad, zas, zal, zah, ncmp, this]
   ·refine sgi ?_
    refine ⟨(n - 1, _), rfl, ⟨zdo, ?_⟩, zdo⟩
    dsimp only
    rw [List.drop_eq_getElem_cons (show n - 1 < (digs W32 x).length by omega), List.drop_eq_getElem_cons (show n - 1 < (digs W32 y).length by omega), hd, ← g1, ← g2, h]
   ·have := val_take_lt w2 hl.symm (i := n - 1) (by omega) ly lx hd.symm (by rw [← g1, ← g2]; exact h)
    rw [zbo w2, zbo w2] at this
    simp -dsimp -implicitDefEqProofs (disch := try exact zdL) only [go_sem, zaf, zae, zad, zas, zal, zah, ncmp, show ¬ x < y by omega, show ¬ x = y by omega]
 ·by_cases hlt : (digs W32 x).length < (digs W32 y).length
  ·have := val_len_lt w2 hlt
   simp -dsimp -implicitDefEqProofs (disch := try exact zdL) only [go_sem, zaf, zae, zad, zas, zal, zah, ncmp, this]
  ·have := val_len_lt w2 (x := y) (y := x) (by omega)
   simp -dsimp -implicitDefEqProofs (disch := try exact zdL) only [go_sem, zaf, zae, zad, zas, zal, zah, ncmp, show ¬ x < y by omega, show ¬ x = y by omega]
theorem plus_ret (a b : List Nat) (ha : ∀ x ∈ a, x < W32) (hb : ∀ x ∈ b, x < W32) (hla : a.length ≤ 17592186044416) (hlb : b.length ≤ 17592186044416) :
  ∃ l : List Nat, (∀ x ∈ l, x < W32) ∧ l.length ≤ max a.length b.length + 1 ∧ val W32 l = val W32 a + val W32 b ∧ Ret pg n_long_plus [.sl (nats .u32 a), .sl (nats .u32 b)] (.sl (nats .u32 l)) := by
 have key : ∀ a b : List Nat, (∀ x ∈ a, x < W32) → (∀ x ∈ b, x < W32) → b.length ≤ a.length → val W32 (addL W32 (a ++ [0]) b 0) = val W32 a + val W32 b := fun a b ha hb h => by
  rw [addL_val w2 _ _ _ (by simp; omega), zd4]
  have h1 := zgv w2 ha
  have h2 := zgv w2 hb
  have h3 : W32 ^ b.length ≤ W32 ^ a.length := Nat.pow_le_pow_right (by decide) h
  simp only [val, Nat.mul_zero, Nat.add_zero, List.length_append, List.length_cons, List.length_nil, Nat.zero_add]
  rw [Nat.mod_eq_of_lt]
  rw [Nat.pow_succ]
  generalize W32 ^ a.length = p at *
  show _ < p * 4294967296
  omega
 refine ⟨if a.length < b.length then addL W32 (b ++ [0]) a 0 else addL W32 (a ++ [0]) b 0, ?_, ?_, ?_, ?_⟩
 ·split <;> exact addL_lt w2 _ _ _
 ·split <;> simp [addL_len] <;> omega
 ·split
  ·rw [key b a hb ha (by omega)]; omega
  ·rw [key a b ha hb (by omega)]
 ·refine long_plus.of rfl (W_b ?_)
  unfold long_plus.k long_plus.res Ot kp Oy Om Ol Oi Oc On ci
  by_cases hl : a.length < b.length
  ·refine sgi ?_
   have e0 : List.take (min b.length (b.length + 1)) b ++ List.drop (min b.length (b.length + 1)) (List.replicate (b.length + 1) 0) = b ++ [0] := by
    rw [Nat.min_eq_left (by omega), List.take_length, List.drop_replicate, Nat.add_sub_cancel_left]; rfl
   refine za1 (T := Nat × Nat × Nat × List Nat) (fun t => ⟨E [(1, .sl (nats .u32 a)), (5, .own 13 (b.length + 1)), (6, .int .u64 t.2.1), (23, .int .i64 (b.length + 1 : Nat)), (24, .int .i64 t.1)], Hp.upd (fun _ => none) 13 (some ⟨nats .u32 t.2.2.2, 1⟩), t.2.2.1, t.2.2.1⟩)
    (fun t => t.2.2.2.length = b.length + 1 ∧ t.1 ≤ b.length + 1 ∧ t.2.1 ≤ 1 ∧ (∀ x ∈ t.2.2.2, x < W32) ∧ t.2.2.2.take t.1 ++ addL W32 (t.2.2.2.drop t.1) (a.drop t.1) t.2.1 = addL W32 (b ++ [0]) a 0) (fun t => b.length + 1 - t.1) (0, 0, _, b ++ [0]) (by rw [e0]; rfl) ⟨by simp, zdo, zdo, by intro x hx; simp at hx; rcases hx with hx | rfl; exact hb x hx; decide, by simp⟩ ?_
   rintro ⟨i, o, nx, out⟩ ⟨h1, h2, h3, h4, h5⟩
   dsimp only at h1 h2 h3 h4 h5
   have g1 := zco (i := i) h4 (by decide)
   have g2 := zco (i := i) ha (by decide)
   by_cases hi : i < b.length + 1
   ·have fin : ∀ s, s = out.getD i 0 + a.getD i 0 + o → (out.set i (s % 4294967296)).length = b.length + 1 ∧ i + 1 ≤ b.length + 1 ∧ s / 4294967296 ≤ 1 ∧ (∀ x ∈ out.set i (s % 4294967296), x < W32) ∧ (out.set i (s % 4294967296)).take (i + 1) ++ addL W32 ((out.set i (s % 4294967296)).drop (i + 1)) (a.drop (i + 1)) (s / 4294967296) = addL W32 (b ++ [0]) a 0 := fun s hs => by
     have g3 : s < 8589934592 := by
      have k1 : out.getD i 0 < 4294967296 := g1
      have k2 : a.getD i 0 < 4294967296 := g2
      omega
     refine ⟨by simp [h1], by omega, by omega, fun x hx => ?_, ?_⟩
     ·rcases List.mem_or_eq_of_mem_set hx with hx | rfl
      ·exact h4 x hx
      ·exact Nat.mod_lt _ (by decide)
     ·rw [set_take (by omega), set_drop, ← h5, zel (show i < out.length by omega), addL, drop_head, drop_tail, List.append_assoc, ← hs]; rfl
    have k1 : out.getD i 0 < 4294967296 := g1
    have k2 : a.getD i 0 < 4294967296 := g2
    by_cases hq : i < a.length
    ·refine sgi ?_
     exact ⟨(i + 1, (o + (out.getD i 0 + a.getD i 0)) / 4294967296, _, out.set i ((o + (out.getD i 0 + a.getD i 0)) % 4294967296)), rfl, fin _ (by omega), zdo⟩
    ·have hq0 : a.getD i 0 = 0 := by simp [List.getD_eq_getElem?_getD, List.getElem?_eq_none (Nat.le_of_not_lt hq)]
     refine sgi ?_
     exact ⟨(i + 1, (o + out.getD i 0) / 4294967296, _, out.set i ((o + out.getD i 0) % 4294967296)), rfl, fin _ (by omega), zdo⟩
   ·have he : i = out.length := by omega
    rw [he, List.take_length, List.drop_length] at h5
    simp only [addL, List.append_nil] at h5
    refine sgi ?_
    simp [h5, hl]
  ·refine sgi ?_
   have e0 : List.take (min a.length (a.length + 1)) a ++ List.drop (min a.length (a.length + 1)) (List.replicate (a.length + 1) 0) = a ++ [0] := by
    rw [Nat.min_eq_left (by omega), List.take_length, List.drop_replicate, Nat.add_sub_cancel_left]; rfl
   refine za1 (T := Nat × Nat × Nat × List Nat) (fun t => ⟨E [(1, .sl (nats .u32 b)), (5, .own 9 (a.length + 1)), (6, .int .u64 t.2.1), (23, .int .i64 (a.length + 1 : Nat)), (24, .int .i64 t.1)], Hp.upd (fun _ => none) 9 (some ⟨nats .u32 t.2.2.2, 1⟩), t.2.2.1, t.2.2.1⟩)
    (fun t => t.2.2.2.length = a.length + 1 ∧ t.1 ≤ a.length + 1 ∧ t.2.1 ≤ 1 ∧ (∀ x ∈ t.2.2.2, x < W32) ∧ t.2.2.2.take t.1 ++ addL W32 (t.2.2.2.drop t.1) (b.drop t.1) t.2.1 = addL W32 (a ++ [0]) b 0) (fun t => a.length + 1 - t.1) (0, 0, _, a ++ [0]) (by rw [e0]; rfl) ⟨by simp, zdo, zdo, by intro x hx; simp at hx; rcases hx with hx | rfl; exact ha x hx; decide, by simp⟩ ?_
   rintro ⟨i, o, nx, out⟩ ⟨h1, h2, h3, h4, h5⟩
   dsimp only at h1 h2 h3 h4 h5
   have g1 := zco (i := i) h4 (by decide)
   have g2 := zco (i := i) hb (by decide)
   by_cases hi : i < a.length + 1
   ·have fin : ∀ s, s = out.getD i 0 + b.getD i 0 + o → (out.set i (s % 4294967296)).length = a.length + 1 ∧ i + 1 ≤ a.length + 1 ∧ s / 4294967296 ≤ 1 ∧ (∀ x ∈ out.set i (s % 4294967296), x < W32) ∧ (out.set i (s % 4294967296)).take (i + 1) ++ addL W32 ((out.set i (s % 4294967296)).drop (i + 1)) (b.drop (i + 1)) (s / 4294967296) = addL W32 (a ++ [0]) b 0 := fun s hs => by
     have g3 : s < 8589934592 := by
      have k1 : out.getD i 0 < 4294967296 := g1
      have k2 : b.getD i 0 < 4294967296 := g2
      omega
     refine ⟨by simp [h1], by omega, by omega, fun x hx => ?_, ?_⟩
     ·rcases List.mem_or_eq_of_mem_set hx with hx | rfl
      ·exact h4 x hx
      ·exact Nat.mod_lt _ (by decide)
     ·rw [set_take (by omega), set_drop, ← h5, zel (show i < out.length by omega), addL, drop_head, drop_tail, List.append_assoc, ← hs]; rfl
    have k1 : out.getD i 0 < 4294967296 := g1
    have k2 : b.getD i 0 < 4294967296 := g2
    by_cases hq : i < b.length
    ·refine sgi ?_
     exact ⟨(i + 1, (o + (out.getD i 0 + b.getD i 0)) / 4294967296, _, out.set i ((o + (out.getD i 0 + b.getD i 0)) % 4294967296)), rfl, fin _ (by omega), zdo⟩
    ·have hq0 : b.getD i 0 = 0 := by simp [List.getD_eq_getElem?_getD, List.getElem?_eq_none (Nat.le_of_not_lt hq)]
     refine sgi ?_
     exact ⟨(i + 1, (o + out.getD i 0) / 4294967296, _, out.set i ((o + out.getD i 0) % 4294967296)), rfl, fin _ (by omega), zdo⟩
   ·have he : i = out.length := by omega
    rw [he, List.take_length, List.drop_length] at h5
    simp only [addL, List.append_nil] at h5
    refine sgi ?_
    simp [h5, hl]
end Go.Gim
/- Products of whole numbers of any size, and parts of them. -/
set_option maxRecDepth 100000
namespace Go.Gim
open Go.Proofs
attribute [local go_sem] IntWalk.i64_in wu64 wu32 wu8 Nat.mod_eq_of_lt shr32 shr63 shl32 or32 quo64 quo32 zeh remk zcb zca zdc zdb zbx Nat.add_assoc zat lt_ne gt_ne zc7 dlt_t dlt_f dle_t dle_f deq_t deq_f zbq zec zeb za9 zbc za8 zay zcc zcf zcg zcx zag List.length_set ge_iff_le gt_iff_lt Int.toNat_natCast zb5 zcy zb6 zc0 zcz zb9 zbt zev zbv zbw zc6
theorem zbe (x y : Int) (hx : lim x ≤ 8796093022208) (hy : lim y ≤ 8796093022208) : Ret pg zai [IV x, IV y] (IV (x * y)) := by
 unfold lim at hx hy
 generalize hX : digs W32 x.natAbs = xs at hx
 generalize hY : digs W32 y.natAbs = ys at hy
 have lx : ∀ z ∈ xs, z < W32 := by rw [← hX]; exact zeu w2 _
 have ly : ∀ z ∈ ys, z < W32 := by rw [← hY]; exact zeu w2 _
 refine long_Int_Mul.of rfl (W_b ?_)
 unfold long_Int_Mul.k long_Int_Mul.res Ot kp Oy Om Ol Oq Oi Oc On ci
 simp -dsimp -implicitDefEqProofs (disch := try exact zdL) only [go_sem, zaf, zae, zad, zas, zal, zah, hX, hY]
 refine za1 (T := Nat × Nat × List Nat) (fun t => ⟨E [(2, .pp (IV x)), (3, .pp (IV y)), (4, .ptr 2 1 0 0), (5, .own 11 (xs.length + (ys.length + 1))), (21, .sl (nats .u32 xs)), (22, .int .i64 xs.length), (23, .int .i64 t.1)], (Hp.upd (fun _ => none) 2 (some ⟨[.agg [.bool false, .nil]], 2⟩)).upd 11 (some ⟨nats .u32 t.2.2, 1⟩), t.2.1, t.2.1⟩)
  (fun t => 11 < t.2.1 ∧ t.2.2.length = xs.length + (ys.length + 1) ∧ t.1 ≤ xs.length ∧ (∀ z ∈ t.2.2, z < W32) ∧ val W32 t.2.2 = val W32 (xs.take t.1) * val W32 ys ∧ ∀ j, t.1 + ys.length ≤ j → t.2.2.getD j 0 = 0) (fun t => xs.length - t.1) (0, _, List.replicate (xs.length + (ys.length + 1)) 0) rfl
  ⟨zdo, by simp, by simp, by intro z hz; rw [List.eq_of_mem_replicate hz]; decide, by simp [val]; exact zh3 _ (fun z hz => List.eq_of_mem_replicate hz), fun j _ => by simp [List.getD_eq_getElem?_getD, List.getElem?_replicate]; split <;> rfl⟩ ?_
 rintro ⟨i, nx, out⟩ ⟨h0, h1, h2, h3, h4, h5⟩
 dsimp only at h0 h1 h2 h3 h4 h5
 by_cases hi : i < xs.length
 ·generalize hxi : xs.getD i 0 = m
  have hm : m < W32 := by rw [← hxi]; exact zco lx (by decide)
  have hm' : m < 4294967296 := hm
  simp -dsimp -implicitDefEqProofs (disch := try exact zdL) only [go_sem, zaf, zae, zad, zas, zal, zah, hX, hY, hxi]
  refine za1 (T := Nat × Nat × Nat × List Nat) (fun t => ⟨E [(2, .pp (IV x)), (3, .pp (IV y)), (4, .ptr 2 1 0 0), (5, .own 11 (xs.length + (ys.length + 1))), (6, .int .i64 i), (7, .int .u32 m), (8, .int .u64 t.2.1), (21, .sl (nats .u32 xs)), (22, .int .i64 xs.length), (23, .int .i64 i), (29, .sl (nats .u32 ys)), (30, .int .i64 ys.length), (31, .int .i64 t.1)], (Hp.upd (fun _ => none) 2 (some ⟨[.agg [.bool false, .nil]], 2⟩)).upd 11 (some ⟨nats .u32 t.2.2.2, 1⟩), t.2.2.1, t.2.2.1⟩)
   (fun t => 11 < t.2.2.1 ∧ t.2.2.2.length = xs.length + (ys.length + 1) ∧ t.1 ≤ ys.length ∧ t.2.1 < W32 ∧ (∀ z ∈ t.2.2.2, z < W32) ∧ t.2.2.2.take (i + t.1) ++ mulL W32 m (ys.drop t.1) (t.2.2.2.drop (i + t.1)) t.2.1 = out.take i ++ mulL W32 m ys (out.drop i) 0) (fun t => ys.length - t.1) (0, 0, _, out) rfl ⟨zdo, h1, zdo, by show 0 < 4294967296; decide, h3, by simp⟩ ?_
  rintro ⟨k, o, nx', out'⟩ ⟨k0, k1, k2, k3, k4, k5⟩
  dsimp only at k0 k1 k2 k3 k4 k5
  by_cases hk : k < ys.length
  ·generalize hyk : ys.getD k 0 = b
   have hb : b < W32 := by rw [← hyk]; exact zco ly (by decide)
   have hb' : b < 4294967296 := hb
   generalize hok : out'.getD (i + k) 0 = c
   have hc : c < W32 := by rw [← hok]; exact zco k4 (by decide)
   have hc' : c < 4294967296 := hc
   have hov : m * b + c + o < 18446744073709551616 := mulL_over w2 hm hb hc k3
   simp -dsimp -implicitDefEqProofs (disch := try exact zdL) only [go_sem, zaf, zae, zad, zas, zal, zah, hX, hY, hyk, hok]
   refine ⟨(k + 1, (o + (m * b + c)) / 4294967296, _, out'.set (i + k) ((o + (m * b + c)) % 4294967296)), rfl, ⟨zdo, by simp [k1], zdo, by show (o + (m * b + c)) / 4294967296 < 4294967296; omega, fun z hz => ?_, ?_⟩, zdo⟩
   ·rcases List.mem_or_eq_of_mem_set hz with hz | rfl
    ·exact k4 z hz
    ·exact Nat.mod_lt _ (by decide)
   ·dsimp only
    rw [← Nat.add_assoc, set_take (by omega), set_drop, ← k5, zel hk, mulL, drop_head, drop_tail, hok, hyk, List.append_assoc, show o + (m * b + c) = m * b + c + o by omega]; rfl
  ·have he : k = ys.length := by omega
   subst he
   rw [List.drop_length, mulL, drop_tail] at k5
   simp -dsimp -implicitDefEqProofs (disch := try exact zdL) only [go_sem, zaf, zae, zad, zas, zal, zah, hX, hY]
   have e1 : ((o : Int).toNat) = o := by simp
   have key : out'.set (i + ys.length) o = out.take i ++ mulL W32 m ys (out.drop i) 0 := by
    rw [← k5, List.set_eq_take_append_cons_drop, if_pos (by omega)]
   have hml := mulL_val w2 (m := m) ys (out.drop i) 0 (by simp; omega) (by rw [getD_drop']; exact h5 _ (Nat.le_refl _))
   refine ⟨(i + 1, _, out'.set (i + ys.length) o), rfl, ⟨zdo, by simp [k1], zdo, fun z hz => ?_, ?_, fun j hj => ?_⟩, zdo⟩
   ·rcases List.mem_or_eq_of_mem_set hz with hz | rfl
    ·exact k4 z hz
    ·exact k3
   ·dsimp only
    rw [key, zd4, hml, show (out.take i).length = i by simp; omega, zbg hi, hxi, Nat.add_mul, ← h4, ze1 (l := out) (i := i) (by omega)]
    simp only [Nat.mul_add, Nat.add_zero, Nat.mul_zero]
    rw [Nat.mul_assoc]; omega
   ·dsimp only at hj ⊢
    rw [key, getD_append_take (by omega) (by omega), mulL_high (by omega), getD_drop']
    exact h5 _ (by omega)
 ·have he : i = xs.length := by omega
  subst he
  rw [List.take_length, ← hX, ← hY, zbo w2, zbo w2] at h4
  have hmr := zgr (!decide (decide (x < 0) = decide (y < 0))) out h3 (by omega)
  rw [h4] at hmr
  have hsg : IV (sg (!decide (decide (x < 0) = decide (y < 0))) (x.natAbs * y.natAbs)) = IV (x * y) := by
   congr 1
   rw [← Int.natAbs_mul]
   unfold sg
   by_cases h1 : x < 0 <;> by_cases h2 : y < 0
   ·have := Int.mul_nonneg_of_nonpos_of_nonpos (show x ≤ 0 by omega) (show y ≤ 0 by omega)
    simp [h1, h2]; omega
   ·have := Int.mul_nonpos_of_nonpos_of_nonneg (show x ≤ 0 by omega) (show 0 ≤ y by omega)
    simp [h1, h2]; omega
   ·have := Int.mul_nonpos_of_nonneg_of_nonpos (show 0 ≤ x by omega) (show y ≤ 0 by omega)
    simp [h1, h2]; omega
   ·have := Int.mul_nonneg (show 0 ≤ x by omega) (show 0 ≤ y by omega)
    simp [h1, h2]; omega
  rw [hsg] at hmr
  simp -dsimp -implicitDefEqProofs (disch := try exact zdL) only [go_sem, zaf, zae, zad, zas, zal, zah, hX, hY]
  refine zik 11 (nats .u32 out) rfl nats_pure (by simp [V.sub, fz1, zag, h1]) hmr (by simp) ?_
  exact sgi trivial
end Go.Gim
/- Numbers as texts. -/
set_option maxRecDepth 100000
namespace Go.Gim
open Go.Proofs
attribute [local go_sem] IntWalk.i64_in wu64 wu32 wu8 Nat.mod_eq_of_lt shr32 shr63 shl32 or32 quo64 quo32 zeh remk zcb zca zdc zdb zbx Nat.add_assoc zat lt_ne gt_ne zc7 dlt_t dlt_f dle_t dle_f deq_t deq_f zbq zec zeb za9 zbc za8 zay zcc zcf zcg zcx zag List.length_set ge_iff_le gt_iff_lt Int.toNat_natCast zb5 zcy zb6 zc0 zcz zb9 zbt zev zbv zbw zc6
theorem by_ret (a : List Nat) (b : Nat) (ha : ∀ x ∈ a, x < W32) (hb : 0 < b) (hb2 : b < W32) (hl : a.length ≤ 35184372088832) : Ret pg n_long_by [.sl (nats .u32 a), .int .u32 b] (.tup [.sl (nats .u32 (divL W32 b a).1), .int .u32 (divL W32 b a).2]) := by
 have hb2' : b < 4294967296 := hb2
 refine long_by.of rfl (W_b ?_)
 unfold long_by.k long_by.res Ot kp Oy Om Ol Oi On ci
 refine sgi ?_
 refine za1 (T := Nat × Nat × Nat × List Nat) (fun t => ⟨E [(0, .sl (nats .u32 a)), (1, .int .u32 b), (6, .own 4 a.length), (7, .int .u64 t.2.1), (8, .int .i64 ((t.1 : Int) - 1))], Hp.upd (fun _ => none) 4 (some ⟨nats .u32 t.2.2.2, 1⟩), t.2.2.1, t.2.2.1⟩)
  (fun t => t.1 ≤ a.length ∧ t.2.2.2.length = a.length ∧ t.2.1 = (divL W32 b (a.drop t.1)).2 ∧ t.2.2.2.drop t.1 = (divL W32 b (a.drop t.1)).1) (fun t => t.1) (a.length, 0, _, List.replicate a.length 0) rfl ⟨by simp, by simp, by simp [divL], by simp [divL]⟩ ?_
 rintro ⟨j, r, nx, out⟩ ⟨h1, h2, hr, h3⟩
 dsimp only at h1 h2 h3 hr
 have hrb : r < b := by rw [hr]; exact divL_rest hb _
 by_cases hj : j = 0
 ·subst hj
  simp only [List.drop_zero] at h3 hr
  refine sgi ?_
  simp [h3, hr]
 ·have hd := zel (l := a) (i := j - 1) (by omega)
  rw [show j - 1 + 1 = j by omega] at hd
  have hx : a.getD (j - 1) 0 < 4294967296 := zco ha (by decide)
  generalize hX : a.getD (j - 1) 0 = x at hx hd
  have hq : (r * 4294967296 + x) / b < 4294967296 := by
   rw [Nat.div_lt_iff_lt_mul hb]; omega
  simp -dsimp -implicitDefEqProofs (disch := try exact zdL) only [go_sem, zaf, zae, zad, zas, zal, zah, hX]
  refine ⟨(j - 1, (r * 4294967296 + x) % b, _, out.set (j - 1) ((r * 4294967296 + x) / b)), rfl, ⟨zdo, by simp [h2], ?_, ?_⟩, zdo⟩
  ·dsimp only; rw [hd, divL, ← hr]
  ·dsimp only
   rw [hd, divL, ← hr, ← h3, zel (l := out.set _ _) (i := j - 1) (by simp; omega), set_drop, show j - 1 + 1 = j by omega]
   congr 1
   simp [List.getD_eq_getElem?_getD, show j - 1 < out.length by omega]
end Go.Gim
/- Differences and sums of whole numbers of any size. -/
set_option maxRecDepth 100000
namespace Go.Gim
open Go.Proofs
attribute [local go_sem] IntWalk.i64_in wu64 wu32 wu8 Nat.mod_eq_of_lt shr32 shr63 shl32 or32 quo64 quo32 zeh remk zcb zca zdc zdb zbx Nat.add_assoc zat lt_ne gt_ne zc7 dlt_t dlt_f dle_t dle_f deq_t deq_f zbq zec zeb za9 zbc za8 zay zcc zcf zcg zcx zag List.length_set ge_iff_le gt_iff_lt Int.toNat_natCast zb5 zcy zb6 zc0 zcz zb9 zbt zev zbv zbw zc6
inductive Vw (H : Hp) (n0 : Nat) : V → List Nat → Prop where
 | sl (l : List Nat) : Vw H n0 (.sl (nats .u32 l)) l
 | own (b : Nat) (l : List Nat) (n : Nat) (hn : l.length = n) (hb : b < n0) (h : H b = some ⟨nats .u32 l, 1⟩) : Vw H n0 (.own b n) l
 | win (b off : Nat) (w l : List Nat) (n m : Nat) (hn : w.length = n) (hm : l.length = m) (hb : b < n0) (h : H b = some ⟨nats .u32 w, 1⟩) (ho : off + m ≤ n) (hl : l = (w.drop off).take m) : Vw H n0 (.win b n off m) l
theorem Vw.slOf {H : Hp} {n0 : Nat} {v : V} {l : List Nat} (h : Vw H n0 v l) : slOf H v = some (nats .u32 l) := by
 cases h with
 | sl => rfl
 | own b l n hn hb h => exact slOf_own h (by rw [zag, hn])
 | win b off w l n m hn hm hb h ho hl =>
  simp only [Go.Gim.slOf, h, zag]
  rw [if_pos ⟨hn, ho⟩, hl]; simp [nats, List.map_drop, List.map_take]
theorem Vw.same {H H' : Hp} {n0 n1 : Nat} {v : V} {l : List Nat} (h : Vw H n0 v l) (hH : ∀ b, b < n0 → H' b = H b) (hn : n0 ≤ n1) : Vw H' n1 v l := by
 cases h with
 | sl => exact .sl _
 | own b l n hn hb h => exact .own b l n hn (by omega) (by rw [hH b hb]; exact h)
 | win b off w l n m hn hm hb h ho hl => exact .win b off w l n m hn hm (by omega) (by rw [hH b hb]; exact h) ho hl
theorem Vw.isnil {H : Hp} {n0 nx : Nat} {v : V} {l : List Nat} {neg : Bool} {Kn : V → Prop} {u : Dep Kn} (h : Vw H n0 v l) (hne : l ≠ []) (hk : Kn (.bool neg)) : isnilB false nx H 0 neg v Kn u := by
 obtain ⟨x, l', rfl⟩ := List.exists_cons_of_ne_nil hne
 cases h with
 | sl => exact hk
 | own b l n hn hb h => subst hn; exact ⟨⟨_, h, by rw [zag]; rfl⟩, (fun h => by cases h), hk⟩
 | win b off w l n m hn hm hb h ho hl => subst hm; exact ⟨⟨_, h, by rw [zag]; exact hn⟩, (fun h => by cases h), hk⟩
theorem Vw.len {H : Hp} {n0 : Nat} {v : V} {l : List Nat} (h : Vw H n0 v l) (nx : Nat) : lenB false nx H false v = some (.int .i64 l.length) := by
 cases h with
 | sl => simp [lenB, lenV, zag]
 | own b l n hn hb h => simp [lenB, h, zag, hn]
 | win b off w l n m hn hm hb h ho hl => simp [lenB, lenV, hm]
theorem Vw.read {H : Hp} {n0 : Nat} {v : V} {l : List Nat} (h : Vw H n0 v l) {j : Nat} (hj : j < l.length) : ∃ p, (∀ (k : IntKind) (nx : Nat) (Kn : V → Prop) (u : Dep Kn), Kn p → idxB false nx H 1 v (.int k (j : Int)) Kn u) ∧ ∀ (nx : Nat) (F : V → Prop) (u : Dep F), F (.int .u32 (l.getD j 0 : Nat)) → opt (loadV false nx H 1 false p) F u := by
 cases h with
 | sl => exact ⟨_, fun k nx Kn u hk => idxB_sl (by omega) (by rw [Int.toNat_natCast]; exact zie hj) rfl hk, fun nx F u hf => ⟨_, rfl, hf⟩⟩
 | own b l n hn hb h => exact ⟨.ptr b n j 0, fun k nx Kn u hk => idxB_own (by omega) (by omega) h (by rw [zag, hn]) rfl (fun h => by cases h) (by rw [Int.toNat_natCast]; exact hk), fun nx F u hf => load_own (fun h => by cases h) h (by rw [zag, hn]) (zie hj) rfl rfl hf⟩
 | win b off w l n m hn hm hb h ho hl => exact ⟨.ptr b n (off + j) 0, fun k nx Kn u hk => idxB_win (by omega) (by omega) ho h (by rw [zag, hn]) rfl (fun h => by cases h) (by rw [Int.toNat_natCast]; exact hk), fun nx F u hf => load_own (fun h => by cases h) h (by rw [zag, hn]) (zie (by omega)) rfl rfl (by
   have e : l.getD j 0 = w.getD (off + j) 0 := by
    rw [hl]; simp [List.getD_eq_getElem?_getD, show j < m by omega]
   rw [← e]; exact hf)⟩
theorem clone_G (v : V) (l : List Nat) (H : Hp) (n0 : Nat) (hv : Vw H n0 v l) (hne : l ≠ []) (hl : l.length ≤ 35184372088831) :
  ∃ H' n' id, (n0 ≤ id ∧ id < n' ∧ H' id = some ⟨nats .u32 l, 1⟩ ∧ ∀ b, b < n0 → H' b = H b) ∧ RetG pg za3 [v] H n0 (.own id l.length) H' n' := by
 suffices h : ∃ r H' n', (∃ id, r = .own id l.length ∧ n0 ≤ id ∧ id < n' ∧ H' id = some ⟨nats .u32 l, 1⟩ ∧ ∀ b, b < n0 → H' b = H b) ∧ RetG pg za3 [v] H n0 r H' n' by
  obtain ⟨_, H', n', ⟨id, rfl, h1⟩, h⟩ := h
  exact ⟨H', n', id, h1, h⟩
 have hl0 : 0 < l.length := List.length_pos_iff.2 hne
 refine slices_Clone_Luint32_uint32.ofG rfl (W_b ?_)
 unfold slices_Clone_Luint32_uint32.k slices_Clone_Luint32_uint32.res Ot kp Om
 refine sgi ?_
 refine hv.isnil hne ?_
 refine sgi ?_
 refine effB_of (app_own (news := nats .u32 l) (Vw.slOf (n0 := n0) (hv.same (fun b hb => Hp.upd_ne _ _ (by omega)) (Nat.le_refl _))) (nats_row _ _) (by decide) (Hp.upd_same _ _ _) rfl rfl (by simp [zag]; omega) (by simp [zag]; omega) ?_) ?_
 ·cases hv <;> simp [V.notIn] <;> omega
 ·simp -dsimp -implicitDefEqProofs (disch := try exact zdL) only [go_sem, zaf, zae, zad, zas, zal, zah, List.length_nil, Nat.zero_add, List.nil_append]
  exact ⟨_, rfl, zdo, _, rfl, by omega, zdo, Hp.upd_same _ _ _, fun b hb => by dsimp only; rw [Hp.upd_ne _ _ (by omega), Hp.upd_ne _ _ (by omega)]⟩
theorem wsub64 {a b : Nat} (h : b ≤ 18446744073709551616) : IntKind.u64.wrap ((a : Int) - (b : Int)) = (((a + 18446744073709551616 - b) % 18446744073709551616 : Nat) : Int) := by
 simp [IntKind.wrap, IntKind.bits, IntKind.signed]; omega
theorem less_G (v w : V) (a b : List Nat) (H : Hp) (n0 : Nat) (hv : Vw H n0 v a) (hw : Vw H n0 w b) (hne : a ≠ []) (ha : ∀ x ∈ a, x < W32) (hb : ∀ x ∈ b, x < W32) (hl : a.length ≤ 35184372088831) (hlb : b.length ≤ 35184372088832) :
  ∃ H' n' id, (n0 ≤ id ∧ id < n' ∧ H' id = some ⟨nats .u32 (subL W32 a b 0), 1⟩ ∧ ∀ b, b < n0 → H' b = H b) ∧ RetG pg zer [v, w] H n0 (.own id a.length) H' n' := by
 suffices h : ∃ r H' n', (∃ id, r = .own id a.length ∧ n0 ≤ id ∧ id < n' ∧ H' id = some ⟨nats .u32 (subL W32 a b 0), 1⟩ ∧ ∀ b, b < n0 → H' b = H b) ∧ RetG pg zer [v, w] H n0 r H' n' by
  obtain ⟨_, H', n', ⟨id, rfl, h1⟩, h⟩ := h
  exact ⟨H', n', id, h1, h⟩
 refine long_less.ofG rfl (W_b ?_)
 unfold long_less.k long_less.res Ot kp Oy Om Ol Oi Oc On ci
 refine sgi ?_
 obtain ⟨H1, n1, id, ⟨c1, c2, c3, c4⟩, hc⟩ := clone_G v a H (n0 + 4) (hv.same (fun _ _ => rfl) (by omega)) hne hl
 refine zd3 hc ?_
 simp -dsimp -implicitDefEqProofs (disch := try exact zdL) only [go_sem, zaf, zae, zad, zas, zal, zah, c3]
 refine za1 (T := Nat × Nat × Nat × List Nat) (fun t => ⟨E [(1, w), (5, .own id a.length), (6, .int .u64 t.2.1), (12, .int .i64 a.length), (13, .int .i64 t.1)], H1.upd id (some ⟨nats .u32 t.2.2.2, 1⟩), t.2.2.1, t.2.2.1⟩)
  (fun t => id < t.2.2.1 ∧ t.2.2.2.length = a.length ∧ t.1 ≤ a.length ∧ t.2.1 ≤ 1 ∧ (∀ x ∈ t.2.2.2, x < W32) ∧ t.2.2.2.take t.1 ++ subL W32 (t.2.2.2.drop t.1) (b.drop t.1) t.2.1 = subL W32 a b 0) (fun t => a.length - t.1) (0, 0, _, a) (by rw [upd_self c3]; rfl) ⟨zdo, rfl, zdo, zdo, ha, by simp⟩ ?_
 rintro ⟨i, o, nx, out⟩ ⟨h0, h1, h2, h3, h4, h5⟩
 dsimp only at h0 h1 h2 h3 h4 h5
 have hw' : Vw (H1.upd id (some ⟨nats .u32 out, 1⟩)) n0 w b := hw.same (fun b hb => by rw [Hp.upd_ne _ _ (by omega)]; exact c4 b (by omega)) (Nat.le_refl _)
 have g1 : out.getD i 0 < 4294967296 := zco (i := i) h4 (by decide)
 have g2 : b.getD i 0 < 4294967296 := zco (i := i) hb (by decide)
 by_cases hi : i < a.length
 ·have fin : ∀ s, s = (out.getD i 0 + 18446744073709551616 - b.getD i 0 - o) % 18446744073709551616 → (out.set i (s % 4294967296)).length = a.length ∧ i + 1 ≤ a.length ∧ s / 9223372036854775808 ≤ 1 ∧ (∀ x ∈ out.set i (s % 4294967296), x < W32) ∧ (out.set i (s % 4294967296)).take (i + 1) ++ subL W32 ((out.set i (s % 4294967296)).drop (i + 1)) (b.drop (i + 1)) (s / 9223372036854775808) = subL W32 a b 0 := fun s hs => by
   refine ⟨by simp [h1], by omega, by omega, fun x hx => ?_, ?_⟩
   ·rcases List.mem_or_eq_of_mem_set hx with hx | rfl
    ·exact h4 x hx
    ·exact Nat.mod_lt _ (by decide)
   ·rw [set_take (by omega), set_drop, ← h5, zel (show i < out.length by omega), subL, drop_head, drop_tail, List.append_assoc]
    split
    ·rw [show s % 4294967296 = out.getD i 0 + 4294967296 - b.getD i 0 - o by omega, show s / 9223372036854775808 = 1 by omega]; rfl
    ·rw [show s % 4294967296 = out.getD i 0 - b.getD i 0 - o by omega, show s / 9223372036854775808 = 0 by omega]; rfl
  by_cases hq : i < b.length
  ·obtain ⟨p, hp1, hp2⟩ := hw'.read hq
   simp -dsimp -implicitDefEqProofs (disch := try exact zdL) only [go_sem, zaf, zae, zad, zas, zal, zah, wsub64, hw'.len]
   refine hp1 _ _ _ _ ?_
   refine sgi ?_
   refine hp2 _ _ _ ?_
   simp -dsimp -implicitDefEqProofs (disch := try exact zdL) only [go_sem, zaf, zae, zad, zas, zal, zah, wsub64]
   refine ⟨(i + 1, _, _, _), rfl, ⟨zdo, fin _ (by omega)⟩, zdo⟩
  ·have hq0 : b.getD i 0 = 0 := by simp [List.getD_eq_getElem?_getD, List.getElem?_eq_none (Nat.le_of_not_lt hq)]
   simp -dsimp -implicitDefEqProofs (disch := try exact zdL) only [go_sem, zaf, zae, zad, zas, zal, zah, wsub64, hw'.len]
   refine ⟨(i + 1, _, _, _), rfl, ⟨zdo, fin _ (by omega)⟩, zdo⟩
 ·have he : i = out.length := by omega
  rw [he, List.take_length, List.drop_length] at h5
  simp only [subL, List.append_nil] at h5
  refine sgi ?_
  rw [h5]
  exact ⟨_, rfl, zdo, id, rfl, by omega, zdo, Hp.upd_same _ _ _, fun b hb => by dsimp only; rw [Hp.upd_ne _ _ (by omega)]; exact c4 b (by omega)⟩
theorem less_ret (a b : List Nat) (hne : a ≠ []) (ha : ∀ x ∈ a, x < W32) (hb : ∀ x ∈ b, x < W32) (hl : a.length ≤ 35184372088831) (hlb : b.length ≤ 35184372088832) : Ret pg zer [.sl (nats .u32 a), .sl (nats .u32 b)] (.sl (nats .u32 (subL W32 a b 0))) := by
 obtain ⟨H', n', id, ⟨h1, h2, h3, _⟩, h⟩ := less_G _ _ a b (fun _ => none) 0 (.sl a) (.sl b) hne ha hb hl hlb
 exact h.toRet (Row.frz (n := 7) (lo := 0) (nx := n') (.inr ⟨id, by rw [zag, subL_len], h1, h2, h3⟩) (zah _ _ _ _))
theorem subL_abs {x y : Nat} (h : y ≤ x) : val W32 (subL W32 (digs W32 x) (digs W32 y) 0) = x - y := by
 have := subL_val w2 (digs W32 x) (digs W32 y) 0 (zeu w2 _) (zeu w2 _) (by omega) (digs_mono w2 h) (by rw [zbo w2, zbo w2]; omega)
 rw [zbo w2, zbo w2] at this
 omega
theorem ncmp_ge {x y : Nat} : (0 ≤ ncmp x y) ↔ y ≤ x := by unfold ncmp; split <;> (try split) <;> omega
theorem zb8 (x y : Int) (hx : lim x ≤ 8796093022208) (hy : lim y ≤ 8796093022208) : Ret pg zao [IV x, IV y] (IV (x + y)) := by
 have lx := zeu w2 x.natAbs
 have ly := zeu w2 y.natAbs
 unfold lim at hx hy
 refine long_Int_Add.of rfl (W_b ?_)
 unfold long_Int_Add.k long_Int_Add.res Ot kp kd Oy Om Ol Oq ci
 by_cases hs : decide (x < 0) = decide (y < 0)
 ·obtain ⟨l, p1, p2, p3, p4⟩ := plus_ret _ _ lx ly (by omega) (by omega)
  rw [zbo w2, zbo w2] at p3
  have hm := zgr (decide (x < 0)) l p1 (by omega)
  rw [p3] at hm
  have e : sg (decide (x < 0)) (x.natAbs + y.natAbs) = x + y := by
   unfold sg; split <;> simp_all <;> omega
  rw [e, hs] at hm
  simp -dsimp -implicitDefEqProofs (disch := try exact zdL) only [go_sem, zaf, zae, zad, zas, zal, zah, hs]
  refine zaa p4 (by simp) ?_
  refine sgi ?_
  refine zaa hm (by simp) ?_
  exact sgi trivial
 ·have hc := cmp_ret x.natAbs y.natAbs (by omega) (by omega)
  simp -dsimp -implicitDefEqProofs (disch := try exact zdL) only [go_sem, zaf, zae, zad, zas, zal, zah, hs]
  refine zab hc (by simp) ?_
  by_cases hge : y.natAbs ≤ x.natAbs
  ·have := ncmp_ge.2 hge
   have hd := less_ret _ _ (fun h => by have := (digs_nil w2).1 h; apply hs; congr 1; apply propext; omega) lx ly (by omega) (by omega)
   have hm := zgr (decide (x < 0)) _ (subL_lt w2 _ (digs W32 y.natAbs) 0 lx) (by rw [subL_len]; omega)
   rw [subL_abs hge, show sg (decide (x < 0)) (x.natAbs - y.natAbs) = x + y by unfold sg; split <;> simp_all <;> omega] at hm
   refine sgi ?_
   refine zaa hd (by simp) ?_
   refine sgi ?_
   refine zaa hm (by simp) ?_
   exact sgi trivial
  ·have : ¬ 0 ≤ ncmp x.natAbs y.natAbs := fun h => hge (ncmp_ge.1 h)
   have hd := less_ret _ _ (fun h => by have := (digs_nil w2).1 h; omega) ly lx (by omega) (by omega)
   have hm := zgr (decide (y < 0)) _ (subL_lt w2 _ (digs W32 x.natAbs) 0 ly) (by rw [subL_len]; omega)
   rw [subL_abs (by omega), show sg (decide (y < 0)) (y.natAbs - x.natAbs) = x + y by unfold sg; split <;> simp_all <;> omega] at hm
   refine sgi ?_
   refine zaa hd (by simp) ?_
   refine sgi ?_
   refine zaa hm (by simp) ?_
   exact sgi trivial
theorem sub_ret (x y : Int) (hx : lim x ≤ 8796093022208) (hy : lim y ≤ 8796093022208) : Ret pg zc2 [IV x, IV y] (IV (x - y)) := by
 have hn := neg_ret y (by omega)
 have ha := zb8 x (-y) hx (by rw [lim_neg]; exact hy)
 refine long_Int_Sub.of rfl (W_b ?_)
 unfold long_Int_Sub.k long_Int_Sub.res Ot kp kd Oy OL
 refine sgi ?_
 refine zaa hn (by simp) ?_
 refine sgi ?_
 refine zaa ha (by simp) ?_
 refine sgi ?_
 rfl
theorem zcw (x y : Int) (hx : lim x ≤ 8796093022208) (hy : lim y ≤ 8796093022208) : Ret pg zcj [IV x, IV y] (.int .i64 (x - y).sign) := by
 have hd := sub_ret x y hx hy
 have hs := zhc (x - y) (by have := lim_sub x y; omega)
 refine long_Int_Cmp.of rfl (W_b ?_)
 unfold long_Int_Cmp.k long_Int_Cmp.res Ot kp Om OL Oc
 refine sgi ?_
 refine zab hd (by simp) ?_
 refine sgi ?_
 refine zab hs (by simp) ?_
 exact sgi trivial
end Go.Gim
