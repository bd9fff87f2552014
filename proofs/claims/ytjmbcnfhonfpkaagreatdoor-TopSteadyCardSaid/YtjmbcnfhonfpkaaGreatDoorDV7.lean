import Derived.Test.YtjmbcnfhonfpkaaGreatDoorLI4
import Derived.Test.YtjmbcnfhonfpkaaGreatDoorM4
import Derived.Test.YtjmbcnfhonfpkaaGreatDoorGB
import Derived.Test.YtjmbcnfhonfpkaaGreatDoorB2
set_option linter.unusedSimpArgs false
set_option linter.unusedVariables false
/- So many times a divisor is taken away. -/
set_option maxRecDepth 100000
set_option maxHeartbeats 4000000
namespace Go.Gim
open Go.Proofs
attribute [local go_sem] IntWalk.i64_in wu64 wu32 wu8 Nat.mod_eq_of_lt shr32 shr63 shl32 or32 quo64 quo32 zeh remk zcb zca zdc zdb zbx Nat.add_assoc zat lt_ne gt_ne zc7 dlt_t dlt_f dle_t dle_f deq_t deq_f zbq zec zeb za9 zbc za8 zay zcc zcf zcg zcx zag List.length_set ge_iff_le gt_iff_lt Int.toNat_natCast zb5 zcy zb6 zc0 zcz zb9 zbt zev zbv zbw zc6
theorem zcs {H H3 : Hp} {b : Nat} {x : Option Blk} (h : H.upd b x = H3) : H3 b = x := by rw [← h]; exact Hp.upd_same _ _ _
theorem W_cutQ {P : Program} {a b : K} {Q : AX → St → Prop} {u : Dep Q} {S : St} (I : St → Prop) (h1 : Wb P a (thn I Q dp u) dp S) (h2 : ∀ S', I S' → Wb P b Q u S') : Wb P (.seq a b) Q u S := by
 refine zez (Q1 := AX.then I Q) (Q2 := AX.then (W P b Q) Q) (fun x S' hx => ?_) h1
 cases x with
 | normal => exact h2 S' hx
 | exit i => exact hx
 | ret => exact hx
theorem W_hide4 {P : Program} {a b c d R0 : K} {Q : AX → St → Prop} {u : Dep Q} {S : St} (h : ∀ R, R = R0 → Wb P (.seq a (.seq b (.seq c (.seq d R)))) Q u S) : Wb P (.seq a (.seq b (.seq c (.seq d R0)))) Q u S := h _ rfl
def zh4 (a b : List Nat) (m : Nat) : List Nat := if val W32 a < m * val W32 b then a else subL W32 a (zg0 W32 m (b ++ [0]) 0) 0
theorem takes_G (ba na off m : Nat) (w b : List Nat) (vb : V) (H : Hp) (n0 : Nat) (hw : w.length = na) (hoff : off + (b.length + 1) ≤ na) (hna : na ≤ 1099511627776) (hba : ba < n0) (hH : H ba = some ⟨nats .u32 w, 1⟩) (hwl : ∀ x ∈ w, x < W32)
  (hv : Vw H n0 vb b) (hne : b ≠ []) (hb : ∀ x ∈ b, x < W32) (hm : m < W32) :
  ∃ H' n', (n0 ≤ n' ∧ (∀ c, c < n0 → c ≠ ba → H' c = H c) ∧ H' ba = some ⟨nats .u32 (w.take off ++ zh4 ((w.drop off).take (b.length + 1)) b m ++ w.drop (off + (b.length + 1))), 1⟩) ∧
   RetG pg zgb [.win ba na off (b.length + 1), vb, .int .u32 (m : Int)] H n0 (.bool (decide (val W32 ((w.drop off).take (b.length + 1)) < m * val W32 b))) H' n' := by
 have hm' : m < 4294967296 := hm
 suffices h : ∃ r H' n', (r = .bool (decide (val W32 ((w.drop off).take (b.length + 1)) < m * val W32 b)) ∧ n0 ≤ n' ∧ (∀ c, c < n0 → c ≠ ba → H' c = H c) ∧ H' ba = some ⟨nats .u32 (w.take off ++ zh4 ((w.drop off).take (b.length + 1)) b m ++ w.drop (off + (b.length + 1))), 1⟩) ∧
   RetG pg zgb [.win ba na off (b.length + 1), vb, .int .u32 (m : Int)] H n0 r H' n' by
  obtain ⟨_, H', n', ⟨rfl, h1⟩, h⟩ := h
  exact ⟨H', n', h1, h⟩
 refine long_takes.ofG rfl (W_b ?_)
 unfold long_takes.k long_takes.res Ot kp kd Oh Oy Om Ol Oi Oc On ci
 refine W_hide4 fun R hR => ?_
 refine sgi ?_
 obtain ⟨H1, n1, id, ⟨c1, c2, c3, c4⟩, hc⟩ := clone_G vb b H (n0 + 6) (hv.same (fun _ _ => rfl) (by omega)) hne (by omega)
 refine zd3 hc ?_
 simp -dsimp -implicitDefEqProofs (disch := try exact zdL) only [go_sem, zaf, zae, zad, zas, zal, zah, c3]
 refine effB_of (app_own (news := nats .u32 [0]) (by simp [slOf, Hp.upd_same]; rfl) (nats_row _ _) (by decide) (by rw [Hp.upd_ne _ _ (by omega)]; exact c3) (by simp [zag]) rfl (by simp [zag]; omega) (by simp [zag]; omega) (by simp [V.notIn]; omega)) ?_
 rw [show (nats .u32 [0]).length = 1 from rfl, nats_app]
 generalize hG : Hp.upd (H1.upd (n0 + 3) _) id none = G
 have gH : ∀ c, c < n0 → G c = H c := fun c hc => by rw [← hG, Hp.upd_ne _ _ (by omega), Hp.upd_ne _ _ (by omega), c4 c (by omega)]
 clear hG c3 c4 hc
 refine sgi ?_
 have hlen : (b ++ [0]).length = b.length + 1 := by simp
 refine za1 (T := Nat × Nat × Nat × List Nat) (fun t => ⟨E [(0, .win ba na off (b.length + 1)), (2, .int .u32 (m : Int)), (7, .own (n0 + 4) (b.length + 1)), (8, .int .u64 (t.2.1 : Int)), (16, .int .i64 ((b.length + 1 : Nat) : Int)), (17, .int .i64 (t.1 : Int))], G.upd (n0 + 4) (some ⟨nats .u32 t.2.2.2, 1⟩), t.2.2.1, t.2.2.1⟩)
  (fun t => n0 + 5 ≤ t.2.2.1 ∧ t.2.2.2.length = b.length + 1 ∧ t.1 ≤ b.length + 1 ∧ t.2.1 < W32 ∧ (∀ x ∈ t.2.2.2, x < W32) ∧ t.2.2.2.take t.1 ++ zg0 W32 m (t.2.2.2.drop t.1) t.2.1 = zg0 W32 m (b ++ [0]) 0) (fun t => b.length + 1 - t.1) (0, 0, _, b ++ [0]) rfl ⟨zdo, hlen, zdo, zdo, by
   intro x hx
   rcases List.mem_append.1 hx with hx | hx
   ·exact hb x hx
   ·simp at hx; omega, by simp⟩ ?_
 rintro ⟨i, o, nx, l⟩ ⟨h0, h1, h2, h3, h4, h5⟩
 dsimp only at h0 h1 h2 h3 h4 h5
 by_cases hi : i < b.length + 1
 ·have g1 : l.getD i 0 < 4294967296 := zco (i := i) h4 (by decide)
  have hmul : l.getD i 0 * m ≤ 4294967295 * 4294967295 := Nat.mul_le_mul (by omega) (by omega)
  have hdc := zel (show i < l.length by omega)
  rw [hdc, zg0] at h5
  generalize hX : l.getD i 0 = x at *
  have h3 : o < 4294967296 := h3
  simp -dsimp -implicitDefEqProofs (disch := try exact zdL) only [go_sem, zaf, zae, zad, zas, zal, zah, hX]
  have e1 : o + x * m = x * m + o := Nat.add_comm _ _
  rw [e1]
  refine ⟨(i + 1, (x * m + o) / W32, _, l.set i ((x * m + o) % W32)), rfl, ⟨zdo, by simp [h1], zdo, by dsimp only; show _ < 4294967296; show (x * m + o) / 4294967296 < _; omega, ?_, ?_⟩, zdo⟩
  ·intro y hy
   rcases List.mem_or_eq_of_mem_set hy with hy | rfl
   ·exact h4 y hy
   ·exact Nat.mod_lt _ (by decide)
  ·dsimp only
   rw [set_take (by omega), set_drop, ← h5, List.append_assoc]; rfl
 ·obtain rfl : i = b.length + 1 := by omega
  rw [List.drop_eq_nil_of_le (by omega), List.take_of_length_le (by omega)] at h5
  simp only [zg0, List.append_nil] at h5
  subst h5
  have hval := scaleL_all (B := W32) w2 hb hm
  generalize hl0 : zg0 W32 m (b ++ [0]) 0 = l at h1 h4 hval ⊢
  dsimp only
  refine sgi ?_
  subst hR
  have hwA : ((w.drop off).take (b.length + 1)).length = b.length + 1 := by rw [List.length_take, List.length_drop]; omega
  have hAl : ∀ x ∈ (w.drop off).take (b.length + 1), x < W32 := fun x hx => hwl x (List.mem_of_mem_drop (List.mem_of_mem_take hx))
  have hAg : ∀ i, i < b.length + 1 → ((w.drop off).take (b.length + 1)).getD i 0 = w.getD (off + i) 0 := fun i hi => by simp [List.getD_eq_getElem?_getD, hi]
  have hcat : w.take off ++ ((w.drop off).take (b.length + 1) ++ w.drop (off + (b.length + 1))) = w := by
   rw [← List.drop_drop, List.take_append_drop, List.take_append_drop]
  generalize hA : (w.drop off).take (b.length + 1) = A at hwA hAl hAg ⊢
  generalize hG2 : Hp.upd G (n0 + 4) _ = G2
  have g4 : G2 (n0 + 4) = some ⟨nats .u32 l, 1⟩ := zcs hG2
  have gA : G2 ba = some ⟨nats .u32 w, 1⟩ := by rw [← hG2, Hp.upd_ne _ _ (by omega), gH ba hba]; exact hH
  have gO : ∀ c, c < n0 → G2 c = H c := fun c hc => by rw [← hG2, Hp.upd_ne _ _ (by omega)]; exact gH c hc
  refine W_cutQ (fun S' => ∃ nx' e, S' = ⟨E ((0, .win ba na off (b.length + 1)) :: (7, .own (n0 + 4) (b.length + 1)) :: e), G2, nx', nx'⟩ ∧ n0 + 5 ≤ nx' ∧ val W32 l ≤ val W32 A) ?_ ?_
  ·simp -dsimp -implicitDefEqProofs (disch := try exact zdL) only [go_sem, zaf, zae, zad, zas, zal, zah, g4]
   refine za1 (T := Nat × Nat) (fun t => ⟨E [(0, .win ba na off (b.length + 1)), (7, .own (n0 + 4) (b.length + 1)), (10, .int .i64 ((t.1 : Int) - 1))], G2, t.2, t.2⟩)
    (fun t => t.1 ≤ b.length + 1 ∧ n0 + 5 ≤ t.2 ∧ A.drop t.1 = l.drop t.1) (fun t => t.1) (b.length + 1, _) (by dsimp only; rw [show ((b.length + 1 : Nat) : Int) - 1 = ((b.length + 1 - 1 : Nat) : Int) by omega]) ⟨zdo, zdo, by dsimp only; rw [List.drop_eq_nil_of_le (by omega), List.drop_eq_nil_of_le (by omega)]⟩ ?_
   rintro ⟨k, nx2⟩ ⟨k1, k2, k3⟩
   dsimp only at k1 k2 k3
   by_cases hk : k = 0
   ·subst hk
    have hAl' : A = l := by simpa using k3
    simp -dsimp -implicitDefEqProofs (disch := try exact zdL) only [go_sem, zaf, zae, zad, zas, zal, zah, g4]
    exact ⟨_, _, rfl, by omega, by rw [hAl']; exact Nat.le_refl _⟩
   ·obtain ⟨i, rfl⟩ : ∃ i, k = i + 1 := ⟨k - 1, by omega⟩
    have ei : ((i + 1 : Nat) : Int) - 1 = (i : Int) := by omega
    have hge : (0 : Int) ≤ (i : Int) := by omega
    have hAi := hAg i (by omega)
    have rd : ∀ (dr : Bool) (nx : Nat) (Kn : V → Prop) (u : Dep Kn), ba < nx → idxB dr nx G2 1 (.win ba na off (b.length + 1)) (.int .i64 (i : Int)) Kn u = Kn (.ptr ba na (off + i) 0) := fun dr nx Kn u hn => propext ⟨fun h => by
     obtain ⟨_, _, _, _, _, h⟩ := h; simpa using h, fun h => idxB_win (by omega) (by omega) (by omega) gA (by rw [zag, hw]) rfl (fun _ => hn) (by rw [Int.toNat_natCast]; exact h)⟩
    dsimp only
    rw [ei]
    have hx : (((w.getD (off + i) 0 : Nat) : Int) ≤ ((l.getD i 0 : Nat) : Int)) ↔ A.getD i 0 ≤ l.getD i 0 := by rw [hAi]; omega
    have hy : (((w.getD (off + i) 0 : Nat) : Int) < ((l.getD i 0 : Nat) : Int)) ↔ A.getD i 0 < l.getD i 0 := by rw [hAi]; omega
    by_cases hle : ((w.getD (off + i) 0 : Nat) : Int) ≤ ((l.getD i 0 : Nat) : Int)
    ·by_cases hlt : ((w.getD (off + i) 0 : Nat) : Int) < ((l.getD i 0 : Nat) : Int)
     ·have hv1 := val_cmp w2 (a := A) (l := l) (i := i) (by omega) (by omega) hAl h4 k3 (hy.1 hlt)
      rw [hval] at hv1
      simp -dsimp -implicitDefEqProofs (disch := try exact zdL) only [go_sem, zaf, zae, zad, zas, zal, zah, g4, gA, rd, hge, hw, h1, hle, hlt]
      refine ⟨_, rfl, zdo, by rw [decide_eq_true hv1]; rfl, zdo, fun c hc _ => gO c hc, ?_⟩
      unfold zh4
      rw [if_pos hv1, ← hA]
      simp only [List.append_assoc]
      rw [hcat]
      exact gA
     ·simp -dsimp -implicitDefEqProofs (disch := try exact zdL) only [go_sem, zaf, zae, zad, zas, zal, zah, g4, gA, rd, hge, hw, h1, hle, hlt]
      refine ⟨(i, _), rfl, ⟨zdo, zdo, ?_⟩, zdo⟩
      dsimp only
      rw [zel (show i < A.length by omega), zel (show i < l.length by omega), k3]
      have := hx.1 hle; have : ¬ A.getD i 0 < l.getD i 0 := fun h => hlt (hy.2 h)
      congr 1; omega
    ·have hv1 := val_cmp w2 (a := l) (l := A) (i := i) (by omega) (by omega) h4 hAl k3.symm (by have : ¬ A.getD i 0 ≤ l.getD i 0 := fun h => hle (hx.2 h)
                                                                                                omega)
     simp -dsimp -implicitDefEqProofs (disch := try exact zdL) only [go_sem, zaf, zae, zad, zas, zal, zah, g4, gA, rd, hge, hw, h1, hle]
     exact ⟨_, _, rfl, by omega, Nat.le_of_lt hv1⟩
  ·rintro _ ⟨nx', e, rfl, k1, k2⟩
   refine sgi ?_
   have hAw : Vw G2 (nx' + 5) (.win ba na off (b.length + 1)) A := .win ba off w A na (b.length + 1) hw hwA (by omega) gA hoff hA.symm
   have hlw : Vw G2 (nx' + 5) (.own (n0 + 4) (b.length + 1)) l := .own (n0 + 4) l (b.length + 1) h1 (by omega) g4
   obtain ⟨H3, n3, id3, ⟨d1, d2, d3, d4⟩, hc3⟩ := less_G _ _ A l G2 (nx' + 5) hAw hlw (by intro e; rw [e] at hwA; simp at hwA) hAl h4 (by omega) (by omega)
   refine zd3 hc3 ?_
   have hA3 : H3 ba = some ⟨nats .u32 w, 1⟩ := by rw [d4 ba (by omega)]; exact gA
   have hSl : (subL W32 A l 0).length = b.length + 1 := by rw [subL_len, hwA]
   have heff : effV H3 (nx' + 4) (.cpy 1) [.win ba na off (b.length + 1), .own id3 A.length] = some (.int .i64 ((b.length + 1 : Nat) : Int), H3.upd ba (some ⟨nats .u32 (w.take off ++ subL W32 A l 0 ++ w.drop (off + (b.length + 1))), 1⟩)) := by
    have hs : slOf H3 (.own id3 A.length) = some (nats .u32 (subL W32 A l 0)) := by simp [slOf, d3, zag, subL_len]
    simp only [effV, hs, hA3, zag, hSl, hw, nats_row, V.notIn]
    rw [if_pos ⟨trivial, by decide, trivial, hoff, trivial, by simp; omega⟩, Nat.min_self]
    have hT : (nats .u32 (subL W32 A l 0)).take (b.length + 1) = nats .u32 (subL W32 A l 0) := List.take_of_length_le (by rw [zag, hSl]; exact Nat.le_refl _)
    rw [hT]
    simp only [nats, ← List.map_take, ← List.map_drop, ← List.map_append]
   simp -dsimp -implicitDefEqProofs (disch := try exact zdL) only [go_sem, zaf, zae, zad, zas, zal, zah, d3, heff]
   have hnl : ¬ val W32 A < m * val W32 b := by rw [← hval]; omega
   refine ⟨_, rfl, zdo, by rw [decide_eq_false hnl]; rfl, zdo, fun c hc hne => ?_, ?_⟩
   ·show (Hp.upd H3 ba _) c = _
    rw [Hp.upd_ne _ _ hne, d4 c (by omega)]; exact gO c hc
   ·unfold zh4
    rw [if_neg hnl, hl0]
    simp only [List.append_assoc]
    exact Hp.upd_same _ _ _
end Go.Gim
/- Long division. -/
set_option maxRecDepth 100000
set_option maxHeartbeats 4000000
namespace Go.Gim
open Go.Proofs
attribute [local go_sem] IntWalk.i64_in wu64 wu32 wu8 Nat.mod_eq_of_lt shr32 shr63 shl32 or32 quo64 quo32 zeh remk zcb zca zdc zdb zbx Nat.add_assoc zat lt_ne gt_ne zc7 dlt_t dlt_f dle_t dle_f deq_t deq_f zbq zec zeb za9 zbc za8 zay zcc zcf zcg zcx zag List.length_set ge_iff_le gt_iff_lt Int.toNat_natCast zb5 zcy zb6 zc0 zcz zb9 zbt zev zbv zbw zc6
theorem takesL_len (a b : List Nat) (m : Nat) : (zh4 a b m).length = a.length := by unfold zh4; split; rfl; rw [subL_len]
theorem takesL_lt {a b : List Nat} {m : Nat} (ha : ∀ x ∈ a, x < W32) : ∀ x ∈ zh4 a b m, x < W32 := by
 unfold zh4; split
 ·exact ha
 ·exact subL_lt w2 a _ 0 ha
theorem takesL_val {a b : List Nat} {m : Nat} (ha : ∀ x ∈ a, x < W32) (hb : ∀ x ∈ b, x < W32) (hm : m < W32) (hl : a.length = b.length + 1) (h : ¬ val W32 a < m * val W32 b) : val W32 (zh4 a b m) + m * val W32 b = val W32 a := by
 unfold zh4
 rw [if_neg h]
 have hs := scaleL_all (B := W32) w2 hb hm
 have := subL_val w2 a (zg0 W32 m (b ++ [0]) 0) 0 ha (scaleL_lt (by decide) _ _) (by omega) (by rw [scaleL_len]; simp; omega) (by rw [hs]; omega)
 rw [hs] at this; omega
structure LongI (a0 b : List Nat) (na n k : Nat) (a q : List Nat) : Prop where
 la : a.length = na
 lq : q.length = na - n
 hk : k ≤ na - n
 ha : ∀ x ∈ a, x < W32
 hq : ∀ x ∈ q, x < W32
 zq : ∀ j, j < k → q.getD j 0 = 0
 hA : val W32 a0 = val W32 q * val W32 b + val W32 a
 hi : val W32 (a.drop k) < val W32 b
theorem LongI.win {a0 b a q : List Nat} {na n i : Nat} (h : LongI a0 b na n (i + 1) a q) (hb : b.length = n) (hbb : ∀ x ∈ b, x < W32) (hn : n ≤ na) : val W32 (a.drop i) = val W32 ((a.drop i).take (n + 1)) ∧ val W32 ((a.drop i).take (n + 1)) < W32 * val W32 b := by
 have hil : i < a.length := by have := h.la; have := h.hk; omega
 have h1 := h.hi
 have hbl := zgv w2 hbb
 rw [hb] at hbl
 have hz : val W32 (a.drop (i + (n + 1))) = 0 := by
  have hs := ze1 (B := W32) (l := a.drop (i + 1)) (i := n) (by rw [List.length_drop]; have := h.la; have := h.hk; omega)
  rw [List.drop_drop] at hs
  rw [show i + (n + 1) = i + 1 + n by omega]
  rcases Nat.eq_zero_or_pos (val W32 (a.drop (i + 1 + n))) with h0 | h0
  ·exact h0
  ·have := Nat.le_mul_of_pos_right (W32 ^ n) h0
   omega
 have hs := ze1 (B := W32) (l := a.drop i) (i := n + 1) (by rw [List.length_drop]; have := h.la; have := h.hk; omega)
 rw [List.drop_drop, hz, Nat.mul_zero, Nat.add_zero] at hs
 refine ⟨hs, ?_⟩
 rw [← hs, zel hil, val]
 have hd : a.getD i 0 < W32 := zco (i := i) h.ha (by decide)
 have : W32 * (val W32 (a.drop (i + 1)) + 1) ≤ W32 * val W32 b := Nat.mul_le_mul_left _ h1
 rw [Nat.mul_add] at this; omega
theorem val_zero_take {q : List Nat} : ∀ {k : Nat}, (∀ j, j < k → q.getD j 0 = 0) → k ≤ q.length → val W32 (q.take k) = 0
 | 0, _, _ => by simp [val]
 | k + 1, h, hk => by rw [zbg (by omega), val_zero_take (fun j hj => h j (by omega)) (by omega), h k (by omega)]; simp
theorem LongI.step {a0 b a q : List Nat} {na n i g : Nat} (h : LongI a0 b na n (i + 1) a q) (hb : b.length = n) (hbb : ∀ x ∈ b, x < W32) (hn : n ≤ na) (hg : g < W32) (h1 : ¬ val W32 ((a.drop i).take (n + 1)) < g * val W32 b) (h2 : val W32 ((a.drop i).take (n + 1)) < (g + 1) * val W32 b) :
  LongI a0 b na n i (a.take i ++ zh4 ((a.drop i).take (n + 1)) b g ++ a.drop (i + (n + 1))) (q.set i g) := by
 obtain ⟨w1, w2'⟩ := h.win hb hbb hn
 have la := h.la; have lq := h.lq; have hk := h.hk
 have hwl : ((a.drop i).take (n + 1)).length = n + 1 := by rw [List.length_take, List.length_drop]; omega
 have hwd : ∀ x ∈ (a.drop i).take (n + 1), x < W32 := fun x hx => h.ha x (List.mem_of_mem_drop (List.mem_of_mem_take hx))
 have hv := takesL_val hwd hbb hg (by omega) h1
 have htl := takesL_len ((a.drop i).take (n + 1)) b g
 have htd := takesL_lt (b := b) (m := g) hwd
 have hs := ze1 (B := W32) (l := a.drop i) (i := n + 1) (by rw [List.length_drop]; omega)
 rw [List.drop_drop, w1] at hs
 generalize zh4 ((a.drop i).take (n + 1)) b g = T at *
 have hz : W32 ^ (n + 1) * val W32 (a.drop (i + (n + 1))) = 0 := by omega
 have hdi : (a.take i ++ T ++ a.drop (i + (n + 1))).drop i = T ++ a.drop (i + (n + 1)) := by
  rw [List.append_assoc, List.drop_append_of_le_length (by rw [List.length_take]; omega), List.drop_of_length_le (by rw [List.length_take]; omega), List.nil_append]
 have hvi : val W32 ((a.take i ++ T ++ a.drop (i + (n + 1))).drop i) = val W32 T := by
  rw [hdi, zd4, htl, hwl, hz]; rfl
 have hti : (a.take i ++ T ++ a.drop (i + (n + 1))).take i = a.take i := by
  rw [List.append_assoc, List.take_append_of_le_length (by rw [List.length_take]; omega), List.take_take, Nat.min_self]
 have hll : (a.take i ++ T ++ a.drop (i + (n + 1))).length = a.length := by
  simp only [List.length_append, List.length_take, List.length_drop, htl, hwl]; omega
 refine ⟨by rw [hll, la], by rw [List.length_set, lq], by omega, fun x hx => ?_, fun x hx => ?_, fun j hj => ?_, ?_, ?_⟩
 ·rcases List.mem_append.1 hx with hx | hx
  ·rcases List.mem_append.1 hx with hx | hx
   ·exact h.ha x (List.mem_of_mem_take hx)
   ·exact htd x hx
  ·exact h.ha x (List.mem_of_mem_drop hx)
 ·rcases List.mem_or_eq_of_mem_set hx with hx | rfl
  ·exact h.hq x hx
  ·exact hg
 ·have e : (q.set i g).getD j 0 = q.getD j 0 := by simp only [List.getD_eq_getElem?_getD]; rw [List.getElem?_set_ne (by omega)]
  rw [e]; exact h.zq j (by omega)
 ·exact long_step (d := g) (v := val W32 T) (by omega) (h.zq i (by omega)) (by omega) (val_zero_take h.zq (by omega)) h.hA (by rw [w1]; omega) hti hll hvi
 ·rw [hvi]
  rw [Nat.add_mul] at h2; omega
theorem long_G (ba na n : Nat) (a0 b : List Nat) (vb : V) (H : Hp) (n0 : Nat) (hn : b.length = n) (hn1 : 1 ≤ n) (hna : n + 1 ≤ na) (hnaB : na ≤ 1099511627776) (hba : ba < n0) (hH : H ba = some ⟨nats .u32 a0, 1⟩) (hla : a0.length = na) (ha : ∀ x ∈ a0, x < W32) (hb : ∀ x ∈ b, x < W32)
  (hv : ∀ (H' : Hp) (n' : Nat), (∀ c, c < n0 → c ≠ ba → H' c = H c) → n0 ≤ n' → Vw H' n' vb b) (hhi : val W32 (a0.drop (na - n)) < val W32 b) (hbt : 0 < b.getD (n - 1) 0) :
  ∃ H' n' id q a, (n0 ≤ id ∧ id < n' ∧ H' id = some ⟨nats .u32 q, 1⟩ ∧ LongI a0 b na n 0 a q ∧ H' ba = some ⟨nats .u32 a, 1⟩ ∧ ∀ c, c < n0 → c ≠ ba → H' c = H c) ∧ RetG pg n_long_long [.own ba na, vb] H n0 (.own id (na - n)) H' n' := by
 suffices h : ∃ r H' n', (∃ id q a, r = .own id (na - n) ∧ n0 ≤ id ∧ id < n' ∧ H' id = some ⟨nats .u32 q, 1⟩ ∧ LongI a0 b na n 0 a q ∧ H' ba = some ⟨nats .u32 a, 1⟩ ∧ ∀ c, c < n0 → c ≠ ba → H' c = H c) ∧ RetG pg n_long_long [.own ba na, vb] H n0 r H' n' by
  obtain ⟨_, H', n', ⟨id, q, a, rfl, h1⟩, h⟩ := h
  exact ⟨H', n', id, q, a, h1, h⟩
 refine long_long.ofG rfl (W_b ?_)
 unfold long_long.k long_long.res Ot kp kd Oy Om Ol Oi On ci
 have hv0 := hv H (n0 + 1) (fun _ _ _ => rfl) (by omega)
 have e1 : ((na : Nat) : Int) - ((n : Nat) : Int) = ((na - n : Nat) : Int) := by omega
 have e2 : max 0 ((na - n : Nat) : Int) = ((na - n : Nat) : Int) := by omega
 simp -dsimp -implicitDefEqProofs (disch := try exact zdL) only [go_sem, zaf, zae, zad, zas, zal, zah, hv0.len, hn, hH, hla, e1, e2]
 generalize hG0 : Hp.upd H (n0 + 9) _ = G0
 have g9 : G0 (n0 + 9) = some ⟨nats .u32 (List.replicate (na - n) 0), 1⟩ := zcs hG0
 have gb : G0 ba = some ⟨nats .u32 a0, 1⟩ := by rw [← hG0, Hp.upd_ne _ _ (by omega)]; exact hH
 have go : ∀ c, c < n0 → c ≠ ba → G0 c = H c := fun c hc _ => by rw [← hG0, Hp.upd_ne _ _ (by omega)]
 have hI0 : LongI a0 b na n (na - n) a0 (List.replicate (na - n) 0) := ⟨hla, by simp, Nat.le_refl _, ha, fun x hx => by
  have := List.eq_of_mem_replicate hx; subst this; decide, fun j hj => by simp [List.getD_eq_getElem?_getD, hj], by
  rw [zh3 W32 (l := List.replicate (na - n) 0) (fun x hx => List.eq_of_mem_replicate hx)]; omega, hhi⟩
 clear hG0 hv0 hhi
 refine za1 (T := Nat × Hp × Nat × List Nat × List Nat) (fun t => ⟨E [(0, .own ba na), (1, vb), (5, .int .i64 (n : Int)), (6, .own (n0 + 9) (na - n)), (7, .int .i64 ((t.1 : Int) - 1))], t.2.1, t.2.2.1, t.2.2.1⟩)
  (fun t => n0 + 10 ≤ t.2.2.1 ∧ LongI a0 b na n t.1 t.2.2.2.1 t.2.2.2.2 ∧ t.2.1 (n0 + 9) = some ⟨nats .u32 t.2.2.2.2, 1⟩ ∧ t.2.1 ba = some ⟨nats .u32 t.2.2.2.1, 1⟩ ∧ ∀ c, c < n0 → c ≠ ba → t.2.1 c = H c) (fun t => t.1)
  (na - n, G0, _, a0, List.replicate (na - n) 0) (by dsimp only; rw [show ((na - n : Nat) : Int) - 1 = ((na - n - 1 : Nat) : Int) by omega]) ⟨zdo, hI0, g9, gb, go⟩ ?_
 clear g9 gb go hI0 G0
 rintro ⟨k, G, nx, a, q⟩ ⟨i1, hI, i3, i4, i5⟩
 dsimp only at i1 hI i3 i4 i5
 by_cases hk : k = 0
 ·subst hk
  refine sgi ?_
  exact ⟨_, rfl, zdo, n0 + 9, q, a, rfl, by omega, zdo, i3, hI, i4, i5⟩
 ·obtain ⟨i, rfl⟩ : ∃ i, k = i + 1 := ⟨k - 1, by omega⟩
  have ei : ((i + 1 : Nat) : Int) - 1 = (i : Int) := by omega
  have hge : (0 : Int) ≤ (i : Int) := by omega
  have la := hI.la; have lq := hI.lq; have hki := hI.hk
  obtain ⟨w1, w2'⟩ := hI.win hn hb (by omega)
  have r1 : a.getD (i + n) 0 < 4294967296 := zco (i := i + n) hI.ha (by decide)
  have r2 : a.getD (i + n - 1) 0 < 4294967296 := zco (i := i + n - 1) hI.ha (by decide)
  have r3 : b.getD (n - 1) 0 < 4294967296 := zco (i := n - 1) hb (by decide)
  dsimp only
  rw [ei]
  simp -dsimp -implicitDefEqProofs (disch := try exact zdL) only [go_sem, zaf, zae, zad, zas, zal, zah, i4, la, hge]
  obtain ⟨p, hp1, hp2⟩ := (hv G n0 i5 (Nat.le_refl _)).read (j := n - 1) (by omega)
  refine hp1 _ _ _ _ ?_
  refine sgi ?_
  refine hp2 _ _ _ ?_
  refine sgi ?_
  have hwl : ((a.drop i).take (n + 1)).length = n + 1 := by rw [List.length_take, List.length_drop]; omega
  have hwd : ∀ x ∈ (a.drop i).take (n + 1), x < W32 := fun x hx => hI.ha x (List.mem_of_mem_drop (List.mem_of_mem_take hx))
  have hwg : ∀ j, j < n + 1 → ((a.drop i).take (n + 1)).getD j 0 = a.getD (i + j) 0 := fun j hj => by simp [List.getD_eq_getElem?_getD, hj]
  have ht1 := top_lt (B := W32) w2 hwl hn1 hwd
  rw [hwg n (by omega), hwg (n - 1) (by omega), show i + (n - 1) = i + n - 1 by omega] at ht1
  have ht2 := top_le (B := W32) hn hn1
  have hbp : 0 < val W32 b := Nat.pos_of_ne_zero fun h => by rw [h] at w2'; omega
  have hdle : val W32 ((a.drop i).take (n + 1)) / val W32 b ≤ (a.getD (i + n) 0 * 4294967296 + a.getD (i + n - 1) 0) / b.getD (n - 1) 0 := digit_le (B := W32) ht1 ht2 (Nat.div_mul_le_self _ _) hbt
  have hdlt : val W32 ((a.drop i).take (n + 1)) / val W32 b < 4294967296 := (Nat.div_lt_iff_lt_mul hbp).2 w2'
  have hmin : ∀ z : Nat, min ((z : Nat) : Int) 4294967295 = ((min z 4294967295 : Nat) : Int) := fun z => by omega
  rw [hmin]
  have hg0 : val W32 ((a.drop i).take (n + 1)) / val W32 b ≤ min ((a.getD (i + n) 0 * 4294967296 + a.getD (i + n - 1) 0) / b.getD (n - 1) 0) 4294967295 := Nat.le_min.2 ⟨hdle, Nat.lt_succ_iff.1 hdlt⟩
  have hg1 : min ((a.getD (i + n) 0 * 4294967296 + a.getD (i + n - 1) 0) / b.getD (n - 1) 0) 4294967295 ≤ 4294967295 := Nat.min_le_right _ _
  generalize min ((a.getD (i + n) 0 * 4294967296 + a.getD (i + n - 1) 0) / b.getD (n - 1) 0) 4294967295 = g0 at hg0 hg1 ⊢
  generalize hd : val W32 ((a.drop i).take (n + 1)) / val W32 b = d at hg0 hdlt hdle
  clear ht1 ht2 hdle hp1 hp2 r1 r2 r3
  have hdm := Nat.div_add_mod (val W32 ((a.drop i).take (n + 1))) (val W32 b)
  have hml := Nat.mod_lt (val W32 ((a.drop i).take (n + 1))) hbp
  rw [hd] at hdm
  refine za1 (T := Nat × Hp × Nat) (fun t => ⟨E [(0, .own ba na), (1, vb), (5, .int .i64 (n : Int)), (6, .own (n0 + 9) (na - n)), (7, .int .i64 (i : Int)), (9, .int .u64 (t.1 : Int))], t.2.1, t.2.2, t.2.2⟩)
   (fun t => d ≤ t.1 ∧ t.1 ≤ 4294967295 ∧ n0 + 10 ≤ t.2.2 ∧ t.2.1 (n0 + 9) = some ⟨nats .u32 q, 1⟩ ∧ t.2.1 ba = some ⟨nats .u32 a, 1⟩ ∧ ∀ c, c < n0 → c ≠ ba → t.2.1 c = H c) (fun t => t.1) (g0, G, _) rfl ⟨hg0, hg1, zdo, i3, i4, i5⟩ ?_
  clear hg0 hg1 i3 i4 i5 i1 G nx
  rintro ⟨g, G, nx⟩ ⟨j1, j2, j3, j4, j5, j6⟩
  dsimp only at j1 j2 j3 j4 j5 j6
  refine sgi ?_
  refine winB_of (i := (i : Int)) (j := ((i + n + 1 : Nat) : Int)) (by omega) (by omega) (by omega) j5 (by rw [zag, la]) rfl (fun h => by cases h) ?_
  have et : (((i + n + 1 : Nat) : Int) - (i : Int)).toNat = n + 1 := by omega
  simp -dsimp -implicitDefEqProofs (disch := try exact zdL) only [go_sem, zaf, zae, zad, zas, zal, zah, et, Int.toNat_natCast]
  have hgW : g < W32 := by show g < 4294967296; omega
  have q1 : i + (b.length + 1) ≤ na := by rw [hn]; omega
  have q2 : ba < nx + 11 := Nat.lt_of_lt_of_le hba (by omega)
  have q3 : Vw G (nx + 11) vb b := hv G (nx + 11) j6 (by omega)
  have q4 : b ≠ [] := fun e => by rw [e] at hn; simp at hn; omega
  refine Exists.elim (takes_G ba na i g a b vb G (nx + 11) la q1 hnaB q2 j5 hI.ha q3 q4 hb hgW) fun H3 hT1 => Exists.elim hT1 fun n3 hT2 => ?_
  have d1 := hT2.1.1
  have d2 := hT2.1.2.1
  have d3 := hT2.1.2.2
  have hT := hT2.2
  clear hT1 hT2
  rw [hn] at d3 hT
  have hT' : RetG pg zgb [.win ba na i (i + (n + 1) - i), vb, .int .u32 (g : Int)] G (nx + 11) (.bool (decide (val W32 ((a.drop i).take (n + 1)) < g * val W32 b))) H3 n3 := by
   rw [show i + (n + 1) - i = n + 1 by omega]; exact hT
  refine zd3 hT' ?_
  have j6' : ∀ c, c < n0 → c ≠ ba → H3 c = H c := fun c hc hne => by rw [d2 c (by omega) hne]; exact j6 c hc hne
  have j4' : H3 (n0 + 9) = some ⟨nats .u32 q, 1⟩ := by rw [d2 (n0 + 9) (by omega) (by omega)]; exact j4
  have hgd : g * val W32 b = val W32 b * g := Nat.mul_comm _ _
  by_cases hlt : val W32 ((a.drop i).take (n + 1)) < g * val W32 b
  ·have hdg : d + 1 ≤ g := by
    have : ¬ g ≤ d := fun hle => by
     have := Nat.mul_le_mul_left (val W32 b) hle
     omega
    omega
   have d3' : H3 ba = some ⟨nats .u32 a, 1⟩ := by
    rw [d3]; unfold zh4; rw [if_pos hlt]
    congr 2
    rw [List.append_assoc, ← List.drop_drop, List.take_append_drop, List.take_append_drop]
   have eg : ((g : Nat) : Int) - 1 = ((g - 1 : Nat) : Int) := by omega
   simp -dsimp -implicitDefEqProofs (disch := try exact zdL) only [go_sem, zaf, zae, zad, zas, zal, zah, hlt, decide_true, eg]
   exact ⟨(g - 1, H3, _), rfl, ⟨zdo, zdo, zdo, j4', d3', j6'⟩, zdo⟩
  ·have hdg : g = d := by
    have : ¬ d < g := fun hle => by
     have := Nat.mul_le_mul_left (val W32 b) (show d + 1 ≤ g from hle)
     rw [Nat.mul_add] at this
     omega
    omega
   have hstep := hI.step hn hb (by omega) (g := g) hgW hlt (by
    rw [Nat.add_mul, hgd, hdg]; omega)
   simp -dsimp -implicitDefEqProofs (disch := try exact zdL) only [go_sem, zaf, zae, zad, zas, zal, zah, hlt, decide_false, j4', lq]
   generalize hG2 : Hp.upd H3 (n0 + 9) _ = G2
   exact ⟨(i, G2, _, _, q.set i g), rfl, ⟨zdo, hstep, zcs hG2, by dsimp only; rw [← hG2, Hp.upd_ne _ _ (by omega)]; exact d3, fun c hc hne => by dsimp only; rw [← hG2, Hp.upd_ne _ _ (by omega)]; exact j6' c hc hne⟩, zdo⟩
end Go.Gim
/- How many leading binary digits are 0. -/
set_option maxRecDepth 100000
set_option maxHeartbeats 4000000
namespace Go.Gim
open Go.Proofs
attribute [local go_sem] IntWalk.i64_in wu64 wu32 wu8 Nat.mod_eq_of_lt shr32 shr63 shl32 or32 quo64 quo32 zeh remk zcb zca zdc zdb zbx Nat.add_assoc zat lt_ne gt_ne zc7 dlt_t dlt_f dle_t dle_f deq_t deq_f zbq zec zeb za9 zbc za8 zay zcc zcf zcg zcx zag List.length_set ge_iff_le gt_iff_lt Int.toNat_natCast zb5 zcy zb6 zc0 zcz zb9 zbt zev zbv zbw zc6
def tab8 (k : Nat) : Nat := (len8S.data.toList.getD k 0).toNat
theorem tab8_ok : ∀ k : _root_.Fin 256, k.val = 0 ∨ (1 ≤ tab8 k.val ∧ tab8 k.val ≤ 8 ∧ 128 ≤ k.val * 2 ^ (8 - tab8 k.val) ∧ (k.val + 1) * 2 ^ (8 - tab8 k.val) ≤ 256) := by decide +kernel
theorem len8_size : len8S.data.toList.length = 256 := by decide +kernel
theorem idx8 {k : Nat} (hk : k < 256) : redV .idxS [.str len8S, .int .u8 (k : Int)] = some (.int .u8 ((tab8 k : Nat) : Int)) := by
 simp only [redV, Int.toNat_natCast]
 rw [if_pos (by omega), List.getElem?_eq_getElem (by rw [len8_size]; exact hk)]
 simp [tab8, List.getD_eq_getElem?_getD, List.getElem?_eq_getElem (show k < len8S.data.toList.length by rw [len8_size]; exact hk)]
theorem lz_fin {x k J u M : Nat} (h1 : k * J ≤ x) (h2 : x < (k + 1) * J) (h3 : 128 ≤ k * u) (h4 : (k + 1) * u ≤ 256) (hM : J * M = 16777216) : 2147483648 ≤ x * (u * M) ∧ x * (u * M) < 4294967296 := by
 have e1 : k * J * (u * M) = k * u * (J * M) := by rw [Nat.mul_assoc, Nat.mul_assoc, Nat.mul_left_comm J u M]
 have e2 : (k + 1) * J * (u * M) = (k + 1) * u * (J * M) := by rw [Nat.mul_assoc, Nat.mul_assoc, Nat.mul_left_comm J u M]
 have hu : 0 < u := Nat.pos_of_ne_zero fun h => by rw [h] at h3; simp at h3
 have hm : 0 < M := Nat.pos_of_ne_zero fun h => by rw [h] at hM; simp at hM
 have hum : 0 < u * M := Nat.mul_pos hu hm
 have a1 := Nat.mul_le_mul_right (u * M) h1
 have a2 := Nat.mul_le_mul_right (u * M) (show x + 1 ≤ (k + 1) * J from h2)
 rw [e1, hM] at a1
 rw [e2, hM, Nat.add_mul] at a2
 have a3 := Nat.mul_le_mul_right 16777216 h3
 have a4 := Nat.mul_le_mul_right 16777216 h4
 omega
theorem shr16 (n : Nat) : zdt .shr .u32 (n : Int) 16 = some (.int .u32 (n / 65536 : Nat)) := by
 have p : (2 : Int) ^ 16 = 65536 := by decide
 show some (V.int .u32 ((n : Int).fdiv (2 ^ 16))) = _
 rw [p, Int.fdiv_eq_ediv_of_nonneg _ (by omega)]; congr 2
theorem shr8 (n : Nat) : zdt .shr .u32 (n : Int) 8 = some (.int .u32 (n / 256 : Nat)) := by
 have p : (2 : Int) ^ 8 = 256 := by decide
 show some (V.int .u32 ((n : Int).fdiv (2 ^ 8))) = _
 rw [p, Int.fdiv_eq_ediv_of_nonneg _ (by omega)]; congr 2
theorem len32_ret (x : Nat) (h0 : 0 < x) (hx : x < 4294967296) : ∃ l : Nat, l ≤ 32 ∧ 2147483648 ≤ x * 2 ^ (32 - l) ∧ x * 2 ^ (32 - l) < 4294967296 ∧ 1 ≤ l ∧ Ret pg zfv [.int .u32 (x : Int)] (.int .i64 (l : Int)) := by
 have fin : ∀ (k j : Nat), 0 < k → k < 256 → j ≤ 24 → k * 2 ^ j ≤ x → x < (k + 1) * 2 ^ j → tab8 k + j ≤ 32 ∧ 2147483648 ≤ x * 2 ^ (32 - (tab8 k + j)) ∧ x * 2 ^ (32 - (tab8 k + j)) < 4294967296 ∧ 1 ≤ tab8 k + j := fun k j hk hk2 hj h1 h2 => by
  rcases tab8_ok ⟨k, hk2⟩ with h | ⟨t1, t2, t3, t4⟩
  ·exact absurd h zdo
  ·dsimp only at t1 t2 t3 t4
   have := lz_fin h1 h2 t3 t4 (M := 2 ^ (24 - j)) (by rw [← Nat.pow_add, show j + (24 - j) = 24 by omega])
   rw [← Nat.pow_add, show 8 - tab8 k + (24 - j) = 32 - (tab8 k + j) by omega] at this
   exact ⟨by omega, this.1, this.2, by omega⟩
 by_cases c1 : 65536 ≤ x
 ·have g1 : (65536 : Int) ≤ (x : Int) := by omega
  by_cases c2 : 256 ≤ x / 65536
  ·have g2 : (256 : Int) ≤ ((x / 65536 : Nat) : Int) := by omega
   have hk : x / 65536 / 256 < 256 := by omega
   obtain ⟨f1, f2, f3, f4⟩ := fin (x / 65536 / 256) 24 (by omega) hk (by omega) (by omega) (by omega)
   refine ⟨_, f1, f2, f3, f4, math_bits_Len32.of rfl (W_b ?_)⟩
   unfold math_bits_Len32.k math_bits_Len32.res Ot kp Om Oc ci
   simp -dsimp -implicitDefEqProofs (disch := try exact zdL) only [go_sem, zaf, zae, zad, zas, zal, zah, g1, g2, shr16, shr8, idx8 hk]
   first | done | (congr 2; omega)
  ·have g2 : ¬ (256 : Int) ≤ ((x / 65536 : Nat) : Int) := by omega
   have hk : x / 65536 < 256 := by omega
   obtain ⟨f1, f2, f3, f4⟩ := fin (x / 65536) 16 (by omega) hk (by omega) (by omega) (by omega)
   refine ⟨_, f1, f2, f3, f4, math_bits_Len32.of rfl (W_b ?_)⟩
   unfold math_bits_Len32.k math_bits_Len32.res Ot kp Om Oc ci
   simp -dsimp -implicitDefEqProofs (disch := try exact zdL) only [go_sem, zaf, zae, zad, zas, zal, zah, g1, g2, shr16, shr8, idx8 hk]
   first | done | (congr 2; omega)
 ·have g1 : ¬ (65536 : Int) ≤ (x : Int) := by omega
  by_cases c2 : 256 ≤ x
  ·have g2 : (256 : Int) ≤ (x : Int) := by omega
   have hk : x / 256 < 256 := by omega
   obtain ⟨f1, f2, f3, f4⟩ := fin (x / 256) 8 (by omega) hk (by omega) (by omega) (by omega)
   refine ⟨_, f1, f2, f3, f4, math_bits_Len32.of rfl (W_b ?_)⟩
   unfold math_bits_Len32.k math_bits_Len32.res Ot kp Om Oc ci
   simp -dsimp -implicitDefEqProofs (disch := try exact zdL) only [go_sem, zaf, zae, zad, zas, zal, zah, g1, g2, shr16, shr8, idx8 hk]
   first | done | (congr 2; omega)
  ·have g2 : ¬ (256 : Int) ≤ (x : Int) := by omega
   have hk : x < 256 := by omega
   obtain ⟨f1, f2, f3, f4⟩ := fin (x) 0 (by omega) hk (by omega) (by omega) (by omega)
   refine ⟨_, f1, f2, f3, f4, math_bits_Len32.of rfl (W_b ?_)⟩
   unfold math_bits_Len32.k math_bits_Len32.res Ot kp Om Oc ci
   simp -dsimp -implicitDefEqProofs (disch := try exact zdL) only [go_sem, zaf, zae, zad, zas, zal, zah, g1, g2, shr16, shr8, idx8 hk]
   first | done | (congr 2; omega)
theorem lz32_ret (x : Nat) (h0 : 0 < x) (hx : x < 4294967296) : ∃ s : Nat, s ≤ 31 ∧ 2147483648 ≤ x * 2 ^ s ∧ x * 2 ^ s < 4294967296 ∧ Ret pg zcp [.int .u32 (x : Int)] (.int .i64 (s : Int)) := by
 obtain ⟨l, h1, h2, h3, h4, h⟩ := len32_ret x h0 hx
 refine ⟨32 - l, by omega, h2, h3, math_bits_LeadingZeros32.of rfl (W_b ?_)⟩
 unfold math_bits_LeadingZeros32.k math_bits_LeadingZeros32.res Ot kp Om Oc ci
 have e : (32 : Int) - (l : Int) = ((32 - l : Nat) : Int) := by omega
 refine sgi ?_
 refine zab h (by simp) ?_
 simp -dsimp -implicitDefEqProofs (disch := try exact zdL) only [go_sem, zaf, zae, zad, zas, zal, zah, e]
end Go.Gim
/- Parts, moved up by fewer than 32 bits. -/
set_option maxRecDepth 100000
set_option maxHeartbeats 4000000
namespace Go.Gim
open Go.Proofs
attribute [local go_sem] IntWalk.i64_in wu64 wu32 wu8 Nat.mod_eq_of_lt shr32 shr63 shl32 or32 quo64 quo32 zeh remk zcb zca zdc zdb zbx Nat.add_assoc zat lt_ne gt_ne zc7 dlt_t dlt_f dle_t dle_f deq_t deq_f zbq zec zeb za9 zbc za8 zay zcc zcf zcg zcx zag List.length_set ge_iff_le gt_iff_lt Int.toNat_natCast zb5 zcy zb6 zc0 zcz zb9 zbt zev zbv zbw zc6
theorem or_u32 {a b r : Nat} (ha : a < 4294967296) (hb : b < 4294967296) (h : a ||| b = r) : intV .or .u32 (a : Int) (b : Int) = some (.int .u32 (r : Nat)) := by
 have h1 : a % 4294967296 = a := Nat.mod_eq_of_lt ha
 have h2 : b % 4294967296 = b := Nat.mod_eq_of_lt hb
 have hr : r < 4294967296 := by rw [← h]; exact Nat.or_lt_two_pow (n := 32) ha hb
 have h3 : r % 4294967296 = r := Nat.mod_eq_of_lt hr
 simp only [intV, bitsV]
 congr 2
 have : (BitVec.ofInt IntKind.u32.bits (a : Int) ||| BitVec.ofInt IntKind.u32.bits (b : Int)).toNat = r := by
  rw [BitVec.toNat_or, BitVec.ofInt_natCast, BitVec.ofInt_natCast, BitVec.toNat_ofNat, BitVec.toNat_ofNat]
  show (a % 4294967296 ||| b % 4294967296) = _
  rw [h1, h2, h]
 rw [this, wu32, h3]
theorem shlS (n s : Nat) (hs : s ≤ 64) (h : n * 2 ^ s < 18446744073709551616) : zdt .shl .u64 (n : Int) (s : Int) = some (.int .u64 ((n * 2 ^ s : Nat) : Int)) := by
 unfold zdt
 rw [if_neg (by omega)]
 simp only [Int.toNat_natCast]
 rw [show min s (IntKind.bits .u64) = s from Nat.min_eq_left hs, show ((n : Int) * 2 ^ s) = ((n * 2 ^ s : Nat) : Int) by push_cast; rfl, wu64, Nat.mod_eq_of_lt h]
theorem or_add {a b s k : Nat} (hb : b < 2 ^ s) (ha : a = k * 2 ^ s) : b ||| a = b + a := by
 have := Nat.shiftLeft_add_eq_or_of_lt (i := s) hb k
 rw [Nat.shiftLeft_eq, ← ha] at this
 rw [Nat.or_comm, ← this, Nat.add_comm]
structure ShI (a : List Nat) (s i : Nat) (l : List Nat) : Prop where
 ll : l.length = a.length + 1
 hl : ∀ x ∈ l, x < W32
 hz : ∀ j, i < j → l.getD j 0 = 0
 hc : l.getD i 0 < 2 ^ s
 hv : val W32 l = val W32 (a.take i) * 2 ^ s
theorem ShI.step {a l : List Nat} {s i : Nat} (h : ShI a s i l) (hs : s ≤ 31) (hi : i < a.length) (ha : ∀ x ∈ a, x < W32) :
  ShI a s (i + 1) ((l.set i (l.getD i 0 + a.getD i 0 * 2 ^ s % 4294967296)).set (i + 1) (a.getD i 0 * 2 ^ s / 4294967296)) ∧ l.getD i 0 ||| a.getD i 0 * 2 ^ s % 4294967296 = l.getD i 0 + a.getD i 0 * 2 ^ s % 4294967296 ∧ a.getD i 0 * 2 ^ s % 4294967296 < 4294967296 ∧ a.getD i 0 * 2 ^ s / 4294967296 < 2 ^ s := by
 have hx : a.getD i 0 < 4294967296 := zco (i := i) ha (by decide)
 have ll := h.ll; have hc := h.hc; have hv := h.hv
 have hp : (2 : Nat) ^ s * 2 ^ (32 - s) = 4294967296 := by rw [← Nat.pow_add, show s + (32 - s) = 32 by omega]
 have hps : 0 < (2 : Nat) ^ s := Nat.pow_pos (by decide)
 generalize hX : a.getD i 0 = x at *
 have hw : x * 2 ^ s < 4294967296 * 2 ^ s := Nat.mul_lt_mul_of_pos_right hx hps
 have hdiv : x * 2 ^ s / 4294967296 < 2 ^ s := by rw [Nat.div_lt_iff_lt_mul (by decide)]; rw [Nat.mul_comm (2 ^ s)]; exact hw
 have hmod : x * 2 ^ s % 4294967296 = (x % 2 ^ (32 - s)) * 2 ^ s := by
  rw [← hp, Nat.mul_comm (2 ^ s) (2 ^ (32 - s)), Nat.mul_mod_mul_right]
 have hk : x % 2 ^ (32 - s) + 1 ≤ 2 ^ (32 - s) := Nat.mod_lt _ (Nat.pow_pos (by decide))
 have hsum : l.getD i 0 + x * 2 ^ s % 4294967296 < 4294967296 := by
  have := Nat.mul_le_mul_right (2 ^ s) hk
  rw [Nat.mul_comm (2 ^ (32 - s)), hp, Nat.add_mul] at this
  rw [hmod]; omega
 have hdm := Nat.div_add_mod (x * 2 ^ s) 4294967296
 have hs32 : (2 : Nat) ^ s ≤ 2147483648 := Nat.pow_le_pow_right (n := 2) (by decide) hs
 refine ⟨⟨by simp [ll], fun y hy => ?_, fun j hj => ?_, ?_, ?_⟩, or_add hc hmod, Nat.mod_lt _ (by decide), hdiv⟩
 ·rcases List.mem_or_eq_of_mem_set hy with hy | rfl
  ·rcases List.mem_or_eq_of_mem_set hy with hy | rfl
   ·exact h.hl y hy
   ·exact hsum
  ·show _ < 4294967296; omega
 ·have e : ((l.set i (l.getD i 0 + x * 2 ^ s % 4294967296)).set (i + 1) (x * 2 ^ s / 4294967296)).getD j 0 = l.getD j 0 := by
   simp only [List.getD_eq_getElem?_getD]; rw [List.getElem?_set_ne (by omega), List.getElem?_set_ne (by omega)]
  rw [e]; exact h.hz j (by omega)
 ·have e : ((l.set i (l.getD i 0 + x * 2 ^ s % 4294967296)).set (i + 1) (x * 2 ^ s / 4294967296)).getD (i + 1) 0 = x * 2 ^ s / 4294967296 := by
   simp [List.getD_eq_getElem?_getD, show i + 1 < l.length by omega]
  rw [e]; exact hdiv
 ·have h1 := val_set (B := W32) (l := l) (j := i) (v := l.getD i 0 + x * 2 ^ s % 4294967296) (by omega)
  have h2 := val_set (B := W32) (l := l.set i (l.getD i 0 + x * 2 ^ s % 4294967296)) (j := i + 1) (v := x * 2 ^ s / 4294967296) (by rw [List.length_set]; omega)
  have e : (l.set i (l.getD i 0 + x * 2 ^ s % 4294967296)).getD (i + 1) 0 = 0 := by
   rw [← h.hz (i + 1) (by omega)]; simp only [List.getD_eq_getElem?_getD]; rw [List.getElem?_set_ne (by omega)]; cases l[i + 1]? <;> rfl
  rw [e, Nat.mul_zero, Nat.add_zero] at h2
  rw [Nat.mul_add] at h1
  have h3 : val W32 (a.take (i + 1)) * 2 ^ s = val W32 (a.take i) * 2 ^ s + W32 ^ i * (x * 2 ^ s) := by
   rw [zbg hi, Nat.add_mul, hX, Nat.mul_assoc]
  have h4 : W32 ^ i * (x * 2 ^ s) = W32 ^ (i + 1) * (x * 2 ^ s / 4294967296) + W32 ^ i * (x * 2 ^ s % 4294967296) := by
   rw [Nat.pow_succ, Nat.mul_assoc, ← Nat.mul_add, hdm]
  rw [h2, h3, h4, ← hv]; omega
theorem shifted_G (a : List Nat) (s : Nat) (hs : s ≤ 31) (ha : ∀ x ∈ a, x < W32) (hal : a.length ≤ 1099511627775) (H : Hp) (n0 : Nat) :
  ∃ H' n' id l, (n0 ≤ id ∧ id < n' ∧ H' id = some ⟨nats .u32 l, 1⟩ ∧ ShI a s a.length l ∧ ∀ c, c < n0 → H' c = H c) ∧ RetG pg zdp [.sl (nats .u32 a), .int .i64 (s : Int)] H n0 (.own id (a.length + 1)) H' n' := by
 suffices h : ∃ r H' n', (∃ id l, r = .own id (a.length + 1) ∧ n0 ≤ id ∧ id < n' ∧ H' id = some ⟨nats .u32 l, 1⟩ ∧ ShI a s a.length l ∧ ∀ c, c < n0 → H' c = H c) ∧ RetG pg zdp [.sl (nats .u32 a), .int .i64 (s : Int)] H n0 r H' n' by
  obtain ⟨_, H', n', ⟨id, l, rfl, h1⟩, h⟩ := h
  exact ⟨H', n', id, l, h1, h⟩
 refine long_shifted.ofG rfl (W_b ?_)
 unfold long_shifted.k long_shifted.res Ot kp Oy Om Ol Oi Oc On ci
 refine sgi ?_
 generalize hG0 : Hp.upd H (n0 + 4) _ = G0
 have g0 : G0 (n0 + 4) = some ⟨nats .u32 (List.replicate (a.length + 1) 0), 1⟩ := zcs hG0
 have go : ∀ c, c < n0 → G0 c = H c := fun c hc => by rw [← hG0, Hp.upd_ne _ _ (by omega)]
 have hz0 : ∀ j, (List.replicate (a.length + 1) 0).getD j 0 = 0 := fun j => by
  by_cases hj : j < a.length + 1
  ·simp [List.getD_eq_getElem?_getD, hj]
  ·rw [List.getD_eq_getElem?_getD, List.getElem?_eq_none (by simp; omega)]; rfl
 have hS0 : ShI a s 0 (List.replicate (a.length + 1) 0) := ⟨by simp, fun x hx => by
  have := List.eq_of_mem_replicate hx; subst this; decide, fun j _ => hz0 j, by rw [hz0]; exact Nat.pow_pos (by decide), by
  rw [zh3 W32 (l := List.replicate (a.length + 1) 0) (fun x hx => List.eq_of_mem_replicate hx)]; simp [val]⟩
 clear hG0
 refine za1 (T := Nat × Hp × Nat × List Nat) (fun t => ⟨E [(1, .int .i64 (s : Int)), (5, .own (n0 + 4) (a.length + 1)), (13, .sl (nats .u32 a)), (14, .int .i64 (a.length : Int)), (15, .int .i64 (t.1 : Int))], t.2.1, t.2.2.1, t.2.2.1⟩)
  (fun t => t.1 ≤ a.length ∧ n0 + 5 ≤ t.2.2.1 ∧ ShI a s t.1 t.2.2.2 ∧ t.2.1 (n0 + 4) = some ⟨nats .u32 t.2.2.2, 1⟩ ∧ ∀ c, c < n0 → t.2.1 c = H c) (fun t => a.length - t.1) (0, G0, _, _) rfl ⟨zdo, zdo, hS0, g0, go⟩ ?_
 clear g0 go hS0 hz0 G0
 rintro ⟨i, G, nx, l⟩ ⟨j1, j2, hI, j4, j5⟩
 dsimp only at j1 j2 hI j4 j5
 have ll := hI.ll
 by_cases hi : i < a.length
 ·obtain ⟨hst, e1, e2, e3⟩ := hI.step hs hi ha
  have hx : a.getD i 0 < 4294967296 := zco (i := i) ha (by decide)
  have hps : (2 : Nat) ^ s ≤ 2147483648 := Nat.pow_le_pow_right (n := 2) (by decide) hs
  have hw : a.getD i 0 * 2 ^ s < 18446744073709551616 := by
   have := Nat.mul_le_mul (show a.getD i 0 ≤ 4294967296 by omega) hps
   omega
  have hlc := hI.hc
  have hl1 : l.getD (i + 1) 0 = 0 := hI.hz (i + 1) (by omega)
  have hl1' : (l.set i (l.getD i 0 + a.getD i 0 * 2 ^ s % 4294967296)).getD (i + 1) 0 = 0 := by
   rw [← hl1]; simp only [List.getD_eq_getElem?_getD]; rw [List.getElem?_set_ne (by omega)]; cases l[i + 1]? <;> rfl
  have o1 := or_u32 (a := l.getD i 0) (b := a.getD i 0 * 2 ^ s % 4294967296) (by omega) e2 e1
  have o2 := or_u32 (a := 0) (b := a.getD i 0 * 2 ^ s / 4294967296) (r := a.getD i 0 * 2 ^ s / 4294967296) (by decide) (by omega) (Nat.zero_or _)
  have e4 : a.getD i 0 * 2 ^ s / 4294967296 % 4294967296 = a.getD i 0 * 2 ^ s / 4294967296 := Nat.mod_eq_of_lt (by omega)
  generalize hX : a.getD i 0 = x at *
  simp -dsimp -implicitDefEqProofs (disch := try exact zdL) only [go_sem, zaf, zae, zad, zas, zal, zah, j4, ll, hX, shlS _ _ (show s ≤ 64 by omega) hw, o1, hl1', o2, e4]
  generalize hG2 : Hp.upd G (n0 + 4) _ = G2
  exact ⟨(i + 1, G2, _, _), rfl, ⟨zdo, zdo, hst, zcs hG2, fun c hc => by dsimp only; rw [← hG2, Hp.upd_ne _ _ (by omega)]; exact j5 c hc⟩, zdo⟩
 ·obtain rfl : i = a.length := by omega
  simp -dsimp -implicitDefEqProofs (disch := try exact zdL) only [go_sem, zaf, zae, zad, zas, zal, zah, j4, ll]
  exact ⟨_, rfl, zdo, n0 + 4, l, rfl, by omega, zdo, j4, hI, j5⟩
end Go.Gim
/- Quotient and rest of parts. -/
set_option maxRecDepth 100000
set_option maxHeartbeats 4000000
namespace Go.Gim
open Go.Proofs
theorem shifted_ret (a : List Nat) (s : Nat) (hs : s ≤ 31) (ha : ∀ x ∈ a, x < W32) (hal : a.length ≤ 1099511627775) : ∃ l, ShI a s a.length l ∧ Ret pg zdp [.sl (nats .u32 a), .int .i64 (s : Int)] (.sl (nats .u32 l)) := by
 obtain ⟨H', n', id, l, ⟨h1, h2, h3, h4, _⟩, h⟩ := shifted_G a s hs ha hal (fun _ => none) 0
 exact ⟨l, h4, h.toRet (Row.frz (n := 7) (lo := 0) (nx := n') (.inr ⟨id, by rw [zag, h4.ll], h1, h2, h3⟩) (zah _ _ _ _))⟩
structure UnI (d : List Nat) (s i : Nat) (o : List Nat) : Prop where
 lo : o.length = d.length
 ho : ∀ x ∈ o, x < W32
 hz : ∀ j, i ≤ j → o.getD j 0 = 0
 hc : 0 < i → o.getD (i - 1) 0 < 2 ^ (32 - s)
 hv : val W32 o = val W32 (d.take i) / 2 ^ s
theorem un_low {x s : Nat} (hs : s ≤ 31) (hx : x < 4294967296) : x * 2 ^ (32 - s) = x / 2 ^ s * 4294967296 + x * 2 ^ (32 - s) % 4294967296 ∧ x * 2 ^ (32 - s) % 4294967296 = (x % 2 ^ s) * 2 ^ (32 - s) := by
 have hp : (2 : Nat) ^ s * 2 ^ (32 - s) = 4294967296 := by rw [← Nat.pow_add, show s + (32 - s) = 32 by omega]
 have h1 : x * 2 ^ (32 - s) / 4294967296 = x / 2 ^ s := by rw [← hp, Nat.mul_div_mul_right _ _ (Nat.pow_pos (by decide))]
 have h2 := Nat.div_add_mod (x * 2 ^ (32 - s)) 4294967296
 rw [h1] at h2
 exact ⟨by omega, by rw [← hp, Nat.mul_mod_mul_right]⟩
theorem UnI.first {d o : List Nat} {s : Nat} (h : UnI d s 0 o) (hs : s ≤ 31) (hd : 0 < d.length) (hdl : ∀ x ∈ d, x < W32) : UnI d s 1 (o.set 0 (d.getD 0 0 / 2 ^ s)) := by
 have lo := h.lo
 have hx : d.getD 0 0 < 4294967296 := zco (i := 0) hdl (by decide)
 have hps : 0 < (2 : Nat) ^ s := Nat.pow_pos (by decide)
 have hp : (2 : Nat) ^ (32 - s) * 2 ^ s = 4294967296 := by rw [← Nat.pow_add, show 32 - s + s = 32 by omega]
 have hq : d.getD 0 0 / 2 ^ s ≤ d.getD 0 0 := Nat.div_le_self _ _
 refine ⟨by rw [List.length_set, lo], fun y hy => ?_, fun j hj => ?_, fun _ => ?_, ?_⟩
 ·rcases List.mem_or_eq_of_mem_set hy with hy | rfl
  ·exact h.ho y hy
  ·show _ < 4294967296; omega
 ·have e : (o.set 0 (d.getD 0 0 / 2 ^ s)).getD j 0 = o.getD j 0 := by simp only [List.getD_eq_getElem?_getD]; rw [List.getElem?_set_ne (by omega)]
  rw [e]; exact h.hz j (by omega)
 ·have e : (o.set 0 (d.getD 0 0 / 2 ^ s)).getD 0 0 = d.getD 0 0 / 2 ^ s := by simp [List.getD_eq_getElem?_getD, show 0 < o.length by omega]
  rw [show 1 - 1 = 0 from rfl, e, Nat.div_lt_iff_lt_mul hps, hp]; exact hx
 ·have h1 := val_set (B := W32) (l := o) (j := 0) (v := d.getD 0 0 / 2 ^ s) (by omega)
  have h0 := h.hv
  rw [h.hz 0 (Nat.le_refl _)] at h1
  simp only [List.take_zero, val, Nat.zero_div] at h0
  rw [h0] at h1
  rw [show (1 : Nat) = 0 + 1 from rfl, zbg hd]
  simp only [List.take_zero, val, Nat.pow_zero, Nat.one_mul, Nat.zero_add, Nat.mul_zero, Nat.add_zero] at h1 ⊢
  exact h1
theorem UnI.next {d o : List Nat} {s i : Nat} (h : UnI d s i o) (hi0 : 0 < i) (hs : s ≤ 31) (hd : i < d.length) (hdl : ∀ x ∈ d, x < W32) :
  UnI d s (i + 1) ((o.set i (d.getD i 0 / 2 ^ s)).set (i - 1) (o.getD (i - 1) 0 + d.getD i 0 * 2 ^ (32 - s) % 4294967296)) ∧ o.getD (i - 1) 0 ||| d.getD i 0 * 2 ^ (32 - s) % 4294967296 = o.getD (i - 1) 0 + d.getD i 0 * 2 ^ (32 - s) % 4294967296 := by
 have lo := h.lo
 have hx : d.getD i 0 < 4294967296 := zco (i := i) hdl (by decide)
 have hps : 0 < (2 : Nat) ^ s := Nat.pow_pos (by decide)
 have hp : (2 : Nat) ^ (32 - s) * 2 ^ s = 4294967296 := by rw [← Nat.pow_add, show 32 - s + s = 32 by omega]
 have hq : d.getD i 0 / 2 ^ s ≤ d.getD i 0 := Nat.div_le_self _ _
 obtain ⟨u1, u2⟩ := un_low hs hx
 have hc := h.hc hi0
 have hor := or_add (b := o.getD (i - 1) 0) hc u2
 have hsum : o.getD (i - 1) 0 + d.getD i 0 * 2 ^ (32 - s) % 4294967296 < 4294967296 := by
  have h1 : d.getD i 0 % 2 ^ s + 1 ≤ 2 ^ s := Nat.mod_lt _ hps
  have := Nat.mul_le_mul_right (2 ^ (32 - s)) h1
  rw [Nat.mul_comm (2 ^ s), hp, Nat.add_mul] at this
  rw [u2]; omega
 refine ⟨⟨by simp [lo], fun y hy => ?_, fun j hj => ?_, fun _ => ?_, ?_⟩, hor⟩
 ·rcases List.mem_or_eq_of_mem_set hy with hy | rfl
  ·rcases List.mem_or_eq_of_mem_set hy with hy | rfl
   ·exact h.ho y hy
   ·show _ < 4294967296; omega
  ·exact hsum
 ·have e : ((o.set i (d.getD i 0 / 2 ^ s)).set (i - 1) (o.getD (i - 1) 0 + d.getD i 0 * 2 ^ (32 - s) % 4294967296)).getD j 0 = o.getD j 0 := by
   simp only [List.getD_eq_getElem?_getD]; rw [List.getElem?_set_ne (by omega), List.getElem?_set_ne (by omega)]
  rw [e]; exact h.hz j (by omega)
 ·have e : ((o.set i (d.getD i 0 / 2 ^ s)).set (i - 1) (o.getD (i - 1) 0 + d.getD i 0 * 2 ^ (32 - s) % 4294967296)).getD (i + 1 - 1) 0 = d.getD i 0 / 2 ^ s := by
   simp only [List.getD_eq_getElem?_getD, Nat.add_sub_cancel]; rw [List.getElem?_set_ne (by omega)]; simp [show i < o.length by omega]
  rw [e, Nat.div_lt_iff_lt_mul hps, hp]; exact hx
 ·have h1 := val_set (B := W32) (l := o) (j := i) (v := d.getD i 0 / 2 ^ s) (by omega)
  rw [h.hz i (Nat.le_refl _), Nat.mul_zero, Nat.add_zero] at h1
  have h2 := val_set (B := W32) (l := o.set i (d.getD i 0 / 2 ^ s)) (j := i - 1) (v := o.getD (i - 1) 0 + d.getD i 0 * 2 ^ (32 - s) % 4294967296) (by rw [List.length_set]; omega)
  have e : (o.set i (d.getD i 0 / 2 ^ s)).getD (i - 1) 0 = o.getD (i - 1) 0 := by simp only [List.getD_eq_getElem?_getD]; rw [List.getElem?_set_ne (by omega)]
  rw [e, Nat.mul_add, h1] at h2
  have hW : W32 ^ i = W32 ^ (i - 1) * 4294967296 := by
   have : i = i - 1 + 1 := by omega
   rw [this, Nat.pow_succ]; simp
  have h3 : val W32 (d.take (i + 1)) / 2 ^ s = val W32 (d.take i) / 2 ^ s + W32 ^ (i - 1) * (d.getD i 0 * 2 ^ (32 - s)) := by
   rw [zbg hd, hW]
   have : W32 ^ (i - 1) * 4294967296 * d.getD i 0 = W32 ^ (i - 1) * (d.getD i 0 * 2 ^ (32 - s)) * 2 ^ s := by
    rw [← hp]; simp only [Nat.mul_assoc, Nat.mul_comm, Nat.mul_left_comm]
   rw [this, Nat.add_mul_div_right _ _ hps]
  rw [h3, ← h.hv]
  have h4 : W32 ^ (i - 1) * (d.getD i 0 * 2 ^ (32 - s)) = W32 ^ i * (d.getD i 0 / 2 ^ s) + W32 ^ (i - 1) * (d.getD i 0 * 2 ^ (32 - s) % 4294967296) := by
   rw [hW, Nat.mul_assoc, ← Nat.mul_add, Nat.mul_comm 4294967296, ← u1]
  rw [h4]; omega
end Go.Gim
/- Quotient and rest of parts: the walk. -/
set_option maxRecDepth 100000
set_option maxHeartbeats 4000000
namespace Go.Gim
open Go.Proofs
attribute [local go_sem] IntWalk.i64_in wu64 wu32 wu8 Nat.mod_eq_of_lt shr32 shr63 shl32 or32 quo64 quo32 zeh remk zcb zca zdc zdb zbx Nat.add_assoc zat lt_ne gt_ne zc7 dlt_t dlt_f dle_t dle_f deq_t deq_f zbq zec zeb za9 zbc za8 zay zcc zcf zcg zcx zag List.length_set ge_iff_le gt_iff_lt Int.toNat_natCast zb5 zcy zb6 zc0 zcz zb9 zbt zev zbv zbw zc6
theorem norm_b {y n s : Nat} {l : List Nat} (hn : (digs W32 y).length = n) (hn1 : 1 ≤ n) (h : ShI (digs W32 y) s n l) (hs : s ≤ 31) (h31 : 2147483648 ≤ (digs W32 y).getD (n - 1) 0 * 2 ^ s) (h32 : (digs W32 y).getD (n - 1) 0 * 2 ^ s < 4294967296) :
  val W32 (l.take n) = y * 2 ^ s ∧ 2147483648 ≤ (l.take n).getD (n - 1) 0 ∧ (l.take n).length = n ∧ ∀ x ∈ l.take n, x < W32 := by
 have hll : (l.take n).length = n := by rw [List.length_take, h.ll]; omega
 have hld : ∀ x ∈ l.take n, x < W32 := fun x hx => h.hl x (List.mem_of_mem_take hx)
 have hv : val W32 l = y * 2 ^ s := by rw [h.hv, ← hn, List.take_length, zbo w2]
 have hp : (2 : Nat) ^ (32 - s) * 2 ^ s = 4294967296 := by rw [← Nat.pow_add, show 32 - s + s = 32 by omega]
 have hps : 0 < (2 : Nat) ^ s := Nat.pow_pos (by decide)
 have hy : y = val W32 ((digs W32 y).take (n - 1)) + W32 ^ (n - 1) * (digs W32 y).getD (n - 1) 0 := by
  have := zbg (B := W32) (l := digs W32 y) (i := n - 1) (by omega)
  rw [show n - 1 + 1 = (digs W32 y).length by omega, List.take_length, zbo w2] at this
  exact this
 have hyl : val W32 ((digs W32 y).take (n - 1)) < W32 ^ (n - 1) := by
  have := zgv w2 (l := (digs W32 y).take (n - 1)) (fun x hx => zeu w2 y x (List.mem_of_mem_take hx))
  rwa [List.length_take, Nat.min_eq_left (by omega)] at this
 generalize (digs W32 y).getD (n - 1) 0 = t at *
 generalize val W32 ((digs W32 y).take (n - 1)) = r at *
 have hW : W32 ^ n = W32 ^ (n - 1) * 4294967296 := by
  have : n = n - 1 + 1 := by omega
  rw [this, Nat.pow_succ]; simp
 generalize hWn : W32 ^ (n - 1) = Wn at *
 have ht : (t + 1) * 2 ^ s ≤ 4294967296 := by
  rw [← hp]
  refine Nat.mul_le_mul_right _ ?_
  have : t < 2 ^ (32 - s) := by
   rw [← hp] at h32; exact Nat.lt_of_mul_lt_mul_right h32
  omega
 have hlt : val W32 l < W32 ^ n := by
  rw [hv, hW, hy]
  calc (r + Wn * t) * 2 ^ s < (Wn + Wn * t) * 2 ^ s := Nat.mul_lt_mul_of_pos_right (by omega) hps
   _ = Wn * ((t + 1) * 2 ^ s) := by rw [← Nat.mul_assoc, Nat.mul_add, Nat.mul_one, Nat.add_comm]
   _ ≤ Wn * 4294967296 := Nat.mul_le_mul_left _ ht
 have hsp := ze1 (B := W32) (l := l) (i := n) (by rw [h.ll]; omega)
 have hz : W32 ^ n * val W32 (l.drop n) = 0 := by
  rcases Nat.eq_zero_or_pos (val W32 (l.drop n)) with h0 | h0
  ·rw [h0]; simp
  ·have := Nat.le_mul_of_pos_right (W32 ^ n) h0
   omega
 have hvt : val W32 (l.take n) = y * 2 ^ s := by omega
 refine ⟨hvt, ?_, hll, hld⟩
 have h1 := zbg (B := W32) (l := l.take n) (i := n - 1) (by omega)
 rw [show n - 1 + 1 = n by omega, List.take_take, Nat.min_self, hvt] at h1
 have h2 : val W32 ((l.take n).take (n - 1)) < W32 ^ (n - 1) := by
  have := zgv w2 (l := (l.take n).take (n - 1)) (fun x hx => hld x (List.mem_of_mem_take hx))
  rwa [List.length_take, hll, Nat.min_eq_left (by omega)] at this
 rw [hWn] at h1 h2
 generalize (l.take n).getD (n - 1) 0 = u at *
 have h3 : Wn * 2147483648 ≤ y * 2 ^ s := by
  rw [hy, Nat.add_mul, Nat.mul_assoc]
  have := Nat.mul_le_mul_left Wn h31
  omega
 have h4 : Wn * 2147483648 < Wn * (u + 1) := by rw [Nat.mul_add, Nat.mul_one]; omega
 have := Nat.lt_of_mul_lt_mul_left h4
 omega
theorem quo_of {x y q a S : Nat} (hS : 0 < S) (hy : 0 < y) (hA : x * S = q * (y * S) + a) (hB : a < y * S) : q = x / y ∧ a = x % y * S := by
 rw [← Nat.mul_assoc] at hA
 have h1 : q * y ≤ x := Nat.le_of_mul_le_mul_right (show q * y * S ≤ x * S by omega) hS
 obtain ⟨r, rfl⟩ := Nat.exists_eq_add_of_le h1
 rw [Nat.add_mul] at hA
 have h2 : a = r * S := by omega
 have h3 : r < y := Nat.lt_of_mul_lt_mul_right (show r * S < y * S by omega)
 rw [h2, Nat.mul_comm q y, Nat.mul_add_div hy, Nat.div_eq_of_lt h3, Nat.mul_add_mod, Nat.mod_eq_of_lt h3]
 exact ⟨rfl, rfl⟩
theorem shrS (n s : Nat) (hs : s ≤ 32) : zdt .shr .u32 (n : Int) (s : Int) = some (.int .u32 ((n / 2 ^ s : Nat) : Int)) := by
 unfold zdt
 rw [if_neg (by omega)]
 simp only [Int.toNat_natCast]
 rw [show min s (IntKind.bits .u32) = s from Nat.min_eq_left hs, show ((2 : Int) ^ s) = ((2 ^ s : Nat) : Int) by push_cast; rfl, Int.fdiv_eq_ediv_of_nonneg _ (Int.natCast_nonneg _)]; norm_cast
theorem fld_IV (z : Int) : fldV 1 1 false (IV z) = some (.sl (nats .u32 (digs W32 z.natAbs))) := by simp [fldV, IV, V.part, V.cells, V.isAgg]
theorem parted_ret (x y : Nat) (hy0 : 0 < y) (hx : (digs W32 x).length ≤ 1099511627000) (hy : (digs W32 y).length ≤ 1099511627000) :
  ∃ q r : List Nat, val W32 q = x / y ∧ val W32 r = x % y ∧ (∀ d ∈ q, d < W32) ∧ (∀ d ∈ r, d < W32) ∧ q.length ≤ (digs W32 x).length + 1 ∧ r.length ≤ (digs W32 x).length + 1 ∧
   Ret pg ze9 [.sl (nats .u32 (digs W32 x)), .sl (nats .u32 (digs W32 y))] (.tup [.sl (nats .u32 q), .sl (nats .u32 r)]) := by
 have hcmp := cmp_ret x y (by omega) (by omega)
 have ldx := zeu w2 x
 have ldy := zeu w2 y
 have hyl : 0 < (digs W32 y).length := by
  rcases Nat.eq_zero_or_pos (digs W32 y).length with h | h
  ·have := (digs_nil w2).1 (List.eq_nil_of_length_eq_zero h); omega
  ·exact h
 by_cases hlt : x < y
 ·refine ⟨[], digs W32 x, by rw [Nat.div_eq_of_lt hlt]; rfl, by rw [zbo w2, Nat.mod_eq_of_lt hlt], fun d hd => (by cases hd), ldx, by simp, by omega, long_parted.of rfl (W_b ?_)⟩
  unfold long_parted.k long_parted.res Ot kp kd Oy Om Ol Oi Oc On ci
  have hc : ncmp x y < 0 := by unfold ncmp; rw [if_pos hlt]; decide
  refine sgi ?_
  refine zab hcmp (by simp) ?_
  simp -dsimp -implicitDefEqProofs (disch := try exact zdL) only [go_sem, zaf, zae, zad, zas, zal, zah, hc]
  rfl
 ·have hnc : ¬ ncmp x y < 0 := by have := (ncmp_ge (x := x) (y := y)).2 (by omega); omega
  by_cases h1 : (digs W32 y).length = 1
  ·obtain ⟨b, hb⟩ : ∃ b, digs W32 y = [b] := List.length_eq_one_iff.1 h1
   have hyb : y = b := by have := zbo w2 y; rw [hb] at this; simpa [val] using this.symm
   have hbl : b < W32 := ldy b (by rw [hb]; simp)
   subst hyb
   obtain ⟨d1, d2⟩ := divL_quo (B := W32) hy0 (digs W32 x)
   rw [zbo w2] at d1 d2
   have hby := by_ret (digs W32 x) y ldx hy0 hbl (by omega)
   refine ⟨(divL W32 y (digs W32 x)).1, [(divL W32 y (digs W32 x)).2], d1, by rw [← d2]; simp [val], divL_lt hy0 _ ldx, fun d hd => by
    simp at hd; rw [hd, d2]; exact Nat.lt_trans (Nat.mod_lt _ hy0) hbl, by rw [divL_len]; omega, by simp, long_parted.of rfl (W_b ?_)⟩
   unfold long_parted.k long_parted.res Ot kp kd Oy Om Ol Oi Oc On ci
   rw [hb] at hcmp ⊢
   generalize divL W32 y (digs W32 x) = D at hby ⊢
   have e1 : ((1 : Nat) : Int) = 1 := rfl
   refine sgi ?_
   refine zab hcmp (by simp) ?_
   simp -dsimp -implicitDefEqProofs (disch := try exact zdL) only [go_sem, zaf, zae, zad, zas, zal, zah, hnc]
   refine zab hby (by simp) ?_
   refine sgi ?_
   rfl
  ·obtain ⟨n, hn⟩ : ∃ n, (digs W32 y).length = n := ⟨_, rfl⟩
   obtain ⟨m, hm⟩ : ∃ m, (digs W32 x).length = m := ⟨_, rfl⟩
   have hmn : n ≤ m := by rw [← hn, ← hm]; exact digs_mono w2 (by omega)
   have htop : 0 < (digs W32 y).getD (n - 1) 0 := by
    have hg := digs_ge w2 (n := y) (by omega)
    rw [hn] at hg
    rcases Nat.eq_zero_or_pos ((digs W32 y).getD (n - 1) 0) with h0 | h0
    ·have h2 := zbg (B := W32) (l := digs W32 y) (i := n - 1) (by omega)
     rw [h0, show n - 1 + 1 = (digs W32 y).length by omega, List.take_length, zbo w2] at h2
     have h3 := zgv w2 (l := (digs W32 y).take (n - 1)) (fun x hx => ldy x (List.mem_of_mem_take hx))
     rw [List.length_take, Nat.min_eq_left (by omega)] at h3
     simp only [Nat.mul_zero, Nat.add_zero] at h2
     omega
    ·exact h0
   have htl : (digs W32 y).getD (n - 1) 0 < 4294967296 := zco (i := n - 1) ldy (by decide)
   obtain ⟨s, hs, h31, h32, hlz⟩ := lz32_ret _ htop htl
   obtain ⟨l2, hsh2, hs2⟩ := shifted_ret (digs W32 y) s hs ldy (by omega)
   rw [hn] at hsh2
   obtain ⟨nb1, nb2, nb3, nb4⟩ := norm_b hn (by omega) hsh2 hs h31 h32
   have hn1 : ¬ (n : Int) = 1 := by omega
   have en : (n : Int) - 1 = ((n - 1 : Nat) : Int) := by omega
   have hps : 0 < (2 : Nat) ^ s := Nat.pow_pos (by decide)
   have hps2 : (2 : Nat) ^ s ≤ 2147483648 := Nat.pow_le_pow_right (n := 2) (by decide) hs
   have hG : ∃ r H' n', (∃ q o i1 i2, r = .tup [.own i1 q.length, .own i2 o.length] ∧ H' i1 = some ⟨nats .u32 q, 1⟩ ∧ H' i2 = some ⟨nats .u32 o, 1⟩ ∧ val W32 q = x / y ∧ val W32 o = x % y ∧ (∀ d ∈ q, d < W32) ∧ (∀ d ∈ o, d < W32) ∧ q.length ≤ m + 1 ∧ o.length ≤ m + 1) ∧
     RetG pg ze9 [.sl (nats .u32 (digs W32 x)), .sl (nats .u32 (digs W32 y))] (fun _ => none) 0 r H' n' := by
    refine long_parted.ofG rfl (W_b ?_)
    unfold long_parted.k long_parted.res Ot kp kd Oy Om Ol Oi Oc On ci
    refine sgi ?_
    refine zab hcmp (by simp) ?_
    simp -dsimp -implicitDefEqProofs (disch := try exact zdL) only [go_sem, zaf, zae, zad, zas, zal, zah, hnc, hn, hn1, en]
    refine zab hlz (by simp) ?_
    refine sgi ?_
    obtain ⟨H1, n1, ba, l, ⟨c1, c2, c3, hsh, c5⟩, hsG⟩ := shifted_G (digs W32 x) s hs ldx (by omega) (fun _ => none) 23
    rw [hm] at hsh hsG
    refine zd3 hsG ?_
    have hll := hsh.ll
    rw [hm] at hll
    have hvl : val W32 l = x * 2 ^ s := by rw [hsh.hv, ← hm, List.take_length, zbo w2]
    refine sgi ?_
    refine zab hs2 (by simp) ?_
    have hl2 := hsh2.ll
    rw [hn] at hl2
    simp -dsimp -implicitDefEqProofs (disch := try exact zdL) only [go_sem, zaf, zae, zad, zas, zal, zah, hn, hl2]
    have hhi : val W32 (l.drop (m + 1 - n)) < val W32 (l2.take n) := by
     have hdl : (l.drop (m + 1 - n)).length = n := by rw [List.length_drop, hll]; omega
     refine high_lt w2 (n := n) (by omega) hdl nb3 (fun x hx => hsh.hl x (List.mem_of_mem_drop hx)) nb4 ?_
     rw [getD_drop', show m + 1 - n + (n - 1) = m by omega]
     have := hsh.hc
     omega
    obtain ⟨H2, n2, iq, q, a1, ⟨d1, d2, d3, hI, d5, d6⟩, hL⟩ := long_G ba (m + 1) n l (l2.take n) (.sl (nats .u32 (l2.take n))) H1 (n1 + 9) nb3 (by omega) (by omega) (by omega) (by omega) c3 hll hsh.hl nb4 (fun _ _ _ _ => .sl _) hhi (by omega)
    refine zd3 hL ?_
    have hA := hI.hA
    have hB := hI.hi
    simp only [List.drop_zero] at hB
    rw [hvl, nb1] at hA
    rw [nb1] at hB
    have hq := quo_of hps hy0 hA hB
    have hm2 := zgr false a1 hI.ha (by rw [hI.la]; omega)
    have hla1 := hI.la
    refine sgi ?_
    refine zik ba (nats .u32 a1) d5 nats_pure («as» := [.bool false, .sl (nats .u32 a1)]) (by simp [V.sub, fz1, zag, hla1]) hm2 (by simp) ?_
    have hsg : (sg false (val W32 a1)).natAbs = val W32 a1 := by simp [sg]
    have hdl : (digs W32 (val W32 a1)).length ≤ m + 1 := zhq w2 (by rw [← hla1]; exact zgv w2 hI.ha)
    have hD := zbo w2 (val W32 a1)
    have hDl := zeu w2 (val W32 a1)
    obtain ⟨D, hDe⟩ : ∃ D, D = digs W32 (val W32 a1) := ⟨_, rfl⟩
    rw [← hDe] at hdl hD hDl
    simp -dsimp -implicitDefEqProofs (disch := try exact zdL) only [go_sem, zaf, zae, zad, zas, zal, zah, fld_IV, hsg, ← hDe]
    generalize hG0 : Hp.upd (Hp.upd H2 ba none) (n2 + 6) _ = G0
    have g0 : G0 (n2 + 6) = some ⟨nats .u32 (List.replicate D.length 0), 1⟩ := zcs hG0
    have gq : G0 iq = some ⟨nats .u32 q, 1⟩ := by rw [← hG0, Hp.upd_ne _ _ (by omega), Hp.upd_ne _ _ (by omega)]; exact d3
    have hz0 : ∀ j, (List.replicate D.length 0).getD j 0 = 0 := fun j => by
     by_cases hj : j < D.length
     ·simp [List.getD_eq_getElem?_getD, hj]
     ·rw [List.getD_eq_getElem?_getD, List.getElem?_eq_none (by simp; omega)]; rfl
    have hU0 : UnI D s 0 (List.replicate D.length 0) := ⟨by simp, fun x hx => by
     have := List.eq_of_mem_replicate hx; subst this; decide, fun j _ => hz0 j, fun h => absurd h (Nat.lt_irrefl _), by
     rw [zh3 W32 (l := List.replicate D.length 0) (fun x hx => List.eq_of_mem_replicate hx)]; simp [val]⟩
    clear hG0
    refine za1 (T := Nat × Hp × Nat × List Nat) (fun t => ⟨E [(4, .own iq (m + 1 - n)), (8, .int .i64 (s : Int)), (11, .own (n2 + 6) D.length), (59, .sl (nats .u32 D)), (60, .int .i64 (D.length : Int)), (61, .int .i64 (t.1 : Int))], t.2.1, t.2.2.1, t.2.2.1⟩)
     (fun t => t.1 ≤ D.length ∧ n2 + 7 ≤ t.2.2.1 ∧ UnI D s t.1 t.2.2.2 ∧ t.2.1 (n2 + 6) = some ⟨nats .u32 t.2.2.2, 1⟩ ∧ t.2.1 iq = some ⟨nats .u32 q, 1⟩) (fun t => D.length - t.1) (0, G0, _, _) rfl ⟨zdo, zdo, hU0, g0, gq⟩ ?_
    clear g0 gq hU0 hz0 G0
    rintro ⟨i, G, nx, o⟩ ⟨j1, j2, hU, j4, j5⟩
    dsimp only at j1 j2 hU j4 j5
    have lo := hU.lo
    by_cases hi : i < D.length
    ·have hx : D.getD i 0 < 4294967296 := zco (i := i) hDl (by decide)
     have hz := hU.hz i (Nat.le_refl _)
     have hxq : D.getD i 0 / 2 ^ s ≤ D.getD i 0 := Nat.div_le_self _ _
     have o1 := or_u32 (a := 0) (b := D.getD i 0 / 2 ^ s) (r := D.getD i 0 / 2 ^ s) (by decide) (by omega) (Nat.zero_or _)
     by_cases hi0 : i = 0
     ·subst hi0
      have hst := hU.first hs hi hDl
      simp -dsimp -implicitDefEqProofs (disch := try exact zdL) only [go_sem, zaf, zae, zad, zas, zal, zah, j4, lo, hz, shrS _ _ (show s ≤ 32 by omega), o1]
      generalize hG2 : Hp.upd G (n2 + 6) _ = G2
      exact ⟨(1, G2, _, _), rfl, ⟨zdo, zdo, hst, zcs hG2, by dsimp only; rw [← hG2, Hp.upd_ne _ _ (by omega)]; exact j5⟩, zdo⟩
     ·obtain ⟨hst, e1⟩ := hU.next (by omega) hs hi hDl
      have hi1 : (0 : Int) < (i : Int) := by omega
      have eS : (32 : Int) - (s : Int) = ((32 - s : Nat) : Int) := by omega
      have ei : ((i : Nat) : Int) - 1 = ((i - 1 : Nat) : Int) := by omega
      have hp2 : (2 : Nat) ^ (32 - s) ≤ 4294967296 := Nat.pow_le_pow_right (n := 2) (by decide) (show 32 - s ≤ 32 by omega)
      have hw : D.getD i 0 * 2 ^ (32 - s) < 18446744073709551616 := by
       have := Nat.mul_le_mul (show D.getD i 0 ≤ 4294967295 by omega) hp2
       omega
      have hc := hU.hc (by omega)
      have o2 := or_u32 (a := o.getD (i - 1) 0) (b := D.getD i 0 * 2 ^ (32 - s) % 4294967296) (by omega) (Nat.mod_lt _ (by decide)) e1
      have hgs : (o.set i (D.getD i 0 / 2 ^ s)).getD (i - 1) 0 = o.getD (i - 1) 0 := by simp only [List.getD_eq_getElem?_getD]; rw [List.getElem?_set_ne (by omega)]
      simp -dsimp -implicitDefEqProofs (disch := try exact zdL) only [go_sem, zaf, zae, zad, zas, zal, zah, j4, lo, hz, shrS _ _ (show s ≤ 32 by omega), o1, hi1, eS, ei, shlS _ _ (show 32 - s ≤ 64 by omega) hw, hgs, o2]
      generalize hG2 : Hp.upd G (n2 + 6) _ = G2
      exact ⟨(i + 1, G2, _, _), rfl, ⟨zdo, zdo, hst, zcs hG2, by dsimp only; rw [← hG2, Hp.upd_ne _ _ (by omega)]; exact j5⟩, zdo⟩
    ·obtain rfl : i = D.length := by omega
     simp -dsimp -implicitDefEqProofs (disch := try exact zdL) only [go_sem, zaf, zae, zad, zas, zal, zah, j4, lo]
     have hov : val W32 o = x % y := by rw [hU.hv, List.take_length, hD, hq.2, Nat.mul_div_cancel _ hps]
     have hql := hI.lq
     exact ⟨_, rfl, Nat.zero_le _, q, o, iq, n2 + 6, by rw [hql, lo]; rfl, j5, j4, hq.1, hov, hI.hq, hU.ho, by omega, by omega⟩
   obtain ⟨r, H', n', ⟨q, o, i1, i2, rfl, g1, g2, v1, v2, v3, v4, v5, v6⟩, hR⟩ := hG
   refine ⟨q, o, v1, v2, v3, v4, by omega, by omega, hR.toRet ?_⟩
   have t1 : frz H' 7 (.own i1 q.length) = some (.sl (nats .u32 q)) := by rw [frz_own, g1, frzO_some (by rw [zag]), zah]; rfl
   have t2 : frz H' 7 (.own i2 o.length) = some (.sl (nats .u32 o)) := by rw [frz_own, g2, frzO_some (by rw [zag]), zah]; rfl
   show (allOf (frz H' 7) [.own i1 q.length, .own i2 o.length]).map V.tup = _
   simp only [allOf, t1, t2]
   rfl
end Go.Gim
/- The quotient of numbers of any size, and the rest. -/
set_option maxRecDepth 100000
set_option maxHeartbeats 4000000
namespace Go.Gim
open Go.Proofs
theorem fdiv_of {x y Q R : Int} (h : x = y * Q + R) (hR : (0 < y ∧ 0 ≤ R ∧ R < y) ∨ (y < 0 ∧ y < R ∧ R ≤ 0)) : x.fdiv y = Q ∧ x.fmod y = R := by
 have key : x.fdiv y = Q := by
  rcases hR with ⟨h1, h2, h3⟩ | ⟨h1, h2, h3⟩
  ·rw [Int.fdiv_eq_ediv_of_nonneg _ (by omega), h, Int.add_comm, Int.add_mul_ediv_left _ _ (by omega), Int.ediv_eq_zero_of_lt h2 h3]; omega
  ·rw [← Int.neg_fdiv_neg, Int.fdiv_eq_ediv_of_nonneg _ (by omega), h, show -(y * Q + R) = -R + -y * Q by rw [Int.neg_mul]; omega, Int.add_mul_ediv_left _ _ (by omega), Int.ediv_eq_zero_of_lt (by omega) (by omega)]; omega
 refine ⟨key, ?_⟩
 rw [Int.fmod_def, key, h]; omega
theorem quo_plain {x y : Int} (hy : y ≠ 0) : ((sg (decide (x < 0)) (x.natAbs % y.natAbs) = 0 ∨ decide (sg (decide (x < 0)) (x.natAbs % y.natAbs) < 0) = decide (y < 0)) → x.fdiv y = sg (!decide (decide (x < 0) = decide (y < 0))) (x.natAbs / y.natAbs) ∧ x.fmod y = sg (decide (x < 0)) (x.natAbs % y.natAbs)) ∧
  (sg (decide (x < 0)) (x.natAbs % y.natAbs) ≠ 0 → decide (sg (decide (x < 0)) (x.natAbs % y.natAbs) < 0) ≠ decide (y < 0) → x.fdiv y = sg (!decide (decide (x < 0) = decide (y < 0))) (x.natAbs / y.natAbs) - 1 ∧ x.fmod y = sg (decide (x < 0)) (x.natAbs % y.natAbs) + y) := by
 have hm : x.natAbs % y.natAbs < y.natAbs := Nat.mod_lt _ (by omega)
 have hdm : (x.natAbs : Int) = (y.natAbs : Int) * ((x.natAbs / y.natAbs : Nat) : Int) + ((x.natAbs % y.natAbs : Nat) : Int) := by
  have := Nat.div_add_mod x.natAbs y.natAbs
  exact_mod_cast this.symm
 generalize x.natAbs / y.natAbs = q at *
 generalize x.natAbs % y.natAbs = r at *
 have ex : x = if x < 0 then -(x.natAbs : Int) else (x.natAbs : Int) := by split <;> omega
 have ey : (y.natAbs : Int) = if y < 0 then -y else y := by split <;> omega
 have hr0 : (r : Int) < (y.natAbs : Int) := by omega
 rw [ey] at hdm hr0
 by_cases hx : x < 0 <;> by_cases hyy : y < 0 <;> simp only [hx, hyy, if_true, if_false, decide_true, decide_false, sg, Bool.not_true, Bool.not_false, Bool.false_eq_true, reduceCtorEq] at ex hdm hr0 ⊢
 all_goals
  refine ⟨fun h => fdiv_of ?_ ?_, fun h1 h2 => fdiv_of ?_ ?_⟩
 all_goals first
  | (simp only [Int.mul_neg, Int.neg_mul, Int.mul_sub, Int.mul_one, Int.neg_neg] at *; omega)
  | (simp at *; omega)
  | skip
 all_goals exact absurd (decide_eq_false (by omega)) h2
theorem quo_ret (x y : Int) (hy : y ≠ 0) (hx : lim x ≤ 1099511627000) (hyl : lim y ≤ 1099511627000) : Ret pg zc3 [IV x, IV y] (.tup [IV (x.fdiv y), IV (x.fmod y), .int .i64 0]) := by
 obtain ⟨q, r, v1, v2, v3, v4, v5, v6, hp⟩ := parted_ret x.natAbs y.natAbs (by omega) hx hyl
 unfold lim at hx hyl
 have hyn : (digs W32 y.natAbs).length ≠ 0 := fun h => by
  have := (digs_nil w2).1 (List.eq_nil_of_length_eq_zero h); omega
 refine long_Int_Quo.of rfl (W_b ?_)
 unfold long_Int_Quo.k long_Int_Quo.res Ot kp kd Oh Oy Om Ol OL Oq Oc On ci
 have hyn' : ¬ ((digs W32 y.natAbs).length : Int) = 0 := by omega
 simp -dsimp -implicitDefEqProofs (disch := try exact zdE) only [go_sem, zaf, zae, zad, zag, hyn']
 refine zab hp (by simp) ?_
 simp -dsimp -implicitDefEqProofs (disch := try exact zdE) only [go_sem, zaf, zae, zad]
 have hpl := quo_plain (x := x) hy
 have hmq := zgr (!decide (decide (x < 0) = decide (y < 0))) q v3 (by omega)
 have hmr := zgr (decide (x < 0)) r v4 (by omega)
 rw [v1] at hmq
 rw [v2] at hmr
 have lq : lim (sg (!decide (decide (x < 0) = decide (y < 0))) (x.natAbs / y.natAbs)) ≤ 1099511627001 := by
  unfold lim; rw [sg_abs, ← v1]; exact Nat.le_trans (zhq w2 (zgv w2 v3)) (by omega)
 have lr : lim (sg (decide (x < 0)) (x.natAbs % y.natAbs)) ≤ 1099511627001 := by
  unfold lim; rw [sg_abs, ← v2]; exact Nat.le_trans (zhq w2 (zgv w2 v4)) (by omega)
 generalize sg (!decide (decide (x < 0) = decide (y < 0))) (x.natAbs / y.natAbs) = Q at hpl hmq lq
 generalize sg (decide (x < 0)) (x.natAbs % y.natAbs) = R at hpl hmr lr
 first | refine zab (hmq) (by simp) ?_ | refine zaa (hmq) (by simp) ?_
 simp -dsimp -implicitDefEqProofs (disch := try exact zdE) only [go_sem, zaf, zae, zad]
 first | refine zab (hmr) (by simp) ?_ | refine zaa (hmr) (by simp) ?_
 simp -dsimp -implicitDefEqProofs (disch := try exact zdE) only [go_sem, zaf, zae, zad]
 first | refine zab (zhc R (by omega)) (by simp) ?_ | refine zaa (zhc R (by omega)) (by simp) ?_
 by_cases hR : R = 0
 ·have hs : R.sign = 0 := by rw [hR]; rfl
  obtain ⟨e1, e2⟩ := hpl.1 (.inl hR)
  rw [e1, e2]
  simp -dsimp -implicitDefEqProofs (disch := try exact zdE) only [go_sem, zaf, zae, zad, hs]
 ·have hs : ¬ R.sign = 0 := fun h => hR (Int.sign_eq_zero_iff_zero.1 h)
  by_cases hd : decide (R < 0) = decide (y < 0)
  ·obtain ⟨e1, e2⟩ := hpl.1 (.inr hd)
   rw [e1, e2]
   simp -dsimp -implicitDefEqProofs (disch := try exact zdE) only [go_sem, zaf, zae, zad, hs, hd]
  ·obtain ⟨e1, e2⟩ := hpl.2 hR hd
   rw [e1, e2]
   simp -dsimp -implicitDefEqProofs (disch := try exact zdE) only [go_sem, zaf, zae, zad, hs, hd]
   first | refine zab (zbf 1 (by decide)) (by simp) ?_ | refine zaa (zbf 1 (by decide)) (by simp) ?_
   simp -dsimp -implicitDefEqProofs (disch := try exact zdE) only [go_sem, zaf, zae, zad]
   first | refine zab (sub_ret Q 1 (by omega) (by have := zar (x := 1) (by decide); omega)) (by simp) ?_ | refine zaa (sub_ret Q 1 (by omega) (by have := zar (x := 1) (by decide); omega)) (by simp) ?_
   simp -dsimp -implicitDefEqProofs (disch := try exact zdE) only [go_sem, zaf, zae, zad]
   first | refine zab (zb8 R y (by omega) (by unfold lim; omega)) (by simp) ?_ | refine zaa (zb8 R y (by omega) (by unfold lim; omega)) (by simp) ?_
   simp -dsimp -implicitDefEqProofs (disch := try exact zdE) only [go_sem, zaf, zae, zad]
end Go.Gim
