import Derived.Test.YtjkjpjneeioeiaaGreatL1
import Derived.Test.YtjkjpjneeioeiaaGreatM3
import Derived.Test.YtjkjpjneeioeiaaGreatGRC
/- The document's whole numbers, by decimal digits. -/
set_option maxRecDepth 100000
set_option linter.unusedSimpArgs false
set_option linter.unusedVariables false
namespace Go.Gim
open Go.Proofs
attribute [local go_sem] IntWalk.i64_in wu64 wu32 wu8 Nat.mod_eq_of_lt shr32 shr63 shl32 or32 quo64 quo32 zfk remk zct zcs zd1 zd0 zb5 Nat.add_assoc za7 lt_ne gt_ne zdu dlt_t dlt_f dle_t dle_f deq_t deq_f zby zec zfd zbf zbk zbc zba zcu zcw zcx zdl zae List.length_set ge_iff_le gt_iff_lt Int.toNat_natCast zcf zdm zcj zdp zdn zcr zb2 zfj zb3 zb4 zdt
def DV (x : Int) : V := .agg [.bool (decide (x < 0)), .sl (nats .i64 (digs 10 x.natAbs))]
theorem DV_sg (b : Bool) (n : Nat) : DV (sg b n) = .agg [.bool (b && decide (0 < n)), .sl (nats .i64 (digs 10 n))] := by
 unfold DV
 rw [sg_abs]
 congr 3
 unfold sg
 cases b <;> simp <;> omega
@[simp] theorem DV_pure (x : Int) : (DV x).Pure := by simp [DV]
theorem zaj (x : Int) : (DV x).cells = [.bool (decide (x < 0)), .sl (nats .i64 (digs 10 x.natAbs))] := rfl
theorem zai (x : Int) : (DV x).isAgg = true := rfl
@[simp] theorem zaf (x : Int) : (DV x).isJunk = false := rfl
theorem zax (H : Hp) (n : Nat) (x : Int) : frz H (n + 2) (DV x) = some (DV x) := rfl
theorem zaq (x : Int) : V.part (DV x) 0 2 true = some (DV x) := rfl
theorem sgd {a b : Prop} (k : b) (h : a = b := by simp -dsimp -implicitDefEqProofs (disch := (first | omega | (simp only [zL] <;> omega) | (apply zho <;> simp))) only [go_sem, zaj, zai, zaf, zax, zaq, zac]; try rfl) : a := h ▸ k
theorem sub_DV (g) (x : Int) : V.sub g (DV x) = DV x := zed g (DV_pure x)
theorem r_made (b : Bool) (l : List Nat) (hl : ∀ x ∈ l, x < 10) (hs : l.length ≤ 8796093022208) : Ret pg zav [.bool b, .sl (nats .i64 l)] (DV (sg b (val 10 l))) := by
 refine gimbalref01_made.of rfl (W_b ?_)
 unfold gimbalref01_made.k gimbalref01_made.res Ot kp Oh Oy Om On ci
 simp -dsimp -implicitDefEqProofs (disch := try exact zdL) only [go_sem]
 refine zap (T := Nat × Nat) (fun t => ⟨E [(0, .bool b), (1, .sl (nats .i64 l)), (4, .ptr 0 1 0 0), (5, .int .i64 t.1)], Hp.upd (fun _ => none) 0 (some ⟨[.agg [.bool false, .nil]], 2⟩), t.2, t.2⟩) (fun t => 0 < t.2 ∧ t.1 ≤ l.length ∧ ∀ i, t.1 ≤ i → (hi : i < l.length) → l[i] = 0) (fun t => t.1) (l.length, 4) rfl ⟨by omega, by omega, fun i h1 h2 => by omega⟩ ?_
 rintro ⟨n, nx⟩ ⟨h0, h1, h2⟩
 dsimp only at h0 h1 h2
 by_cases hn : 0 < n
 ·have hg : ∀ i (hi : i < l.length), l.getD i 0 = l[i] := fun i hi => by simp [List.getD_eq_getElem?_getD, hi]
  by_cases hz : l.getD (n - 1) 0 = 0
  ·simp -dsimp -implicitDefEqProofs (disch := try exact zdL) only [go_sem]
   refine ⟨(n - 1, _), rfl, ⟨by omega, zdo, fun i h3 h4 => ?_⟩, zdo⟩
   dsimp only at h3
   by_cases hi : i = n - 1
   ·subst hi; rw [← hg]; exact hz
   ·exact h2 i (by omega) h4
  ·have hd := made_digs d2 hl h1 h2 (fun _ => by rw [← hg]; exact hz)
   have hp : 0 < val 10 l := by
    rcases Nat.eq_zero_or_pos (val 10 l) with h | h
    ·rw [h, zbe] at hd
     have := congrArg List.length hd
     rw [List.length_take] at this; simp only [List.length_nil] at this; omega
    ·exact h
   cases b <;> simp -dsimp -implicitDefEqProofs (disch := try exact zdL) only [go_sem, DV_sg, hd] <;> simp [hp]
 ·have hd := made_digs d2 hl h1 h2 (fun h => by omega)
  have hn0 : n = 0 := by omega
  subst hn0
  have hv : val 10 l = 0 := by
   refine (zgt d2).1 ?_
   rw [← hd]; rfl
  cases b <;> simp -dsimp -implicitDefEqProofs (disch := try exact zdL) only [go_sem, DV_sg, hv, zbe] <;> simp [nats]
theorem r_size (x y : Nat) (hx : (digs 10 x).length ≤ 8796093022208) (hy : (digs 10 y).length ≤ 8796093022208) : Ret pg zdy [.sl (nats .i64 (digs 10 x)), .sl (nats .i64 (digs 10 y))] (.int .i64 (ncmp x y)) := by
 refine gimbalref01_size.of rfl (W_b ?_)
 unfold gimbalref01_size.k gimbalref01_size.res Ot kp kd Om Ol Oi Oc On ci
 have lx := zbp d2 x
 have ly := zbp d2 y
 by_cases hl : (digs 10 x).length = (digs 10 y).length
 ·refine sgd ?_
  refine zap (T := Nat × Nat) (fun t => ⟨E [(0, .sl (nats .i64 (digs 10 x))), (1, .sl (nats .i64 (digs 10 y))), (5, .int .i64 ((t.1 : Int) - 1))], fun _ => none, t.2, t.2⟩) (fun t => t.1 ≤ (digs 10 x).length ∧ (digs 10 x).drop t.1 = (digs 10 y).drop t.1) (fun t => t.1) ((digs 10 x).length, _) rfl ⟨by omega, by rw [hl, List.drop_length, ← hl, List.drop_length]⟩ ?_
  rintro ⟨n, nx⟩ ⟨h1, h2⟩
  dsimp only at h1 h2
  by_cases hn : n = 0
  ·subst hn
   have e : x = y := digs_inj d2 (by simpa using h2)
   simp -dsimp -implicitDefEqProofs (disch := try exact zdL) only [go_sem, zaj, zai, zaf, zax, zaq, zac, ncmp, e, Nat.lt_irrefl]
  ·have hd : (digs 10 x).drop (n - 1 + 1) = (digs 10 y).drop (n - 1 + 1) := by rw [show n - 1 + 1 = n by omega]; exact h2
   have g1 := getD_get (l := digs 10 x) (i := n - 1) (by omega)
   have g2 := getD_get (l := digs 10 y) (i := n - 1) (by omega)
   rcases Nat.lt_trichotomy ((digs 10 x).getD (n - 1) 0) ((digs 10 y).getD (n - 1) 0) with h | h | h
   ·have := val_take_lt d2 hl (i := n - 1) (by omega) lx ly hd (by rw [← g1, ← g2]; exact h)
    rw [zau d2, zau d2] at this
    simp -dsimp -implicitDefEqProofs (disch := try exact zdL) only [go_sem, zaj, zai, zaf, zax, zaq, zac, ncmp, this]
   ·refine sgd ?_
    refine ⟨(n - 1, _), rfl, ⟨zdo, ?_⟩, zdo⟩
    dsimp only
    rw [List.drop_eq_getElem_cons (show n - 1 < (digs 10 x).length by omega), List.drop_eq_getElem_cons (show n - 1 < (digs 10 y).length by omega), hd, ← g1, ← g2, h]
   ·have := val_take_lt d2 hl.symm (i := n - 1) (by omega) ly lx hd.symm (by rw [← g1, ← g2]; exact h)
    rw [zau d2, zau d2] at this
    simp -dsimp -implicitDefEqProofs (disch := try exact zdL) only [go_sem, zaj, zai, zaf, zax, zaq, zac, ncmp, show ¬ x < y by omega, show ¬ x = y by omega]
 ·by_cases hlt : (digs 10 x).length < (digs 10 y).length
  ·have := val_len_lt d2 hlt
   simp -dsimp -implicitDefEqProofs (disch := try exact zdL) only [go_sem, zaj, zai, zaf, zax, zaq, zac, ncmp, this]
  ·have := val_len_lt d2 (x := y) (y := x) (by omega)
   simp -dsimp -implicitDefEqProofs (disch := try exact zdL) only [go_sem, zaj, zai, zaf, zax, zaq, zac, ncmp, show ¬ x < y by omega, show ¬ x = y by omega]
end Go.Gim
