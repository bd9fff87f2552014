import Derived.Test.YtjkjpjneeioeiaaGreatL1
import Derived.Test.YtjkjpjneeioeiaaGreatM3
import Derived.Test.YtjkjpjneeioeiaaGreatGRR
/- The document's whole numbers, by decimal digits. -/
set_option maxRecDepth 100000
set_option linter.unusedSimpArgs false
set_option linter.unusedVariables false
namespace Go.Gim
open Go.Proofs
attribute [local go_sem] IntWalk.i64_in wu64 wu32 wu8 Nat.mod_eq_of_lt shr32 shr63 shl32 or32 quo64 quo32 zfq remk zcn zcm zdx zdw zb7 Nat.add_assoc za2 lt_ne gt_ne zdn dlt_t dlt_f dle_t dle_f deq_t deq_f zbz ze2 ze1 zbe zbl zbb za7 zco zcq zcr zc9 zah List.length_set ge_iff_le gt_iff_lt Int.toNat_natCast zcg zde zch zdg zdf zcl zb4 zf1 zb5 zb6 zdm
def DV (x : Int) : V := .agg [.bool (decide (x < 0)), .sl (nats .i64 (digs 10 x.natAbs))]
theorem DV_sg (b : Bool) (n : Nat) : DV (sg b n) = .agg [.bool (b && decide (0 < n)), .sl (nats .i64 (digs 10 n))] := by
 unfold DV
 rw [sg_abs]
 congr 3
 unfold sg
 cases b <;> simp <;> omega
@[simp] theorem DV_pure (x : Int) : (DV x).Pure := by simp [DV]
theorem zf6 (x : Int) : (DV x).cells = [.bool (decide (x < 0)), .sl (nats .i64 (digs 10 x.natAbs))] := rfl
theorem zf5 (x : Int) : (DV x).isAgg = true := rfl
@[simp] theorem zez (x : Int) : (DV x).isJunk = false := rfl
theorem frz_DV (H : Hp) (n : Nat) (x : Int) : frz H (n + 2) (DV x) = some (DV x) := rfl
theorem part_DV (x : Int) : V.part (DV x) 0 2 true = some (DV x) := rfl
theorem sgd {a b : Prop} (k : b) (h : a = b := by simp -dsimp -implicitDefEqProofs (disch := (first | omega | (simp only [zL] <;> omega) | (apply zfu <;> simp))) only [go_sem, zf6, zf5, zez, frz_DV, part_DV, zae]; try rfl) : a := h ▸ k
theorem sub_DV (g) (x : Int) : V.sub g (DV x) = DV x := zck g (DV_pure x)
theorem r_made (b : Bool) (l : List Nat) (hl : ∀ x ∈ l, x < 10) (hs : l.length ≤ 8796093022208) : Ret pg zc6 [.bool b, .sl (nats .i64 l)] (DV (sg b (val 10 l))) := by
 refine gimbalref01_made.of rfl (W_b ?_)
 unfold gimbalref01_made.k gimbalref01_made.res Ot kp Oh Oy Om On ci
 simp -dsimp -implicitDefEqProofs (disch := try exact zdL) only [go_sem]
 refine zam (T := Nat × Nat) (fun t => ⟨E [(0, .bool b), (1, .sl (nats .i64 l)), (4, .ptr 0 1 0 0), (5, .int .i64 t.1)], Hp.upd (fun _ => none) 0 (some ⟨[.agg [.bool false, .nil]], 2⟩), t.2, t.2⟩) (fun t => 0 < t.2 ∧ t.1 ≤ l.length ∧ ∀ i, t.1 ≤ i → (hi : i < l.length) → l[i] = 0) (fun t => t.1) (l.length, 4) rfl ⟨by omega, by omega, fun i h1 h2 => by omega⟩ ?_
 rintro ⟨n, nx⟩ ⟨h0, h1, h2⟩
 dsimp only at h0 h1 h2
 by_cases hn : 0 < n
 ·have hg : ∀ i (hi : i < l.length), l.getD i 0 = l[i] := fun i hi => by simp [List.getD_eq_getElem?_getD, hi]
  by_cases hz : l.getD (n - 1) 0 = 0
  ·simp -dsimp -implicitDefEqProofs (disch := try exact zdL) only [go_sem]
   refine ⟨(n - 1, _), rfl, ⟨by omega, zdo, fun i h3 h4 => ?_⟩, zdo⟩
   dsimp only at h3
   by_cases hi : i = n - 1
   ·subst hi; rw [← hg]; exact hz
   ·exact h2 i (by omega) h4
  ·have hd := made_digs d2 hl h1 h2 (fun _ => by rw [← hg]; exact hz)
   have hp : 0 < val 10 l := by
    rcases Nat.eq_zero_or_pos (val 10 l) with h | h
    ·rw [h, zbk] at hd
     have := congrArg List.length hd
     rw [List.length_take] at this; simp only [List.length_nil] at this; omega
    ·exact h
   cases b <;> simp -dsimp -implicitDefEqProofs (disch := try exact zdL) only [go_sem, DV_sg, hd] <;> simp [hp]
 ·have hd := made_digs d2 hl h1 h2 (fun h => by omega)
  have hn0 : n = 0 := by omega
  subst hn0
  have hv : val 10 l = 0 := by
   refine (digs_nil d2).1 ?_
   rw [← hd]; rfl
  cases b <;> simp -dsimp -implicitDefEqProofs (disch := try exact zdL) only [go_sem, DV_sg, hv, zbk] <;> simp [nats]
end Go.Gim
