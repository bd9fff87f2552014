import Derived.Test.YtjmbcnfhonfpkaaGreatDoorL1
import Derived.Test.YtjmbcnfhonfpkaaGreatDoorM3
import Derived.Test.YtjmbcnfhonfpkaaGreatDoorGN
set_option linter.unusedSimpArgs false
set_option linter.unusedVariables false
/- The document's whole numbers, by decimal digits. -/
set_option maxRecDepth 100000
namespace Go.Gim
open Go.Proofs
attribute [local go_sem] IntWalk.i64_in wu64 wu32 wu8 Nat.mod_eq_of_lt shr32 shr63 shl32 or32 quo64 quo32 zeh remk zcb zca zdc zdb zbx Nat.add_assoc zat lt_ne gt_ne zc7 dlt_t dlt_f dle_t dle_f deq_t deq_f zbq zec zeb za9 zbc za8 zay zcc zcf zcg zcx zag List.length_set ge_iff_le gt_iff_lt Int.toNat_natCast zb5 zcy zb6 zc0 zcz zb9 zbt zev zbv zbw zc6
def DV (x : Int) : V := .agg [.bool (decide (x < 0)), .sl (nats .i64 (digs 10 x.natAbs))]
@[simp] theorem DV_pure (x : Int) : (DV x).Pure := by simp [DV]
theorem DV_cells (x : Int) : (DV x).cells = [.bool (decide (x < 0)), .sl (nats .i64 (digs 10 x.natAbs))] := rfl
theorem DV_isAgg (x : Int) : (DV x).isAgg = true := rfl
@[simp] theorem DV_isJunk (x : Int) : (DV x).isJunk = false := rfl
theorem frz_DV (H : Hp) (n : Nat) (x : Int) : frz H (n + 2) (DV x) = some (DV x) := rfl
theorem part_DV (x : Int) : V.part (DV x) 0 2 true = some (DV x) := rfl
theorem sub_DV (g) (x : Int) : V.sub g (DV x) = DV x := zct g (DV_pure x)
end Go.Gim
/- The document's whole numbers: made of machine numbers, sums and differences of digits, texts. -/
set_option maxRecDepth 100000
namespace Go.Gim
open Go.Proofs
attribute [local go_sem] IntWalk.i64_in wu64 wu32 wu8 Nat.mod_eq_of_lt shr32 shr63 shl32 or32 quo64 quo32 zeh remk zcb zca zdc zdb zbx Nat.add_assoc zat lt_ne gt_ne zc7 dlt_t dlt_f dle_t dle_f deq_t deq_f zbq zec zeb za9 zbc za8 zay zcc zcf zcg zcx zag List.length_set ge_iff_le gt_iff_lt Int.toNat_natCast zb5 zcy zb6 zc0 zcz zb9 zbt zev zbv zbw zc6
end Go.Gim
/- The document's whole numbers: sums, differences, order, texts. -/
set_option maxRecDepth 100000
namespace Go.Gim
open Go.Proofs
attribute [local go_sem] IntWalk.i64_in wu64 wu32 wu8 Nat.mod_eq_of_lt shr32 shr63 shl32 or32 quo64 quo32 zeh remk zcb zca zdc zdb zbx Nat.add_assoc zat lt_ne gt_ne zc7 dlt_t dlt_f dle_t dle_f deq_t deq_f zbq zec zeb za9 zbc za8 zay zcc zcf zcg zcx zag List.length_set ge_iff_le gt_iff_lt Int.toNat_natCast zb5 zcy zb6 zc0 zcz zb9 zbt zev zbv zbw zc6
end Go.Gim
/- The document's whole numbers: products. -/
set_option maxRecDepth 100000
namespace Go.Gim
open Go.Proofs
attribute [local go_sem] IntWalk.i64_in wu64 wu32 wu8 Nat.mod_eq_of_lt shr32 shr63 shl32 or32 quo64 quo32 zeh remk zcb zca zdc zdb zbx Nat.add_assoc zat lt_ne gt_ne zc7 dlt_t dlt_f dle_t dle_f deq_t deq_f zbq zec zeb za9 zbc za8 zay zcc zcf zcg zcx zag List.length_set ge_iff_le gt_iff_lt Int.toNat_natCast zb5 zcy zb6 zc0 zcz zb9 zbt zev zbv zbw zc6
end Go.Gim
/- The document's whole numbers: as small ones. -/
set_option maxRecDepth 100000
namespace Go.Gim
open Go.Proofs
theorem sign_pos_iff {a : Int} : 0 < a.sign ↔ 0 < a := by
 rcases Int.lt_trichotomy a 0 with h | h | h
 ·rw [Int.sign_eq_neg_one_of_neg h]; omega
 ·subst h; simp
 ·rw [Int.sign_eq_one_of_pos h]; omega
theorem sign_neg_iff {a : Int} : a.sign < 0 ↔ a < 0 := by
 rcases Int.lt_trichotomy a 0 with h | h | h
 ·rw [Int.sign_eq_neg_one_of_neg h]; omega
 ·subst h; simp
 ·rw [Int.sign_eq_one_of_pos h]; omega
end Go.Gim
