import Derived.Test.YtjmbcnfhonfpkaaGreatL1
import Derived.Test.YtjmbcnfhonfpkaaGreatM3
import Derived.Test.YtjmbcnfhonfpkaaGreatGN
/- The document's whole numbers, by decimal digits. -/
set_option maxRecDepth 100000
set_option linter.unusedSimpArgs false
set_option linter.unusedVariables false
namespace Go.Gim
open Go.Proofs
attribute [local go_sem] IntWalk.i64_in wu64 wu32 wu8 Nat.mod_eq_of_lt shr32 shr63 shl32 or32 quo64 quo32 zfx remk zcv zcu zd2 zd1 zb3 Nat.add_assoc zbc lt_ne gt_ne zdv dlt_t dlt_f dle_t dle_f deq_t deq_f zby zfn zfm zbm zbr zbl zbg zcw zcz zc0 zdp zah List.length_set ge_iff_le gt_iff_lt Int.toNat_natCast zck zdr zcl zdt zds zct zb0 zf9 zb1 zb2 zdu
def DV (x : Int) : V := .agg [.bool (decide (x < 0)), .sl (nats .i64 (digs 10 x.natAbs))]
@[simp] theorem DV_pure (x : Int) : (DV x).Pure := by simp [DV]
theorem DV_cells (x : Int) : (DV x).cells = [.bool (decide (x < 0)), .sl (nats .i64 (digs 10 x.natAbs))] := rfl
theorem DV_isAgg (x : Int) : (DV x).isAgg = true := rfl
@[simp] theorem DV_isJunk (x : Int) : (DV x).isJunk = false := rfl
theorem frz_DV (H : Hp) (n : Nat) (x : Int) : frz H (n + 2) (DV x) = some (DV x) := rfl
theorem part_DV (x : Int) : V.part (DV x) 0 2 true = some (DV x) := rfl
theorem sub_DV (g) (x : Int) : V.sub g (DV x) = DV x := zc6 g (DV_pure x)
end Go.Gim
