import Derived.Test.YtjmbcnfhonfpkaaGreatLR3
/- The document's whole numbers: products. -/
set_option maxRecDepth 100000
set_option linter.unusedSimpArgs false
set_option linter.unusedVariables false
namespace Go.Gim
open Go.Proofs
attribute [local go_sem] IntWalk.i64_in wu64 wu32 wu8 Nat.mod_eq_of_lt shr32 shr63 shl32 or32 quo64 quo32 zfx remk zcv zcu zd2 zd1 zb3 Nat.add_assoc zbc lt_ne gt_ne zdv dlt_t dlt_f dle_t dle_f deq_t deq_f zby zfn zfm zbm zbr zbl zbg zcw zcz zc0 zdp zah List.length_set ge_iff_le gt_iff_lt Int.toNat_natCast zck zdr zcl zdt zds zct zb0 zf9 zb1 zb2 zdu
end Go.Gim
