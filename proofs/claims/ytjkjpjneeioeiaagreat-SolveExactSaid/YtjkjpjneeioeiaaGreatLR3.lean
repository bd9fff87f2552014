import Derived.Test.YtjkjpjneeioeiaaGreatLR2
/- The document's whole numbers: sums, differences, order, texts. -/
set_option maxRecDepth 100000
set_option linter.unusedSimpArgs false
set_option linter.unusedVariables false
namespace Go.Gim
open Go.Proofs
attribute [local go_sem] IntWalk.i64_in wu64 wu32 wu8 Nat.mod_eq_of_lt shr32 shr63 shl32 or32 quo64 quo32 zfq remk zcn zcm zdx zdw zb7 Nat.add_assoc za2 lt_ne gt_ne zdn dlt_t dlt_f dle_t dle_f deq_t deq_f zbz ze2 ze1 zbe zbl zbb za7 zco zcq zcr zc9 zah List.length_set ge_iff_le gt_iff_lt Int.toNat_natCast zcg zde zch zdg zdf zcl zb4 zf1 zb5 zb6 zdm
end Go.Gim
