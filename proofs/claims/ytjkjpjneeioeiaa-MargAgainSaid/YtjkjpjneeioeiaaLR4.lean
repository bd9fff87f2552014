import Derived.Test.YtjkjpjneeioeiaaLR3
/- The document's whole numbers: products. -/
set_option maxRecDepth 100000
set_option linter.unusedSimpArgs false
set_option linter.unusedVariables false
namespace Go.Gim
open Go.Proofs
attribute [local go_sem] IntWalk.i64_in wu64 wu32 wu8 Nat.mod_eq_of_lt shr32 shr63 shl32 or32 quo64 quo32 quoi64 remk quo32_10 rem32_10 quoi_10 remi_10 nat_48add Nat.add_assoc add_ne_self lt_ne gt_ne add_inj dlt_t dlt_f dle_t dle_f deq_t deq_f idxB_nats idxO_f idxO_t loadO_natf loadO_natt storeO_nat storeO_natn newB_mkn effV_cpy cpyO_nat upd_upd nats_len List.length_set ge_iff_le gt_iff_lt Int.toNat_natCast nat_sub1 nat_sub nat_add1 nat_add nat_mul slc3_pos slc3_zero slc_to nats_take nats_drop boxB_eq
end Go.Gim
