import Derived.Test.YtjkjpjneeioeiaaGreatLR3
/- The document's whole numbers: as small ones. -/
set_option maxRecDepth 100000
set_option linter.unusedSimpArgs false
set_option linter.unusedVariables false
namespace Go.Gim
open Go.Proofs
attribute [local go_sem] IntWalk.i64_in wu64 wu32 wu8 Nat.mod_eq_of_lt shr32 shr63 shl32 or32 quo64 quo32 zfq remk zcn zcm zdx zdw zb7 Nat.add_assoc za2 lt_ne gt_ne zdn dlt_t dlt_f dle_t dle_f deq_t deq_f zbz ze2 ze1 zbe zbl zbb za7 zco zcq zcr zc9 zah List.length_set ge_iff_le gt_iff_lt Int.toNat_natCast zcg zde zch zdg zdf zcl zb4 zf1 zb5 zb6 zdm
theorem sign_pos_iff {a : Int} : 0 < a.sign ↔ 0 < a := by
 rcases Int.lt_trichotomy a 0 with h | h | h
 ·rw [Int.sign_eq_neg_one_of_neg h]; omega
 ·subst h; simp
 ·rw [Int.sign_eq_one_of_pos h]; omega
theorem sign_neg_iff {a : Int} : a.sign < 0 ↔ a < 0 := by
 rcases Int.lt_trichotomy a 0 with h | h | h
 ·rw [Int.sign_eq_neg_one_of_neg h]; omega
 ·subst h; simp
 ·rw [Int.sign_eq_one_of_pos h]; omega
end Go.Gim
