import Derived.Test.YtjmbcnfhonfpkaaGreatLR3
/- The document's whole numbers: as small ones. -/
set_option maxRecDepth 100000
set_option linter.unusedSimpArgs false
set_option linter.unusedVariables false
namespace Go.Gim
open Go.Proofs
theorem sign_pos_iff {a : Int} : 0 < a.sign ↔ 0 < a := by
 rcases Int.lt_trichotomy a 0 with h | h | h
 ·rw [Int.sign_eq_neg_one_of_neg h]; omega
 ·subst h; simp
 ·rw [Int.sign_eq_one_of_pos h]; omega
theorem sign_neg_iff {a : Int} : a.sign < 0 ↔ a < 0 := by
 rcases Int.lt_trichotomy a 0 with h | h | h
 ·rw [Int.sign_eq_neg_one_of_neg h]; omega
 ·subst h; simp
 ·rw [Int.sign_eq_one_of_pos h]; omega
end Go.Gim
