import Derived.Test.YtmfenpedpajfkaaQL3
import Derived.Test.YtmfenpedpajfkaaQP2
/- The least value; what is left out is at its least; left out twice. -/
set_option maxRecDepth 100000
set_option maxHeartbeats 4000000
set_option linter.unusedSimpArgs false
set_option linter.unusedVariables false
namespace Go.Gim
open Go.Proofs
theorem min_nat (a : Nat) (m : Nat) : ∃ n, min a m = n ∧ n ≤ m := ⟨min a m, rfl, Nat.min_le_right _ _⟩
theorem mir_sm {rows : List (List Int)} (h : ∀ r ∈ rows, ∀ v ∈ r, In64 v) (n : Nat) : ∀ i j, lim (at2 (mirM rows n) i j) ≤ 2 := Sq.sm (mirM_in h n)
end Go.Gim
