import Derived.Test.YtjmbcnfhonfpkaaGreatDoorFA2
import Derived.Test.YtjmbcnfhonfpkaaGreatDoorLR5
import Derived.Test.YtjmbcnfhonfpkaaGreatDoorGN
/- The document's rows: whether they are the same, may be, what they lack, how much they count. -/
set_option maxRecDepth 100000
set_option linter.unusedSimpArgs false
set_option linter.unusedVariables false
namespace Go.Gim
open Go.Proofs
def stateB (x : List Int) : Bool := x.all fun v => !outB v (-1000000) 1000000
theorem stateB_iff {x : List Int} : stateB x = true ↔ State x := by simp [stateB, State, outB, Bool.and_eq_true]
end Go.Gim
