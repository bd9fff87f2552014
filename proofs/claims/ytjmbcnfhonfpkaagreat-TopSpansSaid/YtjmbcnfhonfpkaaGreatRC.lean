import Derived.Test.YtjmbcnfhonfpkaaGreatF19
import Derived.Test.YtjmbcnfhonfpkaaGreatSM0
/- What a row hands over: numbers, rows of numbers, factor rows, as data. -/
set_option maxRecDepth 100000
set_option linter.unusedSimpArgs false
set_option linter.unusedVariables false
namespace Go.Gim
open Go.Proofs Go.RowKit Go.WideShapes
theorem int64_of {u : V} (h : OkC (.int .i64) u) : ∃ n : Int, In64 n ∧ u = .int .i64 n := by
 cases h with
 | int k n hw => exact ⟨n, wf64 hw, rfl⟩
end Go.Gim
