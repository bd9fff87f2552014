import Derived.Test.YtoehjhcfilonoaaRC
/- A factor row as an argument, as data. -/
set_option maxRecDepth 100000
set_option linter.unusedSimpArgs false
set_option linter.unusedVariables false
namespace Go.Gim
open Go.Proofs Go.RowKit Go.WideShapes
theorem row1_of {vs : List V} (h : vs.length = [CT.sl [.int .i64] false, .int .i64, .int .i64, .int .i64].length ∧ ∀ i, i < [CT.sl [.int .i64] false, .int .i64, .int .i64, .int .i64].length → OkC ([CT.sl [.int .i64] false, .int .i64, .int .i64, .int .i64].getD i .bool) (vs.getD i .junk)) : ∃ r : Row4, V.agg vs = RV r ∧ r.co.length ≤ 9223372036854775807 :=
  row4_of (x := .agg vs) h.1 rfl h.2
end Go.Gim
