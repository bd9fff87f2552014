import Derived.Test.YtmmfkmnakelacaaGG
import Derived.Test.YtmmfkmnakelacaaB2
/- Rows: whether a row may be, what it lacks. -/
set_option maxRecDepth 100000
set_option linter.unusedSimpArgs false
set_option linter.unusedVariables false
namespace Go.Gim
open Go.Proofs
structure Row4 where
  co : List Int
  z : Int
  kn : Int
  w : Int
  deriving Inhabited, DecidableEq
structure Right4 (r : Row4) (n : Nat) : Prop where
  len : r.co.length = n
  le : n ≤ 11
  z : -1000000000 ≤ r.z ∧ r.z ≤ 1000000000
  kn : 1 ≤ r.kn ∧ r.kn ≤ 32768
  w : 1 ≤ r.w ∧ r.w ≤ 100
  co : ∀ a ∈ r.co, -1000 ≤ a ∧ a ≤ 1000
end Go.Gim
