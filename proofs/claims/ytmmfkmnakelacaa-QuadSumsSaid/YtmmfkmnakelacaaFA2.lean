import Derived.Test.YtmmfkmnakelacaaFA1
/- Rows: what they lack. -/
set_option maxRecDepth 100000
set_option linter.unusedSimpArgs false
set_option linter.unusedVariables false
namespace Go.Gim
open Go.Proofs
def State (x : List Int) : Prop := ∀ v ∈ x, -1000000 ≤ v ∧ v ≤ 1000000
theorem State.get {x : List Int} (h : State x) (i : Nat) : -1000000 ≤ x.getD i 0 ∧ x.getD i 0 ≤ 1000000 := by
  by_cases hi : i < x.length
  · exact h _ (getD_mem' 0 hi)
  · simp [List.getD_eq_getElem?_getD, List.getElem?_eq_none (Nat.le_of_not_lt hi)]
theorem Right4.get {r : Row4} {n : Nat} (h : Right4 r n) (i : Nat) : -1000 ≤ r.co.getD i 0 ∧ r.co.getD i 0 ≤ 1000 := by
  by_cases hi : i < r.co.length
  · exact h.co _ (getD_mem' 0 hi)
  · simp [List.getD_eq_getElem?_getD, List.getElem?_eq_none (Nat.le_of_not_lt hi)]
end Go.Gim
