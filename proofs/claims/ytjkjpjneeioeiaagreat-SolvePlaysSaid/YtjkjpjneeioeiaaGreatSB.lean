import Derived.Test.YtjkjpjneeioeiaaGreatLI4
import Derived.Test.YtjkjpjneeioeiaaGreatB2
/- Texts of numbers, one behind the other. -/
set_option linter.unusedSimpArgs false
set_option linter.unusedVariables false
namespace Go.Gim
def bst (l : List Nat) : ByteArray := ⟨(l.map UInt8.ofNat).toArray⟩
theorem bst_size (l) : (bst l).size = l.length := by simp [bst, ByteArray.size]
theorem decS_bst (x : Int) : decS x = bst (decL x) := rfl
theorem strV_same (s : ByteArray) : strV .eql s s = some (.bool true) := by simp [strV]
theorem bst_eq {a b : List Nat} (h : a = b) : strV .eql (bst a) (bst b) = some (.bool true) := by rw [h]; exact strV_same _
end Go.Gim
