import Derived.Test.YtoehjhcfilonoaaRA1
import Derived.Test.YtoehjhcfilonoaaLI1
import Derived.Test.YtoehjhcfilonoaaM3
import Derived.Test.YtoehjhcfilonoaaB2
import Derived.Test.YtoehjhcfilonoaaHB
/- The reference reads a told number back. -/
set_option maxRecDepth 100000
set_option maxHeartbeats 4000000
set_option linter.unusedSimpArgs false
set_option linter.unusedVariables false
namespace Go.Gim
open Go.Proofs
theorem toList_loop (b : ByteArray) : ∀ (n i : Nat) (r : List UInt8), b.size - i = n → ByteArray.toList.loop b i r = r.reverse ++ b.data.toList.drop i
  | 0, i, r, h => by
    rw [ByteArray.toList.loop]
    have hs : b.size = b.data.toList.length := by simp
    rw [if_neg (by omega), List.drop_eq_nil_of_le (by omega), List.append_nil]
  | n + 1, i, r, h => by
    rw [ByteArray.toList.loop]
    have hs : b.size = b.data.toList.length := by simp
    rw [if_pos (by omega), toList_loop b n (i + 1) _ (by omega), List.drop_eq_getElem_cons (show i < b.data.toList.length by omega), List.reverse_cons, List.append_assoc]
    congr 1
    simp only [List.singleton_append]
    congr 1
    have hi : i < b.data.size := by simpa using (show i < b.data.toList.length by omega)
    show b.get! i = _
    simp only [ByteArray.get!]
    rw [getElem!_pos b.data i hi]; simp
theorem toList_data (b : ByteArray) : b.toList = b.data.toList := by
  have := toList_loop b _ 0 [] rfl
  simpa [ByteArray.toList] using this
end Go.Gim
