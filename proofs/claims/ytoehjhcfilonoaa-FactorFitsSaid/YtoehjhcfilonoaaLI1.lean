import Derived.Test.YtoehjhcfilonoaaL1
import Derived.Test.YtoehjhcfilonoaaM2
import Derived.Test.YtoehjhcfilonoaaGN
/- Whole numbers of any size: their parts, sums, differences, products. -/
set_option maxRecDepth 100000
set_option linter.unusedSimpArgs false
set_option linter.unusedVariables false
namespace Go.Gim
open Go.Proofs
def IV (x : Int) : V := .agg [.bool (decide (x < 0)), .sl (nats .u32 (digs W32 x.natAbs))]
@[simp] theorem IV_pure (x : Int) : (IV x).Pure := by simp [IV]
theorem IV_cells (x : Int) : (IV x).cells = [.bool (decide (x < 0)), .sl (nats .u32 (digs W32 x.natAbs))] := rfl
theorem IV_isAgg (x : Int) : (IV x).isAgg = true := rfl
@[simp] theorem IV_isJunk (x : Int) : (IV x).isJunk = false := rfl
theorem frz_IV (H : Hp) (n : Nat) (x : Int) : frz H (n + 2) (IV x) = some (IV x) := rfl
theorem part_IV (x : Int) : V.part (IV x) 0 2 true = some (IV x) := rfl
theorem sub_IV (g) (x : Int) : V.sub g (IV x) = IV x := sub_pure g (IV_pure x)
end Go.Gim
