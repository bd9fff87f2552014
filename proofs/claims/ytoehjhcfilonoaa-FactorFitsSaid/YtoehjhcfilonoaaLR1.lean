import Derived.Test.YtoehjhcfilonoaaL1
import Derived.Test.YtoehjhcfilonoaaM3
import Derived.Test.YtoehjhcfilonoaaGN
/- The document's whole numbers, by decimal digits. -/
set_option maxRecDepth 100000
set_option linter.unusedSimpArgs false
set_option linter.unusedVariables false
namespace Go.Gim
open Go.Proofs
def DV (x : Int) : V := .agg [.bool (decide (x < 0)), .sl (nats .i64 (digs 10 x.natAbs))]
@[simp] theorem DV_pure (x : Int) : (DV x).Pure := by simp [DV]
theorem DV_cells (x : Int) : (DV x).cells = [.bool (decide (x < 0)), .sl (nats .i64 (digs 10 x.natAbs))] := rfl
theorem DV_isAgg (x : Int) : (DV x).isAgg = true := rfl
@[simp] theorem DV_isJunk (x : Int) : (DV x).isJunk = false := rfl
theorem frz_DV (H : Hp) (n : Nat) (x : Int) : frz H (n + 2) (DV x) = some (DV x) := rfl
theorem part_DV (x : Int) : V.part (DV x) 0 2 true = some (DV x) := rfl
theorem sub_DV (g) (x : Int) : V.sub g (DV x) = DV x := sub_pure g (DV_pure x)
end Go.Gim
