import Derived.Test.YtoehjhcfilonoaaKM4
import Derived.Test.YtoehjhcfilonoaaGN
import Derived.Test.YtoehjhcfilonoaaRA1
import Derived.Test.YtoehjhcfilonoaaRP
/- The document's rows of keys. -/
set_option maxRecDepth 100000
set_option maxHeartbeats 4000000
set_option linter.unusedSimpArgs false
set_option linter.unusedVariables false
namespace Go.Gim
open Go.Proofs
attribute [local go_sem] KV_cells KV_isAgg part_KV idxB_KV
end Go.Gim
