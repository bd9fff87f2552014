import Derived.Test.YtjkjpjneeioeiaaGreatFA2
import Derived.Test.YtjkjpjneeioeiaaGreatGH
import Derived.Test.YtjkjpjneeioeiaaGreatL1
import Derived.IntWalk
import Derived.Test.YtjkjpjneeioeiaaGreatGA7
/- One of each: lists made of others. -/
set_option maxRecDepth 100000
set_option maxHeartbeats 4000000
set_option linter.unusedSimpArgs false
set_option linter.unusedVariables false
namespace Go.Gim
open Go.Proofs
theorem newV_mk0 {es bytes : Nat} {n : Nat} {zero : V} {k1 k2 : IntKind} (h1 : bytes * n ≤ 140737488355328) (h2 : n ≤ 140737488355328) (hz : zero.cells.length = es) (he : 0 < es) : newV (.mks es bytes zero) [.int k1 0, .int k2 (n : Int)] = some (0, ⟨[], es⟩) := by
 simp only [newV]
 rw [if_pos ⟨by omega, by omega, by omega, by omega, hz, he⟩]
 rfl
@[go_sem] theorem newV_mk0I {bytes n : Nat} {k1 k2 : IntKind} (h1 : bytes * n ≤ 140737488355328) (h2 : n ≤ 140737488355328) : newV (.mks 1 bytes (.int .i64 0)) [.int k1 0, .int k2 (n : Int)] = some (0, ⟨[], 1⟩) := newV_mk0 h1 h2 rfl (by decide)
@[go_sem] theorem newV_mk0N {bytes n : Nat} {k1 k2 : IntKind} (h1 : bytes * n ≤ 140737488355328) (h2 : n ≤ 140737488355328) : newV (.mks 1 bytes .nil) [.int k1 0, .int k2 (n : Int)] = some (0, ⟨[], 1⟩) := newV_mk0 h1 h2 rfl (by decide)
@[go_sem] theorem newV_mk0V {bytes n : Nat} {k1 k2 : IntKind} (h1 : bytes * n ≤ 140737488355328) (h2 : n ≤ 140737488355328) : newV (.mks 2 bytes (.agg [.bool false, .sl []])) [.int k1 0, .int k2 (n : Int)] = some (0, ⟨[], 2⟩) := newV_mk0 h1 h2 rfl (by decide)
end Go.Gim
