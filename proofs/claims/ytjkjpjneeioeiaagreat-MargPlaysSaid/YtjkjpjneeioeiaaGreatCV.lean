import Derived.Test.YtjkjpjneeioeiaaGreatFA2
import Derived.Test.YtjkjpjneeioeiaaGreatGL
import Derived.Test.YtjkjpjneeioeiaaGreatL1
import Derived.IntWalk
import Derived.Test.YtjkjpjneeioeiaaGreatGA7
import Derived.Test.YtjkjpjneeioeiaaGreatSM0
set_option linter.unusedSimpArgs false
set_option linter.unusedVariables false
/- One of each: lists made of others. -/
set_option maxRecDepth 100000
set_option maxHeartbeats 4000000
namespace Go.Gim
open Go.Proofs
theorem newV_mk0 {es bytes : Nat} {n : Nat} {zero : V} {k1 k2 : IntKind} (h1 : bytes * n ≤ 140737488355328) (h2 : n ≤ 140737488355328) (hz : zero.cells.length = es) (he : 0 < es) : newV (.mks es bytes zero) [.int k1 0, .int k2 (n : Int)] = some (0, ⟨[], es⟩) := by
 simp only [newV]
 rw [if_pos ⟨by omega, by omega, by omega, by omega, hz, he⟩]
 rfl
@[go_sem] theorem newV_mk0I {bytes n : Nat} {k1 k2 : IntKind} (h1 : bytes * n ≤ 140737488355328) (h2 : n ≤ 140737488355328) : newV (.mks 1 bytes (.int .i64 0)) [.int k1 0, .int k2 (n : Int)] = some (0, ⟨[], 1⟩) := newV_mk0 h1 h2 rfl (by decide)
@[go_sem] theorem newV_mk0N {bytes n : Nat} {k1 k2 : IntKind} (h1 : bytes * n ≤ 140737488355328) (h2 : n ≤ 140737488355328) : newV (.mks 1 bytes .nil) [.int k1 0, .int k2 (n : Int)] = some (0, ⟨[], 1⟩) := newV_mk0 h1 h2 rfl (by decide)
@[go_sem] theorem newV_mk0V {bytes n : Nat} {k1 k2 : IntKind} (h1 : bytes * n ≤ 140737488355328) (h2 : n ≤ 140737488355328) : newV (.mks 2 bytes (.agg [.bool false, .sl []])) [.int k1 0, .int k2 (n : Int)] = some (0, ⟨[], 2⟩) := newV_mk0 h1 h2 rfl (by decide)
end Go.Gim
/- What a state costs. -/
set_option maxRecDepth 100000
set_option maxHeartbeats 4000000
namespace Go.Gim
open Go.Proofs
structure GOkay (g : Gr) (x : List Int) : Prop where
 len : x.length = g.n
 hi : g.n ≤ 11
 sixty : g.rows.length ≤ 60
 right : ∀ r ∈ g.rows, Right4 r x.length
 state : State x
 sq : Sq g.P g.n
 ql : g.Q.length = g.n
 sP : ∀ i j, lim (at2 g.P i j) ≤ 100
 sQ : ∀ i, lim (g.Q.getD i 0) ≤ 100
 sc : lim g.c ≤ 100
 sd : lim g.den ≤ 100
theorem State.lim {x : List Int} (h : State x) (i : Nat) : lim (x.getD i 0) ≤ 2 := zbp (by have := h.get i; omega)
theorem getD_in {l : List Int} (h : ∀ v ∈ l, In64 v) (n : Nat) : In64 (l.getD n 0) := by
 by_cases hn : n < l.length
 ·exact h _ (zau 0 hn)
 ·rw [List.getD_eq_getElem?_getD, List.getElem?_eq_none (by omega)]; decide
end Go.Gim
