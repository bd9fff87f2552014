import Derived.Test.YtjkjpjneeioeiaaGreatCE
import Derived.Test.YtjkjpjneeioeiaaGreatSM0
/- What a state costs. -/
set_option maxRecDepth 100000
set_option maxHeartbeats 4000000
set_option linter.unusedSimpArgs false
set_option linter.unusedVariables false
namespace Go.Gim
open Go.Proofs
structure GOkay (g : Gr) (x : List Int) : Prop where
 len : x.length = g.n
 hi : g.n ≤ 11
 sixty : g.rows.length ≤ 60
 right : ∀ r ∈ g.rows, Right4 r x.length
 state : State x
 sq : Sq g.P g.n
 ql : g.Q.length = g.n
 sP : ∀ i j, lim (at2 g.P i j) ≤ 100
 sQ : ∀ i, lim (g.Q.getD i 0) ≤ 100
 sc : lim g.c ≤ 100
 sd : lim g.den ≤ 100
theorem State.lim {x : List Int} (h : State x) (i : Nat) : lim (x.getD i 0) ≤ 2 := za1 (by have := h.get i; omega)
theorem getD_in {l : List Int} (h : ∀ v ∈ l, In64 v) (n : Nat) : In64 (l.getD n 0) := by
 by_cases hn : n < l.length
 ·exact h _ (zas 0 hn)
 ·rw [List.getD_eq_getElem?_getD, List.getElem?_eq_none (by omega)]; decide
end Go.Gim
