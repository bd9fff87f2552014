import Derived.Test.YtjkjpjneeioeiaaGreatQW2
import Derived.Test.YtjkjpjneeioeiaaGreatRL0
import Derived.Test.YtjkjpjneeioeiaaGreatSB
import Derived.Test.YtjkjpjneeioeiaaGreatSM0
import Derived.Test.YtjkjpjneeioeiaaGreatGN
import Derived.Test.YtjkjpjneeioeiaaGreatLB2
import Derived.Test.YtjkjpjneeioeiaaGreatQA3
import Derived.Test.YtjkjpjneeioeiaaGreatLS4
import Derived.Test.YtjkjpjneeioeiaaGreatQP2
import Derived.Test.YtjkjpjneeioeiaaGreatLB4
/- Values, slopes and sums of quadratic functions are as the document says. -/
set_option maxRecDepth 100000
set_option maxHeartbeats 4000000
set_option linter.unusedSimpArgs false
set_option linter.unusedVariables false
namespace Go.Gim
open Go.Proofs
theorem mat_all {p : Int → Prop} {n : Nat} {f : Mx} (h : ∀ i j, p (f i j)) : ∀ r ∈ mat n f, ∀ x ∈ r, p x := fun r hr x hx => by
 obtain ⟨i, _, rfl⟩ := List.mem_map.1 hr
 obtain ⟨j, _, rfl⟩ := List.mem_map.1 hx
 exact h i j
theorem mat_rows {n m : Nat} {f : Mx} (h : n ≤ m) : ∀ r ∈ mat n f, r.length ≤ m := fun r hr => by
 obtain ⟨i, _, rfl⟩ := List.mem_map.1 hr
 rw [List.length_map, List.length_range]; exact h
end Go.Gim
