import Derived.Test.YtmfenpedpajfkaaQL3
import Derived.Test.YtmfenpedpajfkaaQP2
/- The least value; what is left out is at its least; left out twice. -/
set_option maxRecDepth 100000
set_option maxHeartbeats 4000000
set_option linter.unusedSimpArgs false
set_option linter.unusedVariables false
namespace Go.Gim
open Go.Proofs
theorem min_nat (a : Nat) (m : Nat) : ∃ n, min a m = n ∧ n ≤ m := ⟨min a m, rfl, Nat.min_le_right _ _⟩
theorem mir_sm {rows : List (List Int)} (h : ∀ r ∈ rows, ∀ v ∈ r, In64 v) (n : Nat) : ∀ i j, lim (at2 (mirM rows n) i j) ≤ 2 := Sq.sm (mirM_in h n)
end Go.Gim
/- What is left out is at its least; left out twice is left out at once. -/
set_option maxRecDepth 100000
set_option maxHeartbeats 4000000
set_option linter.unusedSimpArgs false
set_option linter.unusedVariables false
namespace Go.Gim
open Go.Proofs
theorem with_rest {n k : Nat} {P : List (List Int)} {Q : List Int} {y : Nat → Int} {X : List Int} (hk : k ≤ n) (hX : ∀ i, i < n → X.getD i 0 = if i < k then 0 else y (i - k)) {i : Nat} : (applyAt P X n i - Q.getD i 0) * -1 = restQ k (n - k) (at2 P) (fun i => Q.getD i 0) y i := by
  obtain ⟨m, rfl⟩ : ∃ m, n = k + m := ⟨n - k, by omega⟩
  rw [applyAt_eq]
  unfold restQ appS
  rw [sumZ_split, sg_zero fun c hc => by dsimp only; rw [hX c (by omega), if_pos hc]; simp, show k + m - k = m by omega, sumZ_congr (f := fun j => at2 P i (k + j) * X.getD (k + j) 0) (g := fun j => at2 P i (k + j) * y j) fun j hj => by rw [hX (k + j) (by omega), if_neg (by omega)]; congr 2; omega]
  dsimp only
  omega
end Go.Gim
