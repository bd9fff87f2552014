import Derived.Test.YtmmfkmnakelacaaQL3
import Derived.Test.YtmmfkmnakelacaaQP2
/- The least value; what is left out is at its least; left out twice. -/
set_option maxRecDepth 100000
set_option maxHeartbeats 4000000
set_option linter.unusedSimpArgs false
set_option linter.unusedVariables false
namespace Go.Gim
open Go.Proofs
theorem min_nat (a : Nat) (m : Nat) : ∃ n, min a m = n ∧ n ≤ m := ⟨min a m, rfl, Nat.min_le_right _ _⟩
theorem mir_sm {rows : List (List Int)} (h : ∀ r ∈ rows, ∀ v ∈ r, In64 v) (n : Nat) : ∀ i j, lim (at2 (mirM rows n) i j) ≤ 2 := Sq.sm (mirM_in h n)
end Go.Gim
/- What is left out twice is left out at once. -/
set_option maxRecDepth 100000
set_option maxHeartbeats 4000000
set_option linter.unusedSimpArgs false
set_option linter.unusedVariables false
namespace Go.Gim
open Go.Proofs
theorem qoutV_congr {n k : Nat} {P P' : Mx} {q q' : Nat → Int} {c : Int} (hk : k ≤ n) (h : ∀ i j, i < n → j < n → P i j = P' i j) (hq : ∀ i, i < n → q i = q' i) : qoutV n k P q c = qoutV n k P' q' c := by
  have hd : det k P = det k P' := det_congr fun i j hi hj => h i j (by omega) (by omega)
  have hn : ∀ (f g : Nat → Int), (∀ i, i < k → f i = g i) → ∀ i, numF k P f i = numF k P' g i := fun f g hf i => numF_congr (fun a b ha hb => h a b (by omega) (by omega)) hf i
  unfold qoutV
  rw [defS_congr (n := k) fun i j hi hj => h i j (by omega) (by omega), hd]
  have e1 : mat (n - k) (gP k P) = mat (n - k) (gP k P') := mat_congr fun i j hi hj => by
    unfold gP
    rw [h _ _ (by omega) (by omega), hd]
    congr 1
    exact sumZ_congr fun c hc => by rw [hn _ (P' (k + i)) (fun a ha => h _ _ (by omega) (by omega)), h _ _ (by omega) (by omega)]
  have e2 : rowF (n - k) (gQ k P q) = rowF (n - k) (gQ k P' q') := rowF_congr fun i hi => by
    unfold gQ
    rw [hq _ (by omega), hd]
    congr 1
    exact sumZ_congr fun c hc => by rw [hn q q' (fun a ha => hq a (by omega)), h _ _ (by omega) (by omega)]
  have e3 : gC k P q c = gC k P' q' c := by
    unfold gC
    rw [hd]
    congr 1
    exact sumZ_congr fun a ha => by rw [hn q q' (fun a ha => hq a (by omega)), hq a (by omega)]
  rw [e1, e2, e3]
end Go.Gim
