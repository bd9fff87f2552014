import Derived.Test.YtmmfkmnakelacaaRL0
import Derived.Test.YtmmfkmnakelacaaSB
import Derived.Test.YtmmfkmnakelacaaGN
import Derived.Test.YtmmfkmnakelacaaLS4
import Derived.Test.YtmmfkmnakelacaaDT5
/- What the laws on matrices use: texts, rows, lists. -/
set_option maxRecDepth 100000
set_option maxHeartbeats 4000000
set_option linter.unusedSimpArgs false
set_option linter.unusedVariables false
namespace Go.Gim
open Go.Proofs
def padL (l : List Int) (n : Nat) : List Int := (List.range n).map fun i => l.getD i 0
theorem padL_len (l n) : (padL l n).length = n := by simp [padL]
theorem padL_succ (l n) : padL l (n + 1) = padL l n ++ [l.getD n 0] := by simp [padL, List.range_succ]
theorem getD_in {l : List Int} (h : ∀ v ∈ l, In64 v) (n : Nat) : In64 (l.getD n 0) := by
  by_cases hn : n < l.length
  · exact h _ (getD_mem' 0 hn)
  · rw [List.getD_eq_getElem?_getD, List.getElem?_eq_none (Nat.le_of_not_lt hn)]; decide
theorem Row.lt {lo nx es b k : Nat} {H : Hp} {v : V} {xs : List V} (h : Row lo H nx v es xs) (hv : v = .own b k) : b < nx := by
  rcases h with ⟨h, _⟩ | ⟨d, h1, h2, h3, h4⟩
  · rw [h] at hv; cases hv
  · rw [h1] at hv; cases hv; exact h3
end Go.Gim
/- The chapter's examples: matrices. -/
set_option maxRecDepth 100000
set_option maxHeartbeats 4000000
set_option linter.unusedSimpArgs false
set_option linter.unusedVariables false
namespace Go.Gim
open Go.Proofs
theorem numsL_numsF {r : List Int} (h : (r.all fun x => decide (x.natAbs < 100000000000000000000)) = true) : numsL r = r.flatMap fun x => decF x ++ [32] := flat_congr fun x hx => by rw [decL_decF (of_decide_eq_true (List.all_eq_true.1 h x hx))]
end Go.Gim
/- Products do not hang on brackets. -/
set_option maxRecDepth 100000
set_option maxHeartbeats 4000000
set_option linter.unusedSimpArgs false
set_option linter.unusedVariables false
namespace Go.Gim
open Go.Proofs
theorem pad_lim {l : List Int} (h : ∀ v ∈ l, In64 v) (n i : Nat) : lim ((padL l n).getD i 0) ≤ 2 := by
  unfold padL
  rw [range_getD']
  split
  · exact lim_i64 (getD_in h i)
  · rw [lim_zero]; omega
theorem rng_lim {n L : Nat} {f : Nat → Int} (h : ∀ i, lim (f i) ≤ L) (i : Nat) : lim (((List.range n).map f).getD i 0) ≤ L := by
  rw [range_getD']
  split
  · exact h i
  · rw [lim_zero]; omega
end Go.Gim
/- What solves equations solves them. -/
set_option maxRecDepth 100000
set_option maxHeartbeats 4000000
set_option linter.unusedSimpArgs false
set_option linter.unusedVariables false
namespace Go.Gim
open Go.Proofs
theorem det_pw {n L : Nat} {M : Mx} (hlim : ∀ i j, lim (M i j) ≤ L) : lim (det n M) ≤ 2 ^ n * (L + 1) := by
  rw [← detS_eq]
  have hX : ∀ X o, sweep n (augF n M fun _ => 0) = some (X, o) → ∀ i j, i < n → j < n + 1 → lim (X i j) + 1 ≤ 2 ^ n * (L + 1) := fun X o hs =>
    sweepGo_lim (k := 0) (D := L + 1) (by omega) (fun i j hi hj => by have := augF_lim (n := n) (M := M) (c := fun _ => 0) (L := L) hlim (fun i => by rw [lim_zero]; omega) i j; omega) hs
  have h2 : 1 ≤ 2 ^ n * (L + 1) := Nat.mul_pos (Nat.pow_pos (by decide)) (by omega)
  unfold detS
  generalize sweep n (augF n M fun _ => 0) = o at hX ⊢
  rcases o with _ | ⟨X, odd⟩
  · dsimp only; rw [lim_zero]; omega
  · have hX := hX X odd rfl
    dsimp only
    split
    · have : lim 1 ≤ 1 := lim_of (by decide)
      omega
    · have := hX (n - 1) (n - 1) (by omega) (by omega)
      unfold sgnO
      split
      · rw [lim_neg]; omega
      · omega
theorem det_sm {n L : Nat} {M : Mx} (hn : n ≤ 12) (hL : L ≤ 100) (hlim : ∀ i j, lim (M i j) ≤ L) : lim (det n M) ≤ 413696 := by
  have h2 : 2 ^ n ≤ 2 ^ 12 := Nat.pow_le_pow_right (by decide) hn
  have h3 : 2 ^ n * (L + 1) ≤ 4096 * 101 := Nat.mul_le_mul h2 (by omega)
  have := det_pw (n := n) hlim
  omega
theorem setC_lim {M : Mx} {c : Nat → Int} {L : Nat} (h : ∀ i j, lim (M i j) ≤ L) (hc : ∀ i, lim (c i) ≤ L) (k i j : Nat) : lim (setC M k c i j) ≤ L := by
  unfold setC; split; exact hc i; exact h i j
end Go.Gim
/- A matrix times its turned one, and one on the diagonal, is definite. -/
set_option maxRecDepth 100000
set_option maxHeartbeats 4000000
set_option linter.unusedSimpArgs false
set_option linter.unusedVariables false
namespace Go.Gim
open Go.Proofs
theorem rowOk_iv (l : List Int) : rowOk 2 (l.map IV) = true := by simp [rowOk, V.isJunk, V.cells, V.cellOk, IV]
end Go.Gim
