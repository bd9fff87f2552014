import Derived.Test.YtjmbcnfhonfpkaaGreatDoorSM0
import Derived.Test.YtjmbcnfhonfpkaaGreatDoorLR5
import Derived.Test.YtjmbcnfhonfpkaaGreatDoorGN
import Derived.Test.YtjmbcnfhonfpkaaGreatDoorLI4
import Derived.Test.YtjmbcnfhonfpkaaGreatDoorB2
import Derived.Test.YtjmbcnfhonfpkaaGreatDoorLS4
import Derived.Test.YtjmbcnfhonfpkaaGreatDoorDT5
set_option linter.unusedSimpArgs false
set_option linter.unusedVariables false
/- What the laws on matrices use: texts, rows, lists. -/
set_option maxRecDepth 100000
set_option maxHeartbeats 4000000
namespace Go.Gim
open Go.Proofs
theorem getD_in {l : List Int} (h : ∀ v ∈ l, In64 v) (n : Nat) : In64 (l.getD n 0) := by
 by_cases hn : n < l.length
 ·exact h _ (zaz 0 hn)
 ·rw [List.getD_eq_getElem?_getD, List.getElem?_eq_none (Nat.le_of_not_lt hn)]; decide
theorem Row.lt {lo nx es b k : Nat} {H : Hp} {v : V} {xs : List V} (h : Row lo H nx v es xs) (hv : v = .own b k) : b < nx := by
 rcases h with ⟨h, _⟩ | ⟨d, h1, h2, h3, h4⟩
 ·rw [h] at hv; cases hv
 ·rw [h1] at hv; cases hv; exact h3
end Go.Gim
/- What solves equations solves them. -/
set_option maxRecDepth 100000
set_option maxHeartbeats 4000000
namespace Go.Gim
open Go.Proofs
theorem det_pw {n L : Nat} {M : Mx} (hlim : ∀ i j, lim (M i j) ≤ L) : lim (det n M) ≤ 2 ^ n * (L + 1) := by
 rw [← detS_eq]
 have hX : ∀ X o, sweep n (augF n M fun _ => 0) = some (X, o) → ∀ i j, i < n → j < n + 1 → lim (X i j) + 1 ≤ 2 ^ n * (L + 1) := fun X o hs =>
  sweepGo_lim (k := 0) (D := L + 1) (by omega) (fun i j hi hj => by have := augF_lim (n := n) (M := M) (c := fun _ => 0) (L := L) hlim (fun i => by rw [zbk]; omega) i j; omega) hs
 have h2 : 1 ≤ 2 ^ n * (L + 1) := Nat.mul_pos (Nat.pow_pos (by decide)) (by omega)
 unfold detS
 generalize sweep n (augF n M fun _ => 0) = o at hX ⊢
 rcases o with _ | ⟨X, odd⟩
 ·dsimp only; rw [zbk]; omega
 ·have hX := hX X odd rfl
  dsimp only
  split
  ·have : lim 1 ≤ 1 := lim_of (by decide)
   omega
  ·have := hX (n - 1) (n - 1) (by omega) (by omega)
   unfold sgnO
   split
   ·rw [lim_neg]; omega
   ·omega
end Go.Gim
/- A matrix times its turned one, and one on the diagonal, is definite. -/
set_option maxRecDepth 100000
set_option maxHeartbeats 4000000
namespace Go.Gim
open Go.Proofs
theorem effB_copy {id es bytes c : Nat} {H H0 : Hp} {ys : List V} {K : V → Hp → Prop} {u : Dep K} (hH : H = H0.upd c (some ⟨[], es⟩)) (he : rowOk es ys = true) (h0 : 0 < es) (hb : ys.length * bytes ≤ 140737488355328) (hb2 : ys.length ≤ 140737488355328)
  (hk : K (.own id ys.length) ((H.upd c none).upd id (some ⟨ys, es⟩))) : effB (effV H id (.app es bytes) [.own c 0, .sl ys]) K u := by
 subst hH
 refine effB_of (app_own (blk := ⟨[], es⟩) (news := ys) rfl he h0 (Hp.upd_same _ _ _) rfl rfl (by simpa using hb) (by simpa using hb2) rfl) ?_
 simpa using hk
theorem rowOk_iv (l : List Int) : rowOk 2 (l.map IV) = true := by simp [rowOk, V.isJunk, V.cells, V.cellOk, IV]
end Go.Gim
