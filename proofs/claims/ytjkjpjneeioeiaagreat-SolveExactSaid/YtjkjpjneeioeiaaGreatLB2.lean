import Derived.Test.YtjkjpjneeioeiaaGreatRL0
import Derived.Test.YtjkjpjneeioeiaaGreatLI4
import Derived.Test.YtjkjpjneeioeiaaGreatB2
import Derived.Test.YtjkjpjneeioeiaaGreatGN
import Derived.Test.YtjkjpjneeioeiaaGreatLS4
import Derived.Test.YtjkjpjneeioeiaaGreatDT5
set_option linter.unusedSimpArgs false
set_option linter.unusedVariables false
/- What the laws on matrices use: texts, rows, lists. -/
set_option maxRecDepth 100000
set_option maxHeartbeats 4000000
namespace Go.Gim
open Go.Proofs
theorem getD_in {l : List Int} (h : ∀ v ∈ l, In64 v) (n : Nat) : In64 (l.getD n 0) := by
 by_cases hn : n < l.length
 ·exact h _ (zai 0 hn)
 ·rw [List.getD_eq_getElem?_getD, List.getElem?_eq_none (Nat.le_of_not_lt hn)]; decide
theorem Row.lt {lo nx es b k : Nat} {H : Hp} {v : V} {xs : List V} (h : Row lo H nx v es xs) (hv : v = .own b k) : b < nx := by
 rcases h with ⟨h, _⟩ | ⟨d, h1, h2, h3, h4⟩
 ·rw [h] at hv; cases hv
 ·rw [h1] at hv; cases hv; exact h3
end Go.Gim
/- Products do not hang on brackets. -/
set_option maxRecDepth 100000
set_option maxHeartbeats 4000000
namespace Go.Gim
open Go.Proofs
theorem rng_lim {n L : Nat} {f : Nat → Int} (h : ∀ i, lim (f i) ≤ L) (i : Nat) : lim (((List.range n).map f).getD i 0) ≤ L := by
 rw [range_getD']
 split
 ·exact h i
 ·rw [za0]; omega
end Go.Gim
/- What solves equations solves them. -/
set_option maxRecDepth 100000
set_option maxHeartbeats 4000000
namespace Go.Gim
open Go.Proofs
theorem solve_back {n : Nat} (M : Mx) (c : Nat → Int) {i : Nat} (hi : i < n) : appS n M (fun k => det n (setC M k c)) i = det n M * c i := by
 have h := adj_solve (augF n M c) hi n
 have e : det n (augF n M c) = det n M := zan fun i j _ hj => by unfold augF; rw [if_pos hj]
 rw [e] at h
 have e2 : augF n M c i n = c i := by unfold augF; rw [if_neg (Nat.lt_irrefl _)]
 rw [e2] at h
 rw [← h]
 refine zac fun k hk => ?_
 rw [wK_setC _ hk]
 have e3 : augF n M c i k = M i k := by unfold augF; rw [if_pos hk]
 rw [e3]
 congr 1
 refine zan fun a b ha hb => ?_
 unfold setC
 split
 ·dsimp only; unfold augF; rw [if_neg (Nat.lt_irrefl _)]
 ·unfold augF; rw [if_pos hb]
theorem det_pw {n L : Nat} {M : Mx} (hlim : ∀ i j, lim (M i j) ≤ L) : lim (det n M) ≤ 2 ^ n * (L + 1) := by
 rw [← detS_eq]
 have hX : ∀ X o, sweep n (augF n M fun _ => 0) = some (X, o) → ∀ i j, i < n → j < n + 1 → lim (X i j) + 1 ≤ 2 ^ n * (L + 1) := fun X o hs =>
  sweepGo_lim (k := 0) (D := L + 1) (by omega) (fun i j hi hj => by have := augF_lim (n := n) (M := M) (c := fun _ => 0) (L := L) hlim (fun i => by rw [za0]; omega) i j; omega) hs
 have h2 : 1 ≤ 2 ^ n * (L + 1) := Nat.mul_pos (Nat.pow_pos (by decide)) (by omega)
 unfold detS
 generalize sweep n (augF n M fun _ => 0) = o at hX ⊢
 rcases o with _ | ⟨X, odd⟩
 ·dsimp only; rw [za0]; omega
 ·have hX := hX X odd rfl
  dsimp only
  split
  ·have : lim 1 ≤ 1 := lim_of (by decide)
   omega
  ·have := hX (n - 1) (n - 1) (by omega) (by omega)
   unfold sgnO
   split
   ·rw [lim_neg]; omega
   ·omega
theorem det_sm {n L : Nat} {M : Mx} (hn : n ≤ 12) (hL : L ≤ 100) (hlim : ∀ i j, lim (M i j) ≤ L) : lim (det n M) ≤ 413696 := by
 have h2 : 2 ^ n ≤ 2 ^ 12 := Nat.pow_le_pow_right (by decide) hn
 have h3 : 2 ^ n * (L + 1) ≤ 4096 * 101 := Nat.mul_le_mul h2 (by omega)
 have := det_pw (n := n) hlim
 omega
theorem setC_lim {M : Mx} {c : Nat → Int} {L : Nat} (h : ∀ i j, lim (M i j) ≤ L) (hc : ∀ i, lim (c i) ≤ L) (k i j : Nat) : lim (setC M k c i j) ≤ L := by
 unfold setC; split; exact hc i; exact h i j
end Go.Gim
/- A matrix times its turned one, and one on the diagonal, is definite. -/
set_option maxRecDepth 100000
set_option maxHeartbeats 4000000
namespace Go.Gim
open Go.Proofs
theorem effB_copy {id es bytes c : Nat} {H H0 : Hp} {ys : List V} {K : V → Hp → Prop} {u : Dep K} (hH : H = H0.upd c (some ⟨[], es⟩)) (he : rowOk es ys = true) (h0 : 0 < es) (hb : ys.length * bytes ≤ 140737488355328) (hb2 : ys.length ≤ 140737488355328)
  (hk : K (.own id ys.length) ((H.upd c none).upd id (some ⟨ys, es⟩))) : effB (effV H id (.app es bytes) [.own c 0, .sl ys]) K u := by
 subst hH
 refine effB_of (app_own (blk := ⟨[], es⟩) (news := ys) rfl he h0 (Hp.upd_same _ _ _) rfl rfl (by simpa using hb) (by simpa using hb2) rfl) ?_
 simpa using hk
theorem rowOk_iv (l : List Int) : rowOk 2 (l.map IV) = true := by simp [rowOk, V.isJunk, V.cells, V.cellOk, IV]
end Go.Gim
