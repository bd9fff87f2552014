import Derived.Test.YtjkjpjneeioeiaaGreatLB2
import Derived.Test.YtjkjpjneeioeiaaGreatQW2
set_option linter.unusedSimpArgs false
set_option linter.unusedVariables false
/- Determinants are multiplied with matrices. -/
set_option maxRecDepth 100000
set_option maxHeartbeats 4000000
namespace Go.Gim
open Go.Proofs
def fzM (bm n w : Nat) (r : Nat → Nat) (M : Mx) : Nat → Option (List V) := fun b => if b = bm then some ((List.range n).map fun i => ivl (rowF w (M i))) else ((List.range n).find? fun i => decide (r i = b)).map fun i => (rowF w (M i)).map IV
theorem LayM.fzr {G : Hp} {lo nx n w bm : Nat} {r : Nat → Nat} {M : Mx} (h : LayM G lo nx n w bm r M) {i : Nat} (hi : i < n) : fzM bm n w r M (r i) = some ((rowF w (M i)).map IV) := by
 unfold fzM
 rw [if_neg (h.ne i hi)]
 have : (List.range n).find? (fun k => decide (r k = r i)) = some i := by
  cases e : (List.range n).find? fun k => decide (r k = r i) with
  | none =>
   have := List.find?_eq_none.1 e i (List.mem_range.2 hi)
   simp at this
  | some k =>
   have h1 := List.find?_some e
   have h2 := List.mem_of_find?_eq_some e
   rw [h.inj k i (List.mem_range.1 h2) hi (of_decide_eq_true h1)]
 rw [this]; rfl
theorem LayM.fz {G : Hp} {lo nx n w bm : Nat} {r : Nat → Nat} {M : Mx} (h : LayM G lo nx n w bm r M) : Fz G (fzM bm n w r M) := fun b ys hb => by
 by_cases e : b = bm
 ·subst e
  have : fzM b n w r M b = some ((List.range n).map fun i => ivl (rowF w (M i))) := by unfold fzM; rw [if_pos rfl]
  rw [this] at hb
  cases hb
  refine ⟨_, h.hm, ?_, fun x hx => ?_⟩
  ·rw [List.map_map]
   refine List.map_congr_left fun i hi => ?_
   show ivl (rowF w (M i)) = V.sub _ (.own (r i) w)
   simp only [V.sub, h.fzr (List.mem_range.1 hi), List.length_map, zal, if_true]
   rfl
  ·obtain ⟨i, _, rfl⟩ := List.mem_map.1 hx
   exact (ivl_pure _).cells
 ·unfold fzM at hb
  rw [if_neg e] at hb
  cases e2 : (List.range n).find? fun k => decide (r k = b) with
  | none => rw [e2] at hb; cases hb
  | some k =>
   rw [e2] at hb
   have h1 : r k = b := by have := List.find?_some (p := fun k => decide (r k = b)) e2; simpa using this
   have h2 := List.mem_range.1 (List.mem_of_find?_eq_some e2)
   cases hb
   refine ⟨_, h1 ▸ h.hr k h2, ?_, fun x hx => ?_⟩
   ·exact (ze5 (za3 fun x => by simp) _).symm
   ·obtain ⟨x', _, rfl⟩ := List.mem_map.1 hx
    exact (show (IV x').Pure by simp).cells
structure LayR (G : Hp) (lo nx i w : Nat) (r : Nat → Nat) (M : Mx) : Prop where
 hr : ∀ k, k < i → G (r k) = some ⟨(rowF w (M k)).map IV, 2⟩
 inj : ∀ k j, k < i → j < i → r k = r j → k = j
 lt : ∀ k, k < i → lo ≤ r k ∧ r k < nx
theorem LayR.mono {G G' : Hp} {lo nx nx' i w : Nat} {r : Nat → Nat} {M : Mx} (h : LayR G lo nx i w r M) (hG : ∀ c es xs, lo ≤ c → c < nx → G c = some ⟨xs, es⟩ → es = 2 → G' c = G c) (hn : nx ≤ nx') : LayR G' lo nx' i w r M :=
 ⟨fun k hk => by rw [hG _ _ _ (h.lt k hk).1 (h.lt k hk).2 (h.hr k hk) rfl]; exact h.hr k hk, h.inj, fun k hk => ⟨(h.lt k hk).1, Nat.lt_of_lt_of_le (h.lt k hk).2 hn⟩⟩
theorem Row.ne_size {lo nx es es' b : Nat} {H : Hp} {v : V} {xs ys : List V} (h : Row lo H nx v es xs) (hb : H b = some ⟨ys, es'⟩) (hne : es ≠ es') (n : Nat) : v ≠ .own b n := fun e => by
 rcases h with ⟨h, _⟩ | ⟨d, h1, _, _, h4⟩
 ·rw [h] at e; cases e
 ·rw [h1] at e; cases e; rw [hb] at h4; cases h4; exact hne rfl
end Go.Gim
/- Determinants, equations and products are as the document says. -/
set_option maxRecDepth 100000
set_option maxHeartbeats 4000000
namespace Go.Gim
open Go.Proofs
theorem strV_neq (s : ByteArray) : strV .neq s s = some (.bool false) := by simp [strV]
end Go.Gim
