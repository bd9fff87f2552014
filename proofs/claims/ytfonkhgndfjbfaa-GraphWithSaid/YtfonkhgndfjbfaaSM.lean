import Derived.Test.YtfonkhgndfjbfaaGA7
import Derived.Test.YtfonkhgndfjbfaaRA2
/- Mirrored rows, and graphs that are read: what they are. -/
set_option maxRecDepth 100000
set_option maxHeartbeats 4000000
set_option linter.unusedSimpArgs false
set_option linter.unusedVariables false
namespace Go.Gim
open Go.Proofs
def mirF (rows : List (List Int)) (i k a c : Nat) : Int := if max a c < i ∨ (max a c = i ∧ min a c < k) then at2 rows (max a c) (min a c) else 0
def mirM (rows : List (List Int)) (n : Nat) : List (List Int) := mat n fun a c => at2 rows (max a c) (min a c)
theorem mirF_step {rows : List (List Int)} {i k a c : Nat} (h : ¬ (max a c = i ∧ min a c = k)) : mirF rows i k a c = mirF rows i (k + 1) a c := by
  unfold mirF
  by_cases h1 : max a c < i ∨ (max a c = i ∧ min a c < k)
  · rw [if_pos h1, if_pos (by omega)]
  · rw [if_neg h1, if_neg (by omega)]
theorem mirF_at {rows : List (List Int)} {i k a c : Nat} (h : max a c = i ∧ min a c = k) : mirF rows i (k + 1) a c = at2 rows i k := by
  unfold mirF
  rw [if_pos (by omega), h.1, h.2]
theorem at2_zero {rows : List (List Int)} {i k : Nat} (h : ∀ r, rows[i]? = some r → r.length ≤ k) : at2 rows i k = 0 := by
  unfold at2
  cases hr : rows[i]? with
  | none => simp [List.getD_eq_getElem?_getD, hr]
  | some r => simp [List.getD_eq_getElem?_getD, hr, List.getElem?_eq_none (h r hr)]
theorem mirF_row {rows : List (List Int)} {i k a c : Nat} (h : ∀ m, k ≤ m → m ≤ i → at2 rows i m = 0) : mirF rows i k a c = mirF rows (i + 1) 0 a c := by
  unfold mirF
  by_cases h1 : max a c < i ∨ (max a c = i ∧ min a c < k)
  · rw [if_pos h1, if_pos (by omega)]
  · rw [if_neg h1]
    by_cases h2 : max a c < i + 1 ∨ (max a c = i + 1 ∧ min a c < 0)
    · rw [if_pos h2]
      have e : max a c = i := by omega
      rw [e, h _ (by omega) (by omega)]
    · rw [if_neg h2]
theorem allOf_map {α : Type} {f : V → Option V} {a b : α → V} : ∀ {l : List α}, (∀ k ∈ l, f (a k) = some (b k)) → allOf f (l.map a) = some (l.map b)
  | [], _ => rfl
  | x :: l, h => by
    have ih := allOf_map (f := f) (a := a) (b := b) (l := l) fun k hk => h k (List.mem_cons_of_mem _ hk)
    have hx := h x List.mem_cons_self
    simp only [List.map_cons, allOf, hx, ih]
theorem mirM_sq (rows n) : Sq (mirM rows n) n := mat_sq _ _
theorem at2_in {rows : List (List Int)} (h : ∀ r ∈ rows, ∀ v ∈ r, In64 v) (i j : Nat) : In64 (at2 rows i j) := by
  unfold at2
  by_cases hi : i < rows.length
  · by_cases hj : j < (rows.getD i []).length
    · exact h _ (getD_mem' [] hi) _ (getD_mem' 0 hj)
    · rw [show (rows.getD i []).getD j 0 = 0 by rw [List.getD_eq_getElem?_getD, List.getElem?_eq_none (by omega)]; rfl]; omega
  · rw [show (rows.getD i []) = [] by rw [List.getD_eq_getElem?_getD, List.getElem?_eq_none (by omega)]; rfl]; simp [In64]
theorem mat_in {n : Nat} {f : Nat → Nat → Int} (h : ∀ i j, In64 (f i j)) : ∀ r ∈ mat n f, ∀ v ∈ r, In64 v := fun r hr v hv => by
  simp only [mat, List.mem_map] at hr
  obtain ⟨i, _, rfl⟩ := hr
  simp only [List.mem_map] at hv
  obtain ⟨j, _, rfl⟩ := hv
  exact h i j
theorem mirM_in {rows : List (List Int)} (h : ∀ r ∈ rows, ∀ v ∈ r, In64 v) (n : Nat) : ∀ r ∈ mirM rows n, ∀ v ∈ r, In64 v := mat_in fun i j => at2_in h _ _
theorem mirM_sym (rows n) : symB (mirM rows n) = true := by
  unfold symB
  refine decide_eq_true ?_
  rw [(mirM_sq rows n).1]
  unfold mirM
  refine mat_congr fun i j hi hj => ?_
  rw [mat_at hj hi, Nat.max_comm, Nat.min_comm]
theorem qofE_mir (rows : List (List Int)) {n : Nat} (hn : n ≤ 12) {q : List Int} (hq : q.length = n) : qofE (mirM rows n) q = 0 := by
  obtain ⟨h1, h2⟩ := mirM_sq rows n
  have hs : sqE (mirM rows n) = 0 := by
    unfold sqE
    rw [if_neg (by omega), if_neg (fun ⟨r, hr, hne⟩ => hne (by rw [h2 r hr, h1]))]
  unfold qofE
  rw [if_neg (by simpa using hs), if_neg (by rw [mirM_sym]; simp [h1, hq])]
def rdB (n : Int) (rows : List Row4) (den : Int) (x : List Int) : Bool := decide (gnewE n rows = 0) && decide (0 < den) && decide ((x.length : Int) = n) && stateB x
def newG (n : Int) (rows : List Row4) : Gr := if gnewE n rows = 0 then ⟨n.toNat, rows, mat n.toNat (fun _ _ => 0), List.replicate n.toNat 0, 0, 1⟩ else Gr0
def rdG (n : Int) (rows : List Row4) (prior : List (List Int)) (den : Int) (x : List Int) : Gr := if rdB n rows den x = true then ⟨n.toNat, rows, mirM prior n.toNat, List.replicate n.toNat 0, 0, den⟩ else newG n rows
theorem gnewE_ok {n : Int} {rows : List Row4} (h : gnewE n rows = 0) : (1 ≤ n ∧ n ≤ 11) ∧ rows.length ≤ 60 ∧ ∀ r ∈ rows, rightB r n = true := by
  unfold gnewE at h
  split at h
  · cases h
  · split at h
    · cases h
    · split at h
      · cases h
      · rename_i h1 h2 h3
        refine ⟨by omega, by omega, fun r hr => ?_⟩
        cases hb : rightB r n
        · exact absurd (List.any_eq_true.2 ⟨r, hr, by simp [hb]⟩) h3
        · rfl
end Go.Gim
