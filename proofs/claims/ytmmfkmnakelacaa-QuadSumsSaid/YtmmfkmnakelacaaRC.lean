import Derived.Test.YtmmfkmnakelacaaF18
import Derived.Test.YtmmfkmnakelacaaFA1
/- What a row hands over: numbers, rows of numbers, factor rows, as data. -/
set_option maxRecDepth 100000
set_option linter.unusedSimpArgs false
set_option linter.unusedVariables false
namespace Go.Gim
open Go.Proofs Go.RowKit Go.WideShapes
theorem int64_of {u : V} (h : OkC (.int .i64) u) : ∃ n : Int, In64 n ∧ u = .int .i64 n := by
  cases h with
  | int k n hw => exact ⟨n, wf64 hw, rfl⟩
theorem ints_of {a : V} (h : OkC (.sl [.int .i64] false) a) : ∃ v : List Int, a = ints v ∧ v.length ≤ 9223372036854775807 ∧ ∀ x ∈ v, In64 x := by
  cases h with
  | sl e ag xs hl hs hc =>
    have hx : ∀ x ∈ xs, ∃ n : Int, In64 n ∧ x = .int .i64 n := fun x hx => by
      obtain ⟨h1, h2⟩ := hs x hx
      have h3 := hc x hx 0 (by simp)
      rw [cells_notAgg h2] at h3
      exact int64_of h3
    clear hs hc
    have key : ∀ l : List V, (∀ x ∈ l, ∃ n : Int, In64 n ∧ x = .int .i64 n) → ∃ v : List Int, l = v.map (V.int .i64) ∧ ∀ x ∈ v, In64 x := by
      intro l
      induction l with
      | nil => exact fun _ => ⟨[], rfl, by simp⟩
      | cons a l ih =>
        intro h
        obtain ⟨v, rfl, hv⟩ := ih fun x hx => h x (List.mem_cons_of_mem _ hx)
        obtain ⟨n, hn, rfl⟩ := h a List.mem_cons_self
        refine ⟨n :: v, rfl, fun x hx => ?_⟩
        rcases List.mem_cons.1 hx with rfl | hx
        · exact hn
        · exact hv x hx
    obtain ⟨v, rfl, hv⟩ := key xs hx
    exact ⟨v, rfl, by simpa [maxLen] using hl, hv⟩
theorem mat_of {a : V} (h : OkC (.sl [.sl [.int .i64] false] false) a) : ∃ m : List (List Int), a = .sl (m.map ints) ∧ m.length ≤ 9223372036854775807 ∧ ∀ r ∈ m, r.length ≤ 9223372036854775807 ∧ ∀ v ∈ r, In64 v := by
  cases h with
  | sl e ag xs hl hs hc =>
    have hx : ∀ x ∈ xs, ∃ v : List Int, x = ints v ∧ v.length ≤ 9223372036854775807 ∧ ∀ x ∈ v, In64 x := fun x hx => by
      obtain ⟨h1, h2⟩ := hs x hx
      have h3 := hc x hx 0 (by simp)
      rw [cells_notAgg h2] at h3
      exact ints_of h3
    clear hs hc
    have key : ∀ l : List V, (∀ x ∈ l, ∃ v : List Int, x = ints v ∧ v.length ≤ 9223372036854775807 ∧ ∀ x ∈ v, In64 x) → ∃ m : List (List Int), l = m.map ints ∧ ∀ r ∈ m, r.length ≤ 9223372036854775807 ∧ ∀ v ∈ r, In64 v := by
      intro l
      induction l with
      | nil => exact fun _ => ⟨[], rfl, by simp⟩
      | cons a l ih =>
        intro h
        obtain ⟨v, rfl, hv⟩ := ih fun x hx => h x (List.mem_cons_of_mem _ hx)
        obtain ⟨n, rfl, hn⟩ := h a List.mem_cons_self
        refine ⟨n :: v, rfl, fun x hx => ?_⟩
        rcases List.mem_cons.1 hx with rfl | hx
        · exact hn
        · exact hv x hx
    obtain ⟨v, rfl, hv⟩ := key xs hx
    exact ⟨v, rfl, by simpa [maxLen] using hl, hv⟩
end Go.Gim
