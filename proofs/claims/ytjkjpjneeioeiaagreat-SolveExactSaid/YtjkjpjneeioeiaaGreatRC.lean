import Derived.Test.YtjkjpjneeioeiaaGreatF19
import Derived.Test.YtjkjpjneeioeiaaGreatSM0
/- What a row hands over: numbers, rows of numbers, factor rows, as data. -/
set_option maxRecDepth 100000
set_option linter.unusedSimpArgs false
set_option linter.unusedVariables false
namespace Go.Gim
open Go.Proofs Go.RowKit Go.WideShapes
theorem int64_of {u : V} (h : OkC (.int .i64) u) : ∃ n : Int, In64 n ∧ u = .int .i64 n := by
 cases h with
 | int k n hw => exact ⟨n, wf64 hw, rfl⟩
theorem ints_of {a : V} (h : OkC (.sl [.int .i64] false) a) : ∃ v : List Int, a = ints v ∧ v.length ≤ 9223372036854775807 ∧ ∀ x ∈ v, In64 x := by
 cases h with
 | sl e ag xs hl hs hc =>
  have hx : ∀ x ∈ xs, ∃ n : Int, In64 n ∧ x = .int .i64 n := fun x hx => by
   obtain ⟨h1, h2⟩ := hs x hx
   have h3 := hc x hx 0 (by simp)
   rw [cells_notAgg h2] at h3
   exact int64_of h3
  clear hs hc
  have key : ∀ l : List V, (∀ x ∈ l, ∃ n : Int, In64 n ∧ x = .int .i64 n) → ∃ v : List Int, l = v.map (V.int .i64) ∧ ∀ x ∈ v, In64 x := by
   intro l
   induction l with
   | nil => exact fun _ => ⟨[], rfl, by simp⟩
   | cons a l ih =>
    intro h
    obtain ⟨v, rfl, hv⟩ := ih fun x hx => h x (List.mem_cons_of_mem _ hx)
    obtain ⟨n, hn, rfl⟩ := h a List.mem_cons_self
    refine ⟨n :: v, rfl, fun x hx => ?_⟩
    rcases List.mem_cons.1 hx with rfl | hx
    ·exact hn
    ·exact hv x hx
  obtain ⟨v, rfl, hv⟩ := key xs hx
  exact ⟨v, rfl, by simpa [maxLen] using hl, hv⟩
theorem row4_of {x : V} (h1 : x.cells.length = 4) (h2 : x.isAgg = true) (h : ∀ i, i < 4 → OkC ([CT.sl [.int .i64] false, .int .i64, .int .i64, .int .i64].getD i .bool) (x.cells.getD i .junk)) : ∃ r : Row4, x = RV r ∧ r.co.length ≤ 9223372036854775807 := by
 cases x with
 | agg vs =>
  have hl : vs.length = 4 := h1
  replace h : ∀ i, i < 4 → OkC ([CT.sl [.int .i64] false, .int .i64, .int .i64, .int .i64].getD i .bool) (vs.getD i .junk) := h
  match vs, hl with
  | [x0, x1, x2, x3], _ =>
   have g0 := h 0 (by omega)
   have g1 := h 1 (by omega)
   have g2 := h 2 (by omega)
   have g3 := h 3 (by omega)
   simp only [List.getD_cons_zero, List.getD_cons_succ] at g0 g1 g2 g3
   obtain ⟨v, rfl, hv, _⟩ := ints_of g0
   obtain ⟨a, _, rfl⟩ := int64_of g1
   obtain ⟨b, _, rfl⟩ := int64_of g2
   obtain ⟨c, _, rfl⟩ := int64_of g3
   exact ⟨⟨v, a, b, c⟩, rfl, hv⟩
 | _ => cases h2
theorem rows_of {a : V} (h : OkC (.sl [.sl [.int .i64] false, .int .i64, .int .i64, .int .i64] true) a) : ∃ l : List Row4, a = .sl (l.map RV) ∧ l.length ≤ 9223372036854775807 ∧ ∀ r ∈ l, r.co.length ≤ 9223372036854775807 := by
 cases h with
 | sl e ag xs hl hs hc =>
  have hx : ∀ x ∈ xs, ∃ r : Row4, x = RV r ∧ r.co.length ≤ 9223372036854775807 := fun x hx => row4_of (hs x hx).1 (hs x hx).2 (hc x hx)
  clear hs hc
  have key : ∀ l : List V, (∀ x ∈ l, ∃ r : Row4, x = RV r ∧ r.co.length ≤ 9223372036854775807) → ∃ m : List Row4, l = m.map RV ∧ ∀ r ∈ m, r.co.length ≤ 9223372036854775807 := by
   intro l
   induction l with
   | nil => exact fun _ => ⟨[], rfl, by simp⟩
   | cons a l ih =>
    intro h
    obtain ⟨v, rfl, hv⟩ := ih fun x hx => h x (List.mem_cons_of_mem _ hx)
    obtain ⟨n, rfl, hn⟩ := h a List.mem_cons_self
    refine ⟨n :: v, rfl, fun x hx => ?_⟩
    rcases List.mem_cons.1 hx with rfl | hx
    ·exact hn
    ·exact hv x hx
  obtain ⟨v, rfl, hv⟩ := key xs hx
  exact ⟨v, rfl, by simpa [maxLen] using hl, hv⟩
end Go.Gim
