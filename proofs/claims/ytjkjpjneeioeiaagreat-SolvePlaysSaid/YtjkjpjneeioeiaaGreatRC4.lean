import Derived.Test.YtjkjpjneeioeiaaGreatF19
import Derived.Test.YtjkjpjneeioeiaaGreatSM0
import Derived.Test.YtjkjpjneeioeiaaGreatCK1
set_option linter.unusedSimpArgs false
set_option linter.unusedVariables false
/- What a row hands over: numbers, rows of numbers, factor rows, as data. -/
set_option maxRecDepth 100000
namespace Go.Gim
open Go.Proofs Go.RowKit Go.WideShapes
theorem int64_of {u : V} (h : OkC (.int .i64) u) : ∃ n : Int, In64 n ∧ u = .int .i64 n := by
 cases h with
 | int k n hw => exact ⟨n, wf64 hw, rfl⟩
theorem ints_of {a : V} (h : OkC (.sl [.int .i64] false) a) : ∃ v : List Int, a = ints v ∧ v.length ≤ 9223372036854775807 ∧ ∀ x ∈ v, In64 x := by
 cases h with
 | sl e ag xs hl hs hc =>
  have hx : ∀ x ∈ xs, ∃ n : Int, In64 n ∧ x = .int .i64 n := fun x hx => by
   obtain ⟨h1, h2⟩ := hs x hx
   have h3 := hc x hx 0 (by simp)
   rw [ziv h2] at h3
   exact int64_of h3
  clear hs hc
  have key : ∀ l : List V, (∀ x ∈ l, ∃ n : Int, In64 n ∧ x = .int .i64 n) → ∃ v : List Int, l = v.map (V.int .i64) ∧ ∀ x ∈ v, In64 x := by
   intro l
   induction l with
   | nil => exact fun _ => ⟨[], rfl, by simp⟩
   | cons a l ih =>
    intro h
    obtain ⟨v, rfl, hv⟩ := ih fun x hx => h x (List.mem_cons_of_mem _ hx)
    obtain ⟨n, hn, rfl⟩ := h a List.mem_cons_self
    refine ⟨n :: v, rfl, fun x hx => ?_⟩
    rcases List.mem_cons.1 hx with rfl | hx
    ·exact hn
    ·exact hv x hx
  obtain ⟨v, rfl, hv⟩ := key xs hx
  exact ⟨v, rfl, by simpa [maxLen] using hl, hv⟩
theorem mat_of {a : V} (h : OkC (.sl [.sl [.int .i64] false] false) a) : ∃ m : List (List Int), a = .sl (m.map ints) ∧ m.length ≤ 9223372036854775807 ∧ ∀ r ∈ m, r.length ≤ 9223372036854775807 ∧ ∀ v ∈ r, In64 v := by
 cases h with
 | sl e ag xs hl hs hc =>
  have hx : ∀ x ∈ xs, ∃ v : List Int, x = ints v ∧ v.length ≤ 9223372036854775807 ∧ ∀ x ∈ v, In64 x := fun x hx => by
   obtain ⟨h1, h2⟩ := hs x hx
   have h3 := hc x hx 0 (by simp)
   rw [ziv h2] at h3
   exact ints_of h3
  clear hs hc
  have key : ∀ l : List V, (∀ x ∈ l, ∃ v : List Int, x = ints v ∧ v.length ≤ 9223372036854775807 ∧ ∀ x ∈ v, In64 x) → ∃ m : List (List Int), l = m.map ints ∧ ∀ r ∈ m, r.length ≤ 9223372036854775807 ∧ ∀ v ∈ r, In64 v := by
   intro l
   induction l with
   | nil => exact fun _ => ⟨[], rfl, by simp⟩
   | cons a l ih =>
    intro h
    obtain ⟨v, rfl, hv⟩ := ih fun x hx => h x (List.mem_cons_of_mem _ hx)
    obtain ⟨n, rfl, hn⟩ := h a List.mem_cons_self
    refine ⟨n :: v, rfl, fun x hx => ?_⟩
    rcases List.mem_cons.1 hx with rfl | hx
    ·exact hn
    ·exact hv x hx
  obtain ⟨v, rfl, hv⟩ := key xs hx
  exact ⟨v, rfl, by simpa [maxLen] using hl, hv⟩
theorem row4_of {x : V} (h1 : x.cells.length = 4) (h2 : x.isAgg = true) (h : ∀ i, i < 4 → OkC ([CT.sl [.int .i64] false, .int .i64, .int .i64, .int .i64].getD i .bool) (x.cells.getD i .junk)) : ∃ r : Row4, x = RV r ∧ r.co.length ≤ 9223372036854775807 := by
 cases x with
 | agg vs =>
  have hl : vs.length = 4 := h1
  replace h : ∀ i, i < 4 → OkC ([CT.sl [.int .i64] false, .int .i64, .int .i64, .int .i64].getD i .bool) (vs.getD i .junk) := h
  match vs, hl with
  | [x0, x1, x2, x3], _ =>
   have g0 := h 0 (by omega)
   have g1 := h 1 (by omega)
   have g2 := h 2 (by omega)
   have g3 := h 3 (by omega)
   simp only [List.getD_cons_zero, List.getD_cons_succ] at g0 g1 g2 g3
   obtain ⟨v, rfl, hv, _⟩ := ints_of g0
   obtain ⟨a, _, rfl⟩ := int64_of g1
   obtain ⟨b, _, rfl⟩ := int64_of g2
   obtain ⟨c, _, rfl⟩ := int64_of g3
   exact ⟨⟨v, a, b, c⟩, rfl, hv⟩
 | _ => cases h2
theorem rows_of {a : V} (h : OkC (.sl [.sl [.int .i64] false, .int .i64, .int .i64, .int .i64] true) a) : ∃ l : List Row4, a = .sl (l.map RV) ∧ l.length ≤ 9223372036854775807 ∧ ∀ r ∈ l, r.co.length ≤ 9223372036854775807 := by
 cases h with
 | sl e ag xs hl hs hc =>
  have hx : ∀ x ∈ xs, ∃ r : Row4, x = RV r ∧ r.co.length ≤ 9223372036854775807 := fun x hx => row4_of (hs x hx).1 (hs x hx).2 (hc x hx)
  clear hs hc
  have key : ∀ l : List V, (∀ x ∈ l, ∃ r : Row4, x = RV r ∧ r.co.length ≤ 9223372036854775807) → ∃ m : List Row4, l = m.map RV ∧ ∀ r ∈ m, r.co.length ≤ 9223372036854775807 := by
   intro l
   induction l with
   | nil => exact fun _ => ⟨[], rfl, by simp⟩
   | cons a l ih =>
    intro h
    obtain ⟨v, rfl, hv⟩ := ih fun x hx => h x (List.mem_cons_of_mem _ hx)
    obtain ⟨n, rfl, hn⟩ := h a List.mem_cons_self
    refine ⟨n :: v, rfl, fun x hx => ?_⟩
    rcases List.mem_cons.1 hx with rfl | hx
    ·exact hn
    ·exact hv x hx
  obtain ⟨v, rfl, hv⟩ := key xs hx
  exact ⟨v, rfl, by simpa [maxLen] using hl, hv⟩
end Go.Gim
/- A config as an argument, as data. -/
set_option maxRecDepth 100000
namespace Go.Gim
open Go.Proofs Go.RowKit Go.WideShapes
abbrev cfgT : List CT := [.int .i64, .int .i64, .int .i64, .int .i64, .int .i64, .int .i64, .int .i64, .int .i64, .int .i64, .int .i64, .int .i64, .int .i64, .int .i64, .int .i64, .int .i64, .int .i64, .int .i64]
theorem cfg_of {vs : List V} (h : vs.length = cfgT.length ∧ ∀ i, i < cfgT.length → OkC (cfgT.getD i .bool) (vs.getD i .junk)) : ∃ c : Cfg, V.agg vs = CV c := by
 obtain ⟨h1, h2⟩ := h
 have hl : vs.length = 17 := h1
 match vs, hl with
 | [x0, x1, x2, x3, x4, x5, x6, x7, x8, x9, x10, x11, x12, x13, x14, x15, x16], _ =>
  obtain ⟨a0, _, rfl⟩ := int64_of (h2 0 (by decide))
  obtain ⟨a1, _, rfl⟩ := int64_of (h2 1 (by decide))
  obtain ⟨a2, _, rfl⟩ := int64_of (h2 2 (by decide))
  obtain ⟨a3, _, rfl⟩ := int64_of (h2 3 (by decide))
  obtain ⟨a4, _, rfl⟩ := int64_of (h2 4 (by decide))
  obtain ⟨a5, _, rfl⟩ := int64_of (h2 5 (by decide))
  obtain ⟨a6, _, rfl⟩ := int64_of (h2 6 (by decide))
  obtain ⟨a7, _, rfl⟩ := int64_of (h2 7 (by decide))
  obtain ⟨a8, _, rfl⟩ := int64_of (h2 8 (by decide))
  obtain ⟨a9, _, rfl⟩ := int64_of (h2 9 (by decide))
  obtain ⟨a10, _, rfl⟩ := int64_of (h2 10 (by decide))
  obtain ⟨a11, _, rfl⟩ := int64_of (h2 11 (by decide))
  obtain ⟨a12, _, rfl⟩ := int64_of (h2 12 (by decide))
  obtain ⟨a13, _, rfl⟩ := int64_of (h2 13 (by decide))
  obtain ⟨a14, _, rfl⟩ := int64_of (h2 14 (by decide))
  obtain ⟨a15, _, rfl⟩ := int64_of (h2 15 (by decide))
  obtain ⟨a16, _, rfl⟩ := int64_of (h2 16 (by decide))
  exact ⟨⟨a0, a1, a2, a3, a4, a5, a6, a7, a8, a9, a10, a11, a12, a13, a14, a15, a16⟩, rfl⟩
end Go.Gim
