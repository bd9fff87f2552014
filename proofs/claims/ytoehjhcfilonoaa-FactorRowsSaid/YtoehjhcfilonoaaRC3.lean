import Derived.Test.YtoehjhcfilonoaaRC
import Derived.Test.YtoehjhcfilonoaaKM4
/- A config and keys as arguments, as data. -/
set_option maxRecDepth 100000
set_option linter.unusedSimpArgs false
set_option linter.unusedVariables false
namespace Go.Gim
open Go.Proofs Go.RowKit Go.WideShapes
abbrev cfgT : List CT := [.int .i64, .int .i64, .int .i64, .int .i64, .int .i64, .int .i64, .int .i64, .int .i64, .int .i64, .int .i64, .int .i64, .int .i64, .int .i64, .int .i64, .int .i64, .int .i64, .int .i64]
theorem cfg_of {vs : List V} (h : vs.length = cfgT.length ∧ ∀ i, i < cfgT.length → OkC (cfgT.getD i .bool) (vs.getD i .junk)) : ∃ c : Cfg, V.agg vs = CV c := by
  obtain ⟨h1, h2⟩ := h
  have hl : vs.length = 17 := h1
  match vs, hl with
  | [x0, x1, x2, x3, x4, x5, x6, x7, x8, x9, x10, x11, x12, x13, x14, x15, x16], _ =>
    obtain ⟨a0, _, rfl⟩ := int64_of (h2 0 (by decide))
    obtain ⟨a1, _, rfl⟩ := int64_of (h2 1 (by decide))
    obtain ⟨a2, _, rfl⟩ := int64_of (h2 2 (by decide))
    obtain ⟨a3, _, rfl⟩ := int64_of (h2 3 (by decide))
    obtain ⟨a4, _, rfl⟩ := int64_of (h2 4 (by decide))
    obtain ⟨a5, _, rfl⟩ := int64_of (h2 5 (by decide))
    obtain ⟨a6, _, rfl⟩ := int64_of (h2 6 (by decide))
    obtain ⟨a7, _, rfl⟩ := int64_of (h2 7 (by decide))
    obtain ⟨a8, _, rfl⟩ := int64_of (h2 8 (by decide))
    obtain ⟨a9, _, rfl⟩ := int64_of (h2 9 (by decide))
    obtain ⟨a10, _, rfl⟩ := int64_of (h2 10 (by decide))
    obtain ⟨a11, _, rfl⟩ := int64_of (h2 11 (by decide))
    obtain ⟨a12, _, rfl⟩ := int64_of (h2 12 (by decide))
    obtain ⟨a13, _, rfl⟩ := int64_of (h2 13 (by decide))
    obtain ⟨a14, _, rfl⟩ := int64_of (h2 14 (by decide))
    obtain ⟨a15, _, rfl⟩ := int64_of (h2 15 (by decide))
    obtain ⟨a16, _, rfl⟩ := int64_of (h2 16 (by decide))
    exact ⟨⟨a0, a1, a2, a3, a4, a5, a6, a7, a8, a9, a10, a11, a12, a13, a14, a15, a16⟩, rfl⟩
abbrev keyT : List CT := [.bool, .bool, .bool, .int .i64, .int .i64, .int .i64, .int .i64, .int .i64, .int .i64]
theorem bool_of {v : V} (h : OkC .bool v) : ∃ b, v = .bool b := by cases h; exact ⟨_, rfl⟩
theorem key_of {x : V} (h1 : x.cells.length = 9) (h2 : x.isAgg = true) (h : ∀ i, i < 9 → OkC (keyT.getD i .bool) (x.cells.getD i .junk)) : ∃ k : Key9, x = KV k := by
  cases x with
  | agg vs =>
    have hl : vs.length = 9 := h1
    replace h : ∀ i, i < 9 → OkC (keyT.getD i .bool) (vs.getD i .junk) := h
    match vs, hl with
    | [x0, x1, x2, x3, x4, x5, x6, x7, x8], _ =>
      obtain ⟨a0, rfl⟩ := bool_of (h 0 (by decide))
      obtain ⟨a1, rfl⟩ := bool_of (h 1 (by decide))
      obtain ⟨a2, rfl⟩ := bool_of (h 2 (by decide))
      obtain ⟨a3, _, rfl⟩ := int64_of (h 3 (by decide))
      obtain ⟨a4, _, rfl⟩ := int64_of (h 4 (by decide))
      obtain ⟨a5, _, rfl⟩ := int64_of (h 5 (by decide))
      obtain ⟨a6, _, rfl⟩ := int64_of (h 6 (by decide))
      obtain ⟨a7, _, rfl⟩ := int64_of (h 7 (by decide))
      obtain ⟨a8, _, rfl⟩ := int64_of (h 8 (by decide))
      exact ⟨⟨a0, a1, a2, a3, a4, a5, a6, a7, a8⟩, rfl⟩
  | _ => cases h2
theorem keys_of {a : V} (h : OkC (.sl keyT true) a) : ∃ l : List Key9, a = .sl (l.map KV) ∧ l.length ≤ 9223372036854775807 := by
  cases h with
  | sl e ag xs hl hs hc =>
    have hx : ∀ x ∈ xs, ∃ k : Key9, x = KV k := fun x hx => key_of (hs x hx).1 (hs x hx).2 (hc x hx)
    clear hs hc
    have key : ∀ l : List V, (∀ x ∈ l, ∃ k : Key9, x = KV k) → ∃ m : List Key9, l = m.map KV := by
      intro l
      induction l with
      | nil => exact fun _ => ⟨[], rfl⟩
      | cons a l ih =>
        intro h
        obtain ⟨v, rfl⟩ := ih fun x hx => h x (List.mem_cons_of_mem _ hx)
        obtain ⟨n, rfl⟩ := h a List.mem_cons_self
        exact ⟨n :: v, rfl⟩
    obtain ⟨v, rfl⟩ := key xs hx
    exact ⟨v, rfl, by simpa [maxLen] using hl⟩
end Go.Gim
