import Derived.Test.YtoehjhcfilonoaaRC
import Derived.Test.YtoehjhcfilonoaaKM4
/- A config and keys as arguments, as data. -/
set_option maxRecDepth 100000
set_option linter.unusedSimpArgs false
set_option linter.unusedVariables false
namespace Go.Gim
open Go.Proofs Go.RowKit Go.WideShapes
abbrev cfgT : List CT := [.int .i64, .int .i64, .int .i64, .int .i64, .int .i64, .int .i64, .int .i64, .int .i64, .int .i64, .int .i64, .int .i64, .int .i64, .int .i64, .int .i64, .int .i64, .int .i64, .int .i64]
theorem cfg_of {vs : List V} (h : vs.length = cfgT.length ∧ ∀ i, i < cfgT.length → OkC (cfgT.getD i .bool) (vs.getD i .junk)) : ∃ c : Cfg, V.agg vs = CV c := by
  obtain ⟨h1, h2⟩ := h
  have hl : vs.length = 17 := h1
  match vs, hl with
  | [x0, x1, x2, x3, x4, x5, x6, x7, x8, x9, x10, x11, x12, x13, x14, x15, x16], _ =>
    obtain ⟨a0, _, rfl⟩ := int64_of (h2 0 (by decide))
    obtain ⟨a1, _, rfl⟩ := int64_of (h2 1 (by decide))
    obtain ⟨a2, _, rfl⟩ := int64_of (h2 2 (by decide))
    obtain ⟨a3, _, rfl⟩ := int64_of (h2 3 (by decide))
    obtain ⟨a4, _, rfl⟩ := int64_of (h2 4 (by decide))
    obtain ⟨a5, _, rfl⟩ := int64_of (h2 5 (by decide))
    obtain ⟨a6, _, rfl⟩ := int64_of (h2 6 (by decide))
    obtain ⟨a7, _, rfl⟩ := int64_of (h2 7 (by decide))
    obtain ⟨a8, _, rfl⟩ := int64_of (h2 8 (by decide))
    obtain ⟨a9, _, rfl⟩ := int64_of (h2 9 (by decide))
    obtain ⟨a10, _, rfl⟩ := int64_of (h2 10 (by decide))
    obtain ⟨a11, _, rfl⟩ := int64_of (h2 11 (by decide))
    obtain ⟨a12, _, rfl⟩ := int64_of (h2 12 (by decide))
    obtain ⟨a13, _, rfl⟩ := int64_of (h2 13 (by decide))
    obtain ⟨a14, _, rfl⟩ := int64_of (h2 14 (by decide))
    obtain ⟨a15, _, rfl⟩ := int64_of (h2 15 (by decide))
    obtain ⟨a16, _, rfl⟩ := int64_of (h2 16 (by decide))
    exact ⟨⟨a0, a1, a2, a3, a4, a5, a6, a7, a8, a9, a10, a11, a12, a13, a14, a15, a16⟩, rfl⟩
end Go.Gim
