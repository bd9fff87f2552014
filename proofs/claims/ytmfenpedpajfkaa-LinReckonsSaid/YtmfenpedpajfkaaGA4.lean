import Derived.Test.YtmfenpedpajfkaaGA3
/- Quadratic functions: made of small numbers. -/
set_option maxRecDepth 100000
set_option linter.unusedSimpArgs false
set_option linter.unusedVariables false
namespace Go.Gim
open Go.Proofs
theorem Sq.sm {m : List (List Int)} (h : ∀ r ∈ m, ∀ v ∈ r, In64 v) (i j : Nat) : lim (at2 m i j) ≤ 2 := by
  unfold at2
  by_cases hi : i < m.length
  · by_cases hj : j < (m.getD i []).length
    · exact lim_i64 (h _ (getD_mem' [] hi) _ (getD_mem' 0 hj))
    · rw [show (m.getD i []).getD j 0 = 0 by rw [List.getD_eq_getElem?_getD, List.getElem?_eq_none (by omega)]; rfl, lim_zero]; omega
  · rw [show (m.getD i []) = [] by rw [List.getD_eq_getElem?_getD, List.getElem?_eq_none (by omega)]; rfl]
    simp [lim_zero]
end Go.Gim
