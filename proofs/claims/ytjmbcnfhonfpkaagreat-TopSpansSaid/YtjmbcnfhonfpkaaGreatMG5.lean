import Derived.Test.YtjmbcnfhonfpkaaGreatMG1
import Derived.Test.YtjmbcnfhonfpkaaGreatDV7
import Derived.Test.YtjmbcnfhonfpkaaGreatSM0
import Derived.Test.YtjmbcnfhonfpkaaGreatLB2
import Derived.Test.YtjmbcnfhonfpkaaGreatQP1
/- A graph without its first numbers. -/
set_option maxRecDepth 100000
set_option maxHeartbeats 4000000
set_option linter.unusedSimpArgs false
set_option linter.unusedVariables false
namespace Go.Gim
open Go.Proofs
theorem isnilB_sl {dr : Bool} {nx : Nat} {H : Hp} {neg : Bool} {e : V} {l : List V} {Kn : V → Prop} {u : Dep Kn} (h : Kn (.bool neg)) : isnilB dr nx H 0 neg (.sl (e :: l)) Kn u := h
theorem cloneI_ret (l : List Int) (hne : l ≠ []) (hl : l.length ≤ 1000000) : Ret pg zam [ints l] (ints l) := by
 obtain ⟨a, l', rfl⟩ : ∃ a l', l = a :: l' := by cases l with | nil => exact absurd rfl hne | cons a l => exact ⟨a, l, rfl⟩
 have e : ints (a :: l') = .sl (V.int .i64 a :: l'.map (V.int .i64)) := rfl
 rw [e]
 refine slices_Clone_Lint64_int64.of rfl (W_b ?_)
 unfold slices_Clone_Lint64_int64.k slices_Clone_Lint64_int64.res Ot kp Om
 refine sgo ?_
 refine isnilB_sl ?_
 refine sgo ?_
 refine effB_copy (c := 3) (H0 := fun _ => none) rfl (by simp [rowOk, V.cells, V.cellOk, V.isJunk]) (by decide) (by simp at hl ⊢; omega) (by simp at hl ⊢; omega) ?_
 refine sgo ?_
 rw [allOf_self fun x hx => by
  obtain ⟨y, _, rfl⟩ := List.mem_map.1 hx; rfl]
 rfl
end Go.Gim
