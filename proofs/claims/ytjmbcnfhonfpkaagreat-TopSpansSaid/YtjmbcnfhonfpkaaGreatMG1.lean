import Derived.Test.YtjmbcnfhonfpkaaGreatSM0
import Derived.Test.YtjmbcnfhonfpkaaGreatLB2
import Derived.Test.YtjmbcnfhonfpkaaGreatQP1
import Derived.Test.YtjmbcnfhonfpkaaGreatMG0
import Derived.Test.YtjmbcnfhonfpkaaGreatGN
import Derived.Test.YtjmbcnfhonfpkaaGreatCX3
/- What is left out of a graph: whether a row is touched, a function so many times, a row's square. -/
set_option maxRecDepth 100000
set_option maxHeartbeats 4000000
set_option linter.unusedSimpArgs false
set_option linter.unusedVariables false
namespace Go.Gim
open Go.Proofs
theorem indexI_ret (l : List Int) (g : Nat) (caps : List V) (f : Int → Bool) (hn : l.length ≤ 9223372036854775807) (hc : ∀ v ∈ caps, V.Pure v) (h : ∀ x ∈ l, Ret pg g (.int .i64 x :: caps) (.bool (f x))) :
  ∃ k : Int, Ret pg zbp [ints l, .fn g caps] (.int .i64 k) ∧ decide (0 ≤ k) = l.any f := by
 refine ⟨if l.any f then l.findIdx f else -1, ?_, ?_⟩
 ·refine slices_IndexFunc_Lint64_int64.of rfl (W_b ?_)
  unfold slices_IndexFunc_Lint64_int64.k slices_IndexFunc_Lint64_int64.res Ot kp Om Ol Oi Oc On ci
  refine sgo ?_
  refine zax (T := Nat × Nat) (fun t => ⟨E [(0, ints l), (1, .fn g caps), (7, .int .i64 l.length), (8, .int .i64 t.1)], fun _ => none, t.2, t.2⟩) (fun t => t.1 ≤ l.length ∧ ∀ j, (hj : j < l.length) → j < t.1 → f l[j] = false) (fun t => l.length - t.1) (0, _) rfl ⟨zdo, fun j _ h => by dsimp only at h; omega⟩ ?_
  rintro ⟨i, nx⟩ ⟨i1, i2⟩
  dsimp only at i1 i2
  by_cases hi : i < l.length
  ·have hm := zav 0 hi
   have he : l.getD i 0 = l[i] := by simp [List.getD_eq_getElem?_getD, hi]
   have hg := h _ hm
   rw [he] at hg
   simp -dsimp -implicitDefEqProofs (disch := try exact zdE) only [go_sem, he]
   refine zcn hg (by simpa using hc) ?_
   cases hf : f l[i]
   ·refine sgo ?_
    exact ⟨(i + 1, _), rfl, ⟨zdo, fun j hj hji => by dsimp only at hji; by_cases hje : j = i; (subst hje; exact hf); exact i2 j hj (by omega)⟩, zdo⟩
   ·have ha : l.any f = true := List.any_eq_true.2 ⟨_, List.getElem_mem hi, hf⟩
    have hx : l.findIdx f = i := (List.findIdx_eq hi).2 ⟨hf, fun j hj => i2 j (by omega) hj⟩
    rw [ha, if_pos rfl, hx]
    exact sgo trivial
  ·have ha : l.any f = false := List.any_eq_false.2 fun r hr => by
    obtain ⟨j, hj, rfl⟩ := List.mem_iff_getElem.1 hr
    simp [i2 j hj (by omega)]
   rw [ha]
   exact sgo trivial
 ·cases l.any f <;> simp
end Go.Gim
