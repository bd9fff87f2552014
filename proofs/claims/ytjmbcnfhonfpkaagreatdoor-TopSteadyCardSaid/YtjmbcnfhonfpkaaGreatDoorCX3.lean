import Derived.Test.YtjmbcnfhonfpkaaGreatDoorGA7
import Derived.Test.YtjmbcnfhonfpkaaGreatDoorSM0
import Derived.Test.YtjmbcnfhonfpkaaGreatDoorLR5
import Derived.Test.YtjmbcnfhonfpkaaGreatDoorGN
import Derived.Test.YtjmbcnfhonfpkaaGreatDoorRA1
import Derived.Test.YtjmbcnfhonfpkaaGreatDoorLI4
import Derived.Test.YtjmbcnfhonfpkaaGreatDoorB2
import Derived.Test.YtjmbcnfhonfpkaaGreatDoorCF
/- The chapter's examples; the laws on costs. -/
set_option maxRecDepth 100000
set_option maxHeartbeats 4000000
set_option linter.unusedSimpArgs false
set_option linter.unusedVariables false
namespace Go.Gim
open Go.Proofs
theorem outB_or (y : Int) : outB y (-1000000) 1000000 = (decide (y < -1000000) || decide (1000000 < y)) := rfl
theorem cstate_ret (x : List Int) (hl : x.length ≤ 9223372036854775807) : Ret pg zgd [ints x] (.bool (stateB x)) := by
 refine cost_State.of rfl (W_b ?_)
 unfold cost_State.k cost_State.res Ot kp Og Om Ol Oi Oc On ci
 refine sgo ?_
 refine za1 (T := Nat × Nat) (fun t => ⟨E [(5, ints x), (6, .int .i64 x.length), (7, .int .i64 t.1)], fun _ => none, t.2, t.2⟩) (fun t => t.1 ≤ x.length ∧ ∀ y ∈ x.take t.1, outB y (-1000000) 1000000 = false) (fun t => x.length - t.1) (0, _) rfl ⟨zdo, by simp⟩ ?_
 rintro ⟨i, nx⟩ ⟨i1, i2⟩
 dsimp only at i1 i2
 by_cases hi : i < x.length
 ·have hm := zaz 0 hi
  have ht := zef 0 hi
  generalize hX : x.getD i 0 = v at *
  have ho := outB_or v
  by_cases h1 : v < -1000000
  ·have hall : stateB x = false := List.all_eq_false.2 ⟨v, hm, by rw [ho]; simp [h1]⟩
   rw [hall]
   simp -dsimp -implicitDefEqProofs (disch := try exact zdE) only [go_sem, hX]
  ·by_cases h2 : 1000000 < v
   ·have hall : stateB x = false := List.all_eq_false.2 ⟨v, hm, by rw [ho]; simp [h2]⟩
    rw [hall]
    simp -dsimp -implicitDefEqProofs (disch := try exact zdE) only [go_sem, hX]
   ·simp -dsimp -implicitDefEqProofs (disch := try exact zdE) only [go_sem, hX]
    refine ⟨(i + 1, _), rfl, ⟨zdo, fun y hy => ?_⟩, zdo⟩
    dsimp only at hy
    rw [ht] at hy
    rcases List.mem_append.1 hy with hy | hy
    ·exact i2 y hy
    ·simp at hy; subst hy; rw [ho]; simp [h1, h2]
 ·have hie : x.length = i := by omega
  subst hie
  rw [List.take_length] at i2
  have hall : stateB x = true := List.all_eq_true.2 fun y hy => by simp [i2 y hy]
  rw [hall]
  exact sgo trivial
def r1 : Row4 := ⟨[1], 0, 5, 3⟩
theorem r1_right : Right4 r1 1 := rightB_iff.1 (by decide)
theorem st1 {v : Int} (h1 : -1000000 ≤ v) (h2 : v ≤ 1000000) : State [v] := fun w hw => by simp at hw; subst hw; exact ⟨h1, h2⟩
theorem ok1 {p den v : Int} (h1 : -1000000 ≤ v) (h2 : v ≤ 1000000) (hp : In64 p) (hd : In64 den) : GOkay ⟨1, [r1], [[p]], [0], 0, den⟩ [v] where
 len := rfl
 hi := zdo
 sixty := by simp
 right := fun r hr => by simp at hr; subst hr; exact r1_right
 state := st1 h1 h2
 sq := ⟨rfl, fun r hr => by simp at hr; subst hr; rfl⟩
 ql := rfl
 sP := fun i j => by
  have := zar (at2_in (rows := [[p]]) (fun r hr v hv => by simp at hr; subst hr; simp at hv; subst hv; exact hp) i j)
  dsimp only; omega
 sQ := fun i => by
  have := zar (getD_in (l := [0]) (fun v hv => by simp at hv; subst hv; decide) i)
  dsimp only; omega
 sc := by rw [zbk]; omega
 sd := by have := zar hd; dsimp only; omega
end Go.Gim
