import Derived.Test.YtjmbcnfhonfpkaaGreatDoorF11
import Derived.IntWalk
import Derived.Below
/- From a law's contract to the call that its row asks. -/
set_option linter.unusedSimpArgs false
set_option linter.unusedVariables false
namespace Go.Gim
open Go.RowKit Go.WideShapes
inductive Purs (w : World) : List V → List Value → Prop
 | nil : Purs w [] []
 | cons {a : V} {v : Value} {as : List V} {vs : List Value} : Pur (fun _ => False) w a v → Purs w as vs → Purs w (a :: as) (v :: vs)
theorem Purs.length {w : World} {as : List V} {vs : List Value} (h : Purs w as vs) : vs.length = as.length := by
 induction h with
 | nil => rfl
 | cons _ _ ih => simp [ih]
theorem Purs.get {w : World} {as : List V} {vs : List Value} (h : Purs w as vs) : ∀ i, i < as.length → Pur (fun _ => False) w (as.getD i .junk) (vs.toArray.getD i Go.undef) := by
 induction h with
 | nil => intro i hi; simp at hi
 | cons h1 _ ih =>
  intro i hi
  cases i with
  | zero => simpa using h1
  | succ i =>
   have := ih i (by simpa using hi)
   simpa [Array.getD_eq_getD_getElem?] using this
theorem Ret.law {P : Program} {f : Nat} {args : List V} {vals : List Value} (h : Ret P f args (.bool true)) (w : World) (hg : GOk (fun _ => False) w) (ha : Purs w args vals) :
  Calls P f vals.toArray w fun e w' => e = .returned (.bool true) ∧ Below w.heap.size w w' := by
 refine (h.2 (fun _ => False) w vals.toArray (fun _ h => h.elim) hg (by simpa using ha.length) ha.get).mono fun e w' ⟨x, h1, h2, h3⟩ => ?_
 cases h2
 exact ⟨h1, h3⟩
theorem wf64 {a : Int} (h : (Lit.int .i64 a).wf = true) : -9223372036854775808 ≤ a ∧ a ≤ 9223372036854775807 := by
 simp only [Lit.wf, Bool.and_eq_true, decide_eq_true_eq] at h
 have h1 : IntKind.i64.min = -9223372036854775808 := by decide
 have h2 : IntKind.i64.max = 9223372036854775807 := by decide
 omega
end Go.Gim
