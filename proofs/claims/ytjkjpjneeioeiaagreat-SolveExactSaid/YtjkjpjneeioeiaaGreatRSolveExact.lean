import Derived.Test.YtjkjpjneeioeiaaGreatRows
import Derived.Test.YtjkjpjneeioeiaaGreatF13
import Derived.Test.YtjkjpjneeioeiaaGreatF19
import Derived.Test.YtjkjpjneeioeiaaGreatRC
import Derived.Test.YtjkjpjneeioeiaaGreatSE5
import Derived.WalkKit
import Derived.ProofKit
import Derived.OpenShut
import Derived.ShutString
import Derived.ChangeOld
import Derived.Below
import Derived.SizedLaws
import Derived.Carry
/- The law SolveExact, for every input: its row. -/
set_option linter.unusedVariables false
set_option linter.unusedSimpArgs false
namespace Go.Proofs.YtjkjpjneeioeiaaGreat.solveExact
open Go.ChangeShapes Go.WideShapes Go.ChangeAt Go.RowKit
theorem own : ownKnob Tryz.prog.godebug = none := by kernel_rfl
theorem laidOut : laidOutB Tryz.prog = true := by kernel_rfl
set_option maxRecDepth 100000 in
theorem lifted (os : Os) (started : os.Started) (H : Type) (enc : TypeId × Value → H) :
    ReturnsInHanded {} Tryz.checked os 10 .any (Rows.solveExactSpec.pre6 enc Tryz.prog Tryz.f10 Rows.solveExactRow.domain false) (Rows.solveExactSpec.post enc Tryz.prog Tryz.f10 false true false false) := by
  refine returnsInHanded_of_change_sized (C := Tryz.checked) own started (by kernel_rfl) Tryz.func10
    (ChangeSpec.witness6 (enc := enc) (C := Tryz.checked) false ⟨#[], #[.int .i64 0, .slice none 0 0, .slice none 0 0], []⟩ 8 (by kernel_rfl) (by kernel_rfl) (by kernel_rfl) (by kernel_rfl)) ?_
  intro W base args ds gs before hval0 hW hcnd hsz0 _
  have hval : ∀ (j : Nat) t v, Tryz.f10.params[j]? = some t → args[j]? = some v → Value.okWide Tryz.prog W .any base t v := hval0
  have hW' := hW
  obtain ⟨p, q, hA0, hV, rfl, hfz, hnd⟩ := hW
  have hA : DataW.TrodAll enc Tryz.prog W 0 (fun _ => true) true Tryz.f10.params.toList args.toList ds p := hA0
  rw [Tryz.params10] at hA hval
  obtain ⟨v0, vs0, d0, ds0, p0, q0, hargs, rfl, rfl, h0, r0⟩ := trodAll_cons hA
  obtain ⟨v1, vs1, d1, ds1, p1, q1, rfl, rfl, rfl, h1, r1⟩ := trodAll_cons r0
  obtain ⟨v2, vs2, d2, ds2, p2, q2, rfl, rfl, rfl, h2, r2⟩ := trodAll_cons r1
  obtain ⟨rfl, rfl, rfl⟩ := trodAll_nil r2
  obtain rfl : args = #[v0, v1, v2] := by cases args; simp_all
  obtain ⟨rfl, rfl⟩ := trodVars_none hV
  have hlt0 : ∀ x ∈ p0, x.block < W.heap.size := fun x hx => hW'.lt x (by simp [hx])
  obtain ⟨u0, ok0, pu0⟩ := Go.Gim.open_one 6 (by kernel_rfl : Go.Gim.cellsTy Tryz.prog 6 3 = some [.int .i64]) (by kernel_rfl) (hval 0 3 v0 rfl rfl) h0
  obtain ⟨a0, b0, e0⟩ := Go.Gim.int64_of ok0
  rw [e0] at pu0
  have hlt1 : ∀ x ∈ p1, x.block < W.heap.size := fun x hx => hW'.lt x (by simp [hx])
  obtain ⟨u1, ok1, pu1⟩ := Go.Gim.open_one 6 (by kernel_rfl : Go.Gim.cellsTy Tryz.prog 6 22 = some [.sl [.sl [.int .i64] false, .int .i64, .int .i64, .int .i64] true]) (by kernel_rfl) (hval 1 22 v1 rfl rfl) h1
  obtain ⟨a1, e1, l1, b1⟩ := Go.Gim.rows_of ok1
  rw [e1] at pu1
  have hlt2 : ∀ x ∈ p2, x.block < W.heap.size := fun x hx => hW'.lt x (by simp [hx])
  obtain ⟨u2, ok2, pu2⟩ := Go.Gim.open_one 6 (by kernel_rfl : Go.Gim.cellsTy Tryz.prog 6 24 = some [.sl [.int .i64] false]) (by kernel_rfl) (hval 2 24 v2 rfl rfl) h2
  obtain ⟨a2, e2, l2, b2⟩ := Go.Gim.ints_of ok2
  rw [e2] at pu2
  have law : Go.Gim.Ret Tryz.prog 10 [.int .i64 a0, .sl (a1.map Go.Gim.RV), Go.Gim.ints a2] (.bool true) := by
    apply Go.Gim.SolveExact_true <;> assumption
  refine (Go.Gim.Ret.law law W (fun p hp => by simp [Go.Gim.gvs] at hp) (.cons pu0 (.cons pu1 (.cons pu2 .nil)))).mono fun e W' ⟨he, bel⟩ => ?_
  subst he
  exact ⟨_, rfl, _, _, _, [], _, [], hW', trodAll_mk1 (shut_bool Tryz.underlying4 _), (trodAll_cons_mk (Below.trod laidOut (by kernel_rfl) (of_decide_eq_true (by kernel_rfl)) h0 bel hlt0) (trodAll_cons_mk (Below.trod laidOut (by kernel_rfl) (of_decide_eq_true (by kernel_rfl)) h1 bel hlt1) (trodAll_cons_mk (Below.trod laidOut (by kernel_rfl) (of_decide_eq_true (by kernel_rfl)) h2 bel hlt2) trodAll_mk0))), rfl, bel.frame _, fun h => by cases h⟩
theorem over : Rows.SolveExactSaid :=
  OpenClaim.holds_of_wide 10 Tryz.f10 rfl rfl rfl rfl rfl rfl rfl ⟨rfl, rfl, rfl, rfl, rfl⟩ rfl rfl rfl rfl rfl (by kernel_rfl) Tryz.func10 (by kernel_rfl)
    (of_decide_eq_true (by kernel_rfl)) (by unfold Func.isWrapper; first | (rw [if_pos (by decide +kernel)]; kernel_rfl) | (rw [if_neg (by decide +kernel)]; exact ⟨rfl, rfl⟩))
    (fun os started H enc _ => lifted os started H enc)
theorem proved : Rows.SolveExactSaid := over
#print axioms proved
end Go.Proofs.YtjkjpjneeioeiaaGreat.solveExact
namespace Go.Proofs.YtjkjpjneeioeiaaGreat
theorem solveExact_holds : Rows.SolveExactSaid := solveExact.proved
end Go.Proofs.YtjkjpjneeioeiaaGreat
