import Derived.Test.YtjkjpjneeioeiaaGreatRows
import Derived.Test.YtjkjpjneeioeiaaGreatF13
import Derived.Test.YtjkjpjneeioeiaaGreatF19
import Derived.Test.YtjkjpjneeioeiaaGreatRC4
import Derived.Test.YtjkjpjneeioeiaaGreatSP1
import Derived.WalkKit
import Derived.ProofKit
import Derived.OpenShut
import Derived.ShutString
import Derived.ChangeOld
import Derived.Below
import Derived.SizedLaws
import Derived.Carry
/- The law SolvePlays, for every input: its row. -/
set_option linter.unusedVariables false
set_option linter.unusedSimpArgs false
namespace Go.Proofs.YtjkjpjneeioeiaaGreat.solvePlays
open Go.ChangeShapes Go.WideShapes Go.ChangeAt Go.RowKit
theorem own : ownKnob Tryz.prog.godebug = none := by kernel_rfl
theorem laidOut : laidOutB Tryz.prog = true := by kernel_rfl
set_option maxRecDepth 100000 in
theorem lifted (os : Os) (started : os.Started) (H : Type) (enc : TypeId × Value → H) :
    ReturnsInHanded {} Tryz.checked os 6 .any (Rows.solvePlaysSpec.pre6 enc Tryz.prog Tryz.f6 Rows.solvePlaysRow.domain false) (Rows.solvePlaysSpec.post enc Tryz.prog Tryz.f6 false true false false) := by
  refine returnsInHanded_of_change_sized (C := Tryz.checked) own started (by kernel_rfl) Tryz.func6
    (ChangeSpec.witness6 (enc := enc) (C := Tryz.checked) false ⟨#[], #[.int .i64 0, .slice none 0 0, .slice none 0 0, .int .i64 0, .agg #[.int .i64 0, .int .i64 0, .int .i64 0, .int .i64 0, .int .i64 0, .int .i64 0, .int .i64 0, .int .i64 0, .int .i64 0, .int .i64 0, .int .i64 0, .int .i64 0, .int .i64 0, .int .i64 0, .int .i64 0, .int .i64 0, .int .i64 0], .slice none 0 0], []⟩ 8 (by kernel_rfl) (by kernel_rfl) (by kernel_rfl) (by kernel_rfl)) ?_
  intro W base args ds gs before hval0 hW hcnd hsz0 _
  have hval : ∀ (j : Nat) t v, Tryz.f6.params[j]? = some t → args[j]? = some v → Value.okWide Tryz.prog W .any base t v := hval0
  have hW' := hW
  obtain ⟨p, q, hA0, hV, rfl, hfz, hnd⟩ := hW
  have hA : DataW.TrodAll enc Tryz.prog W 0 (fun _ => true) true Tryz.f6.params.toList args.toList ds p := hA0
  rw [Tryz.params6] at hA hval
  obtain ⟨v0, vs0, d0, ds0, p0, q0, hargs, rfl, rfl, h0, r0⟩ := trodAll_cons hA
  obtain ⟨v1, vs1, d1, ds1, p1, q1, rfl, rfl, rfl, h1, r1⟩ := trodAll_cons r0
  obtain ⟨v2, vs2, d2, ds2, p2, q2, rfl, rfl, rfl, h2, r2⟩ := trodAll_cons r1
  obtain ⟨v3, vs3, d3, ds3, p3, q3, rfl, rfl, rfl, h3, r3⟩ := trodAll_cons r2
  obtain ⟨v4, vs4, d4, ds4, p4, q4, rfl, rfl, rfl, h4, r4⟩ := trodAll_cons r3
  obtain ⟨v5, vs5, d5, ds5, p5, q5, rfl, rfl, rfl, h5, r5⟩ := trodAll_cons r4
  obtain ⟨rfl, rfl, rfl⟩ := trodAll_nil r5
  obtain rfl : args = #[v0, v1, v2, v3, v4, v5] := by cases args; simp_all
  obtain ⟨rfl, rfl⟩ := trodVars_none hV
  have hlt0 : ∀ x ∈ p0, x.block < W.heap.size := fun x hx => hW'.lt x (by simp [hx])
  obtain ⟨u0, ok0, pu0⟩ := Go.Gim.open_one 6 (by kernel_rfl : Go.Gim.cellsTy Tryz.prog 6 3 = some [.int .i64]) (by kernel_rfl) (hval 0 3 v0 rfl rfl) h0
  obtain ⟨a0, b0, e0⟩ := Go.Gim.int64_of ok0
  rw [e0] at pu0
  have hlt1 : ∀ x ∈ p1, x.block < W.heap.size := fun x hx => hW'.lt x (by simp [hx])
  obtain ⟨u1, ok1, pu1⟩ := Go.Gim.open_one 6 (by kernel_rfl : Go.Gim.cellsTy Tryz.prog 6 22 = some [.sl [.sl [.int .i64] false, .int .i64, .int .i64, .int .i64] true]) (by kernel_rfl) (hval 1 22 v1 rfl rfl) h1
  obtain ⟨a1, e1, l1, b1⟩ := Go.Gim.rows_of ok1
  rw [e1] at pu1
  have hlt2 : ∀ x ∈ p2, x.block < W.heap.size := fun x hx => hW'.lt x (by simp [hx])
  obtain ⟨u2, ok2, pu2⟩ := Go.Gim.open_one 6 (by kernel_rfl : Go.Gim.cellsTy Tryz.prog 6 23 = some [.sl [.sl [.int .i64] false] false]) (by kernel_rfl) (hval 2 23 v2 rfl rfl) h2
  obtain ⟨a2, e2, l2, b2⟩ := Go.Gim.mat_of ok2
  rw [e2] at pu2
  have hlt3 : ∀ x ∈ p3, x.block < W.heap.size := fun x hx => hW'.lt x (by simp [hx])
  obtain ⟨u3, ok3, pu3⟩ := Go.Gim.open_one 6 (by kernel_rfl : Go.Gim.cellsTy Tryz.prog 6 2 = some [.int .i64]) (by kernel_rfl) (hval 3 2 v3 rfl rfl) h3
  obtain ⟨a3, b3, e3⟩ := Go.Gim.int64_of ok3
  rw [e3] at pu3
  have hlt4 : ∀ x ∈ p4, x.block < W.heap.size := fun x hx => hW'.lt x (by simp [hx])
  obtain ⟨us4, ok4, pu4⟩ := Go.Gim.open_agg 6 (by kernel_rfl : Go.Gim.cellsTy Tryz.prog 6 80 = some [.int .i64, .int .i64, .int .i64, .int .i64, .int .i64, .int .i64, .int .i64, .int .i64, .int .i64, .int .i64, .int .i64, .int .i64, .int .i64, .int .i64, .int .i64, .int .i64, .int .i64]) (by kernel_rfl) (by kernel_rfl) (hval 4 80 v4 rfl rfl) h4
  obtain ⟨a4, e4⟩ := Go.Gim.cfg_of ok4
  rw [e4] at pu4
  have hlt5 : ∀ x ∈ p5, x.block < W.heap.size := fun x hx => hW'.lt x (by simp [hx])
  obtain ⟨u5, ok5, pu5⟩ := Go.Gim.open_one 6 (by kernel_rfl : Go.Gim.cellsTy Tryz.prog 6 24 = some [.sl [.int .i64] false]) (by kernel_rfl) (hval 5 24 v5 rfl rfl) h5
  obtain ⟨a5, e5, l5, b5⟩ := Go.Gim.ints_of ok5
  rw [e5] at pu5
  have law : Go.Gim.Ret Tryz.prog 6 [.int .i64 a0, .sl (a1.map Go.Gim.RV), .sl (a2.map Go.Gim.ints), .int .i64 a3, Go.Gim.CV a4, Go.Gim.ints a5] (.bool true) := by
    apply Go.Gim.SolvePlays_true <;> assumption
  refine (Go.Gim.Ret.law law W (fun p hp => by simp [Go.Gim.gvs] at hp) (.cons pu0 (.cons pu1 (.cons pu2 (.cons pu3 (.cons pu4 (.cons pu5 .nil))))))).mono fun e W' ⟨he, bel⟩ => ?_
  subst he
  exact ⟨_, rfl, _, _, _, [], _, [], hW', trodAll_mk1 (shut_bool Tryz.underlying4 _), (trodAll_cons_mk (Below.trod laidOut (by kernel_rfl) (of_decide_eq_true (by kernel_rfl)) h0 bel hlt0) (trodAll_cons_mk (Below.trod laidOut (by kernel_rfl) (of_decide_eq_true (by kernel_rfl)) h1 bel hlt1) (trodAll_cons_mk (Below.trod laidOut (by kernel_rfl) (of_decide_eq_true (by kernel_rfl)) h2 bel hlt2) (trodAll_cons_mk (Below.trod laidOut (by kernel_rfl) (of_decide_eq_true (by kernel_rfl)) h3 bel hlt3) (trodAll_cons_mk (Below.trod laidOut (by kernel_rfl) (of_decide_eq_true (by kernel_rfl)) h4 bel hlt4) (trodAll_cons_mk (Below.trod laidOut (by kernel_rfl) (of_decide_eq_true (by kernel_rfl)) h5 bel hlt5) trodAll_mk0)))))), rfl, bel.frame _, fun h => by cases h⟩
theorem over : Rows.SolvePlaysSaid :=
  OpenClaim.holds_of_wide 6 Tryz.f6 rfl rfl rfl rfl rfl rfl rfl ⟨rfl, rfl, rfl, rfl, rfl⟩ rfl rfl rfl rfl rfl (by kernel_rfl) Tryz.func6 (by kernel_rfl)
    (of_decide_eq_true (by kernel_rfl)) (by unfold Func.isWrapper; first | (rw [if_pos (by decide +kernel)]; kernel_rfl) | (rw [if_neg (by decide +kernel)]; exact ⟨rfl, rfl⟩))
    (fun os started H enc _ => lifted os started H enc)
theorem proved : Rows.SolvePlaysSaid := over
#print axioms proved
end Go.Proofs.YtjkjpjneeioeiaaGreat.solvePlays
namespace Go.Proofs.YtjkjpjneeioeiaaGreat
theorem solvePlays_holds : Rows.SolvePlaysSaid := solvePlays.proved
end Go.Proofs.YtjkjpjneeioeiaaGreat
