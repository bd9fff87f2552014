import Derived.Test.YtjmbcnfhonfpkaaGreatRows
import Derived.Test.YtjmbcnfhonfpkaaGreatF13
import Derived.Test.YtjmbcnfhonfpkaaGreatF19
import Derived.Test.YtjmbcnfhonfpkaaGreatRC
import Derived.Test.YtjmbcnfhonfpkaaGreatTS6
import Derived.WalkKit
import Derived.ProofKit
import Derived.OpenShut
import Derived.ShutString
import Derived.ChangeOld
import Derived.Below
import Derived.SizedLaws
import Derived.Carry
/- The law TopSpans, for every input: its row. -/
set_option linter.unusedVariables false
set_option linter.unusedSimpArgs false
namespace Go.Proofs.YtjmbcnfhonfpkaaGreat.topSpans
open Go.ChangeShapes Go.WideShapes Go.ChangeAt Go.RowKit
theorem own : ownKnob Tryz.prog.godebug = none := by kernel_rfl
theorem laidOut : laidOutB Tryz.prog = true := by kernel_rfl
set_option maxRecDepth 100000 in
theorem lifted (os : Os) (started : os.Started) (H : Type) (enc : TypeId × Value → H) :
    ReturnsInHanded {} Tryz.checked os 3 .any (Rows.topSpansSpec.pre6 enc Tryz.prog Tryz.f3 Rows.topSpansRow.domain false) (Rows.topSpansSpec.post enc Tryz.prog Tryz.f3 false true false false) := by
  refine returnsInHanded_of_change_sized (C := Tryz.checked) own started (by kernel_rfl) Tryz.func3
    (ChangeSpec.witness6 (enc := enc) (C := Tryz.checked) false ⟨#[], #[.int .i64 0, .int .i64 0, .int .i64 0, .int .i64 0], []⟩ 8 (by kernel_rfl) (by kernel_rfl) (by kernel_rfl) (by kernel_rfl)) ?_
  intro W base args ds gs before hval0 hW hcnd hsz0 _
  have hval : ∀ (j : Nat) t v, Tryz.f3.params[j]? = some t → args[j]? = some v → Value.okWide Tryz.prog W .any base t v := hval0
  have hW' := hW
  obtain ⟨p, q, hA0, hV, rfl, hfz, hnd⟩ := hW
  have hA : DataW.TrodAll enc Tryz.prog W 0 (fun _ => true) true Tryz.f3.params.toList args.toList ds p := hA0
  rw [Tryz.params3] at hA hval
  obtain ⟨v0, vs0, d0, ds0, p0, q0, hargs, rfl, rfl, h0, r0⟩ := trodAll_cons hA
  obtain ⟨v1, vs1, d1, ds1, p1, q1, rfl, rfl, rfl, h1, r1⟩ := trodAll_cons r0
  obtain ⟨v2, vs2, d2, ds2, p2, q2, rfl, rfl, rfl, h2, r2⟩ := trodAll_cons r1
  obtain ⟨v3, vs3, d3, ds3, p3, q3, rfl, rfl, rfl, h3, r3⟩ := trodAll_cons r2
  obtain ⟨rfl, rfl, rfl⟩ := trodAll_nil r3
  obtain rfl : args = #[v0, v1, v2, v3] := by cases args; simp_all
  obtain ⟨rfl, rfl⟩ := trodVars_none hV
  have hlt0 : ∀ x ∈ p0, x.block < W.heap.size := fun x hx => hW'.lt x (by simp [hx])
  obtain ⟨u0, ok0, pu0⟩ := Go.Gim.open_one 6 (by kernel_rfl : Go.Gim.cellsTy Tryz.prog 6 2 = some [.int .i64]) (by kernel_rfl) (hval 0 2 v0 rfl rfl) h0
  obtain ⟨a0, b0, e0⟩ := Go.Gim.int64_of ok0
  rw [e0] at pu0
  have hlt1 : ∀ x ∈ p1, x.block < W.heap.size := fun x hx => hW'.lt x (by simp [hx])
  obtain ⟨u1, ok1, pu1⟩ := Go.Gim.open_one 6 (by kernel_rfl : Go.Gim.cellsTy Tryz.prog 6 2 = some [.int .i64]) (by kernel_rfl) (hval 1 2 v1 rfl rfl) h1
  obtain ⟨a1, b1, e1⟩ := Go.Gim.int64_of ok1
  rw [e1] at pu1
  have hlt2 : ∀ x ∈ p2, x.block < W.heap.size := fun x hx => hW'.lt x (by simp [hx])
  obtain ⟨u2, ok2, pu2⟩ := Go.Gim.open_one 6 (by kernel_rfl : Go.Gim.cellsTy Tryz.prog 6 2 = some [.int .i64]) (by kernel_rfl) (hval 2 2 v2 rfl rfl) h2
  obtain ⟨a2, b2, e2⟩ := Go.Gim.int64_of ok2
  rw [e2] at pu2
  have hlt3 : ∀ x ∈ p3, x.block < W.heap.size := fun x hx => hW'.lt x (by simp [hx])
  obtain ⟨u3, ok3, pu3⟩ := Go.Gim.open_one 6 (by kernel_rfl : Go.Gim.cellsTy Tryz.prog 6 2 = some [.int .i64]) (by kernel_rfl) (hval 3 2 v3 rfl rfl) h3
  obtain ⟨a3, b3, e3⟩ := Go.Gim.int64_of ok3
  rw [e3] at pu3
  have law : Go.Gim.Ret Tryz.prog 3 [.int .i64 a0, .int .i64 a1, .int .i64 a2, .int .i64 a3] (.bool true) := by
    apply Go.Gim.TopSpans_true <;> assumption
  refine (Go.Gim.Ret.law law W (fun p hp => by simp [Go.Gim.gvs] at hp) (.cons pu0 (.cons pu1 (.cons pu2 (.cons pu3 .nil))))).mono fun e W' ⟨he, bel⟩ => ?_
  subst he
  exact ⟨_, rfl, _, _, _, [], _, [], hW', trodAll_mk1 (shut_bool Tryz.underlying4 _), (trodAll_cons_mk (Below.trod laidOut (by kernel_rfl) (of_decide_eq_true (by kernel_rfl)) h0 bel hlt0) (trodAll_cons_mk (Below.trod laidOut (by kernel_rfl) (of_decide_eq_true (by kernel_rfl)) h1 bel hlt1) (trodAll_cons_mk (Below.trod laidOut (by kernel_rfl) (of_decide_eq_true (by kernel_rfl)) h2 bel hlt2) (trodAll_cons_mk (Below.trod laidOut (by kernel_rfl) (of_decide_eq_true (by kernel_rfl)) h3 bel hlt3) trodAll_mk0)))), rfl, bel.frame _, fun h => by cases h⟩
theorem over : Rows.TopSpansSaid :=
  OpenClaim.holds_of_wide 3 Tryz.f3 rfl rfl rfl rfl rfl rfl rfl ⟨rfl, rfl, rfl, rfl, rfl⟩ rfl rfl rfl rfl rfl (by kernel_rfl) Tryz.func3 (by kernel_rfl)
    (of_decide_eq_true (by kernel_rfl)) (by unfold Func.isWrapper; first | (rw [if_pos (by decide +kernel)]; kernel_rfl) | (rw [if_neg (by decide +kernel)]; exact ⟨rfl, rfl⟩))
    (fun os started H enc _ => lifted os started H enc)
theorem proved : Rows.TopSpansSaid := over
#print axioms proved
end Go.Proofs.YtjmbcnfhonfpkaaGreat.topSpans
namespace Go.Proofs.YtjmbcnfhonfpkaaGreat
theorem topSpans_holds : Rows.TopSpansSaid := topSpans.proved
end Go.Proofs.YtjmbcnfhonfpkaaGreat
