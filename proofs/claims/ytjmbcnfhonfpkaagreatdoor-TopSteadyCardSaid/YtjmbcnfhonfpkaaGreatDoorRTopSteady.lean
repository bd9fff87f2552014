import Derived.Test.YtjmbcnfhonfpkaaGreatDoorRows
import Derived.Test.YtjmbcnfhonfpkaaGreatDoorCards
import Derived.Test.YtjmbcnfhonfpkaaGreatDoorTie
import Derived.Test.YtjmbcnfhonfpkaaGreatDoorF13
import Derived.Test.YtjmbcnfhonfpkaaGreatDoorF19
import Derived.Test.YtjmbcnfhonfpkaaGreatDoorCDR
import Derived.Test.YtjmbcnfhonfpkaaGreatDoorTU7
import Derived.WalkKit
import Derived.ProofKit
import Derived.OpenShut
import Derived.ShutString
import Derived.ChangeOld
import Derived.Below
import Derived.SizedLaws
import Derived.Carry
import Derived.LaidLaws
import Derived.Handed
import Derived.SevenTiedAt
/- The law TopSteady, for every input: its row, and the tied card. -/
set_option linter.unusedVariables false
set_option linter.unusedSimpArgs false
namespace Go.Proofs.YtjmbcnfhonfpkaaGreatDoor.topSteady
open Go.ChangeShapes Go.WideShapes Go.ChangeAt Go.RowKit
theorem own : ownKnob Tryz.prog.godebug = none := by kernel_rfl
theorem laidOut : laidOutB Tryz.prog = true := by kernel_rfl
noncomputable def theWorld (os : Os) : World :=
  let w0 := World.holding Tryz.prog os ⟨#[], #[], []⟩
  { w0 with heap := w0.heap.modify 0 fun
      | .cells _ t frozen => .cells #[.int .i64 0, .int .i64 6, .int .i64 6, .int .i64 1, .int .i64 3] t frozen
      | o => o }
theorem laid_met (os : Os) (args : Array Value) : laidMet Tryz.prog Rows.topSteadyRow.laid ((theWorld os).forCall (fun _ _ => 0) ⟨#[], args, []⟩).memory :=
  laidMet_of_run (ps := [.cell 0 0, .cell 0 1, .cell 0 2, .cell 0 3, .cell 0 4]) 8 (by kernel_rfl) (by kernel_rfl) (by kernel_rfl)
set_option maxRecDepth 100000 in
theorem lifted (os : Os) (started : os.Started) (H : Type) (enc : TypeId × Value → H) :
    ReturnsInHanded {} Tryz.checked os 3 .any (fun w args => (Rows.topSteadySpec.pre enc Tryz.prog Tryz.f3 Rows.topSteadyRow.domain false w args ∧ laidMet Tryz.prog Rows.topSteadyRow.laid w) ∧ sizedMet enc Tryz.prog Tryz.f3 (OpenSpec.ofChange Rows.topSteadySpec) false w args)
      (Rows.topSteadySpec.post enc Tryz.prog Tryz.f3 false true false false) := by
  refine returnsInHanded_of_change_and (C := Tryz.checked) (X := fun w _ => laidMet Tryz.prog Rows.topSteadyRow.laid w) (fun _ _ _ hh h => h.of_heap hh) own started (by kernel_rfl) Tryz.func3
    (ChangeSpec.witness_at (enc := enc) (C := Tryz.checked) (os := os) (X := fun w _ => laidMet Tryz.prog Rows.topSteadyRow.laid w) false (theWorld os) #[.int .i64 0, .int .i64 0, .int .i64 0, .int .i64 0] 8 rfl (by kernel_rfl) (by kernel_rfl) (by kernel_rfl) (by kernel_rfl) (by kernel_rfl) (laid_met os _)) ?_
  intro W base args ds gs before hval0 hW hcnd0 _ hL _
  have hval : ∀ (j : Nat) t v, Tryz.f3.params[j]? = some t → args[j]? = some v → Value.okWide Tryz.prog W .any base t v := hval0
  have hW' := hW
  obtain ⟨p, q, hA0, hV, rfl, hfz, hnd⟩ := hW
  have hA : DataW.TrodAll enc Tryz.prog W 0 (fun _ => true) true Tryz.f3.params.toList args.toList ds p := hA0
  rw [Tryz.params3] at hA hval
  obtain ⟨v0, vs0, d0, ds0, p0, q0, hargs, rfl, rfl, h0, r0⟩ := trodAll_cons hA
  obtain ⟨v1, vs1, d1, ds1, p1, q1, rfl, rfl, rfl, h1, r1⟩ := trodAll_cons r0
  obtain ⟨v2, vs2, d2, ds2, p2, q2, rfl, rfl, rfl, h2, r2⟩ := trodAll_cons r1
  obtain ⟨v3, vs3, d3, ds3, p3, q3, rfl, rfl, rfl, h3, r3⟩ := trodAll_cons r2
  obtain ⟨rfl, rfl, rfl⟩ := trodAll_nil r3
  obtain rfl : args = #[v0, v1, v2, v3] := by cases args; simp_all
  obtain ⟨rfl, rfl⟩ := trodVars_none hV
  have hlt0 : ∀ x ∈ p0, x.block < W.heap.size := fun x hx => hW'.lt x (by simp [hx])
  obtain ⟨u0, ok0, pu0⟩ := Go.Gim.open_one 5 (by kernel_rfl : Go.Gim.cellsTy Tryz.prog 5 2 = some [.int .i64]) (by kernel_rfl) (hval 0 2 v0 rfl rfl) h0
  obtain ⟨n0, b0, e0⟩ := Go.Gim.int_i64_of ok0
  rw [e0] at pu0
  have hlt1 : ∀ x ∈ p1, x.block < W.heap.size := fun x hx => hW'.lt x (by simp [hx])
  obtain ⟨u1, ok1, pu1⟩ := Go.Gim.open_one 5 (by kernel_rfl : Go.Gim.cellsTy Tryz.prog 5 3 = some [.int .i64]) (by kernel_rfl) (hval 1 3 v1 rfl rfl) h1
  obtain ⟨n1, b1, e1⟩ := Go.Gim.int_i64_of ok1
  rw [e1] at pu1
  have hlt2 : ∀ x ∈ p2, x.block < W.heap.size := fun x hx => hW'.lt x (by simp [hx])
  obtain ⟨u2, ok2, pu2⟩ := Go.Gim.open_one 5 (by kernel_rfl : Go.Gim.cellsTy Tryz.prog 5 2 = some [.int .i64]) (by kernel_rfl) (hval 2 2 v2 rfl rfl) h2
  obtain ⟨n2, b2, e2⟩ := Go.Gim.int_i64_of ok2
  rw [e2] at pu2
  have hlt3 : ∀ x ∈ p3, x.block < W.heap.size := fun x hx => hW'.lt x (by simp [hx])
  obtain ⟨u3, ok3, pu3⟩ := Go.Gim.open_one 5 (by kernel_rfl : Go.Gim.cellsTy Tryz.prog 5 3 = some [.int .i64]) (by kernel_rfl) (hval 3 3 v3 rfl rfl) h3
  obtain ⟨n3, b3, e3⟩ := Go.Gim.int_i64_of ok3
  rw [e3] at pu3
  refine (Go.Gim.Ret.law (Go.Gim.TopSteady_true n0 n1 n2 n3 ) W (Go.Gim.counts_ok hL) (.cons pu0 (.cons pu1 (.cons pu2 (.cons pu3 .nil))))).mono fun e W' ⟨he, bel⟩ => ?_
  subst he
  exact ⟨_, rfl, _, _, _, _, _, _, hW', trodAll_mk1 (shut_bool Tryz.underlying4 _), (trodAll_cons_mk (Below.trod laidOut (by kernel_rfl) (of_decide_eq_true (by kernel_rfl)) h0 bel hlt0) (trodAll_cons_mk (Below.trod laidOut (by kernel_rfl) (of_decide_eq_true (by kernel_rfl)) h1 bel hlt1) (trodAll_cons_mk (Below.trod laidOut (by kernel_rfl) (of_decide_eq_true (by kernel_rfl)) h2 bel hlt2) (trodAll_cons_mk (Below.trod laidOut (by kernel_rfl) (of_decide_eq_true (by kernel_rfl)) h3 bel hlt3) trodAll_mk0)))), rfl, bel.frame _, fun h => by cases h⟩
theorem over : Rows.TopSteadySaid :=
  OpenClaim.holds_of_wide 3 Tryz.f3 rfl rfl rfl rfl rfl rfl rfl ⟨rfl, rfl, rfl, rfl, rfl⟩ rfl rfl rfl rfl rfl (by kernel_rfl) Tryz.func3 (by kernel_rfl)
    (of_decide_eq_true (by kernel_rfl)) (by unfold Func.isWrapper; first | (rw [if_pos (by decide +kernel)]; kernel_rfl) | (rw [if_neg (by decide +kernel)]; exact ⟨rfl, rfl⟩))
    (fun os started H enc _ => lifted os started H enc)
theorem proved : Rows.TopSteadyCardSaid :=
  Claim7.holds_tied_plain_at .later [] [.data] true _ false
    over (fun _ h => by cases h) (by kernel_rfl) (fun _ h => by cases h) topSteady_row_tie rfl ⟨rfl, rfl⟩ (by kernel_rfl) rfl
    (fun f fn hf hfn => by
      obtain rfl : f = 3 := Option.some.inj ((show Tryz.prog.funcNamed "gimbal/gimbaltop.TopSteady" = some 3 by kernel_rfl).symm.trans hf) |>.symm
      obtain rfl : fn = Tryz.f3 := (Option.some.inj (Tryz.func3.symm.trans hfn)).symm
      refine ⟨by kernel_rfl, fun j t ht => ?_⟩
      rw [Tryz.params3] at ht
      match j, ht with
      | 0, ht =>
        obtain rfl : t = 2 := by simpa using ht.symm
        exact (show Tryz.prog.wantsStandIn 2 = false by kernel_rfl)
      | 1, ht =>
        obtain rfl : t = 3 := by simpa using ht.symm
        exact (show Tryz.prog.wantsStandIn 3 = false by kernel_rfl)
      | 2, ht =>
        obtain rfl : t = 2 := by simpa using ht.symm
        exact (show Tryz.prog.wantsStandIn 2 = false by kernel_rfl)
      | 3, ht =>
        obtain rfl : t = 3 := by simpa using ht.symm
        exact (show Tryz.prog.wantsStandIn 3 = false by kernel_rfl)
      | j + 4, ht => simp at ht)
    (by kernel_rfl)
#print axioms proved
end Go.Proofs.YtjmbcnfhonfpkaaGreatDoor.topSteady
namespace Go.Proofs.YtjmbcnfhonfpkaaGreatDoor
theorem topSteady_holds : Rows.TopSteadyCardSaid := topSteady.proved
end Go.Proofs.YtjmbcnfhonfpkaaGreatDoor
