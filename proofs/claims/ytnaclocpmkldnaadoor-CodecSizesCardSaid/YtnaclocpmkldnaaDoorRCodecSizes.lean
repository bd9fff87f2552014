/- The law CodecSizes, for every input: its row, and the tied card. -/
import Derived.Test.YtnaclocpmkldnaaDoorRows
import Derived.Test.YtnaclocpmkldnaaDoorCards
import Derived.Test.YtnaclocpmkldnaaDoorTie
import Derived.Test.YtnaclocpmkldnaaDoorF13
import Derived.Test.YtnaclocpmkldnaaDoorF18
import Derived.Test.YtnaclocpmkldnaaDoorC12
import Derived.WalkKit
import Derived.ProofKit
import Derived.OpenShut
import Derived.ShutString
import Derived.ChangeOld
import Derived.Below
import Derived.SizedLaws
import Derived.Carry
import Derived.LaidLaws
import Derived.Handed
import Derived.SevenTiedAt
set_option linter.unusedVariables false
set_option linter.unusedSimpArgs false
namespace Go.Proofs.YtnaclocpmkldnaaDoor.codecSizes
open Go.ChangeShapes Go.WideShapes Go.ChangeAt Go.RowKit
theorem own : ownKnob Tryd.prog.godebug = none := by kernel_rfl
theorem laidOut : laidOutB Tryd.prog = true := by kernel_rfl
noncomputable def theWorld (os : Os) : World :=
  let w0 := World.holding Tryd.prog os ⟨#[], #[], []⟩
  { w0 with heap := w0.heap.modify 0 fun
      | .cells _ t frozen => .cells #[.int .i64 0, .int .i64 6, .int .i64 6, .int .i64 1, .int .i64 3] t frozen
      | o => o }
theorem laid_met (os : Os) (args : Array Value) : laidMet Tryd.prog Rows.codecSizesRow.laid ((theWorld os).forCall (fun _ _ => 0) ⟨#[], args, []⟩).memory :=
  laidMet_of_run (ps := [.cell 0 0, .cell 0 1, .cell 0 2, .cell 0 3, .cell 0 4]) 8 (by kernel_rfl) (by kernel_rfl) (by kernel_rfl)
set_option maxRecDepth 100000 in
theorem lifted (os : Os) (started : os.Started) (H : Type) (enc : TypeId × Value → H) :
    ReturnsInHanded {} Tryd.checked os 7 .any (fun w args => (Rows.codecSizesSpec.pre enc Tryd.prog Tryd.f7 Rows.codecSizesRow.domain false w args ∧ laidMet Tryd.prog Rows.codecSizesRow.laid w) ∧ sizedMet enc Tryd.prog Tryd.f7 (OpenSpec.ofChange Rows.codecSizesSpec) false w args)
      (Rows.codecSizesSpec.post enc Tryd.prog Tryd.f7 false true false false) := by
  refine returnsInHanded_of_change_and (C := Tryd.checked) (X := fun w _ => laidMet Tryd.prog Rows.codecSizesRow.laid w) (fun _ _ _ hh h => h.of_heap hh) own started (by kernel_rfl) Tryd.func7
    (ChangeSpec.witness_at (enc := enc) (C := Tryd.checked) (os := os) (X := fun w _ => laidMet Tryd.prog Rows.codecSizesRow.laid w) false (theWorld os) #[.int .i64 0, .agg #[.int .i64 0, .int .i64 0, .int .i64 0, .slice none 0 0]] 8 rfl (by kernel_rfl) (by kernel_rfl) (by kernel_rfl) (by kernel_rfl) (by kernel_rfl) (laid_met os _)) ?_
  intro W base args ds gs before hval0 hW hcnd0 _ hL _
  have hval : ∀ (j : Nat) t v, Tryd.f7.params[j]? = some t → args[j]? = some v → Value.okWide Tryd.prog W .any base t v := hval0
  have hW' := hW
  obtain ⟨p, q, hA0, hV, rfl, hfz, hnd⟩ := hW
  have hA : DataW.TrodAll enc Tryd.prog W 0 (fun _ => true) true Tryd.f7.params.toList args.toList ds p := hA0
  rw [Tryd.params7] at hA hval
  obtain ⟨v0, vs0, d0, ds0, p0, q0, hargs, rfl, rfl, h0, r0⟩ := trodAll_cons hA
  obtain ⟨v1, vs1, d1, ds1, p1, q1, rfl, rfl, rfl, h1, r1⟩ := trodAll_cons r0
  obtain ⟨rfl, rfl, rfl⟩ := trodAll_nil r1
  obtain rfl : args = #[v0, v1] := by cases args; simp_all
  obtain ⟨rfl, rfl⟩ := trodVars_none hV
  have hlt0 : ∀ x ∈ p0, x.block < W.heap.size := fun x hx => hW'.lt x (by simp [hx])
  obtain ⟨u0, ok0, pu0⟩ := Go.Gim.open_one 5 (by kernel_rfl : Go.Gim.cellsTy Tryd.prog 5 3 = some [.int .i64]) (by kernel_rfl) (hval 0 3 v0 rfl rfl) h0
  obtain ⟨n0, b0, e0⟩ := Go.Gim.int_i64_of ok0
  rw [e0] at pu0
  have hlt1 : ∀ x ∈ p1, x.block < W.heap.size := fun x hx => hW'.lt x (by simp [hx])
  obtain ⟨us1, ok1, pu1⟩ := Go.Gim.open_agg 5 (by kernel_rfl : Go.Gim.cellsTy Tryd.prog 5 24 = some [.int .i64, .int .i64, .int .i64, .sl [.int .i64] false]) (by kernel_rfl) (by kernel_rfl) (hval 1 24 v1 rfl rfl) h1
  obtain ⟨k1, a1, s1, l1, e1, b1⟩ := Go.Gim.measure_of ok1
  rw [e1] at pu1
  refine (Go.Gim.Ret.law (Go.Gim.CodecSizes_true n0 k1 a1 s1 l1 b1) W (Go.Gim.counts_ok hL) (.cons pu0 (.cons pu1 .nil))).mono fun e W' ⟨he, bel⟩ => ?_
  subst he
  exact ⟨_, rfl, _, _, _, _, _, _, hW', trodAll_mk1 (shut_bool Tryd.underlying4 _), (trodAll_cons_mk (Below.trod laidOut (by kernel_rfl) (of_decide_eq_true (by kernel_rfl)) h0 bel hlt0) (trodAll_cons_mk (Below.trod laidOut (by kernel_rfl) (of_decide_eq_true (by kernel_rfl)) h1 bel hlt1) trodAll_mk0)), rfl, bel.frame _, fun h => by cases h⟩
theorem over : Rows.CodecSizesSaid :=
  OpenClaim.holds_of_wide 7 Tryd.f7 rfl rfl rfl rfl rfl rfl rfl ⟨rfl, rfl, rfl, rfl, rfl⟩ rfl rfl rfl rfl rfl (by kernel_rfl) Tryd.func7 (by kernel_rfl)
    (of_decide_eq_true (by kernel_rfl)) (by unfold Func.isWrapper; first | (rw [if_pos (by decide +kernel)]; kernel_rfl) | (rw [if_neg (by decide +kernel)]; exact ⟨rfl, rfl⟩))
    (fun os started H enc _ => lifted os started H enc)
theorem proved : Rows.CodecSizesCardSaid :=
  Claim7.holds_tied_plain_at .later [] [.data] true _ false
    over (fun _ h => by cases h) (by kernel_rfl) (fun _ h => by cases h) codecSizes_row_tie rfl ⟨rfl, rfl⟩ (by kernel_rfl) rfl
    (fun f fn hf hfn => by
      obtain rfl : f = 7 := Option.some.inj ((show Tryd.prog.funcNamed "gimbal/gimballaw12.CodecSizes" = some 7 by kernel_rfl).symm.trans hf) |>.symm
      obtain rfl : fn = Tryd.f7 := (Option.some.inj (Tryd.func7.symm.trans hfn)).symm
      refine ⟨by kernel_rfl, fun j t ht => ?_⟩
      rw [Tryd.params7] at ht
      match j, ht with
      | 0, ht =>
        obtain rfl : t = 3 := by simpa using ht.symm
        exact (show Tryd.prog.wantsStandIn 3 = false by kernel_rfl)
      | 1, ht =>
        obtain rfl : t = 24 := by simpa using ht.symm
        exact (show Tryd.prog.wantsStandIn 24 = false by kernel_rfl)
      | j + 2, ht => simp at ht)
    (by kernel_rfl)
#print axioms proved
end Go.Proofs.YtnaclocpmkldnaaDoor.codecSizes
namespace Go.Proofs.YtnaclocpmkldnaaDoor
theorem codecSizes_holds : Rows.CodecSizesCardSaid := codecSizes.proved
end Go.Proofs.YtnaclocpmkldnaaDoor
