/- The law CodecOnly, for every input: its row, and the tied card. -/
import Derived.Test.YtnaclocpmkldnaaDoorRows
import Derived.Test.YtnaclocpmkldnaaDoorCards
import Derived.Test.YtnaclocpmkldnaaDoorTie
import Derived.Test.YtnaclocpmkldnaaDoorF13
import Derived.Test.YtnaclocpmkldnaaDoorF18
import Derived.Test.YtnaclocpmkldnaaDoorC12
import Derived.WalkKit
import Derived.ProofKit
import Derived.OpenShut
import Derived.ShutString
import Derived.ChangeOld
import Derived.Below
import Derived.SizedLaws
import Derived.Carry
import Derived.LaidLaws
import Derived.Handed
import Derived.SevenTiedAt
set_option linter.unusedVariables false
set_option linter.unusedSimpArgs false
namespace Go.Proofs.YtnaclocpmkldnaaDoor.codecOnly
open Go.ChangeShapes Go.WideShapes Go.ChangeAt Go.RowKit
theorem own : ownKnob Tryd.prog.godebug = none := by kernel_rfl
theorem laidOut : laidOutB Tryd.prog = true := by kernel_rfl
noncomputable def theWorld (os : Os) : World :=
  let w0 := World.holding Tryd.prog os ⟨#[], #[], []⟩
  { w0 with heap := w0.heap.modify 0 fun
      | .cells _ t frozen => .cells #[.int .i64 0, .int .i64 6, .int .i64 6, .int .i64 1, .int .i64 3] t frozen
      | o => o }
theorem laid_met (os : Os) (args : Array Value) : laidMet Tryd.prog Rows.codecOnlyRow.laid ((theWorld os).forCall (fun _ _ => 0) ⟨#[], args, []⟩).memory :=
  laidMet_of_run (ps := [.cell 0 0, .cell 0 1, .cell 0 2, .cell 0 3, .cell 0 4]) 8 (by kernel_rfl) (by kernel_rfl) (by kernel_rfl)
set_option maxRecDepth 100000 in
theorem lifted (os : Os) (started : os.Started) (H : Type) (enc : TypeId × Value → H) :
    ReturnsInHanded {} Tryd.checked os 6 .any (fun w args => (Rows.codecOnlySpec.pre enc Tryd.prog Tryd.f6 Rows.codecOnlyRow.domain false w args ∧ laidMet Tryd.prog Rows.codecOnlyRow.laid w) ∧ sizedMet enc Tryd.prog Tryd.f6 (OpenSpec.ofChange Rows.codecOnlySpec) false w args)
      (Rows.codecOnlySpec.post enc Tryd.prog Tryd.f6 false true false false) := by
  refine returnsInHanded_of_change_and (C := Tryd.checked) (X := fun w _ => laidMet Tryd.prog Rows.codecOnlyRow.laid w) (fun _ _ _ hh h => h.of_heap hh) own started (by kernel_rfl) Tryd.func6
    (ChangeSpec.witness_at (enc := enc) (C := Tryd.checked) (os := os) (X := fun w _ => laidMet Tryd.prog Rows.codecOnlyRow.laid w) false (theWorld os) #[.int .u8 0, .string ⟨#[]⟩, .string ⟨#[]⟩] 8 rfl (by kernel_rfl) (by kernel_rfl) (by kernel_rfl) (by kernel_rfl) (by kernel_rfl) (laid_met os _)) ?_
  intro W base args ds gs before hval0 hW hcnd0 _ hL _
  have hval : ∀ (j : Nat) t v, Tryd.f6.params[j]? = some t → args[j]? = some v → Value.okWide Tryd.prog W .any base t v := hval0
  have hW' := hW
  obtain ⟨p, q, hA0, hV, rfl, hfz, hnd⟩ := hW
  have hA : DataW.TrodAll enc Tryd.prog W 0 (fun _ => true) true Tryd.f6.params.toList args.toList ds p := hA0
  rw [Tryd.params6] at hA hval
  obtain ⟨v0, vs0, d0, ds0, p0, q0, hargs, rfl, rfl, h0, r0⟩ := trodAll_cons hA
  obtain ⟨v1, vs1, d1, ds1, p1, q1, rfl, rfl, rfl, h1, r1⟩ := trodAll_cons r0
  obtain ⟨v2, vs2, d2, ds2, p2, q2, rfl, rfl, rfl, h2, r2⟩ := trodAll_cons r1
  obtain ⟨rfl, rfl, rfl⟩ := trodAll_nil r2
  obtain rfl : args = #[v0, v1, v2] := by cases args; simp_all
  obtain ⟨rfl, rfl⟩ := trodVars_none hV
  have hlt0 : ∀ x ∈ p0, x.block < W.heap.size := fun x hx => hW'.lt x (by simp [hx])
  obtain ⟨u0, ok0, pu0⟩ := Go.Gim.open_one 5 (by kernel_rfl : Go.Gim.cellsTy Tryd.prog 5 5 = some [.int .u8]) (by kernel_rfl) (hval 0 5 v0 rfl rfl) h0
  obtain ⟨n0, b0, e0⟩ := Go.Gim.int_u8_of ok0
  rw [e0] at pu0
  have hlt1 : ∀ x ∈ p1, x.block < W.heap.size := fun x hx => hW'.lt x (by simp [hx])
  obtain ⟨u1, ok1, pu1⟩ := Go.Gim.open_one 5 (by kernel_rfl : Go.Gim.cellsTy Tryd.prog 5 9 = some [.str]) (by kernel_rfl) (hval 1 9 v1 rfl rfl) h1
  obtain ⟨l1, b1, c1, e1⟩ := Go.Gim.text_of ok1
  rw [e1] at pu1
  have hlt2 : ∀ x ∈ p2, x.block < W.heap.size := fun x hx => hW'.lt x (by simp [hx])
  obtain ⟨u2, ok2, pu2⟩ := Go.Gim.open_one 5 (by kernel_rfl : Go.Gim.cellsTy Tryd.prog 5 9 = some [.str]) (by kernel_rfl) (hval 2 9 v2 rfl rfl) h2
  obtain ⟨l2, b2, c2, e2⟩ := Go.Gim.text_of ok2
  rw [e2] at pu2
  refine (Go.Gim.Ret.law (Go.Gim.CodecOnly_true n0 l1 l2 b0 b1 b2 c1 c2) W (Go.Gim.counts_ok hL) (.cons pu0 (.cons pu1 (.cons pu2 .nil)))).mono fun e W' ⟨he, bel⟩ => ?_
  subst he
  exact ⟨_, rfl, _, _, _, _, _, _, hW', trodAll_mk1 (shut_bool Tryd.underlying4 _), (trodAll_cons_mk (Below.trod laidOut (by kernel_rfl) (of_decide_eq_true (by kernel_rfl)) h0 bel hlt0) (trodAll_cons_mk (Below.trod laidOut (by kernel_rfl) (of_decide_eq_true (by kernel_rfl)) h1 bel hlt1) (trodAll_cons_mk (Below.trod laidOut (by kernel_rfl) (of_decide_eq_true (by kernel_rfl)) h2 bel hlt2) trodAll_mk0))), rfl, bel.frame _, fun h => by cases h⟩
theorem over : Rows.CodecOnlySaid :=
  OpenClaim.holds_of_wide 6 Tryd.f6 rfl rfl rfl rfl rfl rfl rfl ⟨rfl, rfl, rfl, rfl, rfl⟩ rfl rfl rfl rfl rfl (by kernel_rfl) Tryd.func6 (by kernel_rfl)
    (of_decide_eq_true (by kernel_rfl)) (by unfold Func.isWrapper; first | (rw [if_pos (by decide +kernel)]; kernel_rfl) | (rw [if_neg (by decide +kernel)]; exact ⟨rfl, rfl⟩))
    (fun os started H enc _ => lifted os started H enc)
theorem proved : Rows.CodecOnlyCardSaid :=
  Claim7.holds_tied_plain_at .later [] [.data] true _ false
    over (fun _ h => by cases h) (by kernel_rfl) (fun _ h => by cases h) codecOnly_row_tie rfl ⟨rfl, rfl⟩ (by kernel_rfl) rfl
    (fun f fn hf hfn => by
      obtain rfl : f = 6 := Option.some.inj ((show Tryd.prog.funcNamed "gimbal/gimballaw12.CodecOnly" = some 6 by kernel_rfl).symm.trans hf) |>.symm
      obtain rfl : fn = Tryd.f6 := (Option.some.inj (Tryd.func6.symm.trans hfn)).symm
      refine ⟨by kernel_rfl, fun j t ht => ?_⟩
      rw [Tryd.params6] at ht
      match j, ht with
      | 0, ht =>
        obtain rfl : t = 5 := by simpa using ht.symm
        exact (show Tryd.prog.wantsStandIn 5 = false by kernel_rfl)
      | 1, ht =>
        obtain rfl : t = 9 := by simpa using ht.symm
        exact (show Tryd.prog.wantsStandIn 9 = false by kernel_rfl)
      | 2, ht =>
        obtain rfl : t = 9 := by simpa using ht.symm
        exact (show Tryd.prog.wantsStandIn 9 = false by kernel_rfl)
      | j + 3, ht => simp at ht)
    (by kernel_rfl)
#print axioms proved
end Go.Proofs.YtnaclocpmkldnaaDoor.codecOnly
namespace Go.Proofs.YtnaclocpmkldnaaDoor
theorem codecOnly_holds : Rows.CodecOnlyCardSaid := codecOnly.proved
end Go.Proofs.YtnaclocpmkldnaaDoor
