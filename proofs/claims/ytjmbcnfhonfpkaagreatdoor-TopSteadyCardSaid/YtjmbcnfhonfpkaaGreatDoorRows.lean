/-
  NARROWER THAN 'FOR EVERY INPUT', by the rows' own cells (each row's printed sentence says how): TopSteady: laid · TopTurns: laid · TopTurned: laid.
  DERIVED. THE GIVEN ROWS OF THIS SEAT. 3 by the template 'for every input the law returns true; each argument reads behind the call as it read before'; 0 by the template 'total and deterministic' (their statements: YtjmbcnfhonfpkaaGreatDoorTotals.lean).
  GIVEN WITH THE SEED: the statements are not yours to turn. If you find one false, say at which input.
  Laid BY PROGRAM, IN A SANDBOX (cutbox-rows.mjs): the forced cells as the released guide's own fill.sh prints them over the translation 447960adc4f47e7b… (all of the seat's roots in one cut). By AI agents, Wed Nov 11 2026. No macro, syntax, notation, axiom, sorry.
-/
import Derived.Test.YtjmbcnfhonfpkaaGreatDoorChecked
import GoSem.Claim
import GoSem.ClaimJoined
import GoSem.ClaimMapViews
import Derived.JoinedTies
import Derived.KernelRfl
namespace Go.Proofs.YtjmbcnfhonfpkaaGreatDoor
/- THE CELL 'sum', in the pinned program and in every row, IS THE sha256 OF THE DUMP (.gsa) THAT YtjmbcnfhonfpkaaGreatDoorProg.lean LOADS. Nothing in Lean hashes anything: it is a label: what it is worth is what the hold of that sum in a sandbox is worth. -/
noncomputable def Tryz.pinned : Pinned := { name := "ytjmbcnfhonfpkaagreatdoor", sum := "447960adc4f47e7b93cc7cd724462b4215ad4109c04f5b79d7cc2bed78d442b8", checked := Tryz.checked }
namespace Rows
def none {H : Type} : Left H := { results := [], args := [] }

/- WHAT THE LISTED PACKAGE-LEVEL VARIABLES READ AS WHEN THE CALL BEGINS. Each datum BY PROGRAM (the guide's laid-datum.mjs) off the statement by which the dump's own 'gosem.cut.vars' lays the variable. In a bare row this is a premise. The card (YtjmbcnfhonfpkaaGreatDoorCards.lean) ties it to the program's text. -/
def laid_gimbal_codec_counts {H : Type} : DataW H := .agg [.lit (.int .i64 0), .lit (.int .i64 6), .lit (.int .i64 6), .lit (.int .i64 1), .lit (.int .i64 3)]

/-- 'gimbaltop.TopSteady': WHATEVER THE INPUT: true; the input reads as it did. -/
def topSteadySpec : ChangeSpec := { name := "topSteady", fn := fun _ => fun
  | [d1, d2, d3, d4] => { results := [.lit (.bool true)], args := [d1, d2, d3, d4] }
  | _ => none }
def topSteadyRow : OpenClaim := { program := "ytjmbcnfhonfpkaagreatdoor", sum := "447960adc4f47e7b93cc7cd724462b4215ad4109c04f5b79d7cc2bed78d442b8", func := "gimbal/gimbaltop.TopSteady", spec := "topSteady", unfollowed := true, recurses := true, named := ["gimbal/codec.counts"], apart := false, laid := [("gimbal/codec.counts", laid_gimbal_codec_counts)] }
def TopSteadySaid : Prop := topSteadyRow.holds Tryz.pinned (OpenSpec.ofChange topSteadySpec)

/-- ITS FALSE NEIGHBOUR: 'it returns false'. Refute it at one input. -/
def topSteadyWrong : ChangeSpec := { name := "topSteady", fn := fun _ => fun
  | [d1, d2, d3, d4] => { results := [.lit (.bool false)], args := [d1, d2, d3, d4] }
  | _ => none }
def TopSteadyWrongFalsely : Prop := topSteadyRow.holds Tryz.pinned (OpenSpec.ofChange topSteadyWrong)

/-- 'gimbaltop.TopTurns': WHATEVER THE INPUT: true; the input reads as it did. -/
def topTurnsSpec : ChangeSpec := { name := "topTurns", fn := fun _ => fun
  | [d1, d2, d3, d4, d5] => { results := [.lit (.bool true)], args := [d1, d2, d3, d4, d5] }
  | _ => none }
def topTurnsRow : OpenClaim := { program := "ytjmbcnfhonfpkaagreatdoor", sum := "447960adc4f47e7b93cc7cd724462b4215ad4109c04f5b79d7cc2bed78d442b8", func := "gimbal/gimbaltop.TopTurns", spec := "topTurns", unfollowed := true, recurses := true, named := ["gimbal/codec.counts"], apart := false, laid := [("gimbal/codec.counts", laid_gimbal_codec_counts)] }
def TopTurnsSaid : Prop := topTurnsRow.holds Tryz.pinned (OpenSpec.ofChange topTurnsSpec)

/-- ITS FALSE NEIGHBOUR: 'it returns false'. Refute it at one input. -/
def topTurnsWrong : ChangeSpec := { name := "topTurns", fn := fun _ => fun
  | [d1, d2, d3, d4, d5] => { results := [.lit (.bool false)], args := [d1, d2, d3, d4, d5] }
  | _ => none }
def TopTurnsWrongFalsely : Prop := topTurnsRow.holds Tryz.pinned (OpenSpec.ofChange topTurnsWrong)

/-- 'gimbaltop.TopTurned': WHATEVER THE INPUT: true; the input reads as it did. -/
def topTurnedSpec : ChangeSpec := { name := "topTurned", fn := fun _ => fun
  | [d1, d2, d3] => { results := [.lit (.bool true)], args := [d1, d2, d3] }
  | _ => none }
def topTurnedRow : OpenClaim := { program := "ytjmbcnfhonfpkaagreatdoor", sum := "447960adc4f47e7b93cc7cd724462b4215ad4109c04f5b79d7cc2bed78d442b8", func := "gimbal/gimbaltop.TopTurned", spec := "topTurned", inPlace := ["sync/atomic.LoadUint32", "(*internal/sync.Mutex).Lock", "internal/race.Disable", "sync/atomic.CompareAndSwapInt32", "internal/race.Enable", "internal/race.Acquire", "(*internal/sync.Mutex).lockSlow", "internal/sync.runtime_canSpin", "internal/sync.runtime_doSpin", "internal/sync.throw", "internal/sync.runtime_nanotime", "internal/sync.runtime_SemacquireMutex", "sync/atomic.AddInt32", "(*internal/sync.Mutex).Unlock", "internal/race.ReleaseMerge", "(*internal/sync.Mutex).unlockSlow", "internal/sync.fatal", "internal/sync.runtime_Semrelease", "sync/atomic.StoreUint32", "slices.overlaps[gimbal/api.Measure]", "sync/atomic.AddInt64", "sync/atomic.LoadInt64"], unfollowed := true, recurses := true, named := ["gimbal/codec.counts"], apart := false, laid := [("gimbal/codec.counts", laid_gimbal_codec_counts)] }
def TopTurnedSaid : Prop := topTurnedRow.holds Tryz.pinned (OpenSpec.ofChange topTurnedSpec)

/-- ITS FALSE NEIGHBOUR: 'it returns false'. Refute it at one input. -/
def topTurnedWrong : ChangeSpec := { name := "topTurned", fn := fun _ => fun
  | [d1, d2, d3] => { results := [.lit (.bool false)], args := [d1, d2, d3] }
  | _ => none }
def TopTurnedWrongFalsely : Prop := topTurnedRow.holds Tryz.pinned (OpenSpec.ofChange topTurnedWrong)

/- THE SECOND FORM. 'bulk': how many values and letters a reading holds, each counted each time it is reached (what is shared counts as often as it is met; a slice's spare places count too). A statement '..UptoSaid' is the law's where the arguments, and the package variables that the reading takes, are together of bulk at most 1048576: NARROWER than '..Said'. Prove '..Said' where nothing that the law and all that it calls make is longer than what came in: it says more and counts as full. Else prove '..UptoSaid'. A law counts once. -/
mutual
def uptoBulk {H : Type} : DataW H → Nat
  | .lit (.string bytes) => bytes.length + 1
  | .lit _ => 1
  | .nil => 1
  | .ptr d => uptoBulk d + 1
  | .slice elems spare => uptoBulkAll elems + uptoBulkAll spare + 1
  | .agg parts => uptoBulkAll parts + 1
  | .iface _ d => uptoBulk d + 1
  | .map entries => uptoBulkEntries entries + 1
  | .held _ => 1
def uptoBulkAll {H : Type} : List (DataW H) → Nat
  | [] => 0
  | d :: r => uptoBulk d + uptoBulkAll r
def uptoBulkEntries {H : Type} : List (Lit × DataW H) → Nat
  | [] => 0
  | x :: r => uptoBulkEntry x + uptoBulkEntries r
def uptoBulkEntry {H : Type} : Lit × DataW H → Nat
  | (.string bytes, d) => bytes.length + uptoBulk d + 1
  | (_, d) => uptoBulk d + 1
 end
def uptoSmall : (H : Type) → List (DataW H) → Bool := fun _ ds => decide (uptoBulkAll ds ≤ 1048576)
def OpenSpec.upto (s : _root_.Go.ChangeSpec) : _root_.Go.OpenSpec := { _root_.Go.OpenSpec.ofChange s with cond := some uptoSmall }

/-- 'gimbaltop.TopSteady', WHERE WHAT IT READS IS OF BULK AT MOST 1048576: true; the input reads as it did. -/
def topSteadyUptoRow : OpenClaim := { program := "ytjmbcnfhonfpkaagreatdoor", sum := "447960adc4f47e7b93cc7cd724462b4215ad4109c04f5b79d7cc2bed78d442b8", func := "gimbal/gimbaltop.TopSteady", spec := "topSteady", unfollowed := true, recurses := true, named := ["gimbal/codec.counts"], apart := false, laid := [("gimbal/codec.counts", laid_gimbal_codec_counts)], narrowed := true }
def TopSteadyUptoSaid : Prop := topSteadyUptoRow.holds Tryz.pinned (OpenSpec.upto topSteadySpec)

/-- 'gimbaltop.TopTurns', WHERE WHAT IT READS IS OF BULK AT MOST 1048576: true; the input reads as it did. -/
def topTurnsUptoRow : OpenClaim := { program := "ytjmbcnfhonfpkaagreatdoor", sum := "447960adc4f47e7b93cc7cd724462b4215ad4109c04f5b79d7cc2bed78d442b8", func := "gimbal/gimbaltop.TopTurns", spec := "topTurns", unfollowed := true, recurses := true, named := ["gimbal/codec.counts"], apart := false, laid := [("gimbal/codec.counts", laid_gimbal_codec_counts)], narrowed := true }
def TopTurnsUptoSaid : Prop := topTurnsUptoRow.holds Tryz.pinned (OpenSpec.upto topTurnsSpec)

/-- 'gimbaltop.TopTurned', WHERE WHAT IT READS IS OF BULK AT MOST 1048576: true; the input reads as it did. -/
def topTurnedUptoRow : OpenClaim := { program := "ytjmbcnfhonfpkaagreatdoor", sum := "447960adc4f47e7b93cc7cd724462b4215ad4109c04f5b79d7cc2bed78d442b8", func := "gimbal/gimbaltop.TopTurned", spec := "topTurned", inPlace := ["sync/atomic.LoadUint32", "(*internal/sync.Mutex).Lock", "internal/race.Disable", "sync/atomic.CompareAndSwapInt32", "internal/race.Enable", "internal/race.Acquire", "(*internal/sync.Mutex).lockSlow", "internal/sync.runtime_canSpin", "internal/sync.runtime_doSpin", "internal/sync.throw", "internal/sync.runtime_nanotime", "internal/sync.runtime_SemacquireMutex", "sync/atomic.AddInt32", "(*internal/sync.Mutex).Unlock", "internal/race.ReleaseMerge", "(*internal/sync.Mutex).unlockSlow", "internal/sync.fatal", "internal/sync.runtime_Semrelease", "sync/atomic.StoreUint32", "slices.overlaps[gimbal/api.Measure]", "sync/atomic.AddInt64", "sync/atomic.LoadInt64"], unfollowed := true, recurses := true, named := ["gimbal/codec.counts"], apart := false, laid := [("gimbal/codec.counts", laid_gimbal_codec_counts)], narrowed := true }
def TopTurnedUptoSaid : Prop := topTurnedUptoRow.holds Tryz.pinned (OpenSpec.upto topTurnedSpec)

end Rows
end Go.Proofs.YtjmbcnfhonfpkaaGreatDoor
