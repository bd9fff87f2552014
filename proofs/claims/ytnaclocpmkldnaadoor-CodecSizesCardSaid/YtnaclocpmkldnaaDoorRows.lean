/-
  NARROWER THAN 'FOR EVERY INPUT', by the rows' own cells (each row's printed sentence says how): CodecWrites: laid · CodecReads: laid · CodecBack: laid · CodecOnly: laid · CodecSizes: laid · TrackPlays: laid · TrackOrder: laid · TrackKeeps: laid · TrackFull: laid · TrackCounts: laid.
  DERIVED. THE GIVEN ROWS OF THIS SEAT. 10 by the template 'for every input the law returns true; each argument reads behind the call as it read before'; 0 by the template 'total and deterministic' (their statements: YtnaclocpmkldnaaDoorTotals.lean).
  GIVEN WITH THE SEED: the statements are not yours to turn. If you find one false, say at which input.
  Laid BY PROGRAM, IN A SANDBOX (cutbox-rows.mjs): the forced cells as the released guide's own fill.sh prints them over the translation 505f7234909ff8fc… (all of the seat's roots in one cut). By AI agents, Wed Nov 11 2026. No macro, syntax, notation, axiom, sorry.
-/
import Derived.Test.YtnaclocpmkldnaaDoorChecked
import GoSem.Claim
import GoSem.ClaimJoined
import GoSem.ClaimMapViews
import Derived.JoinedTies
import Derived.KernelRfl
namespace Go.Proofs.YtnaclocpmkldnaaDoor
/- THE CELL 'sum', in the pinned program and in every row, IS THE sha256 OF THE DUMP (.gsa) THAT YtnaclocpmkldnaaDoorProg.lean LOADS. Nothing in Lean hashes anything: it is a label: what it is worth is what the hold of that sum in a sandbox is worth. -/
noncomputable def Tryd.pinned : Pinned := { name := "ytnaclocpmkldnaadoor", sum := "505f7234909ff8fcec50b7d73f6ca0947f3c1a39bc5fcb9f48103e4d91984317", checked := Tryd.checked }
namespace Rows
def none {H : Type} : Left H := { results := [], args := [] }

/- WHAT THE LISTED PACKAGE-LEVEL VARIABLES READ AS WHEN THE CALL BEGINS. Each datum BY PROGRAM (the guide's laid-datum.mjs) off the statement by which the dump's own 'gosem.cut.vars' lays the variable. In a bare row this is a premise. The card (YtnaclocpmkldnaaDoorCards.lean) ties it to the program's text. -/
def laid_gimbal_codec_counts {H : Type} : DataW H := .agg [.lit (.int .i64 0), .lit (.int .i64 6), .lit (.int .i64 6), .lit (.int .i64 1), .lit (.int .i64 3)]

/-- 'gimballaw12.CodecWrites': WHATEVER THE INPUT: true; the input reads as it did. -/
def codecWritesSpec : ChangeSpec := { name := "codecWrites", fn := fun _ => fun
  | [d] => { results := [.lit (.bool true)], args := [d] }
  | _ => none }
def codecWritesRow : OpenClaim := { program := "ytnaclocpmkldnaadoor", sum := "505f7234909ff8fcec50b7d73f6ca0947f3c1a39bc5fcb9f48103e4d91984317", func := "gimbal/gimballaw12.CodecWrites", spec := "codecWrites", named := ["gimbal/codec.counts"], apart := false, laid := [("gimbal/codec.counts", laid_gimbal_codec_counts)] }
def CodecWritesSaid : Prop := codecWritesRow.holds Tryd.pinned (OpenSpec.ofChange codecWritesSpec)

/-- ITS FALSE NEIGHBOUR: 'it returns false'. Refute it at one input. -/
def codecWritesWrong : ChangeSpec := { name := "codecWrites", fn := fun _ => fun
  | [d] => { results := [.lit (.bool false)], args := [d] }
  | _ => none }
def CodecWritesWrongFalsely : Prop := codecWritesRow.holds Tryd.pinned (OpenSpec.ofChange codecWritesWrong)

/-- 'gimballaw12.CodecReads': WHATEVER THE INPUT: true; the input reads as it did. -/
def codecReadsSpec : ChangeSpec := { name := "codecReads", fn := fun _ => fun
  | [d1, d2] => { results := [.lit (.bool true)], args := [d1, d2] }
  | _ => none }
def codecReadsRow : OpenClaim := { program := "ytnaclocpmkldnaadoor", sum := "505f7234909ff8fcec50b7d73f6ca0947f3c1a39bc5fcb9f48103e4d91984317", func := "gimbal/gimballaw12.CodecReads", spec := "codecReads", named := ["gimbal/codec.counts"], apart := false, laid := [("gimbal/codec.counts", laid_gimbal_codec_counts)] }
def CodecReadsSaid : Prop := codecReadsRow.holds Tryd.pinned (OpenSpec.ofChange codecReadsSpec)

/-- ITS FALSE NEIGHBOUR: 'it returns false'. Refute it at one input. -/
def codecReadsWrong : ChangeSpec := { name := "codecReads", fn := fun _ => fun
  | [d1, d2] => { results := [.lit (.bool false)], args := [d1, d2] }
  | _ => none }
def CodecReadsWrongFalsely : Prop := codecReadsRow.holds Tryd.pinned (OpenSpec.ofChange codecReadsWrong)

/-- 'gimballaw12.CodecBack': WHATEVER THE INPUT: true; the input reads as it did. -/
def codecBackSpec : ChangeSpec := { name := "codecBack", fn := fun _ => fun
  | [d] => { results := [.lit (.bool true)], args := [d] }
  | _ => none }
def codecBackRow : OpenClaim := { program := "ytnaclocpmkldnaadoor", sum := "505f7234909ff8fcec50b7d73f6ca0947f3c1a39bc5fcb9f48103e4d91984317", func := "gimbal/gimballaw12.CodecBack", spec := "codecBack", named := ["gimbal/codec.counts"], apart := false, laid := [("gimbal/codec.counts", laid_gimbal_codec_counts)] }
def CodecBackSaid : Prop := codecBackRow.holds Tryd.pinned (OpenSpec.ofChange codecBackSpec)

/-- ITS FALSE NEIGHBOUR: 'it returns false'. Refute it at one input. -/
def codecBackWrong : ChangeSpec := { name := "codecBack", fn := fun _ => fun
  | [d] => { results := [.lit (.bool false)], args := [d] }
  | _ => none }
def CodecBackWrongFalsely : Prop := codecBackRow.holds Tryd.pinned (OpenSpec.ofChange codecBackWrong)

/-- 'gimballaw12.CodecOnly': WHATEVER THE INPUT: true; the input reads as it did. -/
def codecOnlySpec : ChangeSpec := { name := "codecOnly", fn := fun _ => fun
  | [d1, d2, d3] => { results := [.lit (.bool true)], args := [d1, d2, d3] }
  | _ => none }
def codecOnlyRow : OpenClaim := { program := "ytnaclocpmkldnaadoor", sum := "505f7234909ff8fcec50b7d73f6ca0947f3c1a39bc5fcb9f48103e4d91984317", func := "gimbal/gimballaw12.CodecOnly", spec := "codecOnly", named := ["gimbal/codec.counts"], apart := false, laid := [("gimbal/codec.counts", laid_gimbal_codec_counts)] }
def CodecOnlySaid : Prop := codecOnlyRow.holds Tryd.pinned (OpenSpec.ofChange codecOnlySpec)

/-- ITS FALSE NEIGHBOUR: 'it returns false'. Refute it at one input. -/
def codecOnlyWrong : ChangeSpec := { name := "codecOnly", fn := fun _ => fun
  | [d1, d2, d3] => { results := [.lit (.bool false)], args := [d1, d2, d3] }
  | _ => none }
def CodecOnlyWrongFalsely : Prop := codecOnlyRow.holds Tryd.pinned (OpenSpec.ofChange codecOnlyWrong)

/-- 'gimballaw12.CodecSizes': WHATEVER THE INPUT: true; the input reads as it did. -/
def codecSizesSpec : ChangeSpec := { name := "codecSizes", fn := fun _ => fun
  | [d1, d2] => { results := [.lit (.bool true)], args := [d1, d2] }
  | _ => none }
def codecSizesRow : OpenClaim := { program := "ytnaclocpmkldnaadoor", sum := "505f7234909ff8fcec50b7d73f6ca0947f3c1a39bc5fcb9f48103e4d91984317", func := "gimbal/gimballaw12.CodecSizes", spec := "codecSizes", named := ["gimbal/codec.counts"], apart := false, laid := [("gimbal/codec.counts", laid_gimbal_codec_counts)] }
def CodecSizesSaid : Prop := codecSizesRow.holds Tryd.pinned (OpenSpec.ofChange codecSizesSpec)

/-- ITS FALSE NEIGHBOUR: 'it returns false'. Refute it at one input. -/
def codecSizesWrong : ChangeSpec := { name := "codecSizes", fn := fun _ => fun
  | [d1, d2] => { results := [.lit (.bool false)], args := [d1, d2] }
  | _ => none }
def CodecSizesWrongFalsely : Prop := codecSizesRow.holds Tryd.pinned (OpenSpec.ofChange codecSizesWrong)

/-- 'gimballaw14.TrackPlays': WHATEVER THE INPUT: true; the input reads as it did. -/
def trackPlaysSpec : ChangeSpec := { name := "trackPlays", fn := fun _ => fun
  | [d1, d2] => { results := [.lit (.bool true)], args := [d1, d2] }
  | _ => none }
def trackPlaysRow : OpenClaim := { program := "ytnaclocpmkldnaadoor", sum := "505f7234909ff8fcec50b7d73f6ca0947f3c1a39bc5fcb9f48103e4d91984317", func := "gimbal/gimballaw14.TrackPlays", spec := "trackPlays", inPlace := ["slices.overlaps[gimbal/api.Measure]", "sync/atomic.AddInt64", "sync/atomic.LoadInt64"], unfollowed := true, recurses := true, named := ["gimbal/codec.counts"], apart := false, laid := [("gimbal/codec.counts", laid_gimbal_codec_counts)] }
def TrackPlaysSaid : Prop := trackPlaysRow.holds Tryd.pinned (OpenSpec.ofChange trackPlaysSpec)

/-- ITS FALSE NEIGHBOUR: 'it returns false'. Refute it at one input. -/
def trackPlaysWrong : ChangeSpec := { name := "trackPlays", fn := fun _ => fun
  | [d1, d2] => { results := [.lit (.bool false)], args := [d1, d2] }
  | _ => none }
def TrackPlaysWrongFalsely : Prop := trackPlaysRow.holds Tryd.pinned (OpenSpec.ofChange trackPlaysWrong)

/-- 'gimballaw14.TrackOrder': WHATEVER THE INPUT: true; the input reads as it did. -/
def trackOrderSpec : ChangeSpec := { name := "trackOrder", fn := fun _ => fun
  | [d1, d2, d3] => { results := [.lit (.bool true)], args := [d1, d2, d3] }
  | _ => none }
def trackOrderRow : OpenClaim := { program := "ytnaclocpmkldnaadoor", sum := "505f7234909ff8fcec50b7d73f6ca0947f3c1a39bc5fcb9f48103e4d91984317", func := "gimbal/gimballaw14.TrackOrder", spec := "trackOrder", inPlace := ["slices.overlaps[gimbal/api.Measure]", "sync/atomic.AddInt64", "sync/atomic.LoadInt64"], unfollowed := true, recurses := true, named := ["gimbal/codec.counts"], apart := false, laid := [("gimbal/codec.counts", laid_gimbal_codec_counts)] }
def TrackOrderSaid : Prop := trackOrderRow.holds Tryd.pinned (OpenSpec.ofChange trackOrderSpec)

/-- ITS FALSE NEIGHBOUR: 'it returns false'. Refute it at one input. -/
def trackOrderWrong : ChangeSpec := { name := "trackOrder", fn := fun _ => fun
  | [d1, d2, d3] => { results := [.lit (.bool false)], args := [d1, d2, d3] }
  | _ => none }
def TrackOrderWrongFalsely : Prop := trackOrderRow.holds Tryd.pinned (OpenSpec.ofChange trackOrderWrong)

/-- 'gimballaw14.TrackKeeps': WHATEVER THE INPUT: true; the input reads as it did. -/
def trackKeepsSpec : ChangeSpec := { name := "trackKeeps", fn := fun _ => fun
  | [d1, d2] => { results := [.lit (.bool true)], args := [d1, d2] }
  | _ => none }
def trackKeepsRow : OpenClaim := { program := "ytnaclocpmkldnaadoor", sum := "505f7234909ff8fcec50b7d73f6ca0947f3c1a39bc5fcb9f48103e4d91984317", func := "gimbal/gimballaw14.TrackKeeps", spec := "trackKeeps", inPlace := ["slices.overlaps[gimbal/api.Measure]", "sync/atomic.AddInt64", "sync/atomic.LoadInt64"], unfollowed := true, recurses := true, named := ["gimbal/codec.counts"], apart := false, laid := [("gimbal/codec.counts", laid_gimbal_codec_counts)] }
def TrackKeepsSaid : Prop := trackKeepsRow.holds Tryd.pinned (OpenSpec.ofChange trackKeepsSpec)

/-- ITS FALSE NEIGHBOUR: 'it returns false'. Refute it at one input. -/
def trackKeepsWrong : ChangeSpec := { name := "trackKeeps", fn := fun _ => fun
  | [d1, d2] => { results := [.lit (.bool false)], args := [d1, d2] }
  | _ => none }
def TrackKeepsWrongFalsely : Prop := trackKeepsRow.holds Tryd.pinned (OpenSpec.ofChange trackKeepsWrong)

/-- 'gimballaw14.TrackFull': WHATEVER THE INPUT: true; the input reads as it did. -/
def trackFullSpec : ChangeSpec := { name := "trackFull", fn := fun _ => fun
  | [d1, d2] => { results := [.lit (.bool true)], args := [d1, d2] }
  | _ => none }
def trackFullRow : OpenClaim := { program := "ytnaclocpmkldnaadoor", sum := "505f7234909ff8fcec50b7d73f6ca0947f3c1a39bc5fcb9f48103e4d91984317", func := "gimbal/gimballaw14.TrackFull", spec := "trackFull", inPlace := ["slices.overlaps[gimbal/api.Measure]", "sync/atomic.AddInt64", "sync/atomic.LoadInt64"], unfollowed := true, recurses := true, named := ["gimbal/codec.counts"], apart := false, laid := [("gimbal/codec.counts", laid_gimbal_codec_counts)] }
def TrackFullSaid : Prop := trackFullRow.holds Tryd.pinned (OpenSpec.ofChange trackFullSpec)

/-- ITS FALSE NEIGHBOUR: 'it returns false'. Refute it at one input. -/
def trackFullWrong : ChangeSpec := { name := "trackFull", fn := fun _ => fun
  | [d1, d2] => { results := [.lit (.bool false)], args := [d1, d2] }
  | _ => none }
def TrackFullWrongFalsely : Prop := trackFullRow.holds Tryd.pinned (OpenSpec.ofChange trackFullWrong)

/-- 'gimballaw14.TrackCounts': WHATEVER THE INPUT: true; the input reads as it did. -/
def trackCountsSpec : ChangeSpec := { name := "trackCounts", fn := fun _ => fun
  | [d1, d2] => { results := [.lit (.bool true)], args := [d1, d2] }
  | _ => none }
def trackCountsRow : OpenClaim := { program := "ytnaclocpmkldnaadoor", sum := "505f7234909ff8fcec50b7d73f6ca0947f3c1a39bc5fcb9f48103e4d91984317", func := "gimbal/gimballaw14.TrackCounts", spec := "trackCounts", inPlace := ["slices.overlaps[gimbal/api.Measure]", "sync/atomic.AddInt64", "sync/atomic.LoadInt64"], unfollowed := true, recurses := true, named := ["gimbal/codec.counts"], apart := false, laid := [("gimbal/codec.counts", laid_gimbal_codec_counts)] }
def TrackCountsSaid : Prop := trackCountsRow.holds Tryd.pinned (OpenSpec.ofChange trackCountsSpec)

/-- ITS FALSE NEIGHBOUR: 'it returns false'. Refute it at one input. -/
def trackCountsWrong : ChangeSpec := { name := "trackCounts", fn := fun _ => fun
  | [d1, d2] => { results := [.lit (.bool false)], args := [d1, d2] }
  | _ => none }
def TrackCountsWrongFalsely : Prop := trackCountsRow.holds Tryd.pinned (OpenSpec.ofChange trackCountsWrong)

/- THE SECOND FORM. 'bulk': how many values and letters a reading holds, each counted each time it is reached (what is shared counts as often as it is met; a slice's spare places count too). A statement '..UptoSaid' is the law's where the arguments, and the package variables that the reading takes, are together of bulk at most 1048576: NARROWER than '..Said'. Prove '..Said' where nothing that the law and all that it calls make is longer than what came in: it says more and counts as full. Else prove '..UptoSaid'. A law counts once. -/
mutual
def uptoBulk {H : Type} : DataW H → Nat
  | .lit (.string bytes) => bytes.length + 1
  | .lit _ => 1
  | .nil => 1
  | .ptr d => uptoBulk d + 1
  | .slice elems spare => uptoBulkAll elems + uptoBulkAll spare + 1
  | .agg parts => uptoBulkAll parts + 1
  | .iface _ d => uptoBulk d + 1
  | .map entries => uptoBulkEntries entries + 1
  | .held _ => 1
def uptoBulkAll {H : Type} : List (DataW H) → Nat
  | [] => 0
  | d :: r => uptoBulk d + uptoBulkAll r
def uptoBulkEntries {H : Type} : List (Lit × DataW H) → Nat
  | [] => 0
  | x :: r => uptoBulkEntry x + uptoBulkEntries r
def uptoBulkEntry {H : Type} : Lit × DataW H → Nat
  | (.string bytes, d) => bytes.length + uptoBulk d + 1
  | (_, d) => uptoBulk d + 1
 end
def uptoSmall : (H : Type) → List (DataW H) → Bool := fun _ ds => decide (uptoBulkAll ds ≤ 1048576)
def OpenSpec.upto (s : _root_.Go.ChangeSpec) : _root_.Go.OpenSpec := { _root_.Go.OpenSpec.ofChange s with cond := some uptoSmall }

/-- 'gimballaw12.CodecWrites', WHERE WHAT IT READS IS OF BULK AT MOST 1048576: true; the input reads as it did. -/
def codecWritesUptoRow : OpenClaim := { program := "ytnaclocpmkldnaadoor", sum := "505f7234909ff8fcec50b7d73f6ca0947f3c1a39bc5fcb9f48103e4d91984317", func := "gimbal/gimballaw12.CodecWrites", spec := "codecWrites", named := ["gimbal/codec.counts"], apart := false, laid := [("gimbal/codec.counts", laid_gimbal_codec_counts)], narrowed := true }
def CodecWritesUptoSaid : Prop := codecWritesUptoRow.holds Tryd.pinned (OpenSpec.upto codecWritesSpec)

/-- 'gimballaw12.CodecReads', WHERE WHAT IT READS IS OF BULK AT MOST 1048576: true; the input reads as it did. -/
def codecReadsUptoRow : OpenClaim := { program := "ytnaclocpmkldnaadoor", sum := "505f7234909ff8fcec50b7d73f6ca0947f3c1a39bc5fcb9f48103e4d91984317", func := "gimbal/gimballaw12.CodecReads", spec := "codecReads", named := ["gimbal/codec.counts"], apart := false, laid := [("gimbal/codec.counts", laid_gimbal_codec_counts)], narrowed := true }
def CodecReadsUptoSaid : Prop := codecReadsUptoRow.holds Tryd.pinned (OpenSpec.upto codecReadsSpec)

/-- 'gimballaw12.CodecBack', WHERE WHAT IT READS IS OF BULK AT MOST 1048576: true; the input reads as it did. -/
def codecBackUptoRow : OpenClaim := { program := "ytnaclocpmkldnaadoor", sum := "505f7234909ff8fcec50b7d73f6ca0947f3c1a39bc5fcb9f48103e4d91984317", func := "gimbal/gimballaw12.CodecBack", spec := "codecBack", named := ["gimbal/codec.counts"], apart := false, laid := [("gimbal/codec.counts", laid_gimbal_codec_counts)], narrowed := true }
def CodecBackUptoSaid : Prop := codecBackUptoRow.holds Tryd.pinned (OpenSpec.upto codecBackSpec)

/-- 'gimballaw12.CodecOnly', WHERE WHAT IT READS IS OF BULK AT MOST 1048576: true; the input reads as it did. -/
def codecOnlyUptoRow : OpenClaim := { program := "ytnaclocpmkldnaadoor", sum := "505f7234909ff8fcec50b7d73f6ca0947f3c1a39bc5fcb9f48103e4d91984317", func := "gimbal/gimballaw12.CodecOnly", spec := "codecOnly", named := ["gimbal/codec.counts"], apart := false, laid := [("gimbal/codec.counts", laid_gimbal_codec_counts)], narrowed := true }
def CodecOnlyUptoSaid : Prop := codecOnlyUptoRow.holds Tryd.pinned (OpenSpec.upto codecOnlySpec)

/-- 'gimballaw12.CodecSizes', WHERE WHAT IT READS IS OF BULK AT MOST 1048576: true; the input reads as it did. -/
def codecSizesUptoRow : OpenClaim := { program := "ytnaclocpmkldnaadoor", sum := "505f7234909ff8fcec50b7d73f6ca0947f3c1a39bc5fcb9f48103e4d91984317", func := "gimbal/gimballaw12.CodecSizes", spec := "codecSizes", named := ["gimbal/codec.counts"], apart := false, laid := [("gimbal/codec.counts", laid_gimbal_codec_counts)], narrowed := true }
def CodecSizesUptoSaid : Prop := codecSizesUptoRow.holds Tryd.pinned (OpenSpec.upto codecSizesSpec)

/-- 'gimballaw14.TrackPlays', WHERE WHAT IT READS IS OF BULK AT MOST 1048576: true; the input reads as it did. -/
def trackPlaysUptoRow : OpenClaim := { program := "ytnaclocpmkldnaadoor", sum := "505f7234909ff8fcec50b7d73f6ca0947f3c1a39bc5fcb9f48103e4d91984317", func := "gimbal/gimballaw14.TrackPlays", spec := "trackPlays", inPlace := ["slices.overlaps[gimbal/api.Measure]", "sync/atomic.AddInt64", "sync/atomic.LoadInt64"], unfollowed := true, recurses := true, named := ["gimbal/codec.counts"], apart := false, laid := [("gimbal/codec.counts", laid_gimbal_codec_counts)], narrowed := true }
def TrackPlaysUptoSaid : Prop := trackPlaysUptoRow.holds Tryd.pinned (OpenSpec.upto trackPlaysSpec)

/-- 'gimballaw14.TrackOrder', WHERE WHAT IT READS IS OF BULK AT MOST 1048576: true; the input reads as it did. -/
def trackOrderUptoRow : OpenClaim := { program := "ytnaclocpmkldnaadoor", sum := "505f7234909ff8fcec50b7d73f6ca0947f3c1a39bc5fcb9f48103e4d91984317", func := "gimbal/gimballaw14.TrackOrder", spec := "trackOrder", inPlace := ["slices.overlaps[gimbal/api.Measure]", "sync/atomic.AddInt64", "sync/atomic.LoadInt64"], unfollowed := true, recurses := true, named := ["gimbal/codec.counts"], apart := false, laid := [("gimbal/codec.counts", laid_gimbal_codec_counts)], narrowed := true }
def TrackOrderUptoSaid : Prop := trackOrderUptoRow.holds Tryd.pinned (OpenSpec.upto trackOrderSpec)

/-- 'gimballaw14.TrackKeeps', WHERE WHAT IT READS IS OF BULK AT MOST 1048576: true; the input reads as it did. -/
def trackKeepsUptoRow : OpenClaim := { program := "ytnaclocpmkldnaadoor", sum := "505f7234909ff8fcec50b7d73f6ca0947f3c1a39bc5fcb9f48103e4d91984317", func := "gimbal/gimballaw14.TrackKeeps", spec := "trackKeeps", inPlace := ["slices.overlaps[gimbal/api.Measure]", "sync/atomic.AddInt64", "sync/atomic.LoadInt64"], unfollowed := true, recurses := true, named := ["gimbal/codec.counts"], apart := false, laid := [("gimbal/codec.counts", laid_gimbal_codec_counts)], narrowed := true }
def TrackKeepsUptoSaid : Prop := trackKeepsUptoRow.holds Tryd.pinned (OpenSpec.upto trackKeepsSpec)

/-- 'gimballaw14.TrackFull', WHERE WHAT IT READS IS OF BULK AT MOST 1048576: true; the input reads as it did. -/
def trackFullUptoRow : OpenClaim := { program := "ytnaclocpmkldnaadoor", sum := "505f7234909ff8fcec50b7d73f6ca0947f3c1a39bc5fcb9f48103e4d91984317", func := "gimbal/gimballaw14.TrackFull", spec := "trackFull", inPlace := ["slices.overlaps[gimbal/api.Measure]", "sync/atomic.AddInt64", "sync/atomic.LoadInt64"], unfollowed := true, recurses := true, named := ["gimbal/codec.counts"], apart := false, laid := [("gimbal/codec.counts", laid_gimbal_codec_counts)], narrowed := true }
def TrackFullUptoSaid : Prop := trackFullUptoRow.holds Tryd.pinned (OpenSpec.upto trackFullSpec)

/-- 'gimballaw14.TrackCounts', WHERE WHAT IT READS IS OF BULK AT MOST 1048576: true; the input reads as it did. -/
def trackCountsUptoRow : OpenClaim := { program := "ytnaclocpmkldnaadoor", sum := "505f7234909ff8fcec50b7d73f6ca0947f3c1a39bc5fcb9f48103e4d91984317", func := "gimbal/gimballaw14.TrackCounts", spec := "trackCounts", inPlace := ["slices.overlaps[gimbal/api.Measure]", "sync/atomic.AddInt64", "sync/atomic.LoadInt64"], unfollowed := true, recurses := true, named := ["gimbal/codec.counts"], apart := false, laid := [("gimbal/codec.counts", laid_gimbal_codec_counts)], narrowed := true }
def TrackCountsUptoSaid : Prop := trackCountsUptoRow.holds Tryd.pinned (OpenSpec.upto trackCountsSpec)

end Rows
end Go.Proofs.YtnaclocpmkldnaaDoor
