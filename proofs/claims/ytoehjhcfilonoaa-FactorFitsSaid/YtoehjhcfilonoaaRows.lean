/-
  No cell of these rows narrows 'for every input' (looked for: loops, veiled, ifaces, maps, wideKeys, modest, calm, conditions, laid).
  DERIVED. THE GIVEN ROWS OF THIS SEAT. 12 by the template 'for every input the law returns true; each argument reads behind the call as it read before'; 0 by the template 'total and deterministic' (their statements: YtoehjhcfilonoaaTotals.lean).
  GIVEN WITH THE SEED: the statements are not yours to turn. If you find one false, say at which input.
  Laid BY PROGRAM, IN A SANDBOX (cutbox-rows.mjs): the forced cells as the released guide's own fill.sh prints them over the translation 8e8029b4a4ccd04b… (all of the seat's roots in one cut). By AI agents, Wed Nov 11 2026. No macro, syntax, notation, axiom, sorry.
-/
import Derived.Test.YtoehjhcfilonoaaChecked
import GoSem.Claim
import GoSem.ClaimJoined
import GoSem.ClaimMapViews
import Derived.JoinedTies
import Derived.KernelRfl
namespace Go.Proofs.Ytoehjhcfilonoaa
/- THE CELL 'sum', in the pinned program and in every row, IS THE sha256 OF THE DUMP (.gsa) THAT YtoehjhcfilonoaaProg.lean LOADS. Nothing in Lean hashes anything: it is a label: what it is worth is what the hold of that sum in a sandbox is worth. -/
noncomputable def Try.pinned : Pinned := { name := "ytoehjhcfilonoaa", sum := "8e8029b4a4ccd04b96790df27365e8d1cb29042fa4ca05524d2da40baa11e030", checked := Try.checked }
namespace Rows
def none {H : Type} : Left H := { results := [], args := [] }

/-- 'gimballaw09.HuberBounds': WHATEVER THE INPUT: true; the input reads as it did. -/
def huberBoundsSpec : ChangeSpec := { name := "huberBounds", fn := fun _ => fun
  | [d1, d2, d3] => { results := [.lit (.bool true)], args := [d1, d2, d3] }
  | _ => none }
def huberBoundsRow : OpenClaim := { program := "ytoehjhcfilonoaa", sum := "8e8029b4a4ccd04b96790df27365e8d1cb29042fa4ca05524d2da40baa11e030", func := "gimbal/gimballaw09.HuberBounds", spec := "huberBounds", unfollowed := true, recurses := true, apart := false }
def HuberBoundsSaid : Prop := huberBoundsRow.holds Try.pinned (OpenSpec.ofChange huberBoundsSpec)

/-- ITS FALSE NEIGHBOUR: 'it returns false'. Refute it at one input. -/
def huberBoundsWrong : ChangeSpec := { name := "huberBounds", fn := fun _ => fun
  | [d1, d2, d3] => { results := [.lit (.bool false)], args := [d1, d2, d3] }
  | _ => none }
def HuberBoundsWrongFalsely : Prop := huberBoundsRow.holds Try.pinned (OpenSpec.ofChange huberBoundsWrong)

/-- 'gimballaw09.HuberAbove': WHATEVER THE INPUT: true; the input reads as it did. -/
def huberAboveSpec : ChangeSpec := { name := "huberAbove", fn := fun _ => fun
  | [d1, d2, d3] => { results := [.lit (.bool true)], args := [d1, d2, d3] }
  | _ => none }
def huberAboveRow : OpenClaim := { program := "ytoehjhcfilonoaa", sum := "8e8029b4a4ccd04b96790df27365e8d1cb29042fa4ca05524d2da40baa11e030", func := "gimbal/gimballaw09.HuberAbove", spec := "huberAbove", unfollowed := true, recurses := true, apart := false }
def HuberAboveSaid : Prop := huberAboveRow.holds Try.pinned (OpenSpec.ofChange huberAboveSpec)

/-- ITS FALSE NEIGHBOUR: 'it returns false'. Refute it at one input. -/
def huberAboveWrong : ChangeSpec := { name := "huberAbove", fn := fun _ => fun
  | [d1, d2, d3] => { results := [.lit (.bool false)], args := [d1, d2, d3] }
  | _ => none }
def HuberAboveWrongFalsely : Prop := huberAboveRow.holds Try.pinned (OpenSpec.ofChange huberAboveWrong)

/-- 'gimballaw09.HuberGrows': WHATEVER THE INPUT: true; the input reads as it did. -/
def huberGrowsSpec : ChangeSpec := { name := "huberGrows", fn := fun _ => fun
  | [d1, d2, d3, d4] => { results := [.lit (.bool true)], args := [d1, d2, d3, d4] }
  | _ => none }
def huberGrowsRow : OpenClaim := { program := "ytoehjhcfilonoaa", sum := "8e8029b4a4ccd04b96790df27365e8d1cb29042fa4ca05524d2da40baa11e030", func := "gimbal/gimballaw09.HuberGrows", spec := "huberGrows", unfollowed := true, recurses := true, apart := false }
def HuberGrowsSaid : Prop := huberGrowsRow.holds Try.pinned (OpenSpec.ofChange huberGrowsSpec)

/-- ITS FALSE NEIGHBOUR: 'it returns false'. Refute it at one input. -/
def huberGrowsWrong : ChangeSpec := { name := "huberGrows", fn := fun _ => fun
  | [d1, d2, d3, d4] => { results := [.lit (.bool false)], args := [d1, d2, d3, d4] }
  | _ => none }
def HuberGrowsWrongFalsely : Prop := huberGrowsRow.holds Try.pinned (OpenSpec.ofChange huberGrowsWrong)

/-- 'gimballaw09.HuberBends': WHATEVER THE INPUT: true; the input reads as it did. -/
def huberBendsSpec : ChangeSpec := { name := "huberBends", fn := fun _ => fun
  | [d1, d2, d3] => { results := [.lit (.bool true)], args := [d1, d2, d3] }
  | _ => none }
def huberBendsRow : OpenClaim := { program := "ytoehjhcfilonoaa", sum := "8e8029b4a4ccd04b96790df27365e8d1cb29042fa4ca05524d2da40baa11e030", func := "gimbal/gimballaw09.HuberBends", spec := "huberBends", unfollowed := true, recurses := true, apart := false }
def HuberBendsSaid : Prop := huberBendsRow.holds Try.pinned (OpenSpec.ofChange huberBendsSpec)

/-- ITS FALSE NEIGHBOUR: 'it returns false'. Refute it at one input. -/
def huberBendsWrong : ChangeSpec := { name := "huberBends", fn := fun _ => fun
  | [d1, d2, d3] => { results := [.lit (.bool false)], args := [d1, d2, d3] }
  | _ => none }
def HuberBendsWrongFalsely : Prop := huberBendsRow.holds Try.pinned (OpenSpec.ofChange huberBendsWrong)

/-- 'gimballaw09.HuberScale': WHATEVER THE INPUT: true; the input reads as it did. -/
def huberScaleSpec : ChangeSpec := { name := "huberScale", fn := fun _ => fun
  | [d1, d2, d3] => { results := [.lit (.bool true)], args := [d1, d2, d3] }
  | _ => none }
def huberScaleRow : OpenClaim := { program := "ytoehjhcfilonoaa", sum := "8e8029b4a4ccd04b96790df27365e8d1cb29042fa4ca05524d2da40baa11e030", func := "gimbal/gimballaw09.HuberScale", spec := "huberScale", unfollowed := true, recurses := true, apart := false }
def HuberScaleSaid : Prop := huberScaleRow.holds Try.pinned (OpenSpec.ofChange huberScaleSpec)

/-- ITS FALSE NEIGHBOUR: 'it returns false'. Refute it at one input. -/
def huberScaleWrong : ChangeSpec := { name := "huberScale", fn := fun _ => fun
  | [d1, d2, d3] => { results := [.lit (.bool false)], args := [d1, d2, d3] }
  | _ => none }
def HuberScaleWrongFalsely : Prop := huberScaleRow.holds Try.pinned (OpenSpec.ofChange huberScaleWrong)

/-- 'gimballaw09.HuberTells': WHATEVER THE INPUT: true; the input reads as it did. -/
def huberTellsSpec : ChangeSpec := { name := "huberTells", fn := fun _ => fun
  | [d1, d2] => { results := [.lit (.bool true)], args := [d1, d2] }
  | _ => none }
def huberTellsRow : OpenClaim := { program := "ytoehjhcfilonoaa", sum := "8e8029b4a4ccd04b96790df27365e8d1cb29042fa4ca05524d2da40baa11e030", func := "gimbal/gimballaw09.HuberTells", spec := "huberTells", unfollowed := true, recurses := true, apart := false }
def HuberTellsSaid : Prop := huberTellsRow.holds Try.pinned (OpenSpec.ofChange huberTellsSpec)

/-- ITS FALSE NEIGHBOUR: 'it returns false'. Refute it at one input. -/
def huberTellsWrong : ChangeSpec := { name := "huberTells", fn := fun _ => fun
  | [d1, d2] => { results := [.lit (.bool false)], args := [d1, d2] }
  | _ => none }
def HuberTellsWrongFalsely : Prop := huberTellsRow.holds Try.pinned (OpenSpec.ofChange huberTellsWrong)

/-- 'gimballaw16.FactorFits': WHATEVER THE INPUT: true; the input reads as it did. -/
def factorFitsSpec : ChangeSpec := { name := "factorFits", fn := fun _ => fun
  | [d1, d2, d3, d4] => { results := [.lit (.bool true)], args := [d1, d2, d3, d4] }
  | _ => none }
def factorFitsRow : OpenClaim := { program := "ytoehjhcfilonoaa", sum := "8e8029b4a4ccd04b96790df27365e8d1cb29042fa4ca05524d2da40baa11e030", func := "gimbal/gimballaw16.FactorFits", spec := "factorFits", unfollowed := true, recurses := true, apart := false }
def FactorFitsSaid : Prop := factorFitsRow.holds Try.pinned (OpenSpec.ofChange factorFitsSpec)

/-- ITS FALSE NEIGHBOUR: 'it returns false'. Refute it at one input. -/
def factorFitsWrong : ChangeSpec := { name := "factorFits", fn := fun _ => fun
  | [d1, d2, d3, d4] => { results := [.lit (.bool false)], args := [d1, d2, d3, d4] }
  | _ => none }
def FactorFitsWrongFalsely : Prop := factorFitsRow.holds Try.pinned (OpenSpec.ofChange factorFitsWrong)

/-- 'gimballaw16.FactorRights': WHATEVER THE INPUT: true; the input reads as it did. -/
def factorRightsSpec : ChangeSpec := { name := "factorRights", fn := fun _ => fun
  | [d1, d2] => { results := [.lit (.bool true)], args := [d1, d2] }
  | _ => none }
def factorRightsRow : OpenClaim := { program := "ytoehjhcfilonoaa", sum := "8e8029b4a4ccd04b96790df27365e8d1cb29042fa4ca05524d2da40baa11e030", func := "gimbal/gimballaw16.FactorRights", spec := "factorRights", unfollowed := true, recurses := true, apart := false }
def FactorRightsSaid : Prop := factorRightsRow.holds Try.pinned (OpenSpec.ofChange factorRightsSpec)

/-- ITS FALSE NEIGHBOUR: 'it returns false'. Refute it at one input. -/
def factorRightsWrong : ChangeSpec := { name := "factorRights", fn := fun _ => fun
  | [d1, d2] => { results := [.lit (.bool false)], args := [d1, d2] }
  | _ => none }
def FactorRightsWrongFalsely : Prop := factorRightsRow.holds Try.pinned (OpenSpec.ofChange factorRightsWrong)

/-- 'gimballaw16.FactorRows': WHATEVER THE INPUT: true; the input reads as it did. -/
def factorRowsSpec : ChangeSpec := { name := "factorRows", fn := fun _ => fun
  | [d1, d2] => { results := [.lit (.bool true)], args := [d1, d2] }
  | _ => none }
def factorRowsRow : OpenClaim := { program := "ytoehjhcfilonoaa", sum := "8e8029b4a4ccd04b96790df27365e8d1cb29042fa4ca05524d2da40baa11e030", func := "gimbal/gimballaw16.FactorRows", spec := "factorRows", unfollowed := true, recurses := true, apart := false }
def FactorRowsSaid : Prop := factorRowsRow.holds Try.pinned (OpenSpec.ofChange factorRowsSpec)

/-- ITS FALSE NEIGHBOUR: 'it returns false'. Refute it at one input. -/
def factorRowsWrong : ChangeSpec := { name := "factorRows", fn := fun _ => fun
  | [d1, d2] => { results := [.lit (.bool false)], args := [d1, d2] }
  | _ => none }
def FactorRowsWrongFalsely : Prop := factorRowsRow.holds Try.pinned (OpenSpec.ofChange factorRowsWrong)

/-- 'gimballaw16.FactorTurned': WHATEVER THE INPUT: true; the input reads as it did. -/
def factorTurnedSpec : ChangeSpec := { name := "factorTurned", fn := fun _ => fun
  | [d1, d2] => { results := [.lit (.bool true)], args := [d1, d2] }
  | _ => none }
def factorTurnedRow : OpenClaim := { program := "ytoehjhcfilonoaa", sum := "8e8029b4a4ccd04b96790df27365e8d1cb29042fa4ca05524d2da40baa11e030", func := "gimbal/gimballaw16.FactorTurned", spec := "factorTurned", unfollowed := true, recurses := true, apart := false }
def FactorTurnedSaid : Prop := factorTurnedRow.holds Try.pinned (OpenSpec.ofChange factorTurnedSpec)

/-- ITS FALSE NEIGHBOUR: 'it returns false'. Refute it at one input. -/
def factorTurnedWrong : ChangeSpec := { name := "factorTurned", fn := fun _ => fun
  | [d1, d2] => { results := [.lit (.bool false)], args := [d1, d2] }
  | _ => none }
def FactorTurnedWrongFalsely : Prop := factorTurnedRow.holds Try.pinned (OpenSpec.ofChange factorTurnedWrong)

/-- 'gimballaw16.FactorTells': WHATEVER THE INPUT: true; the input reads as it did. -/
def factorTellsSpec : ChangeSpec := { name := "factorTells", fn := fun _ => fun
  | [d1, d2] => { results := [.lit (.bool true)], args := [d1, d2] }
  | _ => none }
def factorTellsRow : OpenClaim := { program := "ytoehjhcfilonoaa", sum := "8e8029b4a4ccd04b96790df27365e8d1cb29042fa4ca05524d2da40baa11e030", func := "gimbal/gimballaw16.FactorTells", spec := "factorTells", unfollowed := true, recurses := true, apart := false }
def FactorTellsSaid : Prop := factorTellsRow.holds Try.pinned (OpenSpec.ofChange factorTellsSpec)

/-- ITS FALSE NEIGHBOUR: 'it returns false'. Refute it at one input. -/
def factorTellsWrong : ChangeSpec := { name := "factorTells", fn := fun _ => fun
  | [d1, d2] => { results := [.lit (.bool false)], args := [d1, d2] }
  | _ => none }
def FactorTellsWrongFalsely : Prop := factorTellsRow.holds Try.pinned (OpenSpec.ofChange factorTellsWrong)

/-- 'gimballaw16.FactorLine': WHATEVER THE INPUT: true; the input reads as it did. -/
def factorLineSpec : ChangeSpec := { name := "factorLine", fn := fun _ => fun
  | [d1, d2, d3] => { results := [.lit (.bool true)], args := [d1, d2, d3] }
  | _ => none }
def factorLineRow : OpenClaim := { program := "ytoehjhcfilonoaa", sum := "8e8029b4a4ccd04b96790df27365e8d1cb29042fa4ca05524d2da40baa11e030", func := "gimbal/gimballaw16.FactorLine", spec := "factorLine", unfollowed := true, recurses := true, apart := false }
def FactorLineSaid : Prop := factorLineRow.holds Try.pinned (OpenSpec.ofChange factorLineSpec)

/-- ITS FALSE NEIGHBOUR: 'it returns false'. Refute it at one input. -/
def factorLineWrong : ChangeSpec := { name := "factorLine", fn := fun _ => fun
  | [d1, d2, d3] => { results := [.lit (.bool false)], args := [d1, d2, d3] }
  | _ => none }
def FactorLineWrongFalsely : Prop := factorLineRow.holds Try.pinned (OpenSpec.ofChange factorLineWrong)

/- THE SECOND FORM. 'bulk': how many values and letters a reading holds, each counted each time it is reached (what is shared counts as often as it is met; a slice's spare places count too). A statement '..UptoSaid' is the law's where the arguments, and the package variables that the reading takes, are together of bulk at most 1048576: NARROWER than '..Said'. Prove '..Said' where nothing that the law and all that it calls make is longer than what came in: it says more and counts as full. Else prove '..UptoSaid'. A law counts once. -/
mutual
def uptoBulk {H : Type} : DataW H → Nat
  | .lit (.string bytes) => bytes.length + 1
  | .lit _ => 1
  | .nil => 1
  | .ptr d => uptoBulk d + 1
  | .slice elems spare => uptoBulkAll elems + uptoBulkAll spare + 1
  | .agg parts => uptoBulkAll parts + 1
  | .iface _ d => uptoBulk d + 1
  | .map entries => uptoBulkEntries entries + 1
  | .held _ => 1
def uptoBulkAll {H : Type} : List (DataW H) → Nat
  | [] => 0
  | d :: r => uptoBulk d + uptoBulkAll r
def uptoBulkEntries {H : Type} : List (Lit × DataW H) → Nat
  | [] => 0
  | x :: r => uptoBulkEntry x + uptoBulkEntries r
def uptoBulkEntry {H : Type} : Lit × DataW H → Nat
  | (.string bytes, d) => bytes.length + uptoBulk d + 1
  | (_, d) => uptoBulk d + 1
 end
def uptoSmall : (H : Type) → List (DataW H) → Bool := fun _ ds => decide (uptoBulkAll ds ≤ 1048576)
def OpenSpec.upto (s : _root_.Go.ChangeSpec) : _root_.Go.OpenSpec := { _root_.Go.OpenSpec.ofChange s with cond := some uptoSmall }

/-- 'gimballaw09.HuberBounds', WHERE WHAT IT READS IS OF BULK AT MOST 1048576: true; the input reads as it did. -/
def huberBoundsUptoRow : OpenClaim := { program := "ytoehjhcfilonoaa", sum := "8e8029b4a4ccd04b96790df27365e8d1cb29042fa4ca05524d2da40baa11e030", func := "gimbal/gimballaw09.HuberBounds", spec := "huberBounds", unfollowed := true, recurses := true, apart := false, narrowed := true }
def HuberBoundsUptoSaid : Prop := huberBoundsUptoRow.holds Try.pinned (OpenSpec.upto huberBoundsSpec)

/-- 'gimballaw09.HuberAbove', WHERE WHAT IT READS IS OF BULK AT MOST 1048576: true; the input reads as it did. -/
def huberAboveUptoRow : OpenClaim := { program := "ytoehjhcfilonoaa", sum := "8e8029b4a4ccd04b96790df27365e8d1cb29042fa4ca05524d2da40baa11e030", func := "gimbal/gimballaw09.HuberAbove", spec := "huberAbove", unfollowed := true, recurses := true, apart := false, narrowed := true }
def HuberAboveUptoSaid : Prop := huberAboveUptoRow.holds Try.pinned (OpenSpec.upto huberAboveSpec)

/-- 'gimballaw09.HuberGrows', WHERE WHAT IT READS IS OF BULK AT MOST 1048576: true; the input reads as it did. -/
def huberGrowsUptoRow : OpenClaim := { program := "ytoehjhcfilonoaa", sum := "8e8029b4a4ccd04b96790df27365e8d1cb29042fa4ca05524d2da40baa11e030", func := "gimbal/gimballaw09.HuberGrows", spec := "huberGrows", unfollowed := true, recurses := true, apart := false, narrowed := true }
def HuberGrowsUptoSaid : Prop := huberGrowsUptoRow.holds Try.pinned (OpenSpec.upto huberGrowsSpec)

/-- 'gimballaw09.HuberBends', WHERE WHAT IT READS IS OF BULK AT MOST 1048576: true; the input reads as it did. -/
def huberBendsUptoRow : OpenClaim := { program := "ytoehjhcfilonoaa", sum := "8e8029b4a4ccd04b96790df27365e8d1cb29042fa4ca05524d2da40baa11e030", func := "gimbal/gimballaw09.HuberBends", spec := "huberBends", unfollowed := true, recurses := true, apart := false, narrowed := true }
def HuberBendsUptoSaid : Prop := huberBendsUptoRow.holds Try.pinned (OpenSpec.upto huberBendsSpec)

/-- 'gimballaw09.HuberScale', WHERE WHAT IT READS IS OF BULK AT MOST 1048576: true; the input reads as it did. -/
def huberScaleUptoRow : OpenClaim := { program := "ytoehjhcfilonoaa", sum := "8e8029b4a4ccd04b96790df27365e8d1cb29042fa4ca05524d2da40baa11e030", func := "gimbal/gimballaw09.HuberScale", spec := "huberScale", unfollowed := true, recurses := true, apart := false, narrowed := true }
def HuberScaleUptoSaid : Prop := huberScaleUptoRow.holds Try.pinned (OpenSpec.upto huberScaleSpec)

/-- 'gimballaw09.HuberTells', WHERE WHAT IT READS IS OF BULK AT MOST 1048576: true; the input reads as it did. -/
def huberTellsUptoRow : OpenClaim := { program := "ytoehjhcfilonoaa", sum := "8e8029b4a4ccd04b96790df27365e8d1cb29042fa4ca05524d2da40baa11e030", func := "gimbal/gimballaw09.HuberTells", spec := "huberTells", unfollowed := true, recurses := true, apart := false, narrowed := true }
def HuberTellsUptoSaid : Prop := huberTellsUptoRow.holds Try.pinned (OpenSpec.upto huberTellsSpec)

/-- 'gimballaw16.FactorFits', WHERE WHAT IT READS IS OF BULK AT MOST 1048576: true; the input reads as it did. -/
def factorFitsUptoRow : OpenClaim := { program := "ytoehjhcfilonoaa", sum := "8e8029b4a4ccd04b96790df27365e8d1cb29042fa4ca05524d2da40baa11e030", func := "gimbal/gimballaw16.FactorFits", spec := "factorFits", unfollowed := true, recurses := true, apart := false, narrowed := true }
def FactorFitsUptoSaid : Prop := factorFitsUptoRow.holds Try.pinned (OpenSpec.upto factorFitsSpec)

/-- 'gimballaw16.FactorRights', WHERE WHAT IT READS IS OF BULK AT MOST 1048576: true; the input reads as it did. -/
def factorRightsUptoRow : OpenClaim := { program := "ytoehjhcfilonoaa", sum := "8e8029b4a4ccd04b96790df27365e8d1cb29042fa4ca05524d2da40baa11e030", func := "gimbal/gimballaw16.FactorRights", spec := "factorRights", unfollowed := true, recurses := true, apart := false, narrowed := true }
def FactorRightsUptoSaid : Prop := factorRightsUptoRow.holds Try.pinned (OpenSpec.upto factorRightsSpec)

/-- 'gimballaw16.FactorRows', WHERE WHAT IT READS IS OF BULK AT MOST 1048576: true; the input reads as it did. -/
def factorRowsUptoRow : OpenClaim := { program := "ytoehjhcfilonoaa", sum := "8e8029b4a4ccd04b96790df27365e8d1cb29042fa4ca05524d2da40baa11e030", func := "gimbal/gimballaw16.FactorRows", spec := "factorRows", unfollowed := true, recurses := true, apart := false, narrowed := true }
def FactorRowsUptoSaid : Prop := factorRowsUptoRow.holds Try.pinned (OpenSpec.upto factorRowsSpec)

/-- 'gimballaw16.FactorTurned', WHERE WHAT IT READS IS OF BULK AT MOST 1048576: true; the input reads as it did. -/
def factorTurnedUptoRow : OpenClaim := { program := "ytoehjhcfilonoaa", sum := "8e8029b4a4ccd04b96790df27365e8d1cb29042fa4ca05524d2da40baa11e030", func := "gimbal/gimballaw16.FactorTurned", spec := "factorTurned", unfollowed := true, recurses := true, apart := false, narrowed := true }
def FactorTurnedUptoSaid : Prop := factorTurnedUptoRow.holds Try.pinned (OpenSpec.upto factorTurnedSpec)

/-- 'gimballaw16.FactorTells', WHERE WHAT IT READS IS OF BULK AT MOST 1048576: true; the input reads as it did. -/
def factorTellsUptoRow : OpenClaim := { program := "ytoehjhcfilonoaa", sum := "8e8029b4a4ccd04b96790df27365e8d1cb29042fa4ca05524d2da40baa11e030", func := "gimbal/gimballaw16.FactorTells", spec := "factorTells", unfollowed := true, recurses := true, apart := false, narrowed := true }
def FactorTellsUptoSaid : Prop := factorTellsUptoRow.holds Try.pinned (OpenSpec.upto factorTellsSpec)

/-- 'gimballaw16.FactorLine', WHERE WHAT IT READS IS OF BULK AT MOST 1048576: true; the input reads as it did. -/
def factorLineUptoRow : OpenClaim := { program := "ytoehjhcfilonoaa", sum := "8e8029b4a4ccd04b96790df27365e8d1cb29042fa4ca05524d2da40baa11e030", func := "gimbal/gimballaw16.FactorLine", spec := "factorLine", unfollowed := true, recurses := true, apart := false, narrowed := true }
def FactorLineUptoSaid : Prop := factorLineUptoRow.holds Try.pinned (OpenSpec.upto factorLineSpec)

end Rows
end Go.Proofs.Ytoehjhcfilonoaa
