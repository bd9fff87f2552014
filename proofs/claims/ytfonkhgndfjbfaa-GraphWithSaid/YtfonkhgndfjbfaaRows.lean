/-
  No cell of these rows narrows 'for every input' (looked for: loops, veiled, ifaces, maps, wideKeys, modest, calm, conditions, laid).
  DERIVED. THE GIVEN ROWS OF THIS SEAT. 10 by the template 'for every input the law returns true; each argument reads behind the call as it read before'; 0 by the template 'total and deterministic' (their statements: YtfonkhgndfjbfaaTotals.lean).
  GIVEN WITH THE SEED: the statements are not yours to turn. If you find one false, say at which input.
  Laid BY PROGRAM, IN A SANDBOX (cutbox-rows.mjs): the forced cells as the released guide's own fill.sh prints them over the translation 6b64ae3b822f5052… (all of the seat's roots in one cut). By AI agents, Wed Nov 11 2026. No macro, syntax, notation, axiom, sorry.
-/
import Derived.Test.YtfonkhgndfjbfaaChecked
import GoSem.Claim
import GoSem.ClaimJoined
import GoSem.ClaimMapViews
import Derived.JoinedTies
import Derived.KernelRfl
namespace Go.Proofs.Ytfonkhgndfjbfaa
/- THE CELL 'sum', in the pinned program and in every row, IS THE sha256 OF THE DUMP (.gsa) THAT YtfonkhgndfjbfaaProg.lean LOADS. Nothing in Lean hashes anything: it is a label: what it is worth is what the hold of that sum in a sandbox is worth. -/
noncomputable def Try.pinned : Pinned := { name := "ytfonkhgndfjbfaa", sum := "6b64ae3b822f5052e9da5072bfef490278bf3509a8244700d836be396094884f", checked := Try.checked }
namespace Rows
def none {H : Type} : Left H := { results := [], args := [] }

/-- 'gimballaw17.GraphMakes': WHATEVER THE INPUT: true; the input reads as it did. -/
def graphMakesSpec : ChangeSpec := { name := "graphMakes", fn := fun _ => fun
  | [d1, d2] => { results := [.lit (.bool true)], args := [d1, d2] }
  | _ => none }
def graphMakesRow : OpenClaim := { program := "ytfonkhgndfjbfaa", sum := "6b64ae3b822f5052e9da5072bfef490278bf3509a8244700d836be396094884f", func := "gimbal/gimballaw17.GraphMakes", spec := "graphMakes", unfollowed := true, recurses := true, apart := false }
def GraphMakesSaid : Prop := graphMakesRow.holds Try.pinned (OpenSpec.ofChange graphMakesSpec)

/-- ITS FALSE NEIGHBOUR: 'it returns false'. Refute it at one input. -/
def graphMakesWrong : ChangeSpec := { name := "graphMakes", fn := fun _ => fun
  | [d1, d2] => { results := [.lit (.bool false)], args := [d1, d2] }
  | _ => none }
def GraphMakesWrongFalsely : Prop := graphMakesRow.holds Try.pinned (OpenSpec.ofChange graphMakesWrong)

/-- 'gimballaw17.GraphCurves': WHATEVER THE INPUT: true; the input reads as it did. -/
def graphCurvesSpec : ChangeSpec := { name := "graphCurves", fn := fun _ => fun
  | [d1, d2, d3, d4, d5] => { results := [.lit (.bool true)], args := [d1, d2, d3, d4, d5] }
  | _ => none }
def graphCurvesRow : OpenClaim := { program := "ytfonkhgndfjbfaa", sum := "6b64ae3b822f5052e9da5072bfef490278bf3509a8244700d836be396094884f", func := "gimbal/gimballaw17.GraphCurves", spec := "graphCurves", unfollowed := true, recurses := true, apart := false }
def GraphCurvesSaid : Prop := graphCurvesRow.holds Try.pinned (OpenSpec.ofChange graphCurvesSpec)

/-- ITS FALSE NEIGHBOUR: 'it returns false'. Refute it at one input. -/
def graphCurvesWrong : ChangeSpec := { name := "graphCurves", fn := fun _ => fun
  | [d1, d2, d3, d4, d5] => { results := [.lit (.bool false)], args := [d1, d2, d3, d4, d5] }
  | _ => none }
def GraphCurvesWrongFalsely : Prop := graphCurvesRow.holds Try.pinned (OpenSpec.ofChange graphCurvesWrong)

/-- 'gimballaw17.GraphWith': WHATEVER THE INPUT: true; the input reads as it did. -/
def graphWithSpec : ChangeSpec := { name := "graphWith", fn := fun _ => fun
  | [d1, d2, d3] => { results := [.lit (.bool true)], args := [d1, d2, d3] }
  | _ => none }
def graphWithRow : OpenClaim := { program := "ytfonkhgndfjbfaa", sum := "6b64ae3b822f5052e9da5072bfef490278bf3509a8244700d836be396094884f", func := "gimbal/gimballaw17.GraphWith", spec := "graphWith", unfollowed := true, recurses := true, apart := false }
def GraphWithSaid : Prop := graphWithRow.holds Try.pinned (OpenSpec.ofChange graphWithSpec)

/-- ITS FALSE NEIGHBOUR: 'it returns false'. Refute it at one input. -/
def graphWithWrong : ChangeSpec := { name := "graphWith", fn := fun _ => fun
  | [d1, d2, d3] => { results := [.lit (.bool false)], args := [d1, d2, d3] }
  | _ => none }
def GraphWithWrongFalsely : Prop := graphWithRow.holds Try.pinned (OpenSpec.ofChange graphWithWrong)

/-- 'gimballaw17.GraphOrder': WHATEVER THE INPUT: true; the input reads as it did. -/
def graphOrderSpec : ChangeSpec := { name := "graphOrder", fn := fun _ => fun
  | [d1, d2, d3] => { results := [.lit (.bool true)], args := [d1, d2, d3] }
  | _ => none }
def graphOrderRow : OpenClaim := { program := "ytfonkhgndfjbfaa", sum := "6b64ae3b822f5052e9da5072bfef490278bf3509a8244700d836be396094884f", func := "gimbal/gimballaw17.GraphOrder", spec := "graphOrder", unfollowed := true, recurses := true, apart := false }
def GraphOrderSaid : Prop := graphOrderRow.holds Try.pinned (OpenSpec.ofChange graphOrderSpec)

/-- ITS FALSE NEIGHBOUR: 'it returns false'. Refute it at one input. -/
def graphOrderWrong : ChangeSpec := { name := "graphOrder", fn := fun _ => fun
  | [d1, d2, d3] => { results := [.lit (.bool false)], args := [d1, d2, d3] }
  | _ => none }
def GraphOrderWrongFalsely : Prop := graphOrderRow.holds Try.pinned (OpenSpec.ofChange graphOrderWrong)

/-- 'gimballaw17.GraphPrior': WHATEVER THE INPUT: true; the input reads as it did. -/
def graphPriorSpec : ChangeSpec := { name := "graphPrior", fn := fun _ => fun
  | [d1, d2, d3, d4, d5] => { results := [.lit (.bool true)], args := [d1, d2, d3, d4, d5] }
  | _ => none }
def graphPriorRow : OpenClaim := { program := "ytfonkhgndfjbfaa", sum := "6b64ae3b822f5052e9da5072bfef490278bf3509a8244700d836be396094884f", func := "gimbal/gimballaw17.GraphPrior", spec := "graphPrior", unfollowed := true, recurses := true, apart := false }
def GraphPriorSaid : Prop := graphPriorRow.holds Try.pinned (OpenSpec.ofChange graphPriorSpec)

/-- ITS FALSE NEIGHBOUR: 'it returns false'. Refute it at one input. -/
def graphPriorWrong : ChangeSpec := { name := "graphPrior", fn := fun _ => fun
  | [d1, d2, d3, d4, d5] => { results := [.lit (.bool false)], args := [d1, d2, d3, d4, d5] }
  | _ => none }
def GraphPriorWrongFalsely : Prop := graphPriorRow.holds Try.pinned (OpenSpec.ofChange graphPriorWrong)

/-- 'gimballaw17.GraphBends': WHATEVER THE INPUT: true; the input reads as it did. -/
def graphBendsSpec : ChangeSpec := { name := "graphBends", fn := fun _ => fun
  | [d1, d2, d3, d4, d5, d6] => { results := [.lit (.bool true)], args := [d1, d2, d3, d4, d5, d6] }
  | _ => none }
def graphBendsRow : OpenClaim := { program := "ytfonkhgndfjbfaa", sum := "6b64ae3b822f5052e9da5072bfef490278bf3509a8244700d836be396094884f", func := "gimbal/gimballaw17.GraphBends", spec := "graphBends", unfollowed := true, recurses := true, apart := false }
def GraphBendsSaid : Prop := graphBendsRow.holds Try.pinned (OpenSpec.ofChange graphBendsSpec)

/-- ITS FALSE NEIGHBOUR: 'it returns false'. Refute it at one input. -/
def graphBendsWrong : ChangeSpec := { name := "graphBends", fn := fun _ => fun
  | [d1, d2, d3, d4, d5, d6] => { results := [.lit (.bool false)], args := [d1, d2, d3, d4, d5, d6] }
  | _ => none }
def GraphBendsWrongFalsely : Prop := graphBendsRow.holds Try.pinned (OpenSpec.ofChange graphBendsWrong)

/-- 'gimballaw18.CostLine': WHATEVER THE INPUT: true; the input reads as it did. -/
def costLineSpec : ChangeSpec := { name := "costLine", fn := fun _ => fun
  | [d1, d2, d3, d4] => { results := [.lit (.bool true)], args := [d1, d2, d3, d4] }
  | _ => none }
def costLineRow : OpenClaim := { program := "ytfonkhgndfjbfaa", sum := "6b64ae3b822f5052e9da5072bfef490278bf3509a8244700d836be396094884f", func := "gimbal/gimballaw18.CostLine", spec := "costLine", unfollowed := true, recurses := true, apart := false }
def CostLineSaid : Prop := costLineRow.holds Try.pinned (OpenSpec.ofChange costLineSpec)

/-- ITS FALSE NEIGHBOUR: 'it returns false'. Refute it at one input. -/
def costLineWrong : ChangeSpec := { name := "costLine", fn := fun _ => fun
  | [d1, d2, d3, d4] => { results := [.lit (.bool false)], args := [d1, d2, d3, d4] }
  | _ => none }
def CostLineWrongFalsely : Prop := costLineRow.holds Try.pinned (OpenSpec.ofChange costLineWrong)

/-- 'gimballaw18.CostAdds': WHATEVER THE INPUT: true; the input reads as it did. -/
def costAddsSpec : ChangeSpec := { name := "costAdds", fn := fun _ => fun
  | [d1, d2, d3, d4] => { results := [.lit (.bool true)], args := [d1, d2, d3, d4] }
  | _ => none }
def costAddsRow : OpenClaim := { program := "ytfonkhgndfjbfaa", sum := "6b64ae3b822f5052e9da5072bfef490278bf3509a8244700d836be396094884f", func := "gimbal/gimballaw18.CostAdds", spec := "costAdds", unfollowed := true, recurses := true, apart := false }
def CostAddsSaid : Prop := costAddsRow.holds Try.pinned (OpenSpec.ofChange costAddsSpec)

/-- ITS FALSE NEIGHBOUR: 'it returns false'. Refute it at one input. -/
def costAddsWrong : ChangeSpec := { name := "costAdds", fn := fun _ => fun
  | [d1, d2, d3, d4] => { results := [.lit (.bool false)], args := [d1, d2, d3, d4] }
  | _ => none }
def CostAddsWrongFalsely : Prop := costAddsRow.holds Try.pinned (OpenSpec.ofChange costAddsWrong)

/-- 'gimballaw18.CostNought': WHATEVER THE INPUT: true; the input reads as it did. -/
def costNoughtSpec : ChangeSpec := { name := "costNought", fn := fun _ => fun
  | [d1, d2, d3] => { results := [.lit (.bool true)], args := [d1, d2, d3] }
  | _ => none }
def costNoughtRow : OpenClaim := { program := "ytfonkhgndfjbfaa", sum := "6b64ae3b822f5052e9da5072bfef490278bf3509a8244700d836be396094884f", func := "gimbal/gimballaw18.CostNought", spec := "costNought", unfollowed := true, recurses := true, apart := false }
def CostNoughtSaid : Prop := costNoughtRow.holds Try.pinned (OpenSpec.ofChange costNoughtSpec)

/-- ITS FALSE NEIGHBOUR: 'it returns false'. Refute it at one input. -/
def costNoughtWrong : ChangeSpec := { name := "costNought", fn := fun _ => fun
  | [d1, d2, d3] => { results := [.lit (.bool false)], args := [d1, d2, d3] }
  | _ => none }
def CostNoughtWrongFalsely : Prop := costNoughtRow.holds Try.pinned (OpenSpec.ofChange costNoughtWrong)

/-- 'gimballaw18.CostScaled': WHATEVER THE INPUT: true; the input reads as it did. -/
def costScaledSpec : ChangeSpec := { name := "costScaled", fn := fun _ => fun
  | [d1, d2, d3, d4, d5, d6, d7] => { results := [.lit (.bool true)], args := [d1, d2, d3, d4, d5, d6, d7] }
  | _ => none }
def costScaledRow : OpenClaim := { program := "ytfonkhgndfjbfaa", sum := "6b64ae3b822f5052e9da5072bfef490278bf3509a8244700d836be396094884f", func := "gimbal/gimballaw18.CostScaled", spec := "costScaled", unfollowed := true, recurses := true, apart := false }
def CostScaledSaid : Prop := costScaledRow.holds Try.pinned (OpenSpec.ofChange costScaledSpec)

/-- ITS FALSE NEIGHBOUR: 'it returns false'. Refute it at one input. -/
def costScaledWrong : ChangeSpec := { name := "costScaled", fn := fun _ => fun
  | [d1, d2, d3, d4, d5, d6, d7] => { results := [.lit (.bool false)], args := [d1, d2, d3, d4, d5, d6, d7] }
  | _ => none }
def CostScaledWrongFalsely : Prop := costScaledRow.holds Try.pinned (OpenSpec.ofChange costScaledWrong)

/- THE SECOND FORM. 'bulk': how many values and letters a reading holds, each counted each time it is reached (what is shared counts as often as it is met; a slice's spare places count too). A statement '..UptoSaid' is the law's where the arguments, and the package variables that the reading takes, are together of bulk at most 1048576: NARROWER than '..Said'. Prove '..Said' where nothing that the law and all that it calls make is longer than what came in: it says more and counts as full. Else prove '..UptoSaid'. A law counts once. -/
mutual
def uptoBulk {H : Type} : DataW H → Nat
  | .lit (.string bytes) => bytes.length + 1
  | .lit _ => 1
  | .nil => 1
  | .ptr d => uptoBulk d + 1
  | .slice elems spare => uptoBulkAll elems + uptoBulkAll spare + 1
  | .agg parts => uptoBulkAll parts + 1
  | .iface _ d => uptoBulk d + 1
  | .map entries => uptoBulkEntries entries + 1
  | .held _ => 1
def uptoBulkAll {H : Type} : List (DataW H) → Nat
  | [] => 0
  | d :: r => uptoBulk d + uptoBulkAll r
def uptoBulkEntries {H : Type} : List (Lit × DataW H) → Nat
  | [] => 0
  | x :: r => uptoBulkEntry x + uptoBulkEntries r
def uptoBulkEntry {H : Type} : Lit × DataW H → Nat
  | (.string bytes, d) => bytes.length + uptoBulk d + 1
  | (_, d) => uptoBulk d + 1
 end
def uptoSmall : (H : Type) → List (DataW H) → Bool := fun _ ds => decide (uptoBulkAll ds ≤ 1048576)
def OpenSpec.upto (s : _root_.Go.ChangeSpec) : _root_.Go.OpenSpec := { _root_.Go.OpenSpec.ofChange s with cond := some uptoSmall }

/-- 'gimballaw17.GraphMakes', WHERE WHAT IT READS IS OF BULK AT MOST 1048576: true; the input reads as it did. -/
def graphMakesUptoRow : OpenClaim := { program := "ytfonkhgndfjbfaa", sum := "6b64ae3b822f5052e9da5072bfef490278bf3509a8244700d836be396094884f", func := "gimbal/gimballaw17.GraphMakes", spec := "graphMakes", unfollowed := true, recurses := true, apart := false, narrowed := true }
def GraphMakesUptoSaid : Prop := graphMakesUptoRow.holds Try.pinned (OpenSpec.upto graphMakesSpec)

/-- 'gimballaw17.GraphCurves', WHERE WHAT IT READS IS OF BULK AT MOST 1048576: true; the input reads as it did. -/
def graphCurvesUptoRow : OpenClaim := { program := "ytfonkhgndfjbfaa", sum := "6b64ae3b822f5052e9da5072bfef490278bf3509a8244700d836be396094884f", func := "gimbal/gimballaw17.GraphCurves", spec := "graphCurves", unfollowed := true, recurses := true, apart := false, narrowed := true }
def GraphCurvesUptoSaid : Prop := graphCurvesUptoRow.holds Try.pinned (OpenSpec.upto graphCurvesSpec)

/-- 'gimballaw17.GraphWith', WHERE WHAT IT READS IS OF BULK AT MOST 1048576: true; the input reads as it did. -/
def graphWithUptoRow : OpenClaim := { program := "ytfonkhgndfjbfaa", sum := "6b64ae3b822f5052e9da5072bfef490278bf3509a8244700d836be396094884f", func := "gimbal/gimballaw17.GraphWith", spec := "graphWith", unfollowed := true, recurses := true, apart := false, narrowed := true }
def GraphWithUptoSaid : Prop := graphWithUptoRow.holds Try.pinned (OpenSpec.upto graphWithSpec)

/-- 'gimballaw17.GraphOrder', WHERE WHAT IT READS IS OF BULK AT MOST 1048576: true; the input reads as it did. -/
def graphOrderUptoRow : OpenClaim := { program := "ytfonkhgndfjbfaa", sum := "6b64ae3b822f5052e9da5072bfef490278bf3509a8244700d836be396094884f", func := "gimbal/gimballaw17.GraphOrder", spec := "graphOrder", unfollowed := true, recurses := true, apart := false, narrowed := true }
def GraphOrderUptoSaid : Prop := graphOrderUptoRow.holds Try.pinned (OpenSpec.upto graphOrderSpec)

/-- 'gimballaw17.GraphPrior', WHERE WHAT IT READS IS OF BULK AT MOST 1048576: true; the input reads as it did. -/
def graphPriorUptoRow : OpenClaim := { program := "ytfonkhgndfjbfaa", sum := "6b64ae3b822f5052e9da5072bfef490278bf3509a8244700d836be396094884f", func := "gimbal/gimballaw17.GraphPrior", spec := "graphPrior", unfollowed := true, recurses := true, apart := false, narrowed := true }
def GraphPriorUptoSaid : Prop := graphPriorUptoRow.holds Try.pinned (OpenSpec.upto graphPriorSpec)

/-- 'gimballaw17.GraphBends', WHERE WHAT IT READS IS OF BULK AT MOST 1048576: true; the input reads as it did. -/
def graphBendsUptoRow : OpenClaim := { program := "ytfonkhgndfjbfaa", sum := "6b64ae3b822f5052e9da5072bfef490278bf3509a8244700d836be396094884f", func := "gimbal/gimballaw17.GraphBends", spec := "graphBends", unfollowed := true, recurses := true, apart := false, narrowed := true }
def GraphBendsUptoSaid : Prop := graphBendsUptoRow.holds Try.pinned (OpenSpec.upto graphBendsSpec)

/-- 'gimballaw18.CostLine', WHERE WHAT IT READS IS OF BULK AT MOST 1048576: true; the input reads as it did. -/
def costLineUptoRow : OpenClaim := { program := "ytfonkhgndfjbfaa", sum := "6b64ae3b822f5052e9da5072bfef490278bf3509a8244700d836be396094884f", func := "gimbal/gimballaw18.CostLine", spec := "costLine", unfollowed := true, recurses := true, apart := false, narrowed := true }
def CostLineUptoSaid : Prop := costLineUptoRow.holds Try.pinned (OpenSpec.upto costLineSpec)

/-- 'gimballaw18.CostAdds', WHERE WHAT IT READS IS OF BULK AT MOST 1048576: true; the input reads as it did. -/
def costAddsUptoRow : OpenClaim := { program := "ytfonkhgndfjbfaa", sum := "6b64ae3b822f5052e9da5072bfef490278bf3509a8244700d836be396094884f", func := "gimbal/gimballaw18.CostAdds", spec := "costAdds", unfollowed := true, recurses := true, apart := false, narrowed := true }
def CostAddsUptoSaid : Prop := costAddsUptoRow.holds Try.pinned (OpenSpec.upto costAddsSpec)

/-- 'gimballaw18.CostNought', WHERE WHAT IT READS IS OF BULK AT MOST 1048576: true; the input reads as it did. -/
def costNoughtUptoRow : OpenClaim := { program := "ytfonkhgndfjbfaa", sum := "6b64ae3b822f5052e9da5072bfef490278bf3509a8244700d836be396094884f", func := "gimbal/gimballaw18.CostNought", spec := "costNought", unfollowed := true, recurses := true, apart := false, narrowed := true }
def CostNoughtUptoSaid : Prop := costNoughtUptoRow.holds Try.pinned (OpenSpec.upto costNoughtSpec)

/-- 'gimballaw18.CostScaled', WHERE WHAT IT READS IS OF BULK AT MOST 1048576: true; the input reads as it did. -/
def costScaledUptoRow : OpenClaim := { program := "ytfonkhgndfjbfaa", sum := "6b64ae3b822f5052e9da5072bfef490278bf3509a8244700d836be396094884f", func := "gimbal/gimballaw18.CostScaled", spec := "costScaled", unfollowed := true, recurses := true, apart := false, narrowed := true }
def CostScaledUptoSaid : Prop := costScaledUptoRow.holds Try.pinned (OpenSpec.upto costScaledSpec)

end Rows
end Go.Proofs.Ytfonkhgndfjbfaa
