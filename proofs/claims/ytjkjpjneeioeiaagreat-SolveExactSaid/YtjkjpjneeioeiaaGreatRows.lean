/-
  No cell of these rows narrows 'for every input' (looked for: loops, veiled, ifaces, maps, wideKeys, modest, calm, conditions, laid).
  DERIVED. THE GIVEN ROWS OF THIS SEAT. 8 by the template 'for every input the law returns true; each argument reads behind the call as it read before'; 0 by the template 'total and deterministic' (their statements: YtjkjpjneeioeiaaGreatTotals.lean).
  GIVEN WITH THE SEED: the statements are not yours to turn. If you find one false, say at which input.
  Laid BY PROGRAM, IN A SANDBOX (cutbox-rows.mjs): the forced cells as the released guide's own fill.sh prints them over the translation 6df568feffb20266… (all of the seat's roots in one cut). By AI agents, Wed Nov 11 2026. No macro, syntax, notation, axiom, sorry.
-/
import Derived.Test.YtjkjpjneeioeiaaGreatChecked
import GoSem.Claim
import GoSem.ClaimJoined
import GoSem.ClaimMapViews
import Derived.JoinedTies
import Derived.KernelRfl
namespace Go.Proofs.YtjkjpjneeioeiaaGreat
/- THE CELL 'sum', in the pinned program and in every row, IS THE sha256 OF THE DUMP (.gsa) THAT YtjkjpjneeioeiaaGreatProg.lean LOADS. Nothing in Lean hashes anything: it is a label: what it is worth is what the hold of that sum in a sandbox is worth. -/
noncomputable def Tryz.pinned : Pinned := { name := "ytjkjpjneeioeiaagreat", sum := "6df568feffb202669c509b3c45ba95b7894bb6b0ff515678a107221a92117df2", checked := Tryz.checked }
namespace Rows
def none {H : Type} : Left H := { results := [], args := [] }

/-- 'gimballaw20.MargPlays': WHATEVER THE INPUT: true; the input reads as it did. -/
def margPlaysSpec : ChangeSpec := { name := "margPlays", fn := fun _ => fun
  | [d1, d2, d3, d4, d5, d6] => { results := [.lit (.bool true)], args := [d1, d2, d3, d4, d5, d6] }
  | _ => none }
def margPlaysRow : OpenClaim := { program := "ytjkjpjneeioeiaagreat", sum := "6df568feffb202669c509b3c45ba95b7894bb6b0ff515678a107221a92117df2", func := "gimbal/gimballaw20.MargPlays", spec := "margPlays", unfollowed := true, recurses := true, apart := false }
def MargPlaysSaid : Prop := margPlaysRow.holds Tryz.pinned (OpenSpec.ofChange margPlaysSpec)

/-- ITS FALSE NEIGHBOUR: 'it returns false'. Refute it at one input. -/
def margPlaysWrong : ChangeSpec := { name := "margPlays", fn := fun _ => fun
  | [d1, d2, d3, d4, d5, d6] => { results := [.lit (.bool false)], args := [d1, d2, d3, d4, d5, d6] }
  | _ => none }
def MargPlaysWrongFalsely : Prop := margPlaysRow.holds Tryz.pinned (OpenSpec.ofChange margPlaysWrong)

/-- 'gimballaw20.MargWhole': WHATEVER THE INPUT: true; the input reads as it did. -/
def margWholeSpec : ChangeSpec := { name := "margWhole", fn := fun _ => fun
  | [d1, d2, d3, d4, d5] => { results := [.lit (.bool true)], args := [d1, d2, d3, d4, d5] }
  | _ => none }
def margWholeRow : OpenClaim := { program := "ytjkjpjneeioeiaagreat", sum := "6df568feffb202669c509b3c45ba95b7894bb6b0ff515678a107221a92117df2", func := "gimbal/gimballaw20.MargWhole", spec := "margWhole", unfollowed := true, recurses := true, apart := false }
def MargWholeSaid : Prop := margWholeRow.holds Tryz.pinned (OpenSpec.ofChange margWholeSpec)

/-- ITS FALSE NEIGHBOUR: 'it returns false'. Refute it at one input. -/
def margWholeWrong : ChangeSpec := { name := "margWhole", fn := fun _ => fun
  | [d1, d2, d3, d4, d5] => { results := [.lit (.bool false)], args := [d1, d2, d3, d4, d5] }
  | _ => none }
def MargWholeWrongFalsely : Prop := margWholeRow.holds Tryz.pinned (OpenSpec.ofChange margWholeWrong)

/-- 'gimballaw19.SolveSteps': WHATEVER THE INPUT: true; the input reads as it did. -/
def solveStepsSpec : ChangeSpec := { name := "solveSteps", fn := fun _ => fun
  | [d1, d2, d3, d4, d5, d6] => { results := [.lit (.bool true)], args := [d1, d2, d3, d4, d5, d6] }
  | _ => none }
def solveStepsRow : OpenClaim := { program := "ytjkjpjneeioeiaagreat", sum := "6df568feffb202669c509b3c45ba95b7894bb6b0ff515678a107221a92117df2", func := "gimbal/gimballaw19.SolveSteps", spec := "solveSteps", unfollowed := true, recurses := true, apart := false }
def SolveStepsSaid : Prop := solveStepsRow.holds Tryz.pinned (OpenSpec.ofChange solveStepsSpec)

/-- ITS FALSE NEIGHBOUR: 'it returns false'. Refute it at one input. -/
def solveStepsWrong : ChangeSpec := { name := "solveSteps", fn := fun _ => fun
  | [d1, d2, d3, d4, d5, d6] => { results := [.lit (.bool false)], args := [d1, d2, d3, d4, d5, d6] }
  | _ => none }
def SolveStepsWrongFalsely : Prop := solveStepsRow.holds Tryz.pinned (OpenSpec.ofChange solveStepsWrong)

/-- 'gimballaw19.SolvePlays': WHATEVER THE INPUT: true; the input reads as it did. -/
def solvePlaysSpec : ChangeSpec := { name := "solvePlays", fn := fun _ => fun
  | [d1, d2, d3, d4, d5, d6] => { results := [.lit (.bool true)], args := [d1, d2, d3, d4, d5, d6] }
  | _ => none }
def solvePlaysRow : OpenClaim := { program := "ytjkjpjneeioeiaagreat", sum := "6df568feffb202669c509b3c45ba95b7894bb6b0ff515678a107221a92117df2", func := "gimbal/gimballaw19.SolvePlays", spec := "solvePlays", unfollowed := true, recurses := true, apart := false }
def SolvePlaysSaid : Prop := solvePlaysRow.holds Tryz.pinned (OpenSpec.ofChange solvePlaysSpec)

/-- ITS FALSE NEIGHBOUR: 'it returns false'. Refute it at one input. -/
def solvePlaysWrong : ChangeSpec := { name := "solvePlays", fn := fun _ => fun
  | [d1, d2, d3, d4, d5, d6] => { results := [.lit (.bool false)], args := [d1, d2, d3, d4, d5, d6] }
  | _ => none }
def SolvePlaysWrongFalsely : Prop := solvePlaysRow.holds Tryz.pinned (OpenSpec.ofChange solvePlaysWrong)

/-- 'gimballaw19.SolveFalls': WHATEVER THE INPUT: true; the input reads as it did. -/
def solveFallsSpec : ChangeSpec := { name := "solveFalls", fn := fun _ => fun
  | [d1, d2, d3, d4] => { results := [.lit (.bool true)], args := [d1, d2, d3, d4] }
  | _ => none }
def solveFallsRow : OpenClaim := { program := "ytjkjpjneeioeiaagreat", sum := "6df568feffb202669c509b3c45ba95b7894bb6b0ff515678a107221a92117df2", func := "gimbal/gimballaw19.SolveFalls", spec := "solveFalls", unfollowed := true, recurses := true, apart := false }
def SolveFallsSaid : Prop := solveFallsRow.holds Tryz.pinned (OpenSpec.ofChange solveFallsSpec)

/-- ITS FALSE NEIGHBOUR: 'it returns false'. Refute it at one input. -/
def solveFallsWrong : ChangeSpec := { name := "solveFalls", fn := fun _ => fun
  | [d1, d2, d3, d4] => { results := [.lit (.bool false)], args := [d1, d2, d3, d4] }
  | _ => none }
def SolveFallsWrongFalsely : Prop := solveFallsRow.holds Tryz.pinned (OpenSpec.ofChange solveFallsWrong)

/-- 'gimballaw19.SolveAgain': WHATEVER THE INPUT: true; the input reads as it did. -/
def solveAgainSpec : ChangeSpec := { name := "solveAgain", fn := fun _ => fun
  | [d1, d2, d3, d4] => { results := [.lit (.bool true)], args := [d1, d2, d3, d4] }
  | _ => none }
def solveAgainRow : OpenClaim := { program := "ytjkjpjneeioeiaagreat", sum := "6df568feffb202669c509b3c45ba95b7894bb6b0ff515678a107221a92117df2", func := "gimbal/gimballaw19.SolveAgain", spec := "solveAgain", unfollowed := true, recurses := true, apart := false }
def SolveAgainSaid : Prop := solveAgainRow.holds Tryz.pinned (OpenSpec.ofChange solveAgainSpec)

/-- ITS FALSE NEIGHBOUR: 'it returns false'. Refute it at one input. -/
def solveAgainWrong : ChangeSpec := { name := "solveAgain", fn := fun _ => fun
  | [d1, d2, d3, d4] => { results := [.lit (.bool false)], args := [d1, d2, d3, d4] }
  | _ => none }
def SolveAgainWrongFalsely : Prop := solveAgainRow.holds Tryz.pinned (OpenSpec.ofChange solveAgainWrong)

/-- 'gimballaw19.SolveNear': WHATEVER THE INPUT: true; the input reads as it did. -/
def solveNearSpec : ChangeSpec := { name := "solveNear", fn := fun _ => fun
  | [d1, d2, d3, d4] => { results := [.lit (.bool true)], args := [d1, d2, d3, d4] }
  | _ => none }
def solveNearRow : OpenClaim := { program := "ytjkjpjneeioeiaagreat", sum := "6df568feffb202669c509b3c45ba95b7894bb6b0ff515678a107221a92117df2", func := "gimbal/gimballaw19.SolveNear", spec := "solveNear", unfollowed := true, recurses := true, apart := false }
def SolveNearSaid : Prop := solveNearRow.holds Tryz.pinned (OpenSpec.ofChange solveNearSpec)

/-- ITS FALSE NEIGHBOUR: 'it returns false'. Refute it at one input. -/
def solveNearWrong : ChangeSpec := { name := "solveNear", fn := fun _ => fun
  | [d1, d2, d3, d4] => { results := [.lit (.bool false)], args := [d1, d2, d3, d4] }
  | _ => none }
def SolveNearWrongFalsely : Prop := solveNearRow.holds Tryz.pinned (OpenSpec.ofChange solveNearWrong)

/-- 'gimballaw19.SolveExact': WHATEVER THE INPUT: true; the input reads as it did. -/
def solveExactSpec : ChangeSpec := { name := "solveExact", fn := fun _ => fun
  | [d1, d2, d3] => { results := [.lit (.bool true)], args := [d1, d2, d3] }
  | _ => none }
def solveExactRow : OpenClaim := { program := "ytjkjpjneeioeiaagreat", sum := "6df568feffb202669c509b3c45ba95b7894bb6b0ff515678a107221a92117df2", func := "gimbal/gimballaw19.SolveExact", spec := "solveExact", unfollowed := true, recurses := true, apart := false }
def SolveExactSaid : Prop := solveExactRow.holds Tryz.pinned (OpenSpec.ofChange solveExactSpec)

/-- ITS FALSE NEIGHBOUR: 'it returns false'. Refute it at one input. -/
def solveExactWrong : ChangeSpec := { name := "solveExact", fn := fun _ => fun
  | [d1, d2, d3] => { results := [.lit (.bool false)], args := [d1, d2, d3] }
  | _ => none }
def SolveExactWrongFalsely : Prop := solveExactRow.holds Tryz.pinned (OpenSpec.ofChange solveExactWrong)

/- THE SECOND FORM. 'bulk': how many values and letters a reading holds, each counted each time it is reached (what is shared counts as often as it is met; a slice's spare places count too). A statement '..UptoSaid' is the law's where the arguments, and the package variables that the reading takes, are together of bulk at most 1048576: NARROWER than '..Said'. Prove '..Said' where nothing that the law and all that it calls make is longer than what came in: it says more and counts as full. Else prove '..UptoSaid'. A law counts once. -/
mutual
def uptoBulk {H : Type} : DataW H → Nat
  | .lit (.string bytes) => bytes.length + 1
  | .lit _ => 1
  | .nil => 1
  | .ptr d => uptoBulk d + 1
  | .slice elems spare => uptoBulkAll elems + uptoBulkAll spare + 1
  | .agg parts => uptoBulkAll parts + 1
  | .iface _ d => uptoBulk d + 1
  | .map entries => uptoBulkEntries entries + 1
  | .held _ => 1
def uptoBulkAll {H : Type} : List (DataW H) → Nat
  | [] => 0
  | d :: r => uptoBulk d + uptoBulkAll r
def uptoBulkEntries {H : Type} : List (Lit × DataW H) → Nat
  | [] => 0
  | x :: r => uptoBulkEntry x + uptoBulkEntries r
def uptoBulkEntry {H : Type} : Lit × DataW H → Nat
  | (.string bytes, d) => bytes.length + uptoBulk d + 1
  | (_, d) => uptoBulk d + 1
 end
def uptoSmall : (H : Type) → List (DataW H) → Bool := fun _ ds => decide (uptoBulkAll ds ≤ 1048576)
def OpenSpec.upto (s : _root_.Go.ChangeSpec) : _root_.Go.OpenSpec := { _root_.Go.OpenSpec.ofChange s with cond := some uptoSmall }

/-- 'gimballaw20.MargPlays', WHERE WHAT IT READS IS OF BULK AT MOST 1048576: true; the input reads as it did. -/
def margPlaysUptoRow : OpenClaim := { program := "ytjkjpjneeioeiaagreat", sum := "6df568feffb202669c509b3c45ba95b7894bb6b0ff515678a107221a92117df2", func := "gimbal/gimballaw20.MargPlays", spec := "margPlays", unfollowed := true, recurses := true, apart := false, narrowed := true }
def MargPlaysUptoSaid : Prop := margPlaysUptoRow.holds Tryz.pinned (OpenSpec.upto margPlaysSpec)

/-- 'gimballaw20.MargWhole', WHERE WHAT IT READS IS OF BULK AT MOST 1048576: true; the input reads as it did. -/
def margWholeUptoRow : OpenClaim := { program := "ytjkjpjneeioeiaagreat", sum := "6df568feffb202669c509b3c45ba95b7894bb6b0ff515678a107221a92117df2", func := "gimbal/gimballaw20.MargWhole", spec := "margWhole", unfollowed := true, recurses := true, apart := false, narrowed := true }
def MargWholeUptoSaid : Prop := margWholeUptoRow.holds Tryz.pinned (OpenSpec.upto margWholeSpec)

/-- 'gimballaw19.SolveSteps', WHERE WHAT IT READS IS OF BULK AT MOST 1048576: true; the input reads as it did. -/
def solveStepsUptoRow : OpenClaim := { program := "ytjkjpjneeioeiaagreat", sum := "6df568feffb202669c509b3c45ba95b7894bb6b0ff515678a107221a92117df2", func := "gimbal/gimballaw19.SolveSteps", spec := "solveSteps", unfollowed := true, recurses := true, apart := false, narrowed := true }
def SolveStepsUptoSaid : Prop := solveStepsUptoRow.holds Tryz.pinned (OpenSpec.upto solveStepsSpec)

/-- 'gimballaw19.SolvePlays', WHERE WHAT IT READS IS OF BULK AT MOST 1048576: true; the input reads as it did. -/
def solvePlaysUptoRow : OpenClaim := { program := "ytjkjpjneeioeiaagreat", sum := "6df568feffb202669c509b3c45ba95b7894bb6b0ff515678a107221a92117df2", func := "gimbal/gimballaw19.SolvePlays", spec := "solvePlays", unfollowed := true, recurses := true, apart := false, narrowed := true }
def SolvePlaysUptoSaid : Prop := solvePlaysUptoRow.holds Tryz.pinned (OpenSpec.upto solvePlaysSpec)

/-- 'gimballaw19.SolveFalls', WHERE WHAT IT READS IS OF BULK AT MOST 1048576: true; the input reads as it did. -/
def solveFallsUptoRow : OpenClaim := { program := "ytjkjpjneeioeiaagreat", sum := "6df568feffb202669c509b3c45ba95b7894bb6b0ff515678a107221a92117df2", func := "gimbal/gimballaw19.SolveFalls", spec := "solveFalls", unfollowed := true, recurses := true, apart := false, narrowed := true }
def SolveFallsUptoSaid : Prop := solveFallsUptoRow.holds Tryz.pinned (OpenSpec.upto solveFallsSpec)

/-- 'gimballaw19.SolveAgain', WHERE WHAT IT READS IS OF BULK AT MOST 1048576: true; the input reads as it did. -/
def solveAgainUptoRow : OpenClaim := { program := "ytjkjpjneeioeiaagreat", sum := "6df568feffb202669c509b3c45ba95b7894bb6b0ff515678a107221a92117df2", func := "gimbal/gimballaw19.SolveAgain", spec := "solveAgain", unfollowed := true, recurses := true, apart := false, narrowed := true }
def SolveAgainUptoSaid : Prop := solveAgainUptoRow.holds Tryz.pinned (OpenSpec.upto solveAgainSpec)

/-- 'gimballaw19.SolveNear', WHERE WHAT IT READS IS OF BULK AT MOST 1048576: true; the input reads as it did. -/
def solveNearUptoRow : OpenClaim := { program := "ytjkjpjneeioeiaagreat", sum := "6df568feffb202669c509b3c45ba95b7894bb6b0ff515678a107221a92117df2", func := "gimbal/gimballaw19.SolveNear", spec := "solveNear", unfollowed := true, recurses := true, apart := false, narrowed := true }
def SolveNearUptoSaid : Prop := solveNearUptoRow.holds Tryz.pinned (OpenSpec.upto solveNearSpec)

/-- 'gimballaw19.SolveExact', WHERE WHAT IT READS IS OF BULK AT MOST 1048576: true; the input reads as it did. -/
def solveExactUptoRow : OpenClaim := { program := "ytjkjpjneeioeiaagreat", sum := "6df568feffb202669c509b3c45ba95b7894bb6b0ff515678a107221a92117df2", func := "gimbal/gimballaw19.SolveExact", spec := "solveExact", unfollowed := true, recurses := true, apart := false, narrowed := true }
def SolveExactUptoSaid : Prop := solveExactUptoRow.holds Tryz.pinned (OpenSpec.upto solveExactSpec)

end Rows
end Go.Proofs.YtjkjpjneeioeiaaGreat
