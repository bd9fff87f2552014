/-
  No cell of these rows narrows 'for every input' (looked for: loops, veiled, ifaces, maps, wideKeys, modest, calm, conditions, laid).
  DERIVED. THE GIVEN ROWS OF THIS SEAT. 4 by the template 'for every input the law returns true; each argument reads behind the call as it read before'; 0 by the template 'total and deterministic' (their statements: YtjkjpjneeioeiaaTotals.lean).
  GIVEN WITH THE SEED: the statements are not yours to turn. If you find one false, say at which input.
  Laid BY PROGRAM, IN A SANDBOX (cutbox-rows.mjs): the forced cells as the released guide's own fill.sh prints them over the translation 3e10fa37d303637b… (all of the seat's roots in one cut). By AI agents, Wed Nov 11 2026. No macro, syntax, notation, axiom, sorry.
-/
import Derived.Test.YtjkjpjneeioeiaaChecked
import GoSem.Claim
import GoSem.ClaimJoined
import GoSem.ClaimMapViews
import Derived.JoinedTies
import Derived.KernelRfl
namespace Go.Proofs.Ytjkjpjneeioeiaa
/- THE CELL 'sum', in the pinned program and in every row, IS THE sha256 OF THE DUMP (.gsa) THAT YtjkjpjneeioeiaaProg.lean LOADS. Nothing in Lean hashes anything: it is a label: what it is worth is what the hold of that sum in a sandbox is worth. -/
noncomputable def Try.pinned : Pinned := { name := "ytjkjpjneeioeiaa", sum := "3e10fa37d303637b392501b8e9b272c518451575a782bfc4eac17a69ed205ad8", checked := Try.checked }
namespace Rows
def none {H : Type} : Left H := { results := [], args := [] }

/-- 'gimballaw20.MargKeeps': WHATEVER THE INPUT: true; the input reads as it did. -/
def margKeepsSpec : ChangeSpec := { name := "margKeeps", fn := fun _ => fun
  | [d1, d2, d3, d4] => { results := [.lit (.bool true)], args := [d1, d2, d3, d4] }
  | _ => none }
def margKeepsRow : OpenClaim := { program := "ytjkjpjneeioeiaa", sum := "3e10fa37d303637b392501b8e9b272c518451575a782bfc4eac17a69ed205ad8", func := "gimbal/gimballaw20.MargKeeps", spec := "margKeeps", unfollowed := true, recurses := true, apart := false }
def MargKeepsSaid : Prop := margKeepsRow.holds Try.pinned (OpenSpec.ofChange margKeepsSpec)

/-- ITS FALSE NEIGHBOUR: 'it returns false'. Refute it at one input. -/
def margKeepsWrong : ChangeSpec := { name := "margKeeps", fn := fun _ => fun
  | [d1, d2, d3, d4] => { results := [.lit (.bool false)], args := [d1, d2, d3, d4] }
  | _ => none }
def MargKeepsWrongFalsely : Prop := margKeepsRow.holds Try.pinned (OpenSpec.ofChange margKeepsWrong)

/-- 'gimballaw20.MargLess': WHATEVER THE INPUT: true; the input reads as it did. -/
def margLessSpec : ChangeSpec := { name := "margLess", fn := fun _ => fun
  | [d1, d2, d3, d4, d5] => { results := [.lit (.bool true)], args := [d1, d2, d3, d4, d5] }
  | _ => none }
def margLessRow : OpenClaim := { program := "ytjkjpjneeioeiaa", sum := "3e10fa37d303637b392501b8e9b272c518451575a782bfc4eac17a69ed205ad8", func := "gimbal/gimballaw20.MargLess", spec := "margLess", unfollowed := true, recurses := true, apart := false }
def MargLessSaid : Prop := margLessRow.holds Try.pinned (OpenSpec.ofChange margLessSpec)

/-- ITS FALSE NEIGHBOUR: 'it returns false'. Refute it at one input. -/
def margLessWrong : ChangeSpec := { name := "margLess", fn := fun _ => fun
  | [d1, d2, d3, d4, d5] => { results := [.lit (.bool false)], args := [d1, d2, d3, d4, d5] }
  | _ => none }
def MargLessWrongFalsely : Prop := margLessRow.holds Try.pinned (OpenSpec.ofChange margLessWrong)

/-- 'gimballaw20.MargAgain': WHATEVER THE INPUT: true; the input reads as it did. -/
def margAgainSpec : ChangeSpec := { name := "margAgain", fn := fun _ => fun
  | [d1, d2, d3, d4, d5, d6] => { results := [.lit (.bool true)], args := [d1, d2, d3, d4, d5, d6] }
  | _ => none }
def margAgainRow : OpenClaim := { program := "ytjkjpjneeioeiaa", sum := "3e10fa37d303637b392501b8e9b272c518451575a782bfc4eac17a69ed205ad8", func := "gimbal/gimballaw20.MargAgain", spec := "margAgain", unfollowed := true, recurses := true, apart := false }
def MargAgainSaid : Prop := margAgainRow.holds Try.pinned (OpenSpec.ofChange margAgainSpec)

/-- ITS FALSE NEIGHBOUR: 'it returns false'. Refute it at one input. -/
def margAgainWrong : ChangeSpec := { name := "margAgain", fn := fun _ => fun
  | [d1, d2, d3, d4, d5, d6] => { results := [.lit (.bool false)], args := [d1, d2, d3, d4, d5, d6] }
  | _ => none }
def MargAgainWrongFalsely : Prop := margAgainRow.holds Try.pinned (OpenSpec.ofChange margAgainWrong)

/-- 'gimballaw20.MargNear': WHATEVER THE INPUT: true; the input reads as it did. -/
def margNearSpec : ChangeSpec := { name := "margNear", fn := fun _ => fun
  | [d1, d2, d3, d4, d5] => { results := [.lit (.bool true)], args := [d1, d2, d3, d4, d5] }
  | _ => none }
def margNearRow : OpenClaim := { program := "ytjkjpjneeioeiaa", sum := "3e10fa37d303637b392501b8e9b272c518451575a782bfc4eac17a69ed205ad8", func := "gimbal/gimballaw20.MargNear", spec := "margNear", unfollowed := true, recurses := true, apart := false }
def MargNearSaid : Prop := margNearRow.holds Try.pinned (OpenSpec.ofChange margNearSpec)

/-- ITS FALSE NEIGHBOUR: 'it returns false'. Refute it at one input. -/
def margNearWrong : ChangeSpec := { name := "margNear", fn := fun _ => fun
  | [d1, d2, d3, d4, d5] => { results := [.lit (.bool false)], args := [d1, d2, d3, d4, d5] }
  | _ => none }
def MargNearWrongFalsely : Prop := margNearRow.holds Try.pinned (OpenSpec.ofChange margNearWrong)

/- THE SECOND FORM. 'bulk': how many values and letters a reading holds, each counted each time it is reached (what is shared counts as often as it is met; a slice's spare places count too). A statement '..UptoSaid' is the law's where the arguments, and the package variables that the reading takes, are together of bulk at most 1048576: NARROWER than '..Said'. Prove '..Said' where nothing that the law and all that it calls make is longer than what came in: it says more and counts as full. Else prove '..UptoSaid'. A law counts once. -/
mutual
def uptoBulk {H : Type} : DataW H → Nat
  | .lit (.string bytes) => bytes.length + 1
  | .lit _ => 1
  | .nil => 1
  | .ptr d => uptoBulk d + 1
  | .slice elems spare => uptoBulkAll elems + uptoBulkAll spare + 1
  | .agg parts => uptoBulkAll parts + 1
  | .iface _ d => uptoBulk d + 1
  | .map entries => uptoBulkEntries entries + 1
  | .held _ => 1
def uptoBulkAll {H : Type} : List (DataW H) → Nat
  | [] => 0
  | d :: r => uptoBulk d + uptoBulkAll r
def uptoBulkEntries {H : Type} : List (Lit × DataW H) → Nat
  | [] => 0
  | x :: r => uptoBulkEntry x + uptoBulkEntries r
def uptoBulkEntry {H : Type} : Lit × DataW H → Nat
  | (.string bytes, d) => bytes.length + uptoBulk d + 1
  | (_, d) => uptoBulk d + 1
 end
def uptoSmall : (H : Type) → List (DataW H) → Bool := fun _ ds => decide (uptoBulkAll ds ≤ 1048576)
def OpenSpec.upto (s : _root_.Go.ChangeSpec) : _root_.Go.OpenSpec := { _root_.Go.OpenSpec.ofChange s with cond := some uptoSmall }

/-- 'gimballaw20.MargKeeps', WHERE WHAT IT READS IS OF BULK AT MOST 1048576: true; the input reads as it did. -/
def margKeepsUptoRow : OpenClaim := { program := "ytjkjpjneeioeiaa", sum := "3e10fa37d303637b392501b8e9b272c518451575a782bfc4eac17a69ed205ad8", func := "gimbal/gimballaw20.MargKeeps", spec := "margKeeps", unfollowed := true, recurses := true, apart := false, narrowed := true }
def MargKeepsUptoSaid : Prop := margKeepsUptoRow.holds Try.pinned (OpenSpec.upto margKeepsSpec)

/-- 'gimballaw20.MargLess', WHERE WHAT IT READS IS OF BULK AT MOST 1048576: true; the input reads as it did. -/
def margLessUptoRow : OpenClaim := { program := "ytjkjpjneeioeiaa", sum := "3e10fa37d303637b392501b8e9b272c518451575a782bfc4eac17a69ed205ad8", func := "gimbal/gimballaw20.MargLess", spec := "margLess", unfollowed := true, recurses := true, apart := false, narrowed := true }
def MargLessUptoSaid : Prop := margLessUptoRow.holds Try.pinned (OpenSpec.upto margLessSpec)

/-- 'gimballaw20.MargAgain', WHERE WHAT IT READS IS OF BULK AT MOST 1048576: true; the input reads as it did. -/
def margAgainUptoRow : OpenClaim := { program := "ytjkjpjneeioeiaa", sum := "3e10fa37d303637b392501b8e9b272c518451575a782bfc4eac17a69ed205ad8", func := "gimbal/gimballaw20.MargAgain", spec := "margAgain", unfollowed := true, recurses := true, apart := false, narrowed := true }
def MargAgainUptoSaid : Prop := margAgainUptoRow.holds Try.pinned (OpenSpec.upto margAgainSpec)

/-- 'gimballaw20.MargNear', WHERE WHAT IT READS IS OF BULK AT MOST 1048576: true; the input reads as it did. -/
def margNearUptoRow : OpenClaim := { program := "ytjkjpjneeioeiaa", sum := "3e10fa37d303637b392501b8e9b272c518451575a782bfc4eac17a69ed205ad8", func := "gimbal/gimballaw20.MargNear", spec := "margNear", unfollowed := true, recurses := true, apart := false, narrowed := true }
def MargNearUptoSaid : Prop := margNearUptoRow.holds Try.pinned (OpenSpec.upto margNearSpec)

end Rows
end Go.Proofs.Ytjkjpjneeioeiaa
