/-
  No cell of these rows narrows 'for every input' (looked for: loops, veiled, ifaces, maps, wideKeys, modest, calm, conditions, laid).
  DERIVED. THE GIVEN ROWS OF THIS SEAT. 14 by the template 'for every input the law returns true; each argument reads behind the call as it read before'; 0 by the template 'total and deterministic' (their statements: YtmfenpedpajfkaaTotals.lean).
  GIVEN WITH THE SEED: the statements are not yours to turn. If you find one false, say at which input.
  Laid BY PROGRAM, IN A SANDBOX (cutbox-rows.mjs): the forced cells as the released guide's own fill.sh prints them over the translation 065b1f78c3b03c9d… (all of the seat's roots in one cut). By AI agents, Wed Nov 11 2026. No macro, syntax, notation, axiom, sorry.
-/
import Derived.Test.YtmfenpedpajfkaaChecked
import GoSem.Claim
import GoSem.ClaimJoined
import GoSem.ClaimMapViews
import Derived.JoinedTies
import Derived.KernelRfl
namespace Go.Proofs.Ytmfenpedpajfkaa
/- THE CELL 'sum', in the pinned program and in every row, IS THE sha256 OF THE DUMP (.gsa) THAT YtmfenpedpajfkaaProg.lean LOADS. Nothing in Lean hashes anything: it is a label: what it is worth is what the hold of that sum in a sandbox is worth. -/
noncomputable def Try.pinned : Pinned := { name := "ytmfenpedpajfkaa", sum := "065b1f78c3b03c9d6fe236cd78eff8a2e05445b43ccbeaddf13ce736ed26f88f", checked := Try.checked }
namespace Rows
def none {H : Type} : Left H := { results := [], args := [] }

/-- 'gimballaw07.LinMakes': WHATEVER THE INPUT: true; the input reads as it did. -/
def linMakesSpec : ChangeSpec := { name := "linMakes", fn := fun _ => fun
  | [d] => { results := [.lit (.bool true)], args := [d] }
  | _ => none }
def linMakesRow : OpenClaim := { program := "ytmfenpedpajfkaa", sum := "065b1f78c3b03c9d6fe236cd78eff8a2e05445b43ccbeaddf13ce736ed26f88f", func := "gimbal/gimballaw07.LinMakes", spec := "linMakes", unfollowed := true, recurses := true, apart := false }
def LinMakesSaid : Prop := linMakesRow.holds Try.pinned (OpenSpec.ofChange linMakesSpec)

/-- ITS FALSE NEIGHBOUR: 'it returns false'. Refute it at one input. -/
def linMakesWrong : ChangeSpec := { name := "linMakes", fn := fun _ => fun
  | [d] => { results := [.lit (.bool false)], args := [d] }
  | _ => none }
def LinMakesWrongFalsely : Prop := linMakesRow.holds Try.pinned (OpenSpec.ofChange linMakesWrong)

/-- 'gimballaw07.LinDets': WHATEVER THE INPUT: true; the input reads as it did. -/
def linDetsSpec : ChangeSpec := { name := "linDets", fn := fun _ => fun
  | [d1, d2] => { results := [.lit (.bool true)], args := [d1, d2] }
  | _ => none }
def linDetsRow : OpenClaim := { program := "ytmfenpedpajfkaa", sum := "065b1f78c3b03c9d6fe236cd78eff8a2e05445b43ccbeaddf13ce736ed26f88f", func := "gimbal/gimballaw07.LinDets", spec := "linDets", unfollowed := true, recurses := true, apart := false }
def LinDetsSaid : Prop := linDetsRow.holds Try.pinned (OpenSpec.ofChange linDetsSpec)

/-- ITS FALSE NEIGHBOUR: 'it returns false'. Refute it at one input. -/
def linDetsWrong : ChangeSpec := { name := "linDets", fn := fun _ => fun
  | [d1, d2] => { results := [.lit (.bool false)], args := [d1, d2] }
  | _ => none }
def LinDetsWrongFalsely : Prop := linDetsRow.holds Try.pinned (OpenSpec.ofChange linDetsWrong)

/-- 'gimballaw07.LinBack': WHATEVER THE INPUT: true; the input reads as it did. -/
def linBackSpec : ChangeSpec := { name := "linBack", fn := fun _ => fun
  | [d1, d2] => { results := [.lit (.bool true)], args := [d1, d2] }
  | _ => none }
def linBackRow : OpenClaim := { program := "ytmfenpedpajfkaa", sum := "065b1f78c3b03c9d6fe236cd78eff8a2e05445b43ccbeaddf13ce736ed26f88f", func := "gimbal/gimballaw07.LinBack", spec := "linBack", unfollowed := true, recurses := true, apart := false }
def LinBackSaid : Prop := linBackRow.holds Try.pinned (OpenSpec.ofChange linBackSpec)

/-- ITS FALSE NEIGHBOUR: 'it returns false'. Refute it at one input. -/
def linBackWrong : ChangeSpec := { name := "linBack", fn := fun _ => fun
  | [d1, d2] => { results := [.lit (.bool false)], args := [d1, d2] }
  | _ => none }
def LinBackWrongFalsely : Prop := linBackRow.holds Try.pinned (OpenSpec.ofChange linBackWrong)

/-- 'gimballaw07.LinChain': WHATEVER THE INPUT: true; the input reads as it did. -/
def linChainSpec : ChangeSpec := { name := "linChain", fn := fun _ => fun
  | [d1, d2, d3, d4, d5] => { results := [.lit (.bool true)], args := [d1, d2, d3, d4, d5] }
  | _ => none }
def linChainRow : OpenClaim := { program := "ytmfenpedpajfkaa", sum := "065b1f78c3b03c9d6fe236cd78eff8a2e05445b43ccbeaddf13ce736ed26f88f", func := "gimbal/gimballaw07.LinChain", spec := "linChain", unfollowed := true, recurses := true, apart := false }
def LinChainSaid : Prop := linChainRow.holds Try.pinned (OpenSpec.ofChange linChainSpec)

/-- ITS FALSE NEIGHBOUR: 'it returns false'. Refute it at one input. -/
def linChainWrong : ChangeSpec := { name := "linChain", fn := fun _ => fun
  | [d1, d2, d3, d4, d5] => { results := [.lit (.bool false)], args := [d1, d2, d3, d4, d5] }
  | _ => none }
def LinChainWrongFalsely : Prop := linChainRow.holds Try.pinned (OpenSpec.ofChange linChainWrong)

/-- 'gimballaw07.LinReckons': WHATEVER THE INPUT: true; the input reads as it did. -/
def linReckonsSpec : ChangeSpec := { name := "linReckons", fn := fun _ => fun
  | [d1, d2, d3] => { results := [.lit (.bool true)], args := [d1, d2, d3] }
  | _ => none }
def linReckonsRow : OpenClaim := { program := "ytmfenpedpajfkaa", sum := "065b1f78c3b03c9d6fe236cd78eff8a2e05445b43ccbeaddf13ce736ed26f88f", func := "gimbal/gimballaw07.LinReckons", spec := "linReckons", unfollowed := true, recurses := true, apart := false }
def LinReckonsSaid : Prop := linReckonsRow.holds Try.pinned (OpenSpec.ofChange linReckonsSpec)

/-- ITS FALSE NEIGHBOUR: 'it returns false'. Refute it at one input. -/
def linReckonsWrong : ChangeSpec := { name := "linReckons", fn := fun _ => fun
  | [d1, d2, d3] => { results := [.lit (.bool false)], args := [d1, d2, d3] }
  | _ => none }
def LinReckonsWrongFalsely : Prop := linReckonsRow.holds Try.pinned (OpenSpec.ofChange linReckonsWrong)

/-- 'gimballaw07.LinRules': WHATEVER THE INPUT: true; the input reads as it did. -/
def linRulesSpec : ChangeSpec := { name := "linRules", fn := fun _ => fun
  | [d1, d2, d3, d4, d5] => { results := [.lit (.bool true)], args := [d1, d2, d3, d4, d5] }
  | _ => none }
def linRulesRow : OpenClaim := { program := "ytmfenpedpajfkaa", sum := "065b1f78c3b03c9d6fe236cd78eff8a2e05445b43ccbeaddf13ce736ed26f88f", func := "gimbal/gimballaw07.LinRules", spec := "linRules", unfollowed := true, recurses := true, apart := false }
def LinRulesSaid : Prop := linRulesRow.holds Try.pinned (OpenSpec.ofChange linRulesSpec)

/-- ITS FALSE NEIGHBOUR: 'it returns false'. Refute it at one input. -/
def linRulesWrong : ChangeSpec := { name := "linRules", fn := fun _ => fun
  | [d1, d2, d3, d4, d5] => { results := [.lit (.bool false)], args := [d1, d2, d3, d4, d5] }
  | _ => none }
def LinRulesWrongFalsely : Prop := linRulesRow.holds Try.pinned (OpenSpec.ofChange linRulesWrong)

/-- 'gimballaw07.LinDefinite': WHATEVER THE INPUT: true; the input reads as it did. -/
def linDefiniteSpec : ChangeSpec := { name := "linDefinite", fn := fun _ => fun
  | [d1, d2] => { results := [.lit (.bool true)], args := [d1, d2] }
  | _ => none }
def linDefiniteRow : OpenClaim := { program := "ytmfenpedpajfkaa", sum := "065b1f78c3b03c9d6fe236cd78eff8a2e05445b43ccbeaddf13ce736ed26f88f", func := "gimbal/gimballaw07.LinDefinite", spec := "linDefinite", unfollowed := true, recurses := true, apart := false }
def LinDefiniteSaid : Prop := linDefiniteRow.holds Try.pinned (OpenSpec.ofChange linDefiniteSpec)

/-- ITS FALSE NEIGHBOUR: 'it returns false'. Refute it at one input. -/
def linDefiniteWrong : ChangeSpec := { name := "linDefinite", fn := fun _ => fun
  | [d1, d2] => { results := [.lit (.bool false)], args := [d1, d2] }
  | _ => none }
def LinDefiniteWrongFalsely : Prop := linDefiniteRow.holds Try.pinned (OpenSpec.ofChange linDefiniteWrong)

/-- 'gimballaw08.QuadMakes': WHATEVER THE INPUT: true; the input reads as it did. -/
def quadMakesSpec : ChangeSpec := { name := "quadMakes", fn := fun _ => fun
  | [d1, d2, d3] => { results := [.lit (.bool true)], args := [d1, d2, d3] }
  | _ => none }
def quadMakesRow : OpenClaim := { program := "ytmfenpedpajfkaa", sum := "065b1f78c3b03c9d6fe236cd78eff8a2e05445b43ccbeaddf13ce736ed26f88f", func := "gimbal/gimballaw08.QuadMakes", spec := "quadMakes", unfollowed := true, recurses := true, apart := false }
def QuadMakesSaid : Prop := quadMakesRow.holds Try.pinned (OpenSpec.ofChange quadMakesSpec)

/-- ITS FALSE NEIGHBOUR: 'it returns false'. Refute it at one input. -/
def quadMakesWrong : ChangeSpec := { name := "quadMakes", fn := fun _ => fun
  | [d1, d2, d3] => { results := [.lit (.bool false)], args := [d1, d2, d3] }
  | _ => none }
def QuadMakesWrongFalsely : Prop := quadMakesRow.holds Try.pinned (OpenSpec.ofChange quadMakesWrong)

/-- 'gimballaw08.QuadParts': WHATEVER THE INPUT: true; the input reads as it did. -/
def quadPartsSpec : ChangeSpec := { name := "quadParts", fn := fun _ => fun
  | [d1, d2, d3, d4, d5] => { results := [.lit (.bool true)], args := [d1, d2, d3, d4, d5] }
  | _ => none }
def quadPartsRow : OpenClaim := { program := "ytmfenpedpajfkaa", sum := "065b1f78c3b03c9d6fe236cd78eff8a2e05445b43ccbeaddf13ce736ed26f88f", func := "gimbal/gimballaw08.QuadParts", spec := "quadParts", unfollowed := true, recurses := true, apart := false }
def QuadPartsSaid : Prop := quadPartsRow.holds Try.pinned (OpenSpec.ofChange quadPartsSpec)

/-- ITS FALSE NEIGHBOUR: 'it returns false'. Refute it at one input. -/
def quadPartsWrong : ChangeSpec := { name := "quadParts", fn := fun _ => fun
  | [d1, d2, d3, d4, d5] => { results := [.lit (.bool false)], args := [d1, d2, d3, d4, d5] }
  | _ => none }
def QuadPartsWrongFalsely : Prop := quadPartsRow.holds Try.pinned (OpenSpec.ofChange quadPartsWrong)

/-- 'gimballaw08.QuadLeast': WHATEVER THE INPUT: true; the input reads as it did. -/
def quadLeastSpec : ChangeSpec := { name := "quadLeast", fn := fun _ => fun
  | [d1, d2, d3, d4] => { results := [.lit (.bool true)], args := [d1, d2, d3, d4] }
  | _ => none }
def quadLeastRow : OpenClaim := { program := "ytmfenpedpajfkaa", sum := "065b1f78c3b03c9d6fe236cd78eff8a2e05445b43ccbeaddf13ce736ed26f88f", func := "gimbal/gimballaw08.QuadLeast", spec := "quadLeast", unfollowed := true, recurses := true, apart := false }
def QuadLeastSaid : Prop := quadLeastRow.holds Try.pinned (OpenSpec.ofChange quadLeastSpec)

/-- ITS FALSE NEIGHBOUR: 'it returns false'. Refute it at one input. -/
def quadLeastWrong : ChangeSpec := { name := "quadLeast", fn := fun _ => fun
  | [d1, d2, d3, d4] => { results := [.lit (.bool false)], args := [d1, d2, d3, d4] }
  | _ => none }
def QuadLeastWrongFalsely : Prop := quadLeastRow.holds Try.pinned (OpenSpec.ofChange quadLeastWrong)

/-- 'gimballaw08.QuadLeft': WHATEVER THE INPUT: true; the input reads as it did. -/
def quadLeftSpec : ChangeSpec := { name := "quadLeft", fn := fun _ => fun
  | [d1, d2, d3, d4, d5] => { results := [.lit (.bool true)], args := [d1, d2, d3, d4, d5] }
  | _ => none }
def quadLeftRow : OpenClaim := { program := "ytmfenpedpajfkaa", sum := "065b1f78c3b03c9d6fe236cd78eff8a2e05445b43ccbeaddf13ce736ed26f88f", func := "gimbal/gimballaw08.QuadLeft", spec := "quadLeft", unfollowed := true, recurses := true, apart := false }
def QuadLeftSaid : Prop := quadLeftRow.holds Try.pinned (OpenSpec.ofChange quadLeftSpec)

/-- ITS FALSE NEIGHBOUR: 'it returns false'. Refute it at one input. -/
def quadLeftWrong : ChangeSpec := { name := "quadLeft", fn := fun _ => fun
  | [d1, d2, d3, d4, d5] => { results := [.lit (.bool false)], args := [d1, d2, d3, d4, d5] }
  | _ => none }
def QuadLeftWrongFalsely : Prop := quadLeftRow.holds Try.pinned (OpenSpec.ofChange quadLeftWrong)

/-- 'gimballaw08.QuadTwice': WHATEVER THE INPUT: true; the input reads as it did. -/
def quadTwiceSpec : ChangeSpec := { name := "quadTwice", fn := fun _ => fun
  | [d1, d2, d3, d4, d5, d6] => { results := [.lit (.bool true)], args := [d1, d2, d3, d4, d5, d6] }
  | _ => none }
def quadTwiceRow : OpenClaim := { program := "ytmfenpedpajfkaa", sum := "065b1f78c3b03c9d6fe236cd78eff8a2e05445b43ccbeaddf13ce736ed26f88f", func := "gimbal/gimballaw08.QuadTwice", spec := "quadTwice", unfollowed := true, recurses := true, apart := false }
def QuadTwiceSaid : Prop := quadTwiceRow.holds Try.pinned (OpenSpec.ofChange quadTwiceSpec)

/-- ITS FALSE NEIGHBOUR: 'it returns false'. Refute it at one input. -/
def quadTwiceWrong : ChangeSpec := { name := "quadTwice", fn := fun _ => fun
  | [d1, d2, d3, d4, d5, d6] => { results := [.lit (.bool false)], args := [d1, d2, d3, d4, d5, d6] }
  | _ => none }
def QuadTwiceWrongFalsely : Prop := quadTwiceRow.holds Try.pinned (OpenSpec.ofChange quadTwiceWrong)

/-- 'gimballaw08.QuadTells': WHATEVER THE INPUT: true; the input reads as it did. -/
def quadTellsSpec : ChangeSpec := { name := "quadTells", fn := fun _ => fun
  | [d1, d2, d3, d4, d5, d6] => { results := [.lit (.bool true)], args := [d1, d2, d3, d4, d5, d6] }
  | _ => none }
def quadTellsRow : OpenClaim := { program := "ytmfenpedpajfkaa", sum := "065b1f78c3b03c9d6fe236cd78eff8a2e05445b43ccbeaddf13ce736ed26f88f", func := "gimbal/gimballaw08.QuadTells", spec := "quadTells", unfollowed := true, recurses := true, apart := false }
def QuadTellsSaid : Prop := quadTellsRow.holds Try.pinned (OpenSpec.ofChange quadTellsSpec)

/-- ITS FALSE NEIGHBOUR: 'it returns false'. Refute it at one input. -/
def quadTellsWrong : ChangeSpec := { name := "quadTells", fn := fun _ => fun
  | [d1, d2, d3, d4, d5, d6] => { results := [.lit (.bool false)], args := [d1, d2, d3, d4, d5, d6] }
  | _ => none }
def QuadTellsWrongFalsely : Prop := quadTellsRow.holds Try.pinned (OpenSpec.ofChange quadTellsWrong)

/-- 'gimballaw08.QuadSums': WHATEVER THE INPUT: true; the input reads as it did. -/
def quadSumsSpec : ChangeSpec := { name := "quadSums", fn := fun _ => fun
  | [d1, d2, d3, d4, d5, d6, d7] => { results := [.lit (.bool true)], args := [d1, d2, d3, d4, d5, d6, d7] }
  | _ => none }
def quadSumsRow : OpenClaim := { program := "ytmfenpedpajfkaa", sum := "065b1f78c3b03c9d6fe236cd78eff8a2e05445b43ccbeaddf13ce736ed26f88f", func := "gimbal/gimballaw08.QuadSums", spec := "quadSums", unfollowed := true, recurses := true, apart := false }
def QuadSumsSaid : Prop := quadSumsRow.holds Try.pinned (OpenSpec.ofChange quadSumsSpec)

/-- ITS FALSE NEIGHBOUR: 'it returns false'. Refute it at one input. -/
def quadSumsWrong : ChangeSpec := { name := "quadSums", fn := fun _ => fun
  | [d1, d2, d3, d4, d5, d6, d7] => { results := [.lit (.bool false)], args := [d1, d2, d3, d4, d5, d6, d7] }
  | _ => none }
def QuadSumsWrongFalsely : Prop := quadSumsRow.holds Try.pinned (OpenSpec.ofChange quadSumsWrong)

/- THE SECOND FORM. 'bulk': how many values and letters a reading holds, each counted each time it is reached (what is shared counts as often as it is met; a slice's spare places count too). A statement '..UptoSaid' is the law's where the arguments, and the package variables that the reading takes, are together of bulk at most 1048576: NARROWER than '..Said'. Prove '..Said' where nothing that the law and all that it calls make is longer than what came in: it says more and counts as full. Else prove '..UptoSaid'. A law counts once. -/
mutual
def uptoBulk {H : Type} : DataW H → Nat
  | .lit (.string bytes) => bytes.length + 1
  | .lit _ => 1
  | .nil => 1
  | .ptr d => uptoBulk d + 1
  | .slice elems spare => uptoBulkAll elems + uptoBulkAll spare + 1
  | .agg parts => uptoBulkAll parts + 1
  | .iface _ d => uptoBulk d + 1
  | .map entries => uptoBulkEntries entries + 1
  | .held _ => 1
def uptoBulkAll {H : Type} : List (DataW H) → Nat
  | [] => 0
  | d :: r => uptoBulk d + uptoBulkAll r
def uptoBulkEntries {H : Type} : List (Lit × DataW H) → Nat
  | [] => 0
  | x :: r => uptoBulkEntry x + uptoBulkEntries r
def uptoBulkEntry {H : Type} : Lit × DataW H → Nat
  | (.string bytes, d) => bytes.length + uptoBulk d + 1
  | (_, d) => uptoBulk d + 1
 end
def uptoSmall : (H : Type) → List (DataW H) → Bool := fun _ ds => decide (uptoBulkAll ds ≤ 1048576)
def OpenSpec.upto (s : _root_.Go.ChangeSpec) : _root_.Go.OpenSpec := { _root_.Go.OpenSpec.ofChange s with cond := some uptoSmall }

/-- 'gimballaw07.LinMakes', WHERE WHAT IT READS IS OF BULK AT MOST 1048576: true; the input reads as it did. -/
def linMakesUptoRow : OpenClaim := { program := "ytmfenpedpajfkaa", sum := "065b1f78c3b03c9d6fe236cd78eff8a2e05445b43ccbeaddf13ce736ed26f88f", func := "gimbal/gimballaw07.LinMakes", spec := "linMakes", unfollowed := true, recurses := true, apart := false, narrowed := true }
def LinMakesUptoSaid : Prop := linMakesUptoRow.holds Try.pinned (OpenSpec.upto linMakesSpec)

/-- 'gimballaw07.LinDets', WHERE WHAT IT READS IS OF BULK AT MOST 1048576: true; the input reads as it did. -/
def linDetsUptoRow : OpenClaim := { program := "ytmfenpedpajfkaa", sum := "065b1f78c3b03c9d6fe236cd78eff8a2e05445b43ccbeaddf13ce736ed26f88f", func := "gimbal/gimballaw07.LinDets", spec := "linDets", unfollowed := true, recurses := true, apart := false, narrowed := true }
def LinDetsUptoSaid : Prop := linDetsUptoRow.holds Try.pinned (OpenSpec.upto linDetsSpec)

/-- 'gimballaw07.LinBack', WHERE WHAT IT READS IS OF BULK AT MOST 1048576: true; the input reads as it did. -/
def linBackUptoRow : OpenClaim := { program := "ytmfenpedpajfkaa", sum := "065b1f78c3b03c9d6fe236cd78eff8a2e05445b43ccbeaddf13ce736ed26f88f", func := "gimbal/gimballaw07.LinBack", spec := "linBack", unfollowed := true, recurses := true, apart := false, narrowed := true }
def LinBackUptoSaid : Prop := linBackUptoRow.holds Try.pinned (OpenSpec.upto linBackSpec)

/-- 'gimballaw07.LinChain', WHERE WHAT IT READS IS OF BULK AT MOST 1048576: true; the input reads as it did. -/
def linChainUptoRow : OpenClaim := { program := "ytmfenpedpajfkaa", sum := "065b1f78c3b03c9d6fe236cd78eff8a2e05445b43ccbeaddf13ce736ed26f88f", func := "gimbal/gimballaw07.LinChain", spec := "linChain", unfollowed := true, recurses := true, apart := false, narrowed := true }
def LinChainUptoSaid : Prop := linChainUptoRow.holds Try.pinned (OpenSpec.upto linChainSpec)

/-- 'gimballaw07.LinReckons', WHERE WHAT IT READS IS OF BULK AT MOST 1048576: true; the input reads as it did. -/
def linReckonsUptoRow : OpenClaim := { program := "ytmfenpedpajfkaa", sum := "065b1f78c3b03c9d6fe236cd78eff8a2e05445b43ccbeaddf13ce736ed26f88f", func := "gimbal/gimballaw07.LinReckons", spec := "linReckons", unfollowed := true, recurses := true, apart := false, narrowed := true }
def LinReckonsUptoSaid : Prop := linReckonsUptoRow.holds Try.pinned (OpenSpec.upto linReckonsSpec)

/-- 'gimballaw07.LinRules', WHERE WHAT IT READS IS OF BULK AT MOST 1048576: true; the input reads as it did. -/
def linRulesUptoRow : OpenClaim := { program := "ytmfenpedpajfkaa", sum := "065b1f78c3b03c9d6fe236cd78eff8a2e05445b43ccbeaddf13ce736ed26f88f", func := "gimbal/gimballaw07.LinRules", spec := "linRules", unfollowed := true, recurses := true, apart := false, narrowed := true }
def LinRulesUptoSaid : Prop := linRulesUptoRow.holds Try.pinned (OpenSpec.upto linRulesSpec)

/-- 'gimballaw07.LinDefinite', WHERE WHAT IT READS IS OF BULK AT MOST 1048576: true; the input reads as it did. -/
def linDefiniteUptoRow : OpenClaim := { program := "ytmfenpedpajfkaa", sum := "065b1f78c3b03c9d6fe236cd78eff8a2e05445b43ccbeaddf13ce736ed26f88f", func := "gimbal/gimballaw07.LinDefinite", spec := "linDefinite", unfollowed := true, recurses := true, apart := false, narrowed := true }
def LinDefiniteUptoSaid : Prop := linDefiniteUptoRow.holds Try.pinned (OpenSpec.upto linDefiniteSpec)

/-- 'gimballaw08.QuadMakes', WHERE WHAT IT READS IS OF BULK AT MOST 1048576: true; the input reads as it did. -/
def quadMakesUptoRow : OpenClaim := { program := "ytmfenpedpajfkaa", sum := "065b1f78c3b03c9d6fe236cd78eff8a2e05445b43ccbeaddf13ce736ed26f88f", func := "gimbal/gimballaw08.QuadMakes", spec := "quadMakes", unfollowed := true, recurses := true, apart := false, narrowed := true }
def QuadMakesUptoSaid : Prop := quadMakesUptoRow.holds Try.pinned (OpenSpec.upto quadMakesSpec)

/-- 'gimballaw08.QuadParts', WHERE WHAT IT READS IS OF BULK AT MOST 1048576: true; the input reads as it did. -/
def quadPartsUptoRow : OpenClaim := { program := "ytmfenpedpajfkaa", sum := "065b1f78c3b03c9d6fe236cd78eff8a2e05445b43ccbeaddf13ce736ed26f88f", func := "gimbal/gimballaw08.QuadParts", spec := "quadParts", unfollowed := true, recurses := true, apart := false, narrowed := true }
def QuadPartsUptoSaid : Prop := quadPartsUptoRow.holds Try.pinned (OpenSpec.upto quadPartsSpec)

/-- 'gimballaw08.QuadLeast', WHERE WHAT IT READS IS OF BULK AT MOST 1048576: true; the input reads as it did. -/
def quadLeastUptoRow : OpenClaim := { program := "ytmfenpedpajfkaa", sum := "065b1f78c3b03c9d6fe236cd78eff8a2e05445b43ccbeaddf13ce736ed26f88f", func := "gimbal/gimballaw08.QuadLeast", spec := "quadLeast", unfollowed := true, recurses := true, apart := false, narrowed := true }
def QuadLeastUptoSaid : Prop := quadLeastUptoRow.holds Try.pinned (OpenSpec.upto quadLeastSpec)

/-- 'gimballaw08.QuadLeft', WHERE WHAT IT READS IS OF BULK AT MOST 1048576: true; the input reads as it did. -/
def quadLeftUptoRow : OpenClaim := { program := "ytmfenpedpajfkaa", sum := "065b1f78c3b03c9d6fe236cd78eff8a2e05445b43ccbeaddf13ce736ed26f88f", func := "gimbal/gimballaw08.QuadLeft", spec := "quadLeft", unfollowed := true, recurses := true, apart := false, narrowed := true }
def QuadLeftUptoSaid : Prop := quadLeftUptoRow.holds Try.pinned (OpenSpec.upto quadLeftSpec)

/-- 'gimballaw08.QuadTwice', WHERE WHAT IT READS IS OF BULK AT MOST 1048576: true; the input reads as it did. -/
def quadTwiceUptoRow : OpenClaim := { program := "ytmfenpedpajfkaa", sum := "065b1f78c3b03c9d6fe236cd78eff8a2e05445b43ccbeaddf13ce736ed26f88f", func := "gimbal/gimballaw08.QuadTwice", spec := "quadTwice", unfollowed := true, recurses := true, apart := false, narrowed := true }
def QuadTwiceUptoSaid : Prop := quadTwiceUptoRow.holds Try.pinned (OpenSpec.upto quadTwiceSpec)

/-- 'gimballaw08.QuadTells', WHERE WHAT IT READS IS OF BULK AT MOST 1048576: true; the input reads as it did. -/
def quadTellsUptoRow : OpenClaim := { program := "ytmfenpedpajfkaa", sum := "065b1f78c3b03c9d6fe236cd78eff8a2e05445b43ccbeaddf13ce736ed26f88f", func := "gimbal/gimballaw08.QuadTells", spec := "quadTells", unfollowed := true, recurses := true, apart := false, narrowed := true }
def QuadTellsUptoSaid : Prop := quadTellsUptoRow.holds Try.pinned (OpenSpec.upto quadTellsSpec)

/-- 'gimballaw08.QuadSums', WHERE WHAT IT READS IS OF BULK AT MOST 1048576: true; the input reads as it did. -/
def quadSumsUptoRow : OpenClaim := { program := "ytmfenpedpajfkaa", sum := "065b1f78c3b03c9d6fe236cd78eff8a2e05445b43ccbeaddf13ce736ed26f88f", func := "gimbal/gimballaw08.QuadSums", spec := "quadSums", unfollowed := true, recurses := true, apart := false, narrowed := true }
def QuadSumsUptoSaid : Prop := quadSumsUptoRow.holds Try.pinned (OpenSpec.upto quadSumsSpec)

end Rows
end Go.Proofs.Ytmfenpedpajfkaa
