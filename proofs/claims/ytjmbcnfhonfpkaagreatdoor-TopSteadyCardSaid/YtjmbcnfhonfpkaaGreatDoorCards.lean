/-
  DERIVED. GIVEN WITH THE SEED: THE CARDS: each row of YtjmbcnfhonfpkaaGreatDoorRows.lean that lists a variable, with what it lists TIED to the program's text (the seventh form; the later family's looks); each row that meets fmt, with fmt's text TOLD by the authors' own Lean function (tested against real Go, not proved from fmt's source: count such statements apart). THE CARD IS WHAT COUNTS. Prove the row's statement (the work); the ties are given (YtjmbcnfhonfpkaaGreatDoorTie.lean); close each card by the builder's one call (the guide's Derived/Test/ToyasCard.lean, 'card_holds'). Laid BY PROGRAM, IN A SANDBOX (cutbox-door.mjs). By AI agents, Wed Nov 11 2026. No macro, syntax, notation, axiom, sorry.
-/
import Derived.Test.YtjmbcnfhonfpkaaGreatDoorRows
import GoSem.ClaimSeven
namespace Go.Proofs.YtjmbcnfhonfpkaaGreatDoor
namespace Rows

/-- THE TIED CARD OF 'gimbaltop.TopSteady'. -/
def topSteadyCard : Claim7 := { stood := { row := topSteadyRow, standIns := [], harness := (true, "e73afea6a1808ccea5dd571e4ed73c6f3cc5d61c1962d8e5e08b912621a842cf"), looks := false }, kinds := [], alts := [], laidByText := true, laidKinds := [.data], laidTests := true, laidLooks := .later }
def TopSteadyCardSaid : Prop := Claim7.holds Tryz.pinned (.plain (OpenSpec.ofChange topSteadySpec)) topSteadyCard

/-- THE TIED CARD OF 'gimbaltop.TopTurns'. -/
def topTurnsCard : Claim7 := { stood := { row := topTurnsRow, standIns := [], harness := (true, "e73afea6a1808ccea5dd571e4ed73c6f3cc5d61c1962d8e5e08b912621a842cf"), looks := false }, kinds := [], alts := [], laidByText := true, laidKinds := [.data], laidTests := true, laidLooks := .later }
def TopTurnsCardSaid : Prop := Claim7.holds Tryz.pinned (.plain (OpenSpec.ofChange topTurnsSpec)) topTurnsCard

/-- THE TIED CARD OF 'gimbaltop.TopTurned'. -/
def topTurnedCard : Claim7 := { stood := { row := topTurnedRow, standIns := [], harness := (true, "e73afea6a1808ccea5dd571e4ed73c6f3cc5d61c1962d8e5e08b912621a842cf"), looks := false }, kinds := [], alts := [], laidByText := true, laidKinds := [.data], laidTests := true, laidLooks := .later }
def TopTurnedCardSaid : Prop := Claim7.holds Tryz.pinned (.plain (OpenSpec.ofChange topTurnedSpec)) topTurnedCard

/-- THE SECOND FORM's CARD OF 'gimbaltop.TopSteady'. -/
def topSteadyUptoCard : Claim7 := { stood := { row := topSteadyUptoRow, standIns := [], harness := (true, "e73afea6a1808ccea5dd571e4ed73c6f3cc5d61c1962d8e5e08b912621a842cf"), looks := false }, kinds := [], alts := [], laidByText := true, laidKinds := [.data], laidTests := true, laidLooks := .later }
def TopSteadyUptoCardSaid : Prop := Claim7.holds Tryz.pinned (.plain (OpenSpec.upto topSteadySpec)) topSteadyUptoCard

/-- THE SECOND FORM's CARD OF 'gimbaltop.TopTurns'. -/
def topTurnsUptoCard : Claim7 := { stood := { row := topTurnsUptoRow, standIns := [], harness := (true, "e73afea6a1808ccea5dd571e4ed73c6f3cc5d61c1962d8e5e08b912621a842cf"), looks := false }, kinds := [], alts := [], laidByText := true, laidKinds := [.data], laidTests := true, laidLooks := .later }
def TopTurnsUptoCardSaid : Prop := Claim7.holds Tryz.pinned (.plain (OpenSpec.upto topTurnsSpec)) topTurnsUptoCard

/-- THE SECOND FORM's CARD OF 'gimbaltop.TopTurned'. -/
def topTurnedUptoCard : Claim7 := { stood := { row := topTurnedUptoRow, standIns := [], harness := (true, "e73afea6a1808ccea5dd571e4ed73c6f3cc5d61c1962d8e5e08b912621a842cf"), looks := false }, kinds := [], alts := [], laidByText := true, laidKinds := [.data], laidTests := true, laidLooks := .later }
def TopTurnedUptoCardSaid : Prop := Claim7.holds Tryz.pinned (.plain (OpenSpec.upto topTurnedSpec)) topTurnedUptoCard
end Rows
end Go.Proofs.YtjmbcnfhonfpkaaGreatDoor
