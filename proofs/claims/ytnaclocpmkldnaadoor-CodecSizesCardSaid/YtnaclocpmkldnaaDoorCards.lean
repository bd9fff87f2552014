/-
  DERIVED. GIVEN WITH THE SEED: THE CARDS: each row of YtnaclocpmkldnaaDoorRows.lean that lists a variable, with what it lists TIED to the program's text (the seventh form; the later family's looks); each row that meets fmt, with fmt's text TOLD by the authors' own Lean function (tested against real Go, not proved from fmt's source: count such statements apart). THE CARD IS WHAT COUNTS. Prove the row's statement (the work); the ties are given (YtnaclocpmkldnaaDoorTie.lean); close each card by the builder's one call (the guide's Derived/Test/ToyasCard.lean, 'card_holds'). Laid BY PROGRAM, IN A SANDBOX (cutbox-door.mjs). By AI agents, Wed Nov 11 2026. No macro, syntax, notation, axiom, sorry.
-/
import Derived.Test.YtnaclocpmkldnaaDoorRows
import GoSem.ClaimSeven
namespace Go.Proofs.YtnaclocpmkldnaaDoor
namespace Rows

/-- THE TIED CARD OF 'gimballaw12.CodecWrites'. -/
def codecWritesCard : Claim7 := { stood := { row := codecWritesRow, standIns := [], harness := (true, "2e6220a9e3f3d560207131c301619a60341d6591f054b1f8c29ece6245dcbac4"), looks := false }, kinds := [], alts := [], laidByText := true, laidKinds := [.data], laidTests := true, laidLooks := .later }
def CodecWritesCardSaid : Prop := Claim7.holds Tryd.pinned (.plain (OpenSpec.ofChange codecWritesSpec)) codecWritesCard

/-- THE TIED CARD OF 'gimballaw12.CodecReads'. -/
def codecReadsCard : Claim7 := { stood := { row := codecReadsRow, standIns := [], harness := (true, "2e6220a9e3f3d560207131c301619a60341d6591f054b1f8c29ece6245dcbac4"), looks := false }, kinds := [], alts := [], laidByText := true, laidKinds := [.data], laidTests := true, laidLooks := .later }
def CodecReadsCardSaid : Prop := Claim7.holds Tryd.pinned (.plain (OpenSpec.ofChange codecReadsSpec)) codecReadsCard

/-- THE TIED CARD OF 'gimballaw12.CodecBack'. -/
def codecBackCard : Claim7 := { stood := { row := codecBackRow, standIns := [], harness := (true, "2e6220a9e3f3d560207131c301619a60341d6591f054b1f8c29ece6245dcbac4"), looks := false }, kinds := [], alts := [], laidByText := true, laidKinds := [.data], laidTests := true, laidLooks := .later }
def CodecBackCardSaid : Prop := Claim7.holds Tryd.pinned (.plain (OpenSpec.ofChange codecBackSpec)) codecBackCard

/-- THE TIED CARD OF 'gimballaw12.CodecOnly'. -/
def codecOnlyCard : Claim7 := { stood := { row := codecOnlyRow, standIns := [], harness := (true, "2e6220a9e3f3d560207131c301619a60341d6591f054b1f8c29ece6245dcbac4"), looks := false }, kinds := [], alts := [], laidByText := true, laidKinds := [.data], laidTests := true, laidLooks := .later }
def CodecOnlyCardSaid : Prop := Claim7.holds Tryd.pinned (.plain (OpenSpec.ofChange codecOnlySpec)) codecOnlyCard

/-- THE TIED CARD OF 'gimballaw12.CodecSizes'. -/
def codecSizesCard : Claim7 := { stood := { row := codecSizesRow, standIns := [], harness := (true, "2e6220a9e3f3d560207131c301619a60341d6591f054b1f8c29ece6245dcbac4"), looks := false }, kinds := [], alts := [], laidByText := true, laidKinds := [.data], laidTests := true, laidLooks := .later }
def CodecSizesCardSaid : Prop := Claim7.holds Tryd.pinned (.plain (OpenSpec.ofChange codecSizesSpec)) codecSizesCard

/-- THE TIED CARD OF 'gimballaw14.TrackPlays'. -/
def trackPlaysCard : Claim7 := { stood := { row := trackPlaysRow, standIns := [], harness := (true, "2e6220a9e3f3d560207131c301619a60341d6591f054b1f8c29ece6245dcbac4"), looks := false }, kinds := [], alts := [], laidByText := true, laidKinds := [.data], laidTests := true, laidLooks := .later }
def TrackPlaysCardSaid : Prop := Claim7.holds Tryd.pinned (.plain (OpenSpec.ofChange trackPlaysSpec)) trackPlaysCard

/-- THE TIED CARD OF 'gimballaw14.TrackOrder'. -/
def trackOrderCard : Claim7 := { stood := { row := trackOrderRow, standIns := [], harness := (true, "2e6220a9e3f3d560207131c301619a60341d6591f054b1f8c29ece6245dcbac4"), looks := false }, kinds := [], alts := [], laidByText := true, laidKinds := [.data], laidTests := true, laidLooks := .later }
def TrackOrderCardSaid : Prop := Claim7.holds Tryd.pinned (.plain (OpenSpec.ofChange trackOrderSpec)) trackOrderCard

/-- THE TIED CARD OF 'gimballaw14.TrackKeeps'. -/
def trackKeepsCard : Claim7 := { stood := { row := trackKeepsRow, standIns := [], harness := (true, "2e6220a9e3f3d560207131c301619a60341d6591f054b1f8c29ece6245dcbac4"), looks := false }, kinds := [], alts := [], laidByText := true, laidKinds := [.data], laidTests := true, laidLooks := .later }
def TrackKeepsCardSaid : Prop := Claim7.holds Tryd.pinned (.plain (OpenSpec.ofChange trackKeepsSpec)) trackKeepsCard

/-- THE TIED CARD OF 'gimballaw14.TrackFull'. -/
def trackFullCard : Claim7 := { stood := { row := trackFullRow, standIns := [], harness := (true, "2e6220a9e3f3d560207131c301619a60341d6591f054b1f8c29ece6245dcbac4"), looks := false }, kinds := [], alts := [], laidByText := true, laidKinds := [.data], laidTests := true, laidLooks := .later }
def TrackFullCardSaid : Prop := Claim7.holds Tryd.pinned (.plain (OpenSpec.ofChange trackFullSpec)) trackFullCard

/-- THE TIED CARD OF 'gimballaw14.TrackCounts'. -/
def trackCountsCard : Claim7 := { stood := { row := trackCountsRow, standIns := [], harness := (true, "2e6220a9e3f3d560207131c301619a60341d6591f054b1f8c29ece6245dcbac4"), looks := false }, kinds := [], alts := [], laidByText := true, laidKinds := [.data], laidTests := true, laidLooks := .later }
def TrackCountsCardSaid : Prop := Claim7.holds Tryd.pinned (.plain (OpenSpec.ofChange trackCountsSpec)) trackCountsCard

/-- THE SECOND FORM's CARD OF 'gimballaw12.CodecWrites'. -/
def codecWritesUptoCard : Claim7 := { stood := { row := codecWritesUptoRow, standIns := [], harness := (true, "2e6220a9e3f3d560207131c301619a60341d6591f054b1f8c29ece6245dcbac4"), looks := false }, kinds := [], alts := [], laidByText := true, laidKinds := [.data], laidTests := true, laidLooks := .later }
def CodecWritesUptoCardSaid : Prop := Claim7.holds Tryd.pinned (.plain (OpenSpec.upto codecWritesSpec)) codecWritesUptoCard

/-- THE SECOND FORM's CARD OF 'gimballaw12.CodecReads'. -/
def codecReadsUptoCard : Claim7 := { stood := { row := codecReadsUptoRow, standIns := [], harness := (true, "2e6220a9e3f3d560207131c301619a60341d6591f054b1f8c29ece6245dcbac4"), looks := false }, kinds := [], alts := [], laidByText := true, laidKinds := [.data], laidTests := true, laidLooks := .later }
def CodecReadsUptoCardSaid : Prop := Claim7.holds Tryd.pinned (.plain (OpenSpec.upto codecReadsSpec)) codecReadsUptoCard

/-- THE SECOND FORM's CARD OF 'gimballaw12.CodecBack'. -/
def codecBackUptoCard : Claim7 := { stood := { row := codecBackUptoRow, standIns := [], harness := (true, "2e6220a9e3f3d560207131c301619a60341d6591f054b1f8c29ece6245dcbac4"), looks := false }, kinds := [], alts := [], laidByText := true, laidKinds := [.data], laidTests := true, laidLooks := .later }
def CodecBackUptoCardSaid : Prop := Claim7.holds Tryd.pinned (.plain (OpenSpec.upto codecBackSpec)) codecBackUptoCard

/-- THE SECOND FORM's CARD OF 'gimballaw12.CodecOnly'. -/
def codecOnlyUptoCard : Claim7 := { stood := { row := codecOnlyUptoRow, standIns := [], harness := (true, "2e6220a9e3f3d560207131c301619a60341d6591f054b1f8c29ece6245dcbac4"), looks := false }, kinds := [], alts := [], laidByText := true, laidKinds := [.data], laidTests := true, laidLooks := .later }
def CodecOnlyUptoCardSaid : Prop := Claim7.holds Tryd.pinned (.plain (OpenSpec.upto codecOnlySpec)) codecOnlyUptoCard

/-- THE SECOND FORM's CARD OF 'gimballaw12.CodecSizes'. -/
def codecSizesUptoCard : Claim7 := { stood := { row := codecSizesUptoRow, standIns := [], harness := (true, "2e6220a9e3f3d560207131c301619a60341d6591f054b1f8c29ece6245dcbac4"), looks := false }, kinds := [], alts := [], laidByText := true, laidKinds := [.data], laidTests := true, laidLooks := .later }
def CodecSizesUptoCardSaid : Prop := Claim7.holds Tryd.pinned (.plain (OpenSpec.upto codecSizesSpec)) codecSizesUptoCard

/-- THE SECOND FORM's CARD OF 'gimballaw14.TrackPlays'. -/
def trackPlaysUptoCard : Claim7 := { stood := { row := trackPlaysUptoRow, standIns := [], harness := (true, "2e6220a9e3f3d560207131c301619a60341d6591f054b1f8c29ece6245dcbac4"), looks := false }, kinds := [], alts := [], laidByText := true, laidKinds := [.data], laidTests := true, laidLooks := .later }
def TrackPlaysUptoCardSaid : Prop := Claim7.holds Tryd.pinned (.plain (OpenSpec.upto trackPlaysSpec)) trackPlaysUptoCard

/-- THE SECOND FORM's CARD OF 'gimballaw14.TrackOrder'. -/
def trackOrderUptoCard : Claim7 := { stood := { row := trackOrderUptoRow, standIns := [], harness := (true, "2e6220a9e3f3d560207131c301619a60341d6591f054b1f8c29ece6245dcbac4"), looks := false }, kinds := [], alts := [], laidByText := true, laidKinds := [.data], laidTests := true, laidLooks := .later }
def TrackOrderUptoCardSaid : Prop := Claim7.holds Tryd.pinned (.plain (OpenSpec.upto trackOrderSpec)) trackOrderUptoCard

/-- THE SECOND FORM's CARD OF 'gimballaw14.TrackKeeps'. -/
def trackKeepsUptoCard : Claim7 := { stood := { row := trackKeepsUptoRow, standIns := [], harness := (true, "2e6220a9e3f3d560207131c301619a60341d6591f054b1f8c29ece6245dcbac4"), looks := false }, kinds := [], alts := [], laidByText := true, laidKinds := [.data], laidTests := true, laidLooks := .later }
def TrackKeepsUptoCardSaid : Prop := Claim7.holds Tryd.pinned (.plain (OpenSpec.upto trackKeepsSpec)) trackKeepsUptoCard

/-- THE SECOND FORM's CARD OF 'gimballaw14.TrackFull'. -/
def trackFullUptoCard : Claim7 := { stood := { row := trackFullUptoRow, standIns := [], harness := (true, "2e6220a9e3f3d560207131c301619a60341d6591f054b1f8c29ece6245dcbac4"), looks := false }, kinds := [], alts := [], laidByText := true, laidKinds := [.data], laidTests := true, laidLooks := .later }
def TrackFullUptoCardSaid : Prop := Claim7.holds Tryd.pinned (.plain (OpenSpec.upto trackFullSpec)) trackFullUptoCard

/-- THE SECOND FORM's CARD OF 'gimballaw14.TrackCounts'. -/
def trackCountsUptoCard : Claim7 := { stood := { row := trackCountsUptoRow, standIns := [], harness := (true, "2e6220a9e3f3d560207131c301619a60341d6591f054b1f8c29ece6245dcbac4"), looks := false }, kinds := [], alts := [], laidByText := true, laidKinds := [.data], laidTests := true, laidLooks := .later }
def TrackCountsUptoCardSaid : Prop := Claim7.holds Tryd.pinned (.plain (OpenSpec.upto trackCountsSpec)) trackCountsUptoCard
end Rows
end Go.Proofs.YtnaclocpmkldnaaDoor
