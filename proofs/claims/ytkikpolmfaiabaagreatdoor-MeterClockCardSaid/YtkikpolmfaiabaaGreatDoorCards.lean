/-
  DERIVED. GIVEN WITH THE SEED: THE CARDS: each row of YtkikpolmfaiabaaGreatDoorRows.lean that lists a variable, with what it lists TIED to the program's text (the seventh form; the later family's looks); each row that meets fmt, with fmt's text TOLD by the authors' own Lean function (tested against real Go, not proved from fmt's source: count such statements apart). THE CARD IS WHAT COUNTS. Prove the row's statement (the work); the ties are given (YtkikpolmfaiabaaGreatDoorTie.lean); close each card by the builder's one call (the guide's Derived/Test/ToyasCard.lean, 'card_holds'). Laid BY PROGRAM, IN A SANDBOX (cutbox-door.mjs). By AI agents, Wed Nov 11 2026. No macro, syntax, notation, axiom, sorry.
-/
import Derived.Test.YtkikpolmfaiabaaGreatDoorRows
import GoSem.ClaimSeven
namespace Go.Proofs.YtkikpolmfaiabaaGreatDoor
namespace Rows

/-- THE TIED CARD OF 'rillmeterlaw21.MeterClock'. -/
def meterClockCard : Claim7 := { stood := { row := meterClockRow, standIns := [], harness := (true, "d6a5a30e148307116b9ee67773feac4c373f877372ee994b5d241c1e00975a0f"), looks := false }, kinds := [], alts := [], laidByText := true, laidKinds := [.data], laidTests := true, laidLooks := .later }
def MeterClockCardSaid : Prop := Claim7.holds Tryz.pinned (.plain (OpenSpec.ofChange meterClockSpec)) meterClockCard

/-- THE TIED CARD OF 'rillmeterlaw21.MeterPieces'. -/
def meterPiecesCard : Claim7 := { stood := { row := meterPiecesRow, standIns := [], harness := (true, "d6a5a30e148307116b9ee67773feac4c373f877372ee994b5d241c1e00975a0f"), looks := false }, kinds := [], alts := [], laidByText := true, laidKinds := [.data], laidTests := true, laidLooks := .later }
def MeterPiecesCardSaid : Prop := Claim7.holds Tryz.pinned (.plain (OpenSpec.ofChange meterPiecesSpec)) meterPiecesCard

/-- THE TIED CARD OF 'rillmeterlaw21.MeterFrames'. -/
def meterFramesCard : Claim7 := { stood := { row := meterFramesRow, standIns := [], harness := (true, "d6a5a30e148307116b9ee67773feac4c373f877372ee994b5d241c1e00975a0f"), looks := false }, kinds := [], alts := [], laidByText := true, laidKinds := [.data], laidTests := true, laidLooks := .later }
def MeterFramesCardSaid : Prop := Claim7.holds Tryz.pinned (.plain (OpenSpec.ofChange meterFramesSpec)) meterFramesCard

/-- THE TIED CARD OF 'rillmeterlaw21.MeterPlays'. -/
def meterPlaysCard : Claim7 := { stood := { row := meterPlaysRow, standIns := [], harness := (true, "d6a5a30e148307116b9ee67773feac4c373f877372ee994b5d241c1e00975a0f"), looks := false }, kinds := [], alts := [], laidByText := true, laidKinds := [.data], laidTests := true, laidLooks := .later }
def MeterPlaysCardSaid : Prop := Claim7.holds Tryz.pinned (.plain (OpenSpec.ofChange meterPlaysSpec)) meterPlaysCard

/-- THE TIED CARD OF 'rillmeterlaw21.MeterNone'. -/
def meterNoneCard : Claim7 := { stood := { row := meterNoneRow, standIns := [], harness := (true, "d6a5a30e148307116b9ee67773feac4c373f877372ee994b5d241c1e00975a0f"), looks := false }, kinds := [], alts := [], laidByText := true, laidKinds := [.data], laidTests := true, laidLooks := .later }
def MeterNoneCardSaid : Prop := Claim7.holds Tryz.pinned (.plain (OpenSpec.ofChange meterNoneSpec)) meterNoneCard

/-- THE TIED CARD OF 'rillmeterlaw21.MeterTells'. -/
def meterTellsCard : Claim7 := { stood := { row := meterTellsRow, standIns := [], harness := (true, "d6a5a30e148307116b9ee67773feac4c373f877372ee994b5d241c1e00975a0f"), looks := false }, kinds := [], alts := [], laidByText := true, laidKinds := [.data], laidTests := true, laidLooks := .later }
def MeterTellsCardSaid : Prop := Claim7.holds Tryz.pinned (.plain (OpenSpec.ofChange meterTellsSpec)) meterTellsCard

/-- THE SECOND FORM's CARD OF 'rillmeterlaw21.MeterClock'. -/
def meterClockUptoCard : Claim7 := { stood := { row := meterClockUptoRow, standIns := [], harness := (true, "d6a5a30e148307116b9ee67773feac4c373f877372ee994b5d241c1e00975a0f"), looks := false }, kinds := [], alts := [], laidByText := true, laidKinds := [.data], laidTests := true, laidLooks := .later }
def MeterClockUptoCardSaid : Prop := Claim7.holds Tryz.pinned (.plain (OpenSpec.upto meterClockSpec)) meterClockUptoCard

/-- THE SECOND FORM's CARD OF 'rillmeterlaw21.MeterPieces'. -/
def meterPiecesUptoCard : Claim7 := { stood := { row := meterPiecesUptoRow, standIns := [], harness := (true, "d6a5a30e148307116b9ee67773feac4c373f877372ee994b5d241c1e00975a0f"), looks := false }, kinds := [], alts := [], laidByText := true, laidKinds := [.data], laidTests := true, laidLooks := .later }
def MeterPiecesUptoCardSaid : Prop := Claim7.holds Tryz.pinned (.plain (OpenSpec.upto meterPiecesSpec)) meterPiecesUptoCard

/-- THE SECOND FORM's CARD OF 'rillmeterlaw21.MeterFrames'. -/
def meterFramesUptoCard : Claim7 := { stood := { row := meterFramesUptoRow, standIns := [], harness := (true, "d6a5a30e148307116b9ee67773feac4c373f877372ee994b5d241c1e00975a0f"), looks := false }, kinds := [], alts := [], laidByText := true, laidKinds := [.data], laidTests := true, laidLooks := .later }
def MeterFramesUptoCardSaid : Prop := Claim7.holds Tryz.pinned (.plain (OpenSpec.upto meterFramesSpec)) meterFramesUptoCard

/-- THE SECOND FORM's CARD OF 'rillmeterlaw21.MeterPlays'. -/
def meterPlaysUptoCard : Claim7 := { stood := { row := meterPlaysUptoRow, standIns := [], harness := (true, "d6a5a30e148307116b9ee67773feac4c373f877372ee994b5d241c1e00975a0f"), looks := false }, kinds := [], alts := [], laidByText := true, laidKinds := [.data], laidTests := true, laidLooks := .later }
def MeterPlaysUptoCardSaid : Prop := Claim7.holds Tryz.pinned (.plain (OpenSpec.upto meterPlaysSpec)) meterPlaysUptoCard

/-- THE SECOND FORM's CARD OF 'rillmeterlaw21.MeterNone'. -/
def meterNoneUptoCard : Claim7 := { stood := { row := meterNoneUptoRow, standIns := [], harness := (true, "d6a5a30e148307116b9ee67773feac4c373f877372ee994b5d241c1e00975a0f"), looks := false }, kinds := [], alts := [], laidByText := true, laidKinds := [.data], laidTests := true, laidLooks := .later }
def MeterNoneUptoCardSaid : Prop := Claim7.holds Tryz.pinned (.plain (OpenSpec.upto meterNoneSpec)) meterNoneUptoCard

/-- THE SECOND FORM's CARD OF 'rillmeterlaw21.MeterTells'. -/
def meterTellsUptoCard : Claim7 := { stood := { row := meterTellsUptoRow, standIns := [], harness := (true, "d6a5a30e148307116b9ee67773feac4c373f877372ee994b5d241c1e00975a0f"), looks := false }, kinds := [], alts := [], laidByText := true, laidKinds := [.data], laidTests := true, laidLooks := .later }
def MeterTellsUptoCardSaid : Prop := Claim7.holds Tryz.pinned (.plain (OpenSpec.upto meterTellsSpec)) meterTellsUptoCard
end Rows
end Go.Proofs.YtkikpolmfaiabaaGreatDoor
