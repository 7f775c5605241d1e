/-
  DERIVED. GIVEN WITH THE SEED: THE CARDS: each row of YtbhbfiijkkcoeaaGreatDoorRows.lean that lists a variable, with what it lists TIED to the program's text (the seventh form; the later family's looks); each row that meets fmt, with fmt's text TOLD by the authors' own Lean function (tested against real Go, not proved from fmt's source: count such statements apart). THE CARD IS WHAT COUNTS. Prove the row's statement (the work); the ties are given (YtbhbfiijkkcoeaaGreatDoorTie.lean); close each card by the builder's one call (the guide's Derived/Test/ToyasCard.lean, 'card_holds'). Laid BY PROGRAM, IN A SANDBOX (cutbox-door.mjs). By AI agents, Wed Nov 11 2026. No macro, syntax, notation, axiom, sorry.
-/
import Derived.Test.YtbhbfiijkkcoeaaGreatDoorRows
import GoSem.ClaimSeven
namespace Go.Proofs.YtbhbfiijkkcoeaaGreatDoor
namespace Rows

/-- THE TIED CARD OF 'rillmeterlaw24.FabricNone'. -/
def fabricNoneCard : Claim7 := { stood := { row := fabricNoneRow, standIns := [], harness := (true, "b8832331339ca6047dc15a28567bcfae89fe858e98f7f90c76c3ff847aafce62"), looks := false }, kinds := [], alts := [], laidByText := true, laidKinds := [.data], laidTests := true, laidLooks := .later }
def FabricNoneCardSaid : Prop := Claim7.holds Tryz.pinned (.plain (OpenSpec.ofChange fabricNoneSpec)) fabricNoneCard

/-- THE TIED CARD OF 'rillmeterlaw24.FabricNet'. -/
def fabricNetCard : Claim7 := { stood := { row := fabricNetRow, standIns := [], harness := (true, "b8832331339ca6047dc15a28567bcfae89fe858e98f7f90c76c3ff847aafce62"), looks := false }, kinds := [], alts := [], laidByText := true, laidKinds := [.data], laidTests := true, laidLooks := .later }
def FabricNetCardSaid : Prop := Claim7.holds Tryz.pinned (.plain (OpenSpec.ofChange fabricNetSpec)) fabricNetCard

/-- THE TIED CARD OF 'rillmeterlaw24.FabricPlays'. -/
def fabricPlaysCard : Claim7 := { stood := { row := fabricPlaysRow, standIns := [], harness := (true, "b8832331339ca6047dc15a28567bcfae89fe858e98f7f90c76c3ff847aafce62"), looks := false }, kinds := [], alts := [], laidByText := true, laidKinds := [.data], laidTests := true, laidLooks := .later }
def FabricPlaysCardSaid : Prop := Claim7.holds Tryz.pinned (.plain (OpenSpec.ofChange fabricPlaysSpec)) fabricPlaysCard

/-- THE TIED CARD OF 'rillmeterlaw24.FabricRefuses'. -/
def fabricRefusesCard : Claim7 := { stood := { row := fabricRefusesRow, standIns := [], harness := (true, "b8832331339ca6047dc15a28567bcfae89fe858e98f7f90c76c3ff847aafce62"), looks := false }, kinds := [], alts := [], laidByText := true, laidKinds := [.data], laidTests := true, laidLooks := .later }
def FabricRefusesCardSaid : Prop := Claim7.holds Tryz.pinned (.plain (OpenSpec.ofChange fabricRefusesSpec)) fabricRefusesCard

/-- THE SECOND FORM's CARD OF 'rillmeterlaw24.FabricNone'. -/
def fabricNoneUptoCard : Claim7 := { stood := { row := fabricNoneUptoRow, standIns := [], harness := (true, "b8832331339ca6047dc15a28567bcfae89fe858e98f7f90c76c3ff847aafce62"), looks := false }, kinds := [], alts := [], laidByText := true, laidKinds := [.data], laidTests := true, laidLooks := .later }
def FabricNoneUptoCardSaid : Prop := Claim7.holds Tryz.pinned (.plain (OpenSpec.upto fabricNoneSpec)) fabricNoneUptoCard

/-- THE SECOND FORM's CARD OF 'rillmeterlaw24.FabricNet'. -/
def fabricNetUptoCard : Claim7 := { stood := { row := fabricNetUptoRow, standIns := [], harness := (true, "b8832331339ca6047dc15a28567bcfae89fe858e98f7f90c76c3ff847aafce62"), looks := false }, kinds := [], alts := [], laidByText := true, laidKinds := [.data], laidTests := true, laidLooks := .later }
def FabricNetUptoCardSaid : Prop := Claim7.holds Tryz.pinned (.plain (OpenSpec.upto fabricNetSpec)) fabricNetUptoCard

/-- THE SECOND FORM's CARD OF 'rillmeterlaw24.FabricPlays'. -/
def fabricPlaysUptoCard : Claim7 := { stood := { row := fabricPlaysUptoRow, standIns := [], harness := (true, "b8832331339ca6047dc15a28567bcfae89fe858e98f7f90c76c3ff847aafce62"), looks := false }, kinds := [], alts := [], laidByText := true, laidKinds := [.data], laidTests := true, laidLooks := .later }
def FabricPlaysUptoCardSaid : Prop := Claim7.holds Tryz.pinned (.plain (OpenSpec.upto fabricPlaysSpec)) fabricPlaysUptoCard

/-- THE SECOND FORM's CARD OF 'rillmeterlaw24.FabricRefuses'. -/
def fabricRefusesUptoCard : Claim7 := { stood := { row := fabricRefusesUptoRow, standIns := [], harness := (true, "b8832331339ca6047dc15a28567bcfae89fe858e98f7f90c76c3ff847aafce62"), looks := false }, kinds := [], alts := [], laidByText := true, laidKinds := [.data], laidTests := true, laidLooks := .later }
def FabricRefusesUptoCardSaid : Prop := Claim7.holds Tryz.pinned (.plain (OpenSpec.upto fabricRefusesSpec)) fabricRefusesUptoCard
end Rows
end Go.Proofs.YtbhbfiijkkcoeaaGreatDoor
