/-
  DERIVED. GIVEN WITH THE SEED: THE CARDS: each row of YtnoieleoklpciaaGreatDoorRows.lean that lists a variable, with what it lists TIED to the program's text (the seventh form; the later family's looks); each row that meets fmt, with fmt's text TOLD by the authors' own Lean function (tested against real Go, not proved from fmt's source: count such statements apart). THE CARD IS WHAT COUNTS. Prove the row's statement (the work); the ties are given (YtnoieleoklpciaaGreatDoorTie.lean); close each card by the builder's one call (the guide's Derived/Test/ToyasCard.lean, 'card_holds'). Laid BY PROGRAM, IN A SANDBOX (cutbox-door.mjs). By AI agents, Wed Nov 11 2026. No macro, syntax, notation, axiom, sorry.
-/
import Derived.Test.YtnoieleoklpciaaGreatDoorRows
import GoSem.ClaimSeven
namespace Go.Proofs.YtnoieleoklpciaaGreatDoor
namespace Rows

/-- THE TIED CARD OF 'rillmeterlaw24.FabricRefuses'. -/
def fabricRefusesCard : Claim7 := { stood := { row := fabricRefusesRow, standIns := [], harness := (true, "8fa8f401ed78c6ae76945d802435a45cce93047418e1b6c2902a4a2286de5231"), looks := false }, kinds := [], alts := [], laidByText := true, laidKinds := [.data], laidTests := true, laidLooks := .later }
def FabricRefusesCardSaid : Prop := Claim7.holds Tryz.pinned (.plain (OpenSpec.ofChange fabricRefusesSpec)) fabricRefusesCard

/-- THE SECOND FORM's CARD OF 'rillmeterlaw24.FabricRefuses'. -/
def fabricRefusesUptoCard : Claim7 := { stood := { row := fabricRefusesUptoRow, standIns := [], harness := (true, "8fa8f401ed78c6ae76945d802435a45cce93047418e1b6c2902a4a2286de5231"), looks := false }, kinds := [], alts := [], laidByText := true, laidKinds := [.data], laidTests := true, laidLooks := .later }
def FabricRefusesUptoCardSaid : Prop := Claim7.holds Tryz.pinned (.plain (OpenSpec.upto fabricRefusesSpec)) fabricRefusesUptoCard
end Rows
end Go.Proofs.YtnoieleoklpciaaGreatDoor
