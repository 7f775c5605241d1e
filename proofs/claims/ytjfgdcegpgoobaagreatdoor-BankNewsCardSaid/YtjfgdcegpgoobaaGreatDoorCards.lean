/-
  DERIVED. GIVEN WITH THE SEED: THE CARDS: each row of YtjfgdcegpgoobaaGreatDoorRows.lean that lists a variable, with what it lists TIED to the program's text (the seventh form; the later family's looks); each row that meets fmt, with fmt's text TOLD by the authors' own Lean function (tested against real Go, not proved from fmt's source: count such statements apart). THE CARD IS WHAT COUNTS. Prove the row's statement (the work); the ties are given (YtjfgdcegpgoobaaGreatDoorTie.lean); close each card by the builder's one call (the guide's Derived/Test/ToyasCard.lean, 'card_holds'). Laid BY PROGRAM, IN A SANDBOX (cutbox-door.mjs). By AI agents, Wed Nov 11 2026. No macro, syntax, notation, axiom, sorry.
-/
import Derived.Test.YtjfgdcegpgoobaaGreatDoorRows
import GoSem.ClaimSeven
namespace Go.Proofs.YtjfgdcegpgoobaaGreatDoor
namespace Rows

/-- THE TIED CARD OF 'rillmeterlaw20.BankNews'. -/
def bankNewsCard : Claim7 := { stood := { row := bankNewsRow, standIns := [], harness := (true, "4bdff03543ffa5435a67fe436c346679664a7d0c45b5a8d75a144d08a5c2fa90"), looks := false }, kinds := [], alts := [], laidByText := true, laidKinds := [.data], laidTests := true, laidLooks := .later }
def BankNewsCardSaid : Prop := Claim7.holds Tryz.pinned (.plain (OpenSpec.ofChange bankNewsSpec)) bankNewsCard

/-- THE SECOND FORM's CARD OF 'rillmeterlaw20.BankNews'. -/
def bankNewsUptoCard : Claim7 := { stood := { row := bankNewsUptoRow, standIns := [], harness := (true, "4bdff03543ffa5435a67fe436c346679664a7d0c45b5a8d75a144d08a5c2fa90"), looks := false }, kinds := [], alts := [], laidByText := true, laidKinds := [.data], laidTests := true, laidLooks := .later }
def BankNewsUptoCardSaid : Prop := Claim7.holds Tryz.pinned (.plain (OpenSpec.upto bankNewsSpec)) bankNewsUptoCard
end Rows
end Go.Proofs.YtjfgdcegpgoobaaGreatDoor
