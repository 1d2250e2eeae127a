/-
  DERIVED. GIVEN WITH THE SEED: THE CARDS: each row of YtempacilejhbgaaGreatDoorRows.lean that lists a variable, with what it lists TIED to the program's text (the seventh form; the later family's looks); each row that meets fmt, with fmt's text TOLD by the authors' own Lean function (tested against real Go, not proved from fmt's source: count such statements apart). THE CARD IS WHAT COUNTS. Prove the row's statement (the work); the ties are given (YtempacilejhbgaaGreatDoorTie.lean); close each card by the builder's one call (the guide's Derived/Test/ToyasCard.lean, 'card_holds'). Laid BY PROGRAM, IN A SANDBOX (cutbox-door.mjs). By AI agents, Wed Nov 11 2026. No macro, syntax, notation, axiom, sorry.
-/
import Derived.Test.YtempacilejhbgaaGreatDoorRows
import GoSem.ClaimSeven
namespace Go.Proofs.YtempacilejhbgaaGreatDoor
namespace Rows

/-- THE TIED CARD OF 'lightsievelaw06.CondReports'. -/
def condReportsCard : Claim7 := { stood := { row := condReportsRow, standIns := [], harness := (true, "49fb30d5db7700b62ada1724bf649469ef25550677d157e98099e28cffd86d35"), looks := false }, kinds := [], alts := [], laidByText := true, laidKinds := [.data, .data, .data], laidTests := true, laidLooks := .later }
def CondReportsCardSaid : Prop := Claim7.holds Tryz.pinned (.plain (OpenSpec.ofChange condReportsSpec)) condReportsCard

/-- THE SECOND FORM's CARD OF 'lightsievelaw06.CondReports'. -/
def condReportsUptoCard : Claim7 := { stood := { row := condReportsUptoRow, standIns := [], harness := (true, "49fb30d5db7700b62ada1724bf649469ef25550677d157e98099e28cffd86d35"), looks := false }, kinds := [], alts := [], laidByText := true, laidKinds := [.data, .data, .data], laidTests := true, laidLooks := .later }
def CondReportsUptoCardSaid : Prop := Claim7.holds Tryz.pinned (.plain (OpenSpec.upto condReportsSpec)) condReportsUptoCard
end Rows
end Go.Proofs.YtempacilejhbgaaGreatDoor
