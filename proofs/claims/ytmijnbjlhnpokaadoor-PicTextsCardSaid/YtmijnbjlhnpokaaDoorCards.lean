/-
  DERIVED. GIVEN WITH THE SEED: THE CARDS: each row of YtmijnbjlhnpokaaDoorRows.lean that lists a variable, with what it lists TIED to the program's text (the seventh form; the later family's looks); each row that meets fmt, with fmt's text TOLD by the authors' own Lean function (tested against real Go, not proved from fmt's source: count such statements apart). THE CARD IS WHAT COUNTS. Prove the row's statement (the work); the ties are given (YtmijnbjlhnpokaaDoorTie.lean); close each card by the builder's one call (the guide's Derived/Test/ToyasCard.lean, 'card_holds'). Laid BY PROGRAM, IN A SANDBOX (cutbox-door.mjs). By AI agents, Wed Nov 11 2026. No macro, syntax, notation, axiom, sorry.
-/
import Derived.Test.YtmijnbjlhnpokaaDoorRows
import GoSem.ClaimSeven
namespace Go.Proofs.YtmijnbjlhnpokaaDoor
namespace Rows

/-- THE TIED CARD OF 'lightsievelaw01.PicTexts'. -/
def picTextsCard : Claim7 := { stood := { row := picTextsRow, standIns := [], harness := (true, "dfac3b6317f4aaf3a00e295c2445423a2244ab78f1bcd87627786a7d25d1af86"), looks := true }, kinds := [], alts := [], laidByText := true, laidKinds := [.data, .data, .data, .data, .sentinel, .sentinel, .pinned], laidTests := true, laidLooks := .later }
def PicTextsCardSaid : Prop := Claim7.holds Tryd.pinned (.plain (OpenSpec.ofChange picTextsSpec)) picTextsCard

/-- THE SECOND FORM's CARD OF 'lightsievelaw01.PicTexts'. -/
def picTextsUptoCard : Claim7 := { stood := { row := picTextsUptoRow, standIns := [], harness := (true, "dfac3b6317f4aaf3a00e295c2445423a2244ab78f1bcd87627786a7d25d1af86"), looks := true }, kinds := [], alts := [], laidByText := true, laidKinds := [.data, .data, .data, .data, .sentinel, .sentinel, .pinned], laidTests := true, laidLooks := .later }
def PicTextsUptoCardSaid : Prop := Claim7.holds Tryd.pinned (.plain (OpenSpec.upto picTextsSpec)) picTextsUptoCard
end Rows
end Go.Proofs.YtmijnbjlhnpokaaDoor
