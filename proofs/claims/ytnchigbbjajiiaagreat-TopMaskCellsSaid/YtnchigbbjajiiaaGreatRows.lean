/-
  No cell of these rows narrows 'for every input' (looked for: loops, veiled, ifaces, maps, wideKeys, modest, calm, conditions, laid).
  DERIVED. THE GIVEN ROWS OF THIS SEAT. 5 by the template 'for every input the law returns true; each argument reads behind the call as it read before'; 0 by the template 'total and deterministic' (their statements: YtnchigbbjajiiaaGreatTotals.lean).
  GIVEN WITH THE SEED: the statements are not yours to turn. If you find one false, say at which input.
  Laid BY PROGRAM, IN A SANDBOX (cutbox-rows.mjs): the forced cells as the released guide's own fill.sh prints them over the translation be400c13e27600d7… (all of the seat's roots in one cut). By AI agents, Wed Nov 11 2026. No macro, syntax, notation, axiom, sorry.
-/
import Derived.Test.YtnchigbbjajiiaaGreatChecked
import GoSem.Claim
import GoSem.ClaimJoined
import GoSem.ClaimMapViews
import Derived.JoinedTies
import Derived.KernelRfl
namespace Go.Proofs.YtnchigbbjajiiaaGreat
/- THE CELL 'sum', in the pinned program and in every row, IS THE sha256 OF THE DUMP (.gsa) THAT YtnchigbbjajiiaaGreatProg.lean LOADS. Nothing in Lean hashes anything: it is a label: what it is worth is what the hold of that sum in a sandbox is worth. -/
noncomputable def Tryz.pinned : Pinned := { name := "ytnchigbbjajiiaagreat", sum := "be400c13e27600d75f8a34891bac6f2b04091989e37edd917fd472348a1b0c01", checked := Tryz.checked }
namespace Rows
def none {H : Type} : Left H := { results := [], args := [] }

/-- 'lightsievetop.TopMaskCells': WHATEVER THE INPUT: true; the input reads as it did. -/
def topMaskCellsSpec : ChangeSpec := { name := "topMaskCells", fn := fun _ => fun
  | [d1, d2, d3] => { results := [.lit (.bool true)], args := [d1, d2, d3] }
  | _ => none }
def topMaskCellsRow : OpenClaim := { program := "ytnchigbbjajiiaagreat", sum := "be400c13e27600d75f8a34891bac6f2b04091989e37edd917fd472348a1b0c01", func := "lightsieve/lightsievetop.TopMaskCells", spec := "topMaskCells", inPlace := ["math/bits.Sub64", "internal/abi.NoEscape"], unfollowed := true, recurses := true, apart := false }
def TopMaskCellsSaid : Prop := topMaskCellsRow.holds Tryz.pinned (OpenSpec.ofChange topMaskCellsSpec)

/-- ITS FALSE NEIGHBOUR: 'it returns false'. Refute it at one input. -/
def topMaskCellsWrong : ChangeSpec := { name := "topMaskCells", fn := fun _ => fun
  | [d1, d2, d3] => { results := [.lit (.bool false)], args := [d1, d2, d3] }
  | _ => none }
def TopMaskCellsWrongFalsely : Prop := topMaskCellsRow.holds Tryz.pinned (OpenSpec.ofChange topMaskCellsWrong)

/-- 'lightsievelaw06.CondPictures': WHATEVER THE INPUT: true; the input reads as it did. -/
def condPicturesSpec : ChangeSpec := { name := "condPictures", fn := fun _ => fun
  | [d1, d2] => { results := [.lit (.bool true)], args := [d1, d2] }
  | _ => none }
def condPicturesRow : OpenClaim := { program := "ytnchigbbjajiiaagreat", sum := "be400c13e27600d75f8a34891bac6f2b04091989e37edd917fd472348a1b0c01", func := "lightsieve/lightsievelaw06.CondPictures", spec := "condPictures", inPlace := ["math/bits.Sub64"], unfollowed := true, recurses := true, apart := false }
def CondPicturesSaid : Prop := condPicturesRow.holds Tryz.pinned (OpenSpec.ofChange condPicturesSpec)

/-- ITS FALSE NEIGHBOUR: 'it returns false'. Refute it at one input. -/
def condPicturesWrong : ChangeSpec := { name := "condPictures", fn := fun _ => fun
  | [d1, d2] => { results := [.lit (.bool false)], args := [d1, d2] }
  | _ => none }
def CondPicturesWrongFalsely : Prop := condPicturesRow.holds Tryz.pinned (OpenSpec.ofChange condPicturesWrong)

/-- 'lightsievetop.TopOrderFinds': WHATEVER THE INPUT: true; the input reads as it did. -/
def topOrderFindsSpec : ChangeSpec := { name := "topOrderFinds", fn := fun _ => fun
  | [d1, d2] => { results := [.lit (.bool true)], args := [d1, d2] }
  | _ => none }
def topOrderFindsRow : OpenClaim := { program := "ytnchigbbjajiiaagreat", sum := "be400c13e27600d75f8a34891bac6f2b04091989e37edd917fd472348a1b0c01", func := "lightsieve/lightsievetop.TopOrderFinds", spec := "topOrderFinds", inPlace := ["math/bits.Sub64", "internal/abi.NoEscape", "math/bits.Add64"], unfollowed := true, recurses := true, apart := false }
def TopOrderFindsSaid : Prop := topOrderFindsRow.holds Tryz.pinned (OpenSpec.ofChange topOrderFindsSpec)

/-- ITS FALSE NEIGHBOUR: 'it returns false'. Refute it at one input. -/
def topOrderFindsWrong : ChangeSpec := { name := "topOrderFinds", fn := fun _ => fun
  | [d1, d2] => { results := [.lit (.bool false)], args := [d1, d2] }
  | _ => none }
def TopOrderFindsWrongFalsely : Prop := topOrderFindsRow.holds Tryz.pinned (OpenSpec.ofChange topOrderFindsWrong)

/-- 'lightsievetop.TopStreamOrder': WHATEVER THE INPUT: true; the input reads as it did. -/
def topStreamOrderSpec : ChangeSpec := { name := "topStreamOrder", fn := fun _ => fun
  | [d1, d2, d3] => { results := [.lit (.bool true)], args := [d1, d2, d3] }
  | _ => none }
def topStreamOrderRow : OpenClaim := { program := "ytnchigbbjajiiaagreat", sum := "be400c13e27600d75f8a34891bac6f2b04091989e37edd917fd472348a1b0c01", func := "lightsieve/lightsievetop.TopStreamOrder", spec := "topStreamOrder", inPlace := ["math/bits.Sub64", "internal/abi.NoEscape", "math/bits.Add64"], unfollowed := true, recurses := true, apart := false }
def TopStreamOrderSaid : Prop := topStreamOrderRow.holds Tryz.pinned (OpenSpec.ofChange topStreamOrderSpec)

/-- ITS FALSE NEIGHBOUR: 'it returns false'. Refute it at one input. -/
def topStreamOrderWrong : ChangeSpec := { name := "topStreamOrder", fn := fun _ => fun
  | [d1, d2, d3] => { results := [.lit (.bool false)], args := [d1, d2, d3] }
  | _ => none }
def TopStreamOrderWrongFalsely : Prop := topStreamOrderRow.holds Tryz.pinned (OpenSpec.ofChange topStreamOrderWrong)

/-- 'lightsievetop.TopBadMissed': WHATEVER THE INPUT: true; the input reads as it did. -/
def topBadMissedSpec : ChangeSpec := { name := "topBadMissed", fn := fun _ => fun
  | [d] => { results := [.lit (.bool true)], args := [d] }
  | _ => none }
def topBadMissedRow : OpenClaim := { program := "ytnchigbbjajiiaagreat", sum := "be400c13e27600d75f8a34891bac6f2b04091989e37edd917fd472348a1b0c01", func := "lightsieve/lightsievetop.TopBadMissed", spec := "topBadMissed", inPlace := ["math/bits.Sub64", "internal/abi.NoEscape", "math/bits.Add64"], unfollowed := true, recurses := true, apart := false }
def TopBadMissedSaid : Prop := topBadMissedRow.holds Tryz.pinned (OpenSpec.ofChange topBadMissedSpec)

/-- ITS FALSE NEIGHBOUR: 'it returns false'. Refute it at one input. -/
def topBadMissedWrong : ChangeSpec := { name := "topBadMissed", fn := fun _ => fun
  | [d] => { results := [.lit (.bool false)], args := [d] }
  | _ => none }
def TopBadMissedWrongFalsely : Prop := topBadMissedRow.holds Tryz.pinned (OpenSpec.ofChange topBadMissedWrong)

/- THE SECOND FORM. 'bulk': how many values and letters a reading holds, each counted each time it is reached (what is shared counts as often as it is met; a slice's spare places count too). A statement '..UptoSaid' is the law's where the arguments, and the package variables that the reading takes, are together of bulk at most 1048576: NARROWER than '..Said'. Prove '..Said' where nothing that the law and all that it calls make is longer than what came in: it says more and counts as full. Else prove '..UptoSaid'. A law counts once. -/
mutual
def uptoBulk {H : Type} : DataW H → Nat
  | .lit (.string bytes) => bytes.length + 1
  | .lit _ => 1
  | .nil => 1
  | .ptr d => uptoBulk d + 1
  | .slice elems spare => uptoBulkAll elems + uptoBulkAll spare + 1
  | .agg parts => uptoBulkAll parts + 1
  | .iface _ d => uptoBulk d + 1
  | .map entries => uptoBulkEntries entries + 1
  | .held _ => 1
def uptoBulkAll {H : Type} : List (DataW H) → Nat
  | [] => 0
  | d :: r => uptoBulk d + uptoBulkAll r
def uptoBulkEntries {H : Type} : List (Lit × DataW H) → Nat
  | [] => 0
  | x :: r => uptoBulkEntry x + uptoBulkEntries r
def uptoBulkEntry {H : Type} : Lit × DataW H → Nat
  | (.string bytes, d) => bytes.length + uptoBulk d + 1
  | (_, d) => uptoBulk d + 1
 end
def uptoSmall : (H : Type) → List (DataW H) → Bool := fun _ ds => decide (uptoBulkAll ds ≤ 1048576)
def OpenSpec.upto (s : _root_.Go.ChangeSpec) : _root_.Go.OpenSpec := { _root_.Go.OpenSpec.ofChange s with cond := some uptoSmall }

/-- 'lightsievetop.TopMaskCells', WHERE WHAT IT READS IS OF BULK AT MOST 1048576: true; the input reads as it did. -/
def topMaskCellsUptoRow : OpenClaim := { program := "ytnchigbbjajiiaagreat", sum := "be400c13e27600d75f8a34891bac6f2b04091989e37edd917fd472348a1b0c01", func := "lightsieve/lightsievetop.TopMaskCells", spec := "topMaskCells", inPlace := ["math/bits.Sub64", "internal/abi.NoEscape"], unfollowed := true, recurses := true, apart := false, narrowed := true }
def TopMaskCellsUptoSaid : Prop := topMaskCellsUptoRow.holds Tryz.pinned (OpenSpec.upto topMaskCellsSpec)

/-- 'lightsievelaw06.CondPictures', WHERE WHAT IT READS IS OF BULK AT MOST 1048576: true; the input reads as it did. -/
def condPicturesUptoRow : OpenClaim := { program := "ytnchigbbjajiiaagreat", sum := "be400c13e27600d75f8a34891bac6f2b04091989e37edd917fd472348a1b0c01", func := "lightsieve/lightsievelaw06.CondPictures", spec := "condPictures", inPlace := ["math/bits.Sub64"], unfollowed := true, recurses := true, apart := false, narrowed := true }
def CondPicturesUptoSaid : Prop := condPicturesUptoRow.holds Tryz.pinned (OpenSpec.upto condPicturesSpec)

/-- 'lightsievetop.TopOrderFinds', WHERE WHAT IT READS IS OF BULK AT MOST 1048576: true; the input reads as it did. -/
def topOrderFindsUptoRow : OpenClaim := { program := "ytnchigbbjajiiaagreat", sum := "be400c13e27600d75f8a34891bac6f2b04091989e37edd917fd472348a1b0c01", func := "lightsieve/lightsievetop.TopOrderFinds", spec := "topOrderFinds", inPlace := ["math/bits.Sub64", "internal/abi.NoEscape", "math/bits.Add64"], unfollowed := true, recurses := true, apart := false, narrowed := true }
def TopOrderFindsUptoSaid : Prop := topOrderFindsUptoRow.holds Tryz.pinned (OpenSpec.upto topOrderFindsSpec)

/-- 'lightsievetop.TopStreamOrder', WHERE WHAT IT READS IS OF BULK AT MOST 1048576: true; the input reads as it did. -/
def topStreamOrderUptoRow : OpenClaim := { program := "ytnchigbbjajiiaagreat", sum := "be400c13e27600d75f8a34891bac6f2b04091989e37edd917fd472348a1b0c01", func := "lightsieve/lightsievetop.TopStreamOrder", spec := "topStreamOrder", inPlace := ["math/bits.Sub64", "internal/abi.NoEscape", "math/bits.Add64"], unfollowed := true, recurses := true, apart := false, narrowed := true }
def TopStreamOrderUptoSaid : Prop := topStreamOrderUptoRow.holds Tryz.pinned (OpenSpec.upto topStreamOrderSpec)

/-- 'lightsievetop.TopBadMissed', WHERE WHAT IT READS IS OF BULK AT MOST 1048576: true; the input reads as it did. -/
def topBadMissedUptoRow : OpenClaim := { program := "ytnchigbbjajiiaagreat", sum := "be400c13e27600d75f8a34891bac6f2b04091989e37edd917fd472348a1b0c01", func := "lightsieve/lightsievetop.TopBadMissed", spec := "topBadMissed", inPlace := ["math/bits.Sub64", "internal/abi.NoEscape", "math/bits.Add64"], unfollowed := true, recurses := true, apart := false, narrowed := true }
def TopBadMissedUptoSaid : Prop := topBadMissedUptoRow.holds Tryz.pinned (OpenSpec.upto topBadMissedSpec)

end Rows
end Go.Proofs.YtnchigbbjajiiaaGreat
