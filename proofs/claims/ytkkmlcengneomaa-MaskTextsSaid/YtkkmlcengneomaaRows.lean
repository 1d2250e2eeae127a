/-
  No cell of these rows narrows 'for every input' (looked for: loops, veiled, ifaces, maps, wideKeys, modest, calm, conditions, laid).
  DERIVED. THE GIVEN ROWS OF THIS SEAT. 10 by the template 'for every input the law returns true; each argument reads behind the call as it read before'; 0 by the template 'total and deterministic' (their statements: YtkkmlcengneomaaTotals.lean).
  GIVEN WITH THE SEED: the statements are not yours to turn. If you find one false, say at which input.
  Laid BY PROGRAM, IN A SANDBOX (cutbox-rows.mjs): the forced cells as the released guide's own fill.sh prints them over the translation 3d92006dd55810bd… (all of the seat's roots in one cut). By AI agents, Wed Nov 11 2026. No macro, syntax, notation, axiom, sorry.
-/
import Derived.Test.YtkkmlcengneomaaChecked
import GoSem.Claim
import GoSem.ClaimJoined
import GoSem.ClaimMapViews
import Derived.JoinedTies
import Derived.KernelRfl
namespace Go.Proofs.Ytkkmlcengneomaa
/- THE CELL 'sum', in the pinned program and in every row, IS THE sha256 OF THE DUMP (.gsa) THAT YtkkmlcengneomaaProg.lean LOADS. Nothing in Lean hashes anything: it is a label: what it is worth is what the hold of that sum in a sandbox is worth. -/
noncomputable def Try.pinned : Pinned := { name := "ytkkmlcengneomaa", sum := "3d92006dd55810bdf2ff7cc5ab7c5e3c9a84a37be30f8e5ec98ee75bb06367f9", checked := Try.checked }
namespace Rows
def none {H : Type} : Left H := { results := [], args := [] }

/-- 'lightsievelaw02.MaskAdjoint': WHATEVER THE INPUT: true; the input reads as it did. -/
def maskAdjointSpec : ChangeSpec := { name := "maskAdjoint", fn := fun _ => fun
  | [d1, d2, d3, d4] => { results := [.lit (.bool true)], args := [d1, d2, d3, d4] }
  | _ => none }
def maskAdjointRow : OpenClaim := { program := "ytkkmlcengneomaa", sum := "3d92006dd55810bdf2ff7cc5ab7c5e3c9a84a37be30f8e5ec98ee75bb06367f9", func := "lightsieve/lightsievelaw02.MaskAdjoint", spec := "maskAdjoint", unfollowed := true, recurses := true, apart := false }
def MaskAdjointSaid : Prop := maskAdjointRow.holds Try.pinned (OpenSpec.ofChange maskAdjointSpec)

/-- ITS FALSE NEIGHBOUR: 'it returns false'. Refute it at one input. -/
def maskAdjointWrong : ChangeSpec := { name := "maskAdjoint", fn := fun _ => fun
  | [d1, d2, d3, d4] => { results := [.lit (.bool false)], args := [d1, d2, d3, d4] }
  | _ => none }
def MaskAdjointWrongFalsely : Prop := maskAdjointRow.holds Try.pinned (OpenSpec.ofChange maskAdjointWrong)

/-- 'lightsievelaw02.MaskColumns': WHATEVER THE INPUT: true; the input reads as it did. -/
def maskColumnsSpec : ChangeSpec := { name := "maskColumns", fn := fun _ => fun
  | [d1, d2, d3] => { results := [.lit (.bool true)], args := [d1, d2, d3] }
  | _ => none }
def maskColumnsRow : OpenClaim := { program := "ytkkmlcengneomaa", sum := "3d92006dd55810bdf2ff7cc5ab7c5e3c9a84a37be30f8e5ec98ee75bb06367f9", func := "lightsieve/lightsievelaw02.MaskColumns", spec := "maskColumns", unfollowed := true, recurses := true, apart := false }
def MaskColumnsSaid : Prop := maskColumnsRow.holds Try.pinned (OpenSpec.ofChange maskColumnsSpec)

/-- ITS FALSE NEIGHBOUR: 'it returns false'. Refute it at one input. -/
def maskColumnsWrong : ChangeSpec := { name := "maskColumns", fn := fun _ => fun
  | [d1, d2, d3] => { results := [.lit (.bool false)], args := [d1, d2, d3] }
  | _ => none }
def MaskColumnsWrongFalsely : Prop := maskColumnsRow.holds Try.pinned (OpenSpec.ofChange maskColumnsWrong)

/-- 'lightsievelaw02.MaskReads': WHATEVER THE INPUT: true; the input reads as it did. -/
def maskReadsSpec : ChangeSpec := { name := "maskReads", fn := fun _ => fun
  | [d1, d2, d3] => { results := [.lit (.bool true)], args := [d1, d2, d3] }
  | _ => none }
def maskReadsRow : OpenClaim := { program := "ytkkmlcengneomaa", sum := "3d92006dd55810bdf2ff7cc5ab7c5e3c9a84a37be30f8e5ec98ee75bb06367f9", func := "lightsieve/lightsievelaw02.MaskReads", spec := "maskReads", unfollowed := true, recurses := true, apart := false }
def MaskReadsSaid : Prop := maskReadsRow.holds Try.pinned (OpenSpec.ofChange maskReadsSpec)

/-- ITS FALSE NEIGHBOUR: 'it returns false'. Refute it at one input. -/
def maskReadsWrong : ChangeSpec := { name := "maskReads", fn := fun _ => fun
  | [d1, d2, d3] => { results := [.lit (.bool false)], args := [d1, d2, d3] }
  | _ => none }
def MaskReadsWrongFalsely : Prop := maskReadsRow.holds Try.pinned (OpenSpec.ofChange maskReadsWrong)

/-- 'lightsievelaw02.MaskStacks': WHATEVER THE INPUT: true; the input reads as it did. -/
def maskStacksSpec : ChangeSpec := { name := "maskStacks", fn := fun _ => fun
  | [d1, d2, d3, d4] => { results := [.lit (.bool true)], args := [d1, d2, d3, d4] }
  | _ => none }
def maskStacksRow : OpenClaim := { program := "ytkkmlcengneomaa", sum := "3d92006dd55810bdf2ff7cc5ab7c5e3c9a84a37be30f8e5ec98ee75bb06367f9", func := "lightsieve/lightsievelaw02.MaskStacks", spec := "maskStacks", unfollowed := true, recurses := true, apart := false }
def MaskStacksSaid : Prop := maskStacksRow.holds Try.pinned (OpenSpec.ofChange maskStacksSpec)

/-- ITS FALSE NEIGHBOUR: 'it returns false'. Refute it at one input. -/
def maskStacksWrong : ChangeSpec := { name := "maskStacks", fn := fun _ => fun
  | [d1, d2, d3, d4] => { results := [.lit (.bool false)], args := [d1, d2, d3, d4] }
  | _ => none }
def MaskStacksWrongFalsely : Prop := maskStacksRow.holds Try.pinned (OpenSpec.ofChange maskStacksWrong)

/-- 'lightsievelaw02.MaskCoheres': WHATEVER THE INPUT: true; the input reads as it did. -/
def maskCoheresSpec : ChangeSpec := { name := "maskCoheres", fn := fun _ => fun
  | [d] => { results := [.lit (.bool true)], args := [d] }
  | _ => none }
def maskCoheresRow : OpenClaim := { program := "ytkkmlcengneomaa", sum := "3d92006dd55810bdf2ff7cc5ab7c5e3c9a84a37be30f8e5ec98ee75bb06367f9", func := "lightsieve/lightsievelaw02.MaskCoheres", spec := "maskCoheres", unfollowed := true, recurses := true, apart := false }
def MaskCoheresSaid : Prop := maskCoheresRow.holds Try.pinned (OpenSpec.ofChange maskCoheresSpec)

/-- ITS FALSE NEIGHBOUR: 'it returns false'. Refute it at one input. -/
def maskCoheresWrong : ChangeSpec := { name := "maskCoheres", fn := fun _ => fun
  | [d] => { results := [.lit (.bool false)], args := [d] }
  | _ => none }
def MaskCoheresWrongFalsely : Prop := maskCoheresRow.holds Try.pinned (OpenSpec.ofChange maskCoheresWrong)

/-- 'lightsievelaw02.MaskSeeds': WHATEVER THE INPUT: true; the input reads as it did. -/
def maskSeedsSpec : ChangeSpec := { name := "maskSeeds", fn := fun _ => fun
  | [d1, d2, d3] => { results := [.lit (.bool true)], args := [d1, d2, d3] }
  | _ => none }
def maskSeedsRow : OpenClaim := { program := "ytkkmlcengneomaa", sum := "3d92006dd55810bdf2ff7cc5ab7c5e3c9a84a37be30f8e5ec98ee75bb06367f9", func := "lightsieve/lightsievelaw02.MaskSeeds", spec := "maskSeeds", unfollowed := true, recurses := true, apart := false }
def MaskSeedsSaid : Prop := maskSeedsRow.holds Try.pinned (OpenSpec.ofChange maskSeedsSpec)

/-- ITS FALSE NEIGHBOUR: 'it returns false'. Refute it at one input. -/
def maskSeedsWrong : ChangeSpec := { name := "maskSeeds", fn := fun _ => fun
  | [d1, d2, d3] => { results := [.lit (.bool false)], args := [d1, d2, d3] }
  | _ => none }
def MaskSeedsWrongFalsely : Prop := maskSeedsRow.holds Try.pinned (OpenSpec.ofChange maskSeedsWrong)

/-- 'lightsievelaw02.MaskMakes': WHATEVER THE INPUT: true; the input reads as it did. -/
def maskMakesSpec : ChangeSpec := { name := "maskMakes", fn := fun _ => fun
  | [d1, d2] => { results := [.lit (.bool true)], args := [d1, d2] }
  | _ => none }
def maskMakesRow : OpenClaim := { program := "ytkkmlcengneomaa", sum := "3d92006dd55810bdf2ff7cc5ab7c5e3c9a84a37be30f8e5ec98ee75bb06367f9", func := "lightsieve/lightsievelaw02.MaskMakes", spec := "maskMakes", unfollowed := true, recurses := true, apart := false }
def MaskMakesSaid : Prop := maskMakesRow.holds Try.pinned (OpenSpec.ofChange maskMakesSpec)

/-- ITS FALSE NEIGHBOUR: 'it returns false'. Refute it at one input. -/
def maskMakesWrong : ChangeSpec := { name := "maskMakes", fn := fun _ => fun
  | [d1, d2] => { results := [.lit (.bool false)], args := [d1, d2] }
  | _ => none }
def MaskMakesWrongFalsely : Prop := maskMakesRow.holds Try.pinned (OpenSpec.ofChange maskMakesWrong)

/-- 'lightsievelaw02.MaskBuilds': WHATEVER THE INPUT: true; the input reads as it did. -/
def maskBuildsSpec : ChangeSpec := { name := "maskBuilds", fn := fun _ => fun
  | [d1, d2, d3] => { results := [.lit (.bool true)], args := [d1, d2, d3] }
  | _ => none }
def maskBuildsRow : OpenClaim := { program := "ytkkmlcengneomaa", sum := "3d92006dd55810bdf2ff7cc5ab7c5e3c9a84a37be30f8e5ec98ee75bb06367f9", func := "lightsieve/lightsievelaw02.MaskBuilds", spec := "maskBuilds", unfollowed := true, recurses := true, apart := false }
def MaskBuildsSaid : Prop := maskBuildsRow.holds Try.pinned (OpenSpec.ofChange maskBuildsSpec)

/-- ITS FALSE NEIGHBOUR: 'it returns false'. Refute it at one input. -/
def maskBuildsWrong : ChangeSpec := { name := "maskBuilds", fn := fun _ => fun
  | [d1, d2, d3] => { results := [.lit (.bool false)], args := [d1, d2, d3] }
  | _ => none }
def MaskBuildsWrongFalsely : Prop := maskBuildsRow.holds Try.pinned (OpenSpec.ofChange maskBuildsWrong)

/-- 'lightsievelaw02.MaskTurns': WHATEVER THE INPUT: true; the input reads as it did. -/
def maskTurnsSpec : ChangeSpec := { name := "maskTurns", fn := fun _ => fun
  | [d1, d2, d3, d4] => { results := [.lit (.bool true)], args := [d1, d2, d3, d4] }
  | _ => none }
def maskTurnsRow : OpenClaim := { program := "ytkkmlcengneomaa", sum := "3d92006dd55810bdf2ff7cc5ab7c5e3c9a84a37be30f8e5ec98ee75bb06367f9", func := "lightsieve/lightsievelaw02.MaskTurns", spec := "maskTurns", unfollowed := true, recurses := true, apart := false }
def MaskTurnsSaid : Prop := maskTurnsRow.holds Try.pinned (OpenSpec.ofChange maskTurnsSpec)

/-- ITS FALSE NEIGHBOUR: 'it returns false'. Refute it at one input. -/
def maskTurnsWrong : ChangeSpec := { name := "maskTurns", fn := fun _ => fun
  | [d1, d2, d3, d4] => { results := [.lit (.bool false)], args := [d1, d2, d3, d4] }
  | _ => none }
def MaskTurnsWrongFalsely : Prop := maskTurnsRow.holds Try.pinned (OpenSpec.ofChange maskTurnsWrong)

/-- 'lightsievelaw02.MaskTexts': WHATEVER THE INPUT: true; the input reads as it did. -/
def maskTextsSpec : ChangeSpec := { name := "maskTexts", fn := fun _ => fun
  | [d1, d2] => { results := [.lit (.bool true)], args := [d1, d2] }
  | _ => none }
def maskTextsRow : OpenClaim := { program := "ytkkmlcengneomaa", sum := "3d92006dd55810bdf2ff7cc5ab7c5e3c9a84a37be30f8e5ec98ee75bb06367f9", func := "lightsieve/lightsievelaw02.MaskTexts", spec := "maskTexts", inPlace := ["internal/bytealg.IndexByteString", "internal/bytealg.IndexString", "internal/abi.NoEscape"], unfollowed := true, recurses := true, named := ["internal/bytealg.MaxLen"], apart := false }
def MaskTextsSaid : Prop := maskTextsRow.holds Try.pinned (OpenSpec.ofChange maskTextsSpec)

/-- ITS FALSE NEIGHBOUR: 'it returns false'. Refute it at one input. -/
def maskTextsWrong : ChangeSpec := { name := "maskTexts", fn := fun _ => fun
  | [d1, d2] => { results := [.lit (.bool false)], args := [d1, d2] }
  | _ => none }
def MaskTextsWrongFalsely : Prop := maskTextsRow.holds Try.pinned (OpenSpec.ofChange maskTextsWrong)

/- THE SECOND FORM. 'bulk': how many values and letters a reading holds, each counted each time it is reached (what is shared counts as often as it is met; a slice's spare places count too). A statement '..UptoSaid' is the law's where the arguments, and the package variables that the reading takes, are together of bulk at most 1048576: NARROWER than '..Said'. Prove '..Said' where nothing that the law and all that it calls make is longer than what came in: it says more and counts as full. Else prove '..UptoSaid'. A law counts once. -/
mutual
def uptoBulk {H : Type} : DataW H → Nat
  | .lit (.string bytes) => bytes.length + 1
  | .lit _ => 1
  | .nil => 1
  | .ptr d => uptoBulk d + 1
  | .slice elems spare => uptoBulkAll elems + uptoBulkAll spare + 1
  | .agg parts => uptoBulkAll parts + 1
  | .iface _ d => uptoBulk d + 1
  | .map entries => uptoBulkEntries entries + 1
  | .held _ => 1
def uptoBulkAll {H : Type} : List (DataW H) → Nat
  | [] => 0
  | d :: r => uptoBulk d + uptoBulkAll r
def uptoBulkEntries {H : Type} : List (Lit × DataW H) → Nat
  | [] => 0
  | x :: r => uptoBulkEntry x + uptoBulkEntries r
def uptoBulkEntry {H : Type} : Lit × DataW H → Nat
  | (.string bytes, d) => bytes.length + uptoBulk d + 1
  | (_, d) => uptoBulk d + 1
 end
def uptoSmall : (H : Type) → List (DataW H) → Bool := fun _ ds => decide (uptoBulkAll ds ≤ 1048576)
def OpenSpec.upto (s : _root_.Go.ChangeSpec) : _root_.Go.OpenSpec := { _root_.Go.OpenSpec.ofChange s with cond := some uptoSmall }

/-- 'lightsievelaw02.MaskAdjoint', WHERE WHAT IT READS IS OF BULK AT MOST 1048576: true; the input reads as it did. -/
def maskAdjointUptoRow : OpenClaim := { program := "ytkkmlcengneomaa", sum := "3d92006dd55810bdf2ff7cc5ab7c5e3c9a84a37be30f8e5ec98ee75bb06367f9", func := "lightsieve/lightsievelaw02.MaskAdjoint", spec := "maskAdjoint", unfollowed := true, recurses := true, apart := false, narrowed := true }
def MaskAdjointUptoSaid : Prop := maskAdjointUptoRow.holds Try.pinned (OpenSpec.upto maskAdjointSpec)

/-- 'lightsievelaw02.MaskColumns', WHERE WHAT IT READS IS OF BULK AT MOST 1048576: true; the input reads as it did. -/
def maskColumnsUptoRow : OpenClaim := { program := "ytkkmlcengneomaa", sum := "3d92006dd55810bdf2ff7cc5ab7c5e3c9a84a37be30f8e5ec98ee75bb06367f9", func := "lightsieve/lightsievelaw02.MaskColumns", spec := "maskColumns", unfollowed := true, recurses := true, apart := false, narrowed := true }
def MaskColumnsUptoSaid : Prop := maskColumnsUptoRow.holds Try.pinned (OpenSpec.upto maskColumnsSpec)

/-- 'lightsievelaw02.MaskReads', WHERE WHAT IT READS IS OF BULK AT MOST 1048576: true; the input reads as it did. -/
def maskReadsUptoRow : OpenClaim := { program := "ytkkmlcengneomaa", sum := "3d92006dd55810bdf2ff7cc5ab7c5e3c9a84a37be30f8e5ec98ee75bb06367f9", func := "lightsieve/lightsievelaw02.MaskReads", spec := "maskReads", unfollowed := true, recurses := true, apart := false, narrowed := true }
def MaskReadsUptoSaid : Prop := maskReadsUptoRow.holds Try.pinned (OpenSpec.upto maskReadsSpec)

/-- 'lightsievelaw02.MaskStacks', WHERE WHAT IT READS IS OF BULK AT MOST 1048576: true; the input reads as it did. -/
def maskStacksUptoRow : OpenClaim := { program := "ytkkmlcengneomaa", sum := "3d92006dd55810bdf2ff7cc5ab7c5e3c9a84a37be30f8e5ec98ee75bb06367f9", func := "lightsieve/lightsievelaw02.MaskStacks", spec := "maskStacks", unfollowed := true, recurses := true, apart := false, narrowed := true }
def MaskStacksUptoSaid : Prop := maskStacksUptoRow.holds Try.pinned (OpenSpec.upto maskStacksSpec)

/-- 'lightsievelaw02.MaskCoheres', WHERE WHAT IT READS IS OF BULK AT MOST 1048576: true; the input reads as it did. -/
def maskCoheresUptoRow : OpenClaim := { program := "ytkkmlcengneomaa", sum := "3d92006dd55810bdf2ff7cc5ab7c5e3c9a84a37be30f8e5ec98ee75bb06367f9", func := "lightsieve/lightsievelaw02.MaskCoheres", spec := "maskCoheres", unfollowed := true, recurses := true, apart := false, narrowed := true }
def MaskCoheresUptoSaid : Prop := maskCoheresUptoRow.holds Try.pinned (OpenSpec.upto maskCoheresSpec)

/-- 'lightsievelaw02.MaskSeeds', WHERE WHAT IT READS IS OF BULK AT MOST 1048576: true; the input reads as it did. -/
def maskSeedsUptoRow : OpenClaim := { program := "ytkkmlcengneomaa", sum := "3d92006dd55810bdf2ff7cc5ab7c5e3c9a84a37be30f8e5ec98ee75bb06367f9", func := "lightsieve/lightsievelaw02.MaskSeeds", spec := "maskSeeds", unfollowed := true, recurses := true, apart := false, narrowed := true }
def MaskSeedsUptoSaid : Prop := maskSeedsUptoRow.holds Try.pinned (OpenSpec.upto maskSeedsSpec)

/-- 'lightsievelaw02.MaskMakes', WHERE WHAT IT READS IS OF BULK AT MOST 1048576: true; the input reads as it did. -/
def maskMakesUptoRow : OpenClaim := { program := "ytkkmlcengneomaa", sum := "3d92006dd55810bdf2ff7cc5ab7c5e3c9a84a37be30f8e5ec98ee75bb06367f9", func := "lightsieve/lightsievelaw02.MaskMakes", spec := "maskMakes", unfollowed := true, recurses := true, apart := false, narrowed := true }
def MaskMakesUptoSaid : Prop := maskMakesUptoRow.holds Try.pinned (OpenSpec.upto maskMakesSpec)

/-- 'lightsievelaw02.MaskBuilds', WHERE WHAT IT READS IS OF BULK AT MOST 1048576: true; the input reads as it did. -/
def maskBuildsUptoRow : OpenClaim := { program := "ytkkmlcengneomaa", sum := "3d92006dd55810bdf2ff7cc5ab7c5e3c9a84a37be30f8e5ec98ee75bb06367f9", func := "lightsieve/lightsievelaw02.MaskBuilds", spec := "maskBuilds", unfollowed := true, recurses := true, apart := false, narrowed := true }
def MaskBuildsUptoSaid : Prop := maskBuildsUptoRow.holds Try.pinned (OpenSpec.upto maskBuildsSpec)

/-- 'lightsievelaw02.MaskTurns', WHERE WHAT IT READS IS OF BULK AT MOST 1048576: true; the input reads as it did. -/
def maskTurnsUptoRow : OpenClaim := { program := "ytkkmlcengneomaa", sum := "3d92006dd55810bdf2ff7cc5ab7c5e3c9a84a37be30f8e5ec98ee75bb06367f9", func := "lightsieve/lightsievelaw02.MaskTurns", spec := "maskTurns", unfollowed := true, recurses := true, apart := false, narrowed := true }
def MaskTurnsUptoSaid : Prop := maskTurnsUptoRow.holds Try.pinned (OpenSpec.upto maskTurnsSpec)

/-- 'lightsievelaw02.MaskTexts', WHERE WHAT IT READS IS OF BULK AT MOST 1048576: true; the input reads as it did. -/
def maskTextsUptoRow : OpenClaim := { program := "ytkkmlcengneomaa", sum := "3d92006dd55810bdf2ff7cc5ab7c5e3c9a84a37be30f8e5ec98ee75bb06367f9", func := "lightsieve/lightsievelaw02.MaskTexts", spec := "maskTexts", inPlace := ["internal/bytealg.IndexByteString", "internal/bytealg.IndexString", "internal/abi.NoEscape"], unfollowed := true, recurses := true, named := ["internal/bytealg.MaxLen"], apart := false, narrowed := true }
def MaskTextsUptoSaid : Prop := maskTextsUptoRow.holds Try.pinned (OpenSpec.upto maskTextsSpec)

end Rows
end Go.Proofs.Ytkkmlcengneomaa
