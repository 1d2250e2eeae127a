/-
  No cell of these rows narrows 'for every input' (looked for: loops, veiled, ifaces, maps, wideKeys, modest, calm, conditions, laid).
  DERIVED. THE GIVEN ROWS OF THIS SEAT. 10 by the template 'for every input the law returns true; each argument reads behind the call as it read before'; 0 by the template 'total and deterministic' (their statements: YtahccnljckgjmaaTotals.lean).
  GIVEN WITH THE SEED: the statements are not yours to turn. If you find one false, say at which input.
  Laid BY PROGRAM, IN A SANDBOX (cutbox-rows.mjs): the forced cells as the released guide's own fill.sh prints them over the translation 11fe26bdff4a881c… (all of the seat's roots in one cut). By AI agents, Wed Nov 11 2026. No macro, syntax, notation, axiom, sorry.
-/
import Derived.Test.YtahccnljckgjmaaChecked
import GoSem.Claim
import GoSem.ClaimJoined
import GoSem.ClaimMapViews
import Derived.JoinedTies
import Derived.KernelRfl
namespace Go.Proofs.Ytahccnljckgjmaa
/- THE CELL 'sum', in the pinned program and in every row, IS THE sha256 OF THE DUMP (.gsa) THAT YtahccnljckgjmaaProg.lean LOADS. Nothing in Lean hashes anything: it is a label: what it is worth is what the hold of that sum in a sandbox is worth. -/
noncomputable def Try.pinned : Pinned := { name := "ytahccnljckgjmaa", sum := "11fe26bdff4a881ce684f06d7d08af8e4236c5c9381248a2243c51083e33c2d3", checked := Try.checked }
namespace Rows
def none {H : Type} : Left H := { results := [], args := [] }

/-- 'lightsievelaw01.PicEnergy': WHATEVER THE INPUT: true; the input reads as it did. -/
def picEnergySpec : ChangeSpec := { name := "picEnergy", fn := fun _ => fun
  | [d] => { results := [.lit (.bool true)], args := [d] }
  | _ => none }
def picEnergyRow : OpenClaim := { program := "ytahccnljckgjmaa", sum := "11fe26bdff4a881ce684f06d7d08af8e4236c5c9381248a2243c51083e33c2d3", func := "lightsieve/lightsievelaw01.PicEnergy", spec := "picEnergy", unfollowed := true, recurses := true, apart := false }
def PicEnergySaid : Prop := picEnergyRow.holds Try.pinned (OpenSpec.ofChange picEnergySpec)

/-- ITS FALSE NEIGHBOUR: 'it returns false'. Refute it at one input. -/
def picEnergyWrong : ChangeSpec := { name := "picEnergy", fn := fun _ => fun
  | [d] => { results := [.lit (.bool false)], args := [d] }
  | _ => none }
def PicEnergyWrongFalsely : Prop := picEnergyRow.holds Try.pinned (OpenSpec.ofChange picEnergyWrong)

/-- 'lightsievelaw01.PicValid': WHATEVER THE INPUT: true; the input reads as it did. -/
def picValidSpec : ChangeSpec := { name := "picValid", fn := fun _ => fun
  | [d1, d2, d3] => { results := [.lit (.bool true)], args := [d1, d2, d3] }
  | _ => none }
def picValidRow : OpenClaim := { program := "ytahccnljckgjmaa", sum := "11fe26bdff4a881ce684f06d7d08af8e4236c5c9381248a2243c51083e33c2d3", func := "lightsieve/lightsievelaw01.PicValid", spec := "picValid", unfollowed := true, recurses := true, apart := false }
def PicValidSaid : Prop := picValidRow.holds Try.pinned (OpenSpec.ofChange picValidSpec)

/-- ITS FALSE NEIGHBOUR: 'it returns false'. Refute it at one input. -/
def picValidWrong : ChangeSpec := { name := "picValid", fn := fun _ => fun
  | [d1, d2, d3] => { results := [.lit (.bool false)], args := [d1, d2, d3] }
  | _ => none }
def PicValidWrongFalsely : Prop := picValidRow.holds Try.pinned (OpenSpec.ofChange picValidWrong)

/-- 'lightsievelaw01.PicWalsh': WHATEVER THE INPUT: true; the input reads as it did. -/
def picWalshSpec : ChangeSpec := { name := "picWalsh", fn := fun _ => fun
  | [d1, d2] => { results := [.lit (.bool true)], args := [d1, d2] }
  | _ => none }
def picWalshRow : OpenClaim := { program := "ytahccnljckgjmaa", sum := "11fe26bdff4a881ce684f06d7d08af8e4236c5c9381248a2243c51083e33c2d3", func := "lightsieve/lightsievelaw01.PicWalsh", spec := "picWalsh", unfollowed := true, recurses := true, apart := false }
def PicWalshSaid : Prop := picWalshRow.holds Try.pinned (OpenSpec.ofChange picWalshSpec)

/-- ITS FALSE NEIGHBOUR: 'it returns false'. Refute it at one input. -/
def picWalshWrong : ChangeSpec := { name := "picWalsh", fn := fun _ => fun
  | [d1, d2] => { results := [.lit (.bool false)], args := [d1, d2] }
  | _ => none }
def PicWalshWrongFalsely : Prop := picWalshRow.holds Try.pinned (OpenSpec.ofChange picWalshWrong)

/-- 'lightsievelaw01.PicLifts': WHATEVER THE INPUT: true; the input reads as it did. -/
def picLiftsSpec : ChangeSpec := { name := "picLifts", fn := fun _ => fun
  | [d1, d2] => { results := [.lit (.bool true)], args := [d1, d2] }
  | _ => none }
def picLiftsRow : OpenClaim := { program := "ytahccnljckgjmaa", sum := "11fe26bdff4a881ce684f06d7d08af8e4236c5c9381248a2243c51083e33c2d3", func := "lightsieve/lightsievelaw01.PicLifts", spec := "picLifts", unfollowed := true, recurses := true, apart := false }
def PicLiftsSaid : Prop := picLiftsRow.holds Try.pinned (OpenSpec.ofChange picLiftsSpec)

/-- ITS FALSE NEIGHBOUR: 'it returns false'. Refute it at one input. -/
def picLiftsWrong : ChangeSpec := { name := "picLifts", fn := fun _ => fun
  | [d1, d2] => { results := [.lit (.bool false)], args := [d1, d2] }
  | _ => none }
def PicLiftsWrongFalsely : Prop := picLiftsRow.holds Try.pinned (OpenSpec.ofChange picLiftsWrong)

/-- 'lightsievelaw01.PicBack': WHATEVER THE INPUT: true; the input reads as it did. -/
def picBackSpec : ChangeSpec := { name := "picBack", fn := fun _ => fun
  | [d1, d2] => { results := [.lit (.bool true)], args := [d1, d2] }
  | _ => none }
def picBackRow : OpenClaim := { program := "ytahccnljckgjmaa", sum := "11fe26bdff4a881ce684f06d7d08af8e4236c5c9381248a2243c51083e33c2d3", func := "lightsieve/lightsievelaw01.PicBack", spec := "picBack", unfollowed := true, recurses := true, apart := false }
def PicBackSaid : Prop := picBackRow.holds Try.pinned (OpenSpec.ofChange picBackSpec)

/-- ITS FALSE NEIGHBOUR: 'it returns false'. Refute it at one input. -/
def picBackWrong : ChangeSpec := { name := "picBack", fn := fun _ => fun
  | [d1, d2] => { results := [.lit (.bool false)], args := [d1, d2] }
  | _ => none }
def PicBackWrongFalsely : Prop := picBackRow.holds Try.pinned (OpenSpec.ofChange picBackWrong)

/-- 'lightsievelaw01.PicSums': WHATEVER THE INPUT: true; the input reads as it did. -/
def picSumsSpec : ChangeSpec := { name := "picSums", fn := fun _ => fun
  | [d1, d2] => { results := [.lit (.bool true)], args := [d1, d2] }
  | _ => none }
def picSumsRow : OpenClaim := { program := "ytahccnljckgjmaa", sum := "11fe26bdff4a881ce684f06d7d08af8e4236c5c9381248a2243c51083e33c2d3", func := "lightsieve/lightsievelaw01.PicSums", spec := "picSums", unfollowed := true, recurses := true, apart := false }
def PicSumsSaid : Prop := picSumsRow.holds Try.pinned (OpenSpec.ofChange picSumsSpec)

/-- ITS FALSE NEIGHBOUR: 'it returns false'. Refute it at one input. -/
def picSumsWrong : ChangeSpec := { name := "picSums", fn := fun _ => fun
  | [d1, d2] => { results := [.lit (.bool false)], args := [d1, d2] }
  | _ => none }
def PicSumsWrongFalsely : Prop := picSumsRow.holds Try.pinned (OpenSpec.ofChange picSumsWrong)

/-- 'lightsievelaw01.PicMotions': WHATEVER THE INPUT: true; the input reads as it did. -/
def picMotionsSpec : ChangeSpec := { name := "picMotions", fn := fun _ => fun
  | [d1, d2] => { results := [.lit (.bool true)], args := [d1, d2] }
  | _ => none }
def picMotionsRow : OpenClaim := { program := "ytahccnljckgjmaa", sum := "11fe26bdff4a881ce684f06d7d08af8e4236c5c9381248a2243c51083e33c2d3", func := "lightsieve/lightsievelaw01.PicMotions", spec := "picMotions", unfollowed := true, recurses := true, apart := false }
def PicMotionsSaid : Prop := picMotionsRow.holds Try.pinned (OpenSpec.ofChange picMotionsSpec)

/-- ITS FALSE NEIGHBOUR: 'it returns false'. Refute it at one input. -/
def picMotionsWrong : ChangeSpec := { name := "picMotions", fn := fun _ => fun
  | [d1, d2] => { results := [.lit (.bool false)], args := [d1, d2] }
  | _ => none }
def PicMotionsWrongFalsely : Prop := picMotionsRow.holds Try.pinned (OpenSpec.ofChange picMotionsWrong)

/-- 'lightsievelaw01.PicKeeps': WHATEVER THE INPUT: true; the input reads as it did. -/
def picKeepsSpec : ChangeSpec := { name := "picKeeps", fn := fun _ => fun
  | [d1, d2] => { results := [.lit (.bool true)], args := [d1, d2] }
  | _ => none }
def picKeepsRow : OpenClaim := { program := "ytahccnljckgjmaa", sum := "11fe26bdff4a881ce684f06d7d08af8e4236c5c9381248a2243c51083e33c2d3", func := "lightsieve/lightsievelaw01.PicKeeps", spec := "picKeeps", unfollowed := true, recurses := true, apart := false }
def PicKeepsSaid : Prop := picKeepsRow.holds Try.pinned (OpenSpec.ofChange picKeepsSpec)

/-- ITS FALSE NEIGHBOUR: 'it returns false'. Refute it at one input. -/
def picKeepsWrong : ChangeSpec := { name := "picKeeps", fn := fun _ => fun
  | [d1, d2] => { results := [.lit (.bool false)], args := [d1, d2] }
  | _ => none }
def PicKeepsWrongFalsely : Prop := picKeepsRow.holds Try.pinned (OpenSpec.ofChange picKeepsWrong)

/-- 'lightsievelaw01.PicLargest': WHATEVER THE INPUT: true; the input reads as it did. -/
def picLargestSpec : ChangeSpec := { name := "picLargest", fn := fun _ => fun
  | [d1, d2] => { results := [.lit (.bool true)], args := [d1, d2] }
  | _ => none }
def picLargestRow : OpenClaim := { program := "ytahccnljckgjmaa", sum := "11fe26bdff4a881ce684f06d7d08af8e4236c5c9381248a2243c51083e33c2d3", func := "lightsieve/lightsievelaw01.PicLargest", spec := "picLargest", unfollowed := true, recurses := true, apart := false }
def PicLargestSaid : Prop := picLargestRow.holds Try.pinned (OpenSpec.ofChange picLargestSpec)

/-- ITS FALSE NEIGHBOUR: 'it returns false'. Refute it at one input. -/
def picLargestWrong : ChangeSpec := { name := "picLargest", fn := fun _ => fun
  | [d1, d2] => { results := [.lit (.bool false)], args := [d1, d2] }
  | _ => none }
def PicLargestWrongFalsely : Prop := picLargestRow.holds Try.pinned (OpenSpec.ofChange picLargestWrong)

/-- 'lightsievelaw01.PicSizes': WHATEVER THE INPUT: true; the input reads as it did. -/
def picSizesSpec : ChangeSpec := { name := "picSizes", fn := fun _ => fun
  | [d1, d2, d3] => { results := [.lit (.bool true)], args := [d1, d2, d3] }
  | _ => none }
def picSizesRow : OpenClaim := { program := "ytahccnljckgjmaa", sum := "11fe26bdff4a881ce684f06d7d08af8e4236c5c9381248a2243c51083e33c2d3", func := "lightsieve/lightsievelaw01.PicSizes", spec := "picSizes", unfollowed := true, recurses := true, apart := false }
def PicSizesSaid : Prop := picSizesRow.holds Try.pinned (OpenSpec.ofChange picSizesSpec)

/-- ITS FALSE NEIGHBOUR: 'it returns false'. Refute it at one input. -/
def picSizesWrong : ChangeSpec := { name := "picSizes", fn := fun _ => fun
  | [d1, d2, d3] => { results := [.lit (.bool false)], args := [d1, d2, d3] }
  | _ => none }
def PicSizesWrongFalsely : Prop := picSizesRow.holds Try.pinned (OpenSpec.ofChange picSizesWrong)

/- THE SECOND FORM. 'bulk': how many values and letters a reading holds, each counted each time it is reached (what is shared counts as often as it is met; a slice's spare places count too). A statement '..UptoSaid' is the law's where the arguments, and the package variables that the reading takes, are together of bulk at most 1048576: NARROWER than '..Said'. Prove '..Said' where nothing that the law and all that it calls make is longer than what came in: it says more and counts as full. Else prove '..UptoSaid'. A law counts once. -/
mutual
def uptoBulk {H : Type} : DataW H → Nat
  | .lit (.string bytes) => bytes.length + 1
  | .lit _ => 1
  | .nil => 1
  | .ptr d => uptoBulk d + 1
  | .slice elems spare => uptoBulkAll elems + uptoBulkAll spare + 1
  | .agg parts => uptoBulkAll parts + 1
  | .iface _ d => uptoBulk d + 1
  | .map entries => uptoBulkEntries entries + 1
  | .held _ => 1
def uptoBulkAll {H : Type} : List (DataW H) → Nat
  | [] => 0
  | d :: r => uptoBulk d + uptoBulkAll r
def uptoBulkEntries {H : Type} : List (Lit × DataW H) → Nat
  | [] => 0
  | x :: r => uptoBulkEntry x + uptoBulkEntries r
def uptoBulkEntry {H : Type} : Lit × DataW H → Nat
  | (.string bytes, d) => bytes.length + uptoBulk d + 1
  | (_, d) => uptoBulk d + 1
 end
def uptoSmall : (H : Type) → List (DataW H) → Bool := fun _ ds => decide (uptoBulkAll ds ≤ 1048576)
def OpenSpec.upto (s : _root_.Go.ChangeSpec) : _root_.Go.OpenSpec := { _root_.Go.OpenSpec.ofChange s with cond := some uptoSmall }

/-- 'lightsievelaw01.PicEnergy', WHERE WHAT IT READS IS OF BULK AT MOST 1048576: true; the input reads as it did. -/
def picEnergyUptoRow : OpenClaim := { program := "ytahccnljckgjmaa", sum := "11fe26bdff4a881ce684f06d7d08af8e4236c5c9381248a2243c51083e33c2d3", func := "lightsieve/lightsievelaw01.PicEnergy", spec := "picEnergy", unfollowed := true, recurses := true, apart := false, narrowed := true }
def PicEnergyUptoSaid : Prop := picEnergyUptoRow.holds Try.pinned (OpenSpec.upto picEnergySpec)

/-- 'lightsievelaw01.PicValid', WHERE WHAT IT READS IS OF BULK AT MOST 1048576: true; the input reads as it did. -/
def picValidUptoRow : OpenClaim := { program := "ytahccnljckgjmaa", sum := "11fe26bdff4a881ce684f06d7d08af8e4236c5c9381248a2243c51083e33c2d3", func := "lightsieve/lightsievelaw01.PicValid", spec := "picValid", unfollowed := true, recurses := true, apart := false, narrowed := true }
def PicValidUptoSaid : Prop := picValidUptoRow.holds Try.pinned (OpenSpec.upto picValidSpec)

/-- 'lightsievelaw01.PicWalsh', WHERE WHAT IT READS IS OF BULK AT MOST 1048576: true; the input reads as it did. -/
def picWalshUptoRow : OpenClaim := { program := "ytahccnljckgjmaa", sum := "11fe26bdff4a881ce684f06d7d08af8e4236c5c9381248a2243c51083e33c2d3", func := "lightsieve/lightsievelaw01.PicWalsh", spec := "picWalsh", unfollowed := true, recurses := true, apart := false, narrowed := true }
def PicWalshUptoSaid : Prop := picWalshUptoRow.holds Try.pinned (OpenSpec.upto picWalshSpec)

/-- 'lightsievelaw01.PicLifts', WHERE WHAT IT READS IS OF BULK AT MOST 1048576: true; the input reads as it did. -/
def picLiftsUptoRow : OpenClaim := { program := "ytahccnljckgjmaa", sum := "11fe26bdff4a881ce684f06d7d08af8e4236c5c9381248a2243c51083e33c2d3", func := "lightsieve/lightsievelaw01.PicLifts", spec := "picLifts", unfollowed := true, recurses := true, apart := false, narrowed := true }
def PicLiftsUptoSaid : Prop := picLiftsUptoRow.holds Try.pinned (OpenSpec.upto picLiftsSpec)

/-- 'lightsievelaw01.PicBack', WHERE WHAT IT READS IS OF BULK AT MOST 1048576: true; the input reads as it did. -/
def picBackUptoRow : OpenClaim := { program := "ytahccnljckgjmaa", sum := "11fe26bdff4a881ce684f06d7d08af8e4236c5c9381248a2243c51083e33c2d3", func := "lightsieve/lightsievelaw01.PicBack", spec := "picBack", unfollowed := true, recurses := true, apart := false, narrowed := true }
def PicBackUptoSaid : Prop := picBackUptoRow.holds Try.pinned (OpenSpec.upto picBackSpec)

/-- 'lightsievelaw01.PicSums', WHERE WHAT IT READS IS OF BULK AT MOST 1048576: true; the input reads as it did. -/
def picSumsUptoRow : OpenClaim := { program := "ytahccnljckgjmaa", sum := "11fe26bdff4a881ce684f06d7d08af8e4236c5c9381248a2243c51083e33c2d3", func := "lightsieve/lightsievelaw01.PicSums", spec := "picSums", unfollowed := true, recurses := true, apart := false, narrowed := true }
def PicSumsUptoSaid : Prop := picSumsUptoRow.holds Try.pinned (OpenSpec.upto picSumsSpec)

/-- 'lightsievelaw01.PicMotions', WHERE WHAT IT READS IS OF BULK AT MOST 1048576: true; the input reads as it did. -/
def picMotionsUptoRow : OpenClaim := { program := "ytahccnljckgjmaa", sum := "11fe26bdff4a881ce684f06d7d08af8e4236c5c9381248a2243c51083e33c2d3", func := "lightsieve/lightsievelaw01.PicMotions", spec := "picMotions", unfollowed := true, recurses := true, apart := false, narrowed := true }
def PicMotionsUptoSaid : Prop := picMotionsUptoRow.holds Try.pinned (OpenSpec.upto picMotionsSpec)

/-- 'lightsievelaw01.PicKeeps', WHERE WHAT IT READS IS OF BULK AT MOST 1048576: true; the input reads as it did. -/
def picKeepsUptoRow : OpenClaim := { program := "ytahccnljckgjmaa", sum := "11fe26bdff4a881ce684f06d7d08af8e4236c5c9381248a2243c51083e33c2d3", func := "lightsieve/lightsievelaw01.PicKeeps", spec := "picKeeps", unfollowed := true, recurses := true, apart := false, narrowed := true }
def PicKeepsUptoSaid : Prop := picKeepsUptoRow.holds Try.pinned (OpenSpec.upto picKeepsSpec)

/-- 'lightsievelaw01.PicLargest', WHERE WHAT IT READS IS OF BULK AT MOST 1048576: true; the input reads as it did. -/
def picLargestUptoRow : OpenClaim := { program := "ytahccnljckgjmaa", sum := "11fe26bdff4a881ce684f06d7d08af8e4236c5c9381248a2243c51083e33c2d3", func := "lightsieve/lightsievelaw01.PicLargest", spec := "picLargest", unfollowed := true, recurses := true, apart := false, narrowed := true }
def PicLargestUptoSaid : Prop := picLargestUptoRow.holds Try.pinned (OpenSpec.upto picLargestSpec)

/-- 'lightsievelaw01.PicSizes', WHERE WHAT IT READS IS OF BULK AT MOST 1048576: true; the input reads as it did. -/
def picSizesUptoRow : OpenClaim := { program := "ytahccnljckgjmaa", sum := "11fe26bdff4a881ce684f06d7d08af8e4236c5c9381248a2243c51083e33c2d3", func := "lightsieve/lightsievelaw01.PicSizes", spec := "picSizes", unfollowed := true, recurses := true, apart := false, narrowed := true }
def PicSizesUptoSaid : Prop := picSizesUptoRow.holds Try.pinned (OpenSpec.upto picSizesSpec)

end Rows
end Go.Proofs.Ytahccnljckgjmaa
