/-
  No cell of these rows narrows 'for every input' (looked for: loops, veiled, ifaces, maps, wideKeys, modest, calm, conditions, laid).
  DERIVED. THE GIVEN ROWS OF THIS SEAT. 6 by the template 'for every input the law returns true; each argument reads behind the call as it read before'; 0 by the template 'total and deterministic' (their statements: YtempacilejhbgaaGreatTotals.lean).
  GIVEN WITH THE SEED: the statements are not yours to turn. If you find one false, say at which input.
  Laid BY PROGRAM, IN A SANDBOX (cutbox-rows.mjs): the forced cells as the released guide's own fill.sh prints them over the translation 6e091375c1ea85e3… (all of the seat's roots in one cut). By AI agents, Wed Nov 11 2026. No macro, syntax, notation, axiom, sorry.
-/
import Derived.Test.YtempacilejhbgaaGreatChecked
import GoSem.Claim
import GoSem.ClaimJoined
import GoSem.ClaimMapViews
import Derived.JoinedTies
import Derived.KernelRfl
namespace Go.Proofs.YtempacilejhbgaaGreat
/- THE CELL 'sum', in the pinned program and in every row, IS THE sha256 OF THE DUMP (.gsa) THAT YtempacilejhbgaaGreatProg.lean LOADS. Nothing in Lean hashes anything: it is a label: what it is worth is what the hold of that sum in a sandbox is worth. -/
noncomputable def Tryz.pinned : Pinned := { name := "ytempacilejhbgaagreat", sum := "6e091375c1ea85e3f96953a3a352edde3a56207c88ef87ed965c52e4c9872701", checked := Tryz.checked }
namespace Rows
def none {H : Type} : Left H := { results := [], args := [] }

/-- 'lightsievelaw06.CondSafe': WHATEVER THE INPUT: true; the input reads as it did. -/
def condSafeSpec : ChangeSpec := { name := "condSafe", fn := fun _ => fun
  | [d1, d2] => { results := [.lit (.bool true)], args := [d1, d2] }
  | _ => none }
def condSafeRow : OpenClaim := { program := "ytempacilejhbgaagreat", sum := "6e091375c1ea85e3f96953a3a352edde3a56207c88ef87ed965c52e4c9872701", func := "lightsieve/lightsievelaw06.CondSafe", spec := "condSafe", inPlace := ["math/bits.Sub64"], unfollowed := true, recurses := true, apart := false }
def CondSafeSaid : Prop := condSafeRow.holds Tryz.pinned (OpenSpec.ofChange condSafeSpec)

/-- ITS FALSE NEIGHBOUR: 'it returns false'. Refute it at one input. -/
def condSafeWrong : ChangeSpec := { name := "condSafe", fn := fun _ => fun
  | [d1, d2] => { results := [.lit (.bool false)], args := [d1, d2] }
  | _ => none }
def CondSafeWrongFalsely : Prop := condSafeRow.holds Tryz.pinned (OpenSpec.ofChange condSafeWrong)

/-- 'lightsievelaw06.CondShares': WHATEVER THE INPUT: true; the input reads as it did. -/
def condSharesSpec : ChangeSpec := { name := "condShares", fn := fun _ => fun
  | [d1, d2, d3] => { results := [.lit (.bool true)], args := [d1, d2, d3] }
  | _ => none }
def condSharesRow : OpenClaim := { program := "ytempacilejhbgaagreat", sum := "6e091375c1ea85e3f96953a3a352edde3a56207c88ef87ed965c52e4c9872701", func := "lightsieve/lightsievelaw06.CondShares", spec := "condShares", inPlace := ["math/bits.Sub64"], unfollowed := true, recurses := true, apart := false }
def CondSharesSaid : Prop := condSharesRow.holds Tryz.pinned (OpenSpec.ofChange condSharesSpec)

/-- ITS FALSE NEIGHBOUR: 'it returns false'. Refute it at one input. -/
def condSharesWrong : ChangeSpec := { name := "condShares", fn := fun _ => fun
  | [d1, d2, d3] => { results := [.lit (.bool false)], args := [d1, d2, d3] }
  | _ => none }
def CondSharesWrongFalsely : Prop := condSharesRow.holds Tryz.pinned (OpenSpec.ofChange condSharesWrong)

/-- 'lightsievelaw06.CondGreatest': WHATEVER THE INPUT: true; the input reads as it did. -/
def condGreatestSpec : ChangeSpec := { name := "condGreatest", fn := fun _ => fun
  | [d1, d2] => { results := [.lit (.bool true)], args := [d1, d2] }
  | _ => none }
def condGreatestRow : OpenClaim := { program := "ytempacilejhbgaagreat", sum := "6e091375c1ea85e3f96953a3a352edde3a56207c88ef87ed965c52e4c9872701", func := "lightsieve/lightsievelaw06.CondGreatest", spec := "condGreatest", inPlace := ["math/bits.Sub64"], unfollowed := true, recurses := true, apart := false }
def CondGreatestSaid : Prop := condGreatestRow.holds Tryz.pinned (OpenSpec.ofChange condGreatestSpec)

/-- ITS FALSE NEIGHBOUR: 'it returns false'. Refute it at one input. -/
def condGreatestWrong : ChangeSpec := { name := "condGreatest", fn := fun _ => fun
  | [d1, d2] => { results := [.lit (.bool false)], args := [d1, d2] }
  | _ => none }
def CondGreatestWrongFalsely : Prop := condGreatestRow.holds Tryz.pinned (OpenSpec.ofChange condGreatestWrong)

/-- 'lightsievelaw06.CondPictures': WHATEVER THE INPUT: true; the input reads as it did. -/
def condPicturesSpec : ChangeSpec := { name := "condPictures", fn := fun _ => fun
  | [d1, d2] => { results := [.lit (.bool true)], args := [d1, d2] }
  | _ => none }
def condPicturesRow : OpenClaim := { program := "ytempacilejhbgaagreat", sum := "6e091375c1ea85e3f96953a3a352edde3a56207c88ef87ed965c52e4c9872701", func := "lightsieve/lightsievelaw06.CondPictures", spec := "condPictures", inPlace := ["math/bits.Sub64"], unfollowed := true, recurses := true, apart := false }
def CondPicturesSaid : Prop := condPicturesRow.holds Tryz.pinned (OpenSpec.ofChange condPicturesSpec)

/-- ITS FALSE NEIGHBOUR: 'it returns false'. Refute it at one input. -/
def condPicturesWrong : ChangeSpec := { name := "condPictures", fn := fun _ => fun
  | [d1, d2] => { results := [.lit (.bool false)], args := [d1, d2] }
  | _ => none }
def CondPicturesWrongFalsely : Prop := condPicturesRow.holds Tryz.pinned (OpenSpec.ofChange condPicturesWrong)

/-- 'lightsievelaw06.CondRows': WHATEVER THE INPUT: true; the input reads as it did. -/
def condRowsSpec : ChangeSpec := { name := "condRows", fn := fun _ => fun
  | [d1, d2] => { results := [.lit (.bool true)], args := [d1, d2] }
  | _ => none }
def condRowsRow : OpenClaim := { program := "ytempacilejhbgaagreat", sum := "6e091375c1ea85e3f96953a3a352edde3a56207c88ef87ed965c52e4c9872701", func := "lightsieve/lightsievelaw06.CondRows", spec := "condRows", inPlace := ["math/bits.Sub64"], unfollowed := true, recurses := true, apart := false }
def CondRowsSaid : Prop := condRowsRow.holds Tryz.pinned (OpenSpec.ofChange condRowsSpec)

/-- ITS FALSE NEIGHBOUR: 'it returns false'. Refute it at one input. -/
def condRowsWrong : ChangeSpec := { name := "condRows", fn := fun _ => fun
  | [d1, d2] => { results := [.lit (.bool false)], args := [d1, d2] }
  | _ => none }
def CondRowsWrongFalsely : Prop := condRowsRow.holds Tryz.pinned (OpenSpec.ofChange condRowsWrong)

/-- 'lightsievelaw06.CondBad': WHATEVER THE INPUT: true; the input reads as it did. -/
def condBadSpec : ChangeSpec := { name := "condBad", fn := fun _ => fun
  | [d1, d2, d3] => { results := [.lit (.bool true)], args := [d1, d2, d3] }
  | _ => none }
def condBadRow : OpenClaim := { program := "ytempacilejhbgaagreat", sum := "6e091375c1ea85e3f96953a3a352edde3a56207c88ef87ed965c52e4c9872701", func := "lightsieve/lightsievelaw06.CondBad", spec := "condBad", inPlace := ["math/bits.Sub64"], unfollowed := true, recurses := true, apart := false }
def CondBadSaid : Prop := condBadRow.holds Tryz.pinned (OpenSpec.ofChange condBadSpec)

/-- ITS FALSE NEIGHBOUR: 'it returns false'. Refute it at one input. -/
def condBadWrong : ChangeSpec := { name := "condBad", fn := fun _ => fun
  | [d1, d2, d3] => { results := [.lit (.bool false)], args := [d1, d2, d3] }
  | _ => none }
def CondBadWrongFalsely : Prop := condBadRow.holds Tryz.pinned (OpenSpec.ofChange condBadWrong)

/- THE SECOND FORM. 'bulk': how many values and letters a reading holds, each counted each time it is reached (what is shared counts as often as it is met; a slice's spare places count too). A statement '..UptoSaid' is the law's where the arguments, and the package variables that the reading takes, are together of bulk at most 1048576: NARROWER than '..Said'. Prove '..Said' where nothing that the law and all that it calls make is longer than what came in: it says more and counts as full. Else prove '..UptoSaid'. A law counts once. -/
mutual
def uptoBulk {H : Type} : DataW H → Nat
  | .lit (.string bytes) => bytes.length + 1
  | .lit _ => 1
  | .nil => 1
  | .ptr d => uptoBulk d + 1
  | .slice elems spare => uptoBulkAll elems + uptoBulkAll spare + 1
  | .agg parts => uptoBulkAll parts + 1
  | .iface _ d => uptoBulk d + 1
  | .map entries => uptoBulkEntries entries + 1
  | .held _ => 1
def uptoBulkAll {H : Type} : List (DataW H) → Nat
  | [] => 0
  | d :: r => uptoBulk d + uptoBulkAll r
def uptoBulkEntries {H : Type} : List (Lit × DataW H) → Nat
  | [] => 0
  | x :: r => uptoBulkEntry x + uptoBulkEntries r
def uptoBulkEntry {H : Type} : Lit × DataW H → Nat
  | (.string bytes, d) => bytes.length + uptoBulk d + 1
  | (_, d) => uptoBulk d + 1
 end
def uptoSmall : (H : Type) → List (DataW H) → Bool := fun _ ds => decide (uptoBulkAll ds ≤ 1048576)
def OpenSpec.upto (s : _root_.Go.ChangeSpec) : _root_.Go.OpenSpec := { _root_.Go.OpenSpec.ofChange s with cond := some uptoSmall }

/-- 'lightsievelaw06.CondSafe', WHERE WHAT IT READS IS OF BULK AT MOST 1048576: true; the input reads as it did. -/
def condSafeUptoRow : OpenClaim := { program := "ytempacilejhbgaagreat", sum := "6e091375c1ea85e3f96953a3a352edde3a56207c88ef87ed965c52e4c9872701", func := "lightsieve/lightsievelaw06.CondSafe", spec := "condSafe", inPlace := ["math/bits.Sub64"], unfollowed := true, recurses := true, apart := false, narrowed := true }
def CondSafeUptoSaid : Prop := condSafeUptoRow.holds Tryz.pinned (OpenSpec.upto condSafeSpec)

/-- 'lightsievelaw06.CondShares', WHERE WHAT IT READS IS OF BULK AT MOST 1048576: true; the input reads as it did. -/
def condSharesUptoRow : OpenClaim := { program := "ytempacilejhbgaagreat", sum := "6e091375c1ea85e3f96953a3a352edde3a56207c88ef87ed965c52e4c9872701", func := "lightsieve/lightsievelaw06.CondShares", spec := "condShares", inPlace := ["math/bits.Sub64"], unfollowed := true, recurses := true, apart := false, narrowed := true }
def CondSharesUptoSaid : Prop := condSharesUptoRow.holds Tryz.pinned (OpenSpec.upto condSharesSpec)

/-- 'lightsievelaw06.CondGreatest', WHERE WHAT IT READS IS OF BULK AT MOST 1048576: true; the input reads as it did. -/
def condGreatestUptoRow : OpenClaim := { program := "ytempacilejhbgaagreat", sum := "6e091375c1ea85e3f96953a3a352edde3a56207c88ef87ed965c52e4c9872701", func := "lightsieve/lightsievelaw06.CondGreatest", spec := "condGreatest", inPlace := ["math/bits.Sub64"], unfollowed := true, recurses := true, apart := false, narrowed := true }
def CondGreatestUptoSaid : Prop := condGreatestUptoRow.holds Tryz.pinned (OpenSpec.upto condGreatestSpec)

/-- 'lightsievelaw06.CondPictures', WHERE WHAT IT READS IS OF BULK AT MOST 1048576: true; the input reads as it did. -/
def condPicturesUptoRow : OpenClaim := { program := "ytempacilejhbgaagreat", sum := "6e091375c1ea85e3f96953a3a352edde3a56207c88ef87ed965c52e4c9872701", func := "lightsieve/lightsievelaw06.CondPictures", spec := "condPictures", inPlace := ["math/bits.Sub64"], unfollowed := true, recurses := true, apart := false, narrowed := true }
def CondPicturesUptoSaid : Prop := condPicturesUptoRow.holds Tryz.pinned (OpenSpec.upto condPicturesSpec)

/-- 'lightsievelaw06.CondRows', WHERE WHAT IT READS IS OF BULK AT MOST 1048576: true; the input reads as it did. -/
def condRowsUptoRow : OpenClaim := { program := "ytempacilejhbgaagreat", sum := "6e091375c1ea85e3f96953a3a352edde3a56207c88ef87ed965c52e4c9872701", func := "lightsieve/lightsievelaw06.CondRows", spec := "condRows", inPlace := ["math/bits.Sub64"], unfollowed := true, recurses := true, apart := false, narrowed := true }
def CondRowsUptoSaid : Prop := condRowsUptoRow.holds Tryz.pinned (OpenSpec.upto condRowsSpec)

/-- 'lightsievelaw06.CondBad', WHERE WHAT IT READS IS OF BULK AT MOST 1048576: true; the input reads as it did. -/
def condBadUptoRow : OpenClaim := { program := "ytempacilejhbgaagreat", sum := "6e091375c1ea85e3f96953a3a352edde3a56207c88ef87ed965c52e4c9872701", func := "lightsieve/lightsievelaw06.CondBad", spec := "condBad", inPlace := ["math/bits.Sub64"], unfollowed := true, recurses := true, apart := false, narrowed := true }
def CondBadUptoSaid : Prop := condBadUptoRow.holds Tryz.pinned (OpenSpec.upto condBadSpec)

end Rows
end Go.Proofs.YtempacilejhbgaaGreat
