/-
  No cell of these rows narrows 'for every input' (looked for: loops, veiled, ifaces, maps, wideKeys, modest, calm, conditions, laid).
  DERIVED. THE GIVEN ROWS OF THIS SEAT. 6 by the template 'for every input the law returns true; each argument reads behind the call as it read before'; 0 by the template 'total and deterministic' (their statements: YtmijnbjlhnpokaaGreatTotals.lean).
  GIVEN WITH THE SEED: the statements are not yours to turn. If you find one false, say at which input.
  Laid BY PROGRAM, IN A SANDBOX (cutbox-rows.mjs): the forced cells as the released guide's own fill.sh prints them over the translation 2d5fc05d34c0ca4b… (all of the seat's roots in one cut). By AI agents, Wed Nov 11 2026. No macro, syntax, notation, axiom, sorry.
-/
import Derived.Test.YtmijnbjlhnpokaaGreatChecked
import GoSem.Claim
import GoSem.ClaimJoined
import GoSem.ClaimMapViews
import Derived.JoinedTies
import Derived.KernelRfl
namespace Go.Proofs.YtmijnbjlhnpokaaGreat
/- THE CELL 'sum', in the pinned program and in every row, IS THE sha256 OF THE DUMP (.gsa) THAT YtmijnbjlhnpokaaGreatProg.lean LOADS. Nothing in Lean hashes anything: it is a label: what it is worth is what the hold of that sum in a sandbox is worth. -/
noncomputable def Tryz.pinned : Pinned := { name := "ytmijnbjlhnpokaagreat", sum := "2d5fc05d34c0ca4b5ea622bec98e0cb6d202417541c2cfad010fcefc59d1b868", checked := Tryz.checked }
namespace Rows
def none {H : Type} : Left H := { results := [], args := [] }

/-- 'lightsievetop.TopFaultyStream': WHATEVER THE INPUT: true; the input reads as it did. -/
def topFaultyStreamSpec : ChangeSpec := { name := "topFaultyStream", fn := fun _ => fun
  | [d1, d2, d3] => { results := [.lit (.bool true)], args := [d1, d2, d3] }
  | _ => none }
def topFaultyStreamRow : OpenClaim := { program := "ytmijnbjlhnpokaagreat", sum := "2d5fc05d34c0ca4b5ea622bec98e0cb6d202417541c2cfad010fcefc59d1b868", func := "lightsieve/lightsievetop.TopFaultyStream", spec := "topFaultyStream", inPlace := ["math/bits.Sub64", "internal/abi.NoEscape"], unfollowed := true, recurses := true, apart := false }
def TopFaultyStreamSaid : Prop := topFaultyStreamRow.holds Tryz.pinned (OpenSpec.ofChange topFaultyStreamSpec)

/-- ITS FALSE NEIGHBOUR: 'it returns false'. Refute it at one input. -/
def topFaultyStreamWrong : ChangeSpec := { name := "topFaultyStream", fn := fun _ => fun
  | [d1, d2, d3] => { results := [.lit (.bool false)], args := [d1, d2, d3] }
  | _ => none }
def TopFaultyStreamWrongFalsely : Prop := topFaultyStreamRow.holds Tryz.pinned (OpenSpec.ofChange topFaultyStreamWrong)

/-- 'lightsievetop.TopDarkPixel': WHATEVER THE INPUT: true; the input reads as it did. -/
def topDarkPixelSpec : ChangeSpec := { name := "topDarkPixel", fn := fun _ => fun
  | [d1, d2, d3] => { results := [.lit (.bool true)], args := [d1, d2, d3] }
  | _ => none }
def topDarkPixelRow : OpenClaim := { program := "ytmijnbjlhnpokaagreat", sum := "2d5fc05d34c0ca4b5ea622bec98e0cb6d202417541c2cfad010fcefc59d1b868", func := "lightsieve/lightsievetop.TopDarkPixel", spec := "topDarkPixel", inPlace := ["math/bits.Sub64", "internal/abi.NoEscape"], unfollowed := true, recurses := true, apart := false }
def TopDarkPixelSaid : Prop := topDarkPixelRow.holds Tryz.pinned (OpenSpec.ofChange topDarkPixelSpec)

/-- ITS FALSE NEIGHBOUR: 'it returns false'. Refute it at one input. -/
def topDarkPixelWrong : ChangeSpec := { name := "topDarkPixel", fn := fun _ => fun
  | [d1, d2, d3] => { results := [.lit (.bool false)], args := [d1, d2, d3] }
  | _ => none }
def TopDarkPixelWrongFalsely : Prop := topDarkPixelRow.holds Tryz.pinned (OpenSpec.ofChange topDarkPixelWrong)

/-- 'lightsievelaw04.SparseRests': WHATEVER THE INPUT: true; the input reads as it did. -/
def sparseRestsSpec : ChangeSpec := { name := "sparseRests", fn := fun _ => fun
  | [d1, d2, d3] => { results := [.lit (.bool true)], args := [d1, d2, d3] }
  | _ => none }
def sparseRestsRow : OpenClaim := { program := "ytmijnbjlhnpokaagreat", sum := "2d5fc05d34c0ca4b5ea622bec98e0cb6d202417541c2cfad010fcefc59d1b868", func := "lightsieve/lightsievelaw04.SparseRests", spec := "sparseRests", inPlace := ["math/bits.Sub64"], unfollowed := true, recurses := true, apart := false }
def SparseRestsSaid : Prop := sparseRestsRow.holds Tryz.pinned (OpenSpec.ofChange sparseRestsSpec)

/-- ITS FALSE NEIGHBOUR: 'it returns false'. Refute it at one input. -/
def sparseRestsWrong : ChangeSpec := { name := "sparseRests", fn := fun _ => fun
  | [d1, d2, d3] => { results := [.lit (.bool false)], args := [d1, d2, d3] }
  | _ => none }
def SparseRestsWrongFalsely : Prop := sparseRestsRow.holds Tryz.pinned (OpenSpec.ofChange sparseRestsWrong)

/-- 'lightsievelaw04.SparseProjects': WHATEVER THE INPUT: true; the input reads as it did. -/
def sparseProjectsSpec : ChangeSpec := { name := "sparseProjects", fn := fun _ => fun
  | [d1, d2, d3, d4] => { results := [.lit (.bool true)], args := [d1, d2, d3, d4] }
  | _ => none }
def sparseProjectsRow : OpenClaim := { program := "ytmijnbjlhnpokaagreat", sum := "2d5fc05d34c0ca4b5ea622bec98e0cb6d202417541c2cfad010fcefc59d1b868", func := "lightsieve/lightsievelaw04.SparseProjects", spec := "sparseProjects", inPlace := ["math/bits.Sub64"], unfollowed := true, recurses := true, apart := false }
def SparseProjectsSaid : Prop := sparseProjectsRow.holds Tryz.pinned (OpenSpec.ofChange sparseProjectsSpec)

/-- ITS FALSE NEIGHBOUR: 'it returns false'. Refute it at one input. -/
def sparseProjectsWrong : ChangeSpec := { name := "sparseProjects", fn := fun _ => fun
  | [d1, d2, d3, d4] => { results := [.lit (.bool false)], args := [d1, d2, d3, d4] }
  | _ => none }
def SparseProjectsWrongFalsely : Prop := sparseProjectsRow.holds Tryz.pinned (OpenSpec.ofChange sparseProjectsWrong)

/-- 'lightsievelaw04.SparsePursuits': WHATEVER THE INPUT: true; the input reads as it did. -/
def sparsePursuitsSpec : ChangeSpec := { name := "sparsePursuits", fn := fun _ => fun
  | [d1, d2] => { results := [.lit (.bool true)], args := [d1, d2] }
  | _ => none }
def sparsePursuitsRow : OpenClaim := { program := "ytmijnbjlhnpokaagreat", sum := "2d5fc05d34c0ca4b5ea622bec98e0cb6d202417541c2cfad010fcefc59d1b868", func := "lightsieve/lightsievelaw04.SparsePursuits", spec := "sparsePursuits", inPlace := ["math/bits.Sub64"], unfollowed := true, recurses := true, apart := false }
def SparsePursuitsSaid : Prop := sparsePursuitsRow.holds Tryz.pinned (OpenSpec.ofChange sparsePursuitsSpec)

/-- ITS FALSE NEIGHBOUR: 'it returns false'. Refute it at one input. -/
def sparsePursuitsWrong : ChangeSpec := { name := "sparsePursuits", fn := fun _ => fun
  | [d1, d2] => { results := [.lit (.bool false)], args := [d1, d2] }
  | _ => none }
def SparsePursuitsWrongFalsely : Prop := sparsePursuitsRow.holds Tryz.pinned (OpenSpec.ofChange sparsePursuitsWrong)

/-- 'lightsievelaw04.SparseFound': WHATEVER THE INPUT: true; the input reads as it did. -/
def sparseFoundSpec : ChangeSpec := { name := "sparseFound", fn := fun _ => fun
  | [d1, d2] => { results := [.lit (.bool true)], args := [d1, d2] }
  | _ => none }
def sparseFoundRow : OpenClaim := { program := "ytmijnbjlhnpokaagreat", sum := "2d5fc05d34c0ca4b5ea622bec98e0cb6d202417541c2cfad010fcefc59d1b868", func := "lightsieve/lightsievelaw04.SparseFound", spec := "sparseFound", inPlace := ["math/bits.Sub64"], unfollowed := true, recurses := true, apart := false }
def SparseFoundSaid : Prop := sparseFoundRow.holds Tryz.pinned (OpenSpec.ofChange sparseFoundSpec)

/-- ITS FALSE NEIGHBOUR: 'it returns false'. Refute it at one input. -/
def sparseFoundWrong : ChangeSpec := { name := "sparseFound", fn := fun _ => fun
  | [d1, d2] => { results := [.lit (.bool false)], args := [d1, d2] }
  | _ => none }
def SparseFoundWrongFalsely : Prop := sparseFoundRow.holds Tryz.pinned (OpenSpec.ofChange sparseFoundWrong)

/- THE SECOND FORM. 'bulk': how many values and letters a reading holds, each counted each time it is reached (what is shared counts as often as it is met; a slice's spare places count too). A statement '..UptoSaid' is the law's where the arguments, and the package variables that the reading takes, are together of bulk at most 1048576: NARROWER than '..Said'. Prove '..Said' where nothing that the law and all that it calls make is longer than what came in: it says more and counts as full. Else prove '..UptoSaid'. A law counts once. -/
mutual
def uptoBulk {H : Type} : DataW H → Nat
  | .lit (.string bytes) => bytes.length + 1
  | .lit _ => 1
  | .nil => 1
  | .ptr d => uptoBulk d + 1
  | .slice elems spare => uptoBulkAll elems + uptoBulkAll spare + 1
  | .agg parts => uptoBulkAll parts + 1
  | .iface _ d => uptoBulk d + 1
  | .map entries => uptoBulkEntries entries + 1
  | .held _ => 1
def uptoBulkAll {H : Type} : List (DataW H) → Nat
  | [] => 0
  | d :: r => uptoBulk d + uptoBulkAll r
def uptoBulkEntries {H : Type} : List (Lit × DataW H) → Nat
  | [] => 0
  | x :: r => uptoBulkEntry x + uptoBulkEntries r
def uptoBulkEntry {H : Type} : Lit × DataW H → Nat
  | (.string bytes, d) => bytes.length + uptoBulk d + 1
  | (_, d) => uptoBulk d + 1
 end
def uptoSmall : (H : Type) → List (DataW H) → Bool := fun _ ds => decide (uptoBulkAll ds ≤ 1048576)
def OpenSpec.upto (s : _root_.Go.ChangeSpec) : _root_.Go.OpenSpec := { _root_.Go.OpenSpec.ofChange s with cond := some uptoSmall }

/-- 'lightsievetop.TopFaultyStream', WHERE WHAT IT READS IS OF BULK AT MOST 1048576: true; the input reads as it did. -/
def topFaultyStreamUptoRow : OpenClaim := { program := "ytmijnbjlhnpokaagreat", sum := "2d5fc05d34c0ca4b5ea622bec98e0cb6d202417541c2cfad010fcefc59d1b868", func := "lightsieve/lightsievetop.TopFaultyStream", spec := "topFaultyStream", inPlace := ["math/bits.Sub64", "internal/abi.NoEscape"], unfollowed := true, recurses := true, apart := false, narrowed := true }
def TopFaultyStreamUptoSaid : Prop := topFaultyStreamUptoRow.holds Tryz.pinned (OpenSpec.upto topFaultyStreamSpec)

/-- 'lightsievetop.TopDarkPixel', WHERE WHAT IT READS IS OF BULK AT MOST 1048576: true; the input reads as it did. -/
def topDarkPixelUptoRow : OpenClaim := { program := "ytmijnbjlhnpokaagreat", sum := "2d5fc05d34c0ca4b5ea622bec98e0cb6d202417541c2cfad010fcefc59d1b868", func := "lightsieve/lightsievetop.TopDarkPixel", spec := "topDarkPixel", inPlace := ["math/bits.Sub64", "internal/abi.NoEscape"], unfollowed := true, recurses := true, apart := false, narrowed := true }
def TopDarkPixelUptoSaid : Prop := topDarkPixelUptoRow.holds Tryz.pinned (OpenSpec.upto topDarkPixelSpec)

/-- 'lightsievelaw04.SparseRests', WHERE WHAT IT READS IS OF BULK AT MOST 1048576: true; the input reads as it did. -/
def sparseRestsUptoRow : OpenClaim := { program := "ytmijnbjlhnpokaagreat", sum := "2d5fc05d34c0ca4b5ea622bec98e0cb6d202417541c2cfad010fcefc59d1b868", func := "lightsieve/lightsievelaw04.SparseRests", spec := "sparseRests", inPlace := ["math/bits.Sub64"], unfollowed := true, recurses := true, apart := false, narrowed := true }
def SparseRestsUptoSaid : Prop := sparseRestsUptoRow.holds Tryz.pinned (OpenSpec.upto sparseRestsSpec)

/-- 'lightsievelaw04.SparseProjects', WHERE WHAT IT READS IS OF BULK AT MOST 1048576: true; the input reads as it did. -/
def sparseProjectsUptoRow : OpenClaim := { program := "ytmijnbjlhnpokaagreat", sum := "2d5fc05d34c0ca4b5ea622bec98e0cb6d202417541c2cfad010fcefc59d1b868", func := "lightsieve/lightsievelaw04.SparseProjects", spec := "sparseProjects", inPlace := ["math/bits.Sub64"], unfollowed := true, recurses := true, apart := false, narrowed := true }
def SparseProjectsUptoSaid : Prop := sparseProjectsUptoRow.holds Tryz.pinned (OpenSpec.upto sparseProjectsSpec)

/-- 'lightsievelaw04.SparsePursuits', WHERE WHAT IT READS IS OF BULK AT MOST 1048576: true; the input reads as it did. -/
def sparsePursuitsUptoRow : OpenClaim := { program := "ytmijnbjlhnpokaagreat", sum := "2d5fc05d34c0ca4b5ea622bec98e0cb6d202417541c2cfad010fcefc59d1b868", func := "lightsieve/lightsievelaw04.SparsePursuits", spec := "sparsePursuits", inPlace := ["math/bits.Sub64"], unfollowed := true, recurses := true, apart := false, narrowed := true }
def SparsePursuitsUptoSaid : Prop := sparsePursuitsUptoRow.holds Tryz.pinned (OpenSpec.upto sparsePursuitsSpec)

/-- 'lightsievelaw04.SparseFound', WHERE WHAT IT READS IS OF BULK AT MOST 1048576: true; the input reads as it did. -/
def sparseFoundUptoRow : OpenClaim := { program := "ytmijnbjlhnpokaagreat", sum := "2d5fc05d34c0ca4b5ea622bec98e0cb6d202417541c2cfad010fcefc59d1b868", func := "lightsieve/lightsievelaw04.SparseFound", spec := "sparseFound", inPlace := ["math/bits.Sub64"], unfollowed := true, recurses := true, apart := false, narrowed := true }
def SparseFoundUptoSaid : Prop := sparseFoundUptoRow.holds Tryz.pinned (OpenSpec.upto sparseFoundSpec)

end Rows
end Go.Proofs.YtmijnbjlhnpokaaGreat
