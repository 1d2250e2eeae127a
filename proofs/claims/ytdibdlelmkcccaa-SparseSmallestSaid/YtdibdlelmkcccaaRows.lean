/-
  No cell of these rows narrows 'for every input' (looked for: loops, veiled, ifaces, maps, wideKeys, modest, calm, conditions, laid).
  DERIVED. THE GIVEN ROWS OF THIS SEAT. 5 by the template 'for every input the law returns true; each argument reads behind the call as it read before'; 0 by the template 'total and deterministic' (their statements: YtdibdlelmkcccaaTotals.lean).
  GIVEN WITH THE SEED: the statements are not yours to turn. If you find one false, say at which input.
  Laid BY PROGRAM, IN A SANDBOX (cutbox-rows.mjs): the forced cells as the released guide's own fill.sh prints them over the translation 505093a63e35a215… (all of the seat's roots in one cut). By AI agents, Wed Nov 11 2026. No macro, syntax, notation, axiom, sorry.
-/
import Derived.Test.YtdibdlelmkcccaaChecked
import GoSem.Claim
import GoSem.ClaimJoined
import GoSem.ClaimMapViews
import Derived.JoinedTies
import Derived.KernelRfl
namespace Go.Proofs.Ytdibdlelmkcccaa
/- THE CELL 'sum', in the pinned program and in every row, IS THE sha256 OF THE DUMP (.gsa) THAT YtdibdlelmkcccaaProg.lean LOADS. Nothing in Lean hashes anything: it is a label: what it is worth is what the hold of that sum in a sandbox is worth. -/
noncomputable def Try.pinned : Pinned := { name := "ytdibdlelmkcccaa", sum := "505093a63e35a215bfefea3f036e94bd38fe3502d123d3b0a09e5ccbd90542bc", checked := Try.checked }
namespace Rows
def none {H : Type} : Left H := { results := [], args := [] }

/-- 'lightsievelaw04.SparseLeast': WHATEVER THE INPUT: true; the input reads as it did. -/
def sparseLeastSpec : ChangeSpec := { name := "sparseLeast", fn := fun _ => fun
  | [d1, d2] => { results := [.lit (.bool true)], args := [d1, d2] }
  | _ => none }
def sparseLeastRow : OpenClaim := { program := "ytdibdlelmkcccaa", sum := "505093a63e35a215bfefea3f036e94bd38fe3502d123d3b0a09e5ccbd90542bc", func := "lightsieve/lightsievelaw04.SparseLeast", spec := "sparseLeast", unfollowed := true, recurses := true, apart := false }
def SparseLeastSaid : Prop := sparseLeastRow.holds Try.pinned (OpenSpec.ofChange sparseLeastSpec)

/-- ITS FALSE NEIGHBOUR: 'it returns false'. Refute it at one input. -/
def sparseLeastWrong : ChangeSpec := { name := "sparseLeast", fn := fun _ => fun
  | [d1, d2] => { results := [.lit (.bool false)], args := [d1, d2] }
  | _ => none }
def SparseLeastWrongFalsely : Prop := sparseLeastRow.holds Try.pinned (OpenSpec.ofChange sparseLeastWrong)

/-- 'lightsievelaw04.SparseWhole': WHATEVER THE INPUT: true; the input reads as it did. -/
def sparseWholeSpec : ChangeSpec := { name := "sparseWhole", fn := fun _ => fun
  | [d1, d2, d3] => { results := [.lit (.bool true)], args := [d1, d2, d3] }
  | _ => none }
def sparseWholeRow : OpenClaim := { program := "ytdibdlelmkcccaa", sum := "505093a63e35a215bfefea3f036e94bd38fe3502d123d3b0a09e5ccbd90542bc", func := "lightsieve/lightsievelaw04.SparseWhole", spec := "sparseWhole", unfollowed := true, recurses := true, apart := false }
def SparseWholeSaid : Prop := sparseWholeRow.holds Try.pinned (OpenSpec.ofChange sparseWholeSpec)

/-- ITS FALSE NEIGHBOUR: 'it returns false'. Refute it at one input. -/
def sparseWholeWrong : ChangeSpec := { name := "sparseWhole", fn := fun _ => fun
  | [d1, d2, d3] => { results := [.lit (.bool false)], args := [d1, d2, d3] }
  | _ => none }
def SparseWholeWrongFalsely : Prop := sparseWholeRow.holds Try.pinned (OpenSpec.ofChange sparseWholeWrong)

/-- 'lightsievelaw04.SparseFits': WHATEVER THE INPUT: true; the input reads as it did. -/
def sparseFitsSpec : ChangeSpec := { name := "sparseFits", fn := fun _ => fun
  | [d1, d2, d3, d4] => { results := [.lit (.bool true)], args := [d1, d2, d3, d4] }
  | _ => none }
def sparseFitsRow : OpenClaim := { program := "ytdibdlelmkcccaa", sum := "505093a63e35a215bfefea3f036e94bd38fe3502d123d3b0a09e5ccbd90542bc", func := "lightsieve/lightsievelaw04.SparseFits", spec := "sparseFits", unfollowed := true, recurses := true, apart := false }
def SparseFitsSaid : Prop := sparseFitsRow.holds Try.pinned (OpenSpec.ofChange sparseFitsSpec)

/-- ITS FALSE NEIGHBOUR: 'it returns false'. Refute it at one input. -/
def sparseFitsWrong : ChangeSpec := { name := "sparseFits", fn := fun _ => fun
  | [d1, d2, d3, d4] => { results := [.lit (.bool false)], args := [d1, d2, d3, d4] }
  | _ => none }
def SparseFitsWrongFalsely : Prop := sparseFitsRow.holds Try.pinned (OpenSpec.ofChange sparseFitsWrong)

/-- 'lightsievelaw04.SparseTwins': WHATEVER THE INPUT: true; the input reads as it did. -/
def sparseTwinsSpec : ChangeSpec := { name := "sparseTwins", fn := fun _ => fun
  | [d1, d2, d3, d4] => { results := [.lit (.bool true)], args := [d1, d2, d3, d4] }
  | _ => none }
def sparseTwinsRow : OpenClaim := { program := "ytdibdlelmkcccaa", sum := "505093a63e35a215bfefea3f036e94bd38fe3502d123d3b0a09e5ccbd90542bc", func := "lightsieve/lightsievelaw04.SparseTwins", spec := "sparseTwins", unfollowed := true, recurses := true, apart := false }
def SparseTwinsSaid : Prop := sparseTwinsRow.holds Try.pinned (OpenSpec.ofChange sparseTwinsSpec)

/-- ITS FALSE NEIGHBOUR: 'it returns false'. Refute it at one input. -/
def sparseTwinsWrong : ChangeSpec := { name := "sparseTwins", fn := fun _ => fun
  | [d1, d2, d3, d4] => { results := [.lit (.bool false)], args := [d1, d2, d3, d4] }
  | _ => none }
def SparseTwinsWrongFalsely : Prop := sparseTwinsRow.holds Try.pinned (OpenSpec.ofChange sparseTwinsWrong)

/-- 'lightsievelaw04.SparseSmallest': WHATEVER THE INPUT: true; the input reads as it did. -/
def sparseSmallestSpec : ChangeSpec := { name := "sparseSmallest", fn := fun _ => fun
  | [d1, d2, d3, d4] => { results := [.lit (.bool true)], args := [d1, d2, d3, d4] }
  | _ => none }
def sparseSmallestRow : OpenClaim := { program := "ytdibdlelmkcccaa", sum := "505093a63e35a215bfefea3f036e94bd38fe3502d123d3b0a09e5ccbd90542bc", func := "lightsieve/lightsievelaw04.SparseSmallest", spec := "sparseSmallest", unfollowed := true, recurses := true, apart := false }
def SparseSmallestSaid : Prop := sparseSmallestRow.holds Try.pinned (OpenSpec.ofChange sparseSmallestSpec)

/-- ITS FALSE NEIGHBOUR: 'it returns false'. Refute it at one input. -/
def sparseSmallestWrong : ChangeSpec := { name := "sparseSmallest", fn := fun _ => fun
  | [d1, d2, d3, d4] => { results := [.lit (.bool false)], args := [d1, d2, d3, d4] }
  | _ => none }
def SparseSmallestWrongFalsely : Prop := sparseSmallestRow.holds Try.pinned (OpenSpec.ofChange sparseSmallestWrong)

/- THE SECOND FORM. 'bulk': how many values and letters a reading holds, each counted each time it is reached (what is shared counts as often as it is met; a slice's spare places count too). A statement '..UptoSaid' is the law's where the arguments, and the package variables that the reading takes, are together of bulk at most 1048576: NARROWER than '..Said'. Prove '..Said' where nothing that the law and all that it calls make is longer than what came in: it says more and counts as full. Else prove '..UptoSaid'. A law counts once. -/
mutual
def uptoBulk {H : Type} : DataW H → Nat
  | .lit (.string bytes) => bytes.length + 1
  | .lit _ => 1
  | .nil => 1
  | .ptr d => uptoBulk d + 1
  | .slice elems spare => uptoBulkAll elems + uptoBulkAll spare + 1
  | .agg parts => uptoBulkAll parts + 1
  | .iface _ d => uptoBulk d + 1
  | .map entries => uptoBulkEntries entries + 1
  | .held _ => 1
def uptoBulkAll {H : Type} : List (DataW H) → Nat
  | [] => 0
  | d :: r => uptoBulk d + uptoBulkAll r
def uptoBulkEntries {H : Type} : List (Lit × DataW H) → Nat
  | [] => 0
  | x :: r => uptoBulkEntry x + uptoBulkEntries r
def uptoBulkEntry {H : Type} : Lit × DataW H → Nat
  | (.string bytes, d) => bytes.length + uptoBulk d + 1
  | (_, d) => uptoBulk d + 1
 end
def uptoSmall : (H : Type) → List (DataW H) → Bool := fun _ ds => decide (uptoBulkAll ds ≤ 1048576)
def OpenSpec.upto (s : _root_.Go.ChangeSpec) : _root_.Go.OpenSpec := { _root_.Go.OpenSpec.ofChange s with cond := some uptoSmall }

/-- 'lightsievelaw04.SparseLeast', WHERE WHAT IT READS IS OF BULK AT MOST 1048576: true; the input reads as it did. -/
def sparseLeastUptoRow : OpenClaim := { program := "ytdibdlelmkcccaa", sum := "505093a63e35a215bfefea3f036e94bd38fe3502d123d3b0a09e5ccbd90542bc", func := "lightsieve/lightsievelaw04.SparseLeast", spec := "sparseLeast", unfollowed := true, recurses := true, apart := false, narrowed := true }
def SparseLeastUptoSaid : Prop := sparseLeastUptoRow.holds Try.pinned (OpenSpec.upto sparseLeastSpec)

/-- 'lightsievelaw04.SparseWhole', WHERE WHAT IT READS IS OF BULK AT MOST 1048576: true; the input reads as it did. -/
def sparseWholeUptoRow : OpenClaim := { program := "ytdibdlelmkcccaa", sum := "505093a63e35a215bfefea3f036e94bd38fe3502d123d3b0a09e5ccbd90542bc", func := "lightsieve/lightsievelaw04.SparseWhole", spec := "sparseWhole", unfollowed := true, recurses := true, apart := false, narrowed := true }
def SparseWholeUptoSaid : Prop := sparseWholeUptoRow.holds Try.pinned (OpenSpec.upto sparseWholeSpec)

/-- 'lightsievelaw04.SparseFits', WHERE WHAT IT READS IS OF BULK AT MOST 1048576: true; the input reads as it did. -/
def sparseFitsUptoRow : OpenClaim := { program := "ytdibdlelmkcccaa", sum := "505093a63e35a215bfefea3f036e94bd38fe3502d123d3b0a09e5ccbd90542bc", func := "lightsieve/lightsievelaw04.SparseFits", spec := "sparseFits", unfollowed := true, recurses := true, apart := false, narrowed := true }
def SparseFitsUptoSaid : Prop := sparseFitsUptoRow.holds Try.pinned (OpenSpec.upto sparseFitsSpec)

/-- 'lightsievelaw04.SparseTwins', WHERE WHAT IT READS IS OF BULK AT MOST 1048576: true; the input reads as it did. -/
def sparseTwinsUptoRow : OpenClaim := { program := "ytdibdlelmkcccaa", sum := "505093a63e35a215bfefea3f036e94bd38fe3502d123d3b0a09e5ccbd90542bc", func := "lightsieve/lightsievelaw04.SparseTwins", spec := "sparseTwins", unfollowed := true, recurses := true, apart := false, narrowed := true }
def SparseTwinsUptoSaid : Prop := sparseTwinsUptoRow.holds Try.pinned (OpenSpec.upto sparseTwinsSpec)

/-- 'lightsievelaw04.SparseSmallest', WHERE WHAT IT READS IS OF BULK AT MOST 1048576: true; the input reads as it did. -/
def sparseSmallestUptoRow : OpenClaim := { program := "ytdibdlelmkcccaa", sum := "505093a63e35a215bfefea3f036e94bd38fe3502d123d3b0a09e5ccbd90542bc", func := "lightsieve/lightsievelaw04.SparseSmallest", spec := "sparseSmallest", unfollowed := true, recurses := true, apart := false, narrowed := true }
def SparseSmallestUptoSaid : Prop := sparseSmallestUptoRow.holds Try.pinned (OpenSpec.upto sparseSmallestSpec)

end Rows
end Go.Proofs.Ytdibdlelmkcccaa
