/- What the table of this seat says of its types, for the engine. Printed by program (gentys.py). No condition. -/
import Derived.Test.YtahccnljckgjmaaEng3
import Derived.Test.YtahccnljckgjmaaProg
set_option linter.unusedVariables false
set_option linter.unusedSimpArgs false
namespace Go.Proofs.Ytahccnljckgjmaa
open Go Go.RowKit Eng

theorem ti_mk {P : Program} {t : Nat} {T : TI} {z : Value} {d : TypeDesc} (h1 : (P.info? t).map (fun i => (i.size, i.bytes, i.zero)) = some (T.size, T.bytes, some z)) (hz : z.cells.size = T.size) (h2 : z.cells.toList.all (·.oneCell') = true)
    (h3 : ∀ m ρ, T.zero.ok P m ρ z.cells.toList) (h4 : T.dflt = true → ∀ m, Rd m T.ty T.ty.dflt z.cells.toList) (h5 : T.bytes ≤ 1000000) (h6 : T.size ≠ 0) (h7 : T.size ≤ 10000) (h8 : (match d with | .struct _ | .array _ _ => true | _ => false) = T.agg) (hu : P.underlying t = some d)
    (h9 : T.kind = 1 → P.underlying t = some (.slice T.elem)) (h10 : T.kind = 2 → P.underlying t = some .string) (h11 : T.kind = 3 → P.underlying t = some .bool)
    (h12 : T.kind = 4 → ∃ n sz, P.underlying t = some (.array n T.elem) ∧ (∃ j, P.info? T.elem = some j ∧ j.size = sz) ∧ sz ≠ 0 ∧ ∀ (f : Nat) (fl : Nat × Nat × Nat), T.flds[f]? = some fl → fl = (f * sz, T.elem, sz) ∧ f < n)
    (h13 : T.kind = 5 → ∃ fields, P.underlying t = some (.struct fields) ∧ fields.toList.map (fun F => (F.offset, F.type)) = T.flds.map (fun f => (f.1, f.2.1)) ∧ ∀ f ∈ T.flds, (∃ j, P.info? f.2.1 = some j ∧ j.size = f.2.2) ∧ f.2.2 ≠ 0) (h14 : T.kind ≤ 5) (h15 : T.eq2 = true → Eq2 P t := by (intro h; cases h)) : TIok P t T := by
  refine ⟨?_, h5, h6, h7, ⟨d, hu, h8⟩, h9, h10, h11, h12, h13, h14, h15⟩
  cases hi : P.info? t with
  | none => rw [hi] at h1; cases h1
  | some i =>
    rw [hi] at h1
    simp only [Option.map_some, Option.some.injEq, Prod.mk.injEq] at h1
    exact ⟨i, z, rfl, h1.1, h1.2.1, h1.2.2, hz, h2, h3, h4⟩
theorem ti_sz {P : Program} {t : Nat} {T : TI} (h : TIok P t T) : ∃ j, P.info? t = some j ∧ j.size = T.size := by
  obtain ⟨i, z, h1, h2, _⟩ := h.info
  exact ⟨i, h1, h2⟩

def T1 : TI := { agg := false, size := 1, bytes := 8, ty := .bool, zero := .cons (.lit .nilFunc) .nil, kind := 0, dflt := false, elem := 0, flds := [] }
theorem ti1 : TIok Try.prog 1 T1 := ti_mk (z := .nilFunc) (by kernel_rfl) rfl rfl (fun m ρ => ⟨_, _, rfl, rfl, rfl⟩) (fun h => by cases h) (by decide) (by decide) (by decide) rfl Try.underlying1 (fun h => by cases h) (fun h => by cases h) (fun h => by cases h)
  (fun h => by cases h)
  (fun h => by cases h) (by decide)
def T2 : TI := { agg := false, size := 1, bytes := 8, ty := .int .i64, zero := .cons (.lit (.int .i64 0)) .nil, kind := 0, dflt := true, elem := 0, flds := [] }
theorem ti2 : TIok Try.prog 2 T2 := ti_mk (z := .int .i64 0) (by kernel_rfl) rfl rfl (fun m ρ => ⟨_, _, rfl, rfl, rfl⟩) (fun _ m => rfl) (by decide) (by decide) (by decide) rfl Try.underlying2 (fun h => by cases h) (fun h => by cases h) (fun h => by cases h)
  (fun h => by cases h)
  (fun h => by cases h) (by decide)
def T3 : TI := { agg := false, size := 1, bytes := 8, ty := .int .i64, zero := .cons (.lit (.int .i64 0)) .nil, kind := 0, dflt := true, elem := 0, flds := [] }
theorem ti3 : TIok Try.prog 3 T3 := ti_mk (z := .int .i64 0) (by kernel_rfl) rfl rfl (fun m ρ => ⟨_, _, rfl, rfl, rfl⟩) (fun _ m => rfl) (by decide) (by decide) (by decide) rfl Try.underlying3 (fun h => by cases h) (fun h => by cases h) (fun h => by cases h)
  (fun h => by cases h)
  (fun h => by cases h) (by decide)
def T4 : TI := { agg := false, size := 1, bytes := 1, ty := .bool, zero := .cons (.ff) .nil, kind := 3, dflt := true, elem := 0, flds := [] }
theorem ti4 : TIok Try.prog 4 T4 := ti_mk (z := .bool false) (by kernel_rfl) rfl rfl (fun m ρ => ⟨_, _, rfl, rfl, rfl⟩) (fun _ m => rfl) (by decide) (by decide) (by decide) rfl Try.underlying4 (fun h => by cases h) (fun h => by cases h) (fun _ => Try.underlying4)
  (fun h => by cases h)
  (fun h => by cases h) (by decide)
def T5 : TI := { agg := false, size := 1, bytes := 1, ty := .int .u8, zero := .cons (.lit (.int .u8 0)) .nil, kind := 0, dflt := true, elem := 0, flds := [] }
theorem ti5 : TIok Try.prog 5 T5 := ti_mk (z := .int .u8 0) (by kernel_rfl) rfl rfl (fun m ρ => ⟨_, _, rfl, rfl, rfl⟩) (fun _ m => rfl) (by decide) (by decide) (by decide) rfl Try.underlying5 (fun h => by cases h) (fun h => by cases h) (fun h => by cases h)
  (fun h => by cases h)
  (fun h => by cases h) (by decide)
def T6 : TI := { agg := false, size := 1, bytes := 1, ty := .int .u8, zero := .cons (.lit (.int .u8 0)) .nil, kind := 0, dflt := true, elem := 0, flds := [] }
theorem ti6 : TIok Try.prog 6 T6 := ti_mk (z := .int .u8 0) (by kernel_rfl) rfl rfl (fun m ρ => ⟨_, _, rfl, rfl, rfl⟩) (fun _ m => rfl) (by decide) (by decide) (by decide) rfl Try.underlying6 (fun h => by cases h) (fun h => by cases h) (fun h => by cases h)
  (fun h => by cases h)
  (fun h => by cases h) (by decide)
def T7 : TI := { agg := true, size := 4, bytes := 24, ty := .prod (.int .i64) (.prod (.int .i64) (.prod (.bool) (.int .u8))), zero := .cons (.lit (.int .i64 0)) (.cons (.lit (.int .i64 0)) (.cons (.ff) (.cons (.lit (.int .u8 0)) .nil))), kind := 5, dflt := true, elem := 0, flds := [(0, 2, 1), (1, 3, 1), (2, 4, 1), (3, 6, 1)] }
theorem ti7 : TIok Try.prog 7 T7 := ti_mk (z := .agg #[.int .i64 0, .int .i64 0, .bool false, .int .u8 0]) (by kernel_rfl) rfl rfl (fun m ρ => ⟨_, _, rfl, rfl, ⟨_, _, rfl, rfl, ⟨_, _, rfl, rfl, ⟨_, _, rfl, rfl, rfl⟩⟩⟩⟩) (fun _ m => ⟨[.int .i64 0], [.int .i64 0, .bool false, .int .u8 0], rfl, rfl, ⟨[.int .i64 0], [.bool false, .int .u8 0], rfl, rfl, ⟨[.bool false], [.int .u8 0], rfl, rfl, rfl⟩⟩⟩) (by decide) (by decide) (by decide) rfl Try.underlying7 (fun h => by cases h) (fun h => by cases h) (fun h => by cases h)
  (fun h => by cases h)
  (fun _ => ⟨_, Try.underlying7, rfl, fun f hf => by
    simp only [T7, List.mem_cons, List.not_mem_nil, or_false] at hf
    rcases hf with rfl | rfl | rfl | rfl
    · exact ⟨ti_sz ti2, by decide⟩
    · exact ⟨ti_sz ti3, by decide⟩
    · exact ⟨ti_sz ti4, by decide⟩
    · exact ⟨ti_sz ti6, by decide⟩⟩) (by decide)
def T8 : TI := { agg := true, size := 4, bytes := 24, ty := .prod (.int .i64) (.prod (.int .i64) (.prod (.bool) (.int .u8))), zero := .cons (.lit (.int .i64 0)) (.cons (.lit (.int .i64 0)) (.cons (.ff) (.cons (.lit (.int .u8 0)) .nil))), kind := 5, dflt := true, elem := 0, flds := [(0, 2, 1), (1, 3, 1), (2, 4, 1), (3, 6, 1)] }
theorem ti8 : TIok Try.prog 8 T8 := ti_mk (z := .agg #[.int .i64 0, .int .i64 0, .bool false, .int .u8 0]) (by kernel_rfl) rfl rfl (fun m ρ => ⟨_, _, rfl, rfl, ⟨_, _, rfl, rfl, ⟨_, _, rfl, rfl, ⟨_, _, rfl, rfl, rfl⟩⟩⟩⟩) (fun _ m => ⟨[.int .i64 0], [.int .i64 0, .bool false, .int .u8 0], rfl, rfl, ⟨[.int .i64 0], [.bool false, .int .u8 0], rfl, rfl, ⟨[.bool false], [.int .u8 0], rfl, rfl, rfl⟩⟩⟩) (by decide) (by decide) (by decide) rfl Try.underlying8 (fun h => by cases h) (fun h => by cases h) (fun h => by cases h)
  (fun h => by cases h)
  (fun _ => ⟨_, Try.underlying8, rfl, fun f hf => by
    simp only [T8, List.mem_cons, List.not_mem_nil, or_false] at hf
    rcases hf with rfl | rfl | rfl | rfl
    · exact ⟨ti_sz ti2, by decide⟩
    · exact ⟨ti_sz ti3, by decide⟩
    · exact ⟨ti_sz ti4, by decide⟩
    · exact ⟨ti_sz ti6, by decide⟩⟩) (by decide)
def T9 : TI := { agg := false, size := 1, bytes := 16, ty := .str, zero := .cons (.lit (.string ⟨#[]⟩)) .nil, kind := 2, dflt := true, elem := 0, flds := [] }
theorem ti9 : TIok Try.prog 9 T9 := ti_mk (z := .string ⟨#[]⟩) (by kernel_rfl) rfl rfl (fun m ρ => ⟨_, _, rfl, rfl, rfl⟩) (fun _ m => rfl) (by decide) (by decide) (by decide) rfl Try.underlying9 (fun h => by cases h) (fun _ => Try.underlying9) (fun h => by cases h)
  (fun h => by cases h)
  (fun h => by cases h) (by decide)
def T10 : TI := { agg := false, size := 1, bytes := 16, ty := .str, zero := .cons (.lit (.string ⟨#[]⟩)) .nil, kind := 2, dflt := true, elem := 0, flds := [] }
theorem ti10 : TIok Try.prog 10 T10 := ti_mk (z := .string ⟨#[]⟩) (by kernel_rfl) rfl rfl (fun m ρ => ⟨_, _, rfl, rfl, rfl⟩) (fun _ m => rfl) (by decide) (by decide) (by decide) rfl Try.underlying10 (fun h => by cases h) (fun _ => Try.underlying10) (fun h => by cases h)
  (fun h => by cases h)
  (fun h => by cases h) (by decide)
def T11 : TI := { agg := false, size := 1, bytes := 16, ty := .str, zero := .cons (.lit (.string ⟨#[]⟩)) .nil, kind := 2, dflt := true, elem := 0, flds := [] }
theorem ti11 : TIok Try.prog 11 T11 := ti_mk (z := .string ⟨#[]⟩) (by kernel_rfl) rfl rfl (fun m ρ => ⟨_, _, rfl, rfl, rfl⟩) (fun _ m => rfl) (by decide) (by decide) (by decide) rfl Try.underlying11 (fun h => by cases h) (fun _ => Try.underlying11) (fun h => by cases h)
  (fun h => by cases h)
  (fun h => by cases h) (by decide)
def T12 : TI := { agg := false, size := 1, bytes := 8, ty := .int .u64, zero := .cons (.lit (.int .u64 0)) .nil, kind := 0, dflt := true, elem := 0, flds := [] }
theorem ti12 : TIok Try.prog 12 T12 := ti_mk (z := .int .u64 0) (by kernel_rfl) rfl rfl (fun m ρ => ⟨_, _, rfl, rfl, rfl⟩) (fun _ m => rfl) (by decide) (by decide) (by decide) rfl Try.underlying12 (fun h => by cases h) (fun h => by cases h) (fun h => by cases h)
  (fun h => by cases h)
  (fun h => by cases h) (by decide)
def T13 : TI := { agg := true, size := 2, bytes := 24, ty := .prod (.str) (.int .u64), zero := .cons (.lit (.string ⟨#[]⟩)) (.cons (.lit (.int .u64 0)) .nil), kind := 5, dflt := true, elem := 0, flds := [(0, 9, 1), (1, 12, 1)] }
theorem ti13 : TIok Try.prog 13 T13 := ti_mk (z := .agg #[.string ⟨#[]⟩, .int .u64 0]) (by kernel_rfl) rfl rfl (fun m ρ => ⟨_, _, rfl, rfl, ⟨_, _, rfl, rfl, rfl⟩⟩) (fun _ m => ⟨[.string ⟨#[]⟩], [.int .u64 0], rfl, rfl, rfl⟩) (by decide) (by decide) (by decide) rfl Try.underlying13 (fun h => by cases h) (fun h => by cases h) (fun h => by cases h)
  (fun h => by cases h)
  (fun _ => ⟨_, Try.underlying13, rfl, fun f hf => by
    simp only [T13, List.mem_cons, List.not_mem_nil, or_false] at hf
    rcases hf with rfl | rfl
    · exact ⟨ti_sz ti9, by decide⟩
    · exact ⟨ti_sz ti12, by decide⟩⟩) (by decide)
def T14 : TI := { agg := true, size := 2, bytes := 24, ty := .prod (.str) (.int .u64), zero := .cons (.lit (.string ⟨#[]⟩)) (.cons (.lit (.int .u64 0)) .nil), kind := 5, dflt := true, elem := 0, flds := [(0, 9, 1), (1, 12, 1)] }
theorem ti14 : TIok Try.prog 14 T14 := ti_mk (z := .agg #[.string ⟨#[]⟩, .int .u64 0]) (by kernel_rfl) rfl rfl (fun m ρ => ⟨_, _, rfl, rfl, ⟨_, _, rfl, rfl, rfl⟩⟩) (fun _ m => ⟨[.string ⟨#[]⟩], [.int .u64 0], rfl, rfl, rfl⟩) (by decide) (by decide) (by decide) rfl Try.underlying14 (fun h => by cases h) (fun h => by cases h) (fun h => by cases h)
  (fun h => by cases h)
  (fun _ => ⟨_, Try.underlying14, rfl, fun f hf => by
    simp only [T14, List.mem_cons, List.not_mem_nil, or_false] at hf
    rcases hf with rfl | rfl
    · exact ⟨ti_sz ti9, by decide⟩
    · exact ⟨ti_sz ti12, by decide⟩⟩) (by decide)
def T15 : TI := { agg := false, size := 1, bytes := 8, ty := .bool, zero := .cons (.lit (.pointer none)) .nil, kind := 0, dflt := false, elem := 0, flds := [] }
theorem ti15 : TIok Try.prog 15 T15 := ti_mk (z := .pointer none) (by kernel_rfl) rfl rfl (fun m ρ => ⟨_, _, rfl, rfl, rfl⟩) (fun h => by cases h) (by decide) (by decide) (by decide) rfl Try.underlying15 (fun h => by cases h) (fun h => by cases h) (fun h => by cases h)
  (fun h => by cases h)
  (fun h => by cases h) (by decide)
def T16 : TI := { agg := false, size := 1, bytes := 8, ty := .bool, zero := .cons (.lit (.pointer none)) .nil, kind := 0, dflt := false, elem := 0, flds := [] }
theorem ti16 : TIok Try.prog 16 T16 := ti_mk (z := .pointer none) (by kernel_rfl) rfl rfl (fun m ρ => ⟨_, _, rfl, rfl, rfl⟩) (fun h => by cases h) (by decide) (by decide) (by decide) rfl Try.underlying16 (fun h => by cases h) (fun h => by cases h) (fun h => by cases h)
  (fun h => by cases h)
  (fun h => by cases h) (by decide)
def T17 : TI := { agg := false, size := 1, bytes := 8, ty := .bool, zero := .cons (.lit (.pointer none)) .nil, kind := 0, dflt := false, elem := 0, flds := [] }
theorem ti17 : TIok Try.prog 17 T17 := ti_mk (z := .pointer none) (by kernel_rfl) rfl rfl (fun m ρ => ⟨_, _, rfl, rfl, rfl⟩) (fun h => by cases h) (by decide) (by decide) (by decide) rfl Try.underlying17 (fun h => by cases h) (fun h => by cases h) (fun h => by cases h)
  (fun h => by cases h)
  (fun h => by cases h) (by decide)
def T18 : TI := { agg := true, size := 1, bytes := 8, ty := .bool, zero := .cons (.lit (.pointer none)) .nil, kind := 5, dflt := false, elem := 0, flds := [(0, 17, 1)] }
theorem ti18 : TIok Try.prog 18 T18 := ti_mk (z := .agg #[.pointer none]) (by kernel_rfl) rfl rfl (fun m ρ => ⟨_, _, rfl, rfl, rfl⟩) (fun h => by cases h) (by decide) (by decide) (by decide) rfl Try.underlying18 (fun h => by cases h) (fun h => by cases h) (fun h => by cases h)
  (fun h => by cases h)
  (fun _ => ⟨_, Try.underlying18, rfl, fun f hf => by
    simp only [T18, List.mem_cons, List.not_mem_nil, or_false] at hf
    rcases hf with rfl
    · exact ⟨ti_sz ti17, by decide⟩⟩) (by decide)
def T19 : TI := { agg := true, size := 1, bytes := 8, ty := .bool, zero := .cons (.lit (.pointer none)) .nil, kind := 5, dflt := false, elem := 0, flds := [(0, 17, 1)] }
theorem ti19 : TIok Try.prog 19 T19 := ti_mk (z := .agg #[.pointer none]) (by kernel_rfl) rfl rfl (fun m ρ => ⟨_, _, rfl, rfl, rfl⟩) (fun h => by cases h) (by decide) (by decide) (by decide) rfl Try.underlying19 (fun h => by cases h) (fun h => by cases h) (fun h => by cases h)
  (fun h => by cases h)
  (fun _ => ⟨_, Try.underlying19, rfl, fun f hf => by
    simp only [T19, List.mem_cons, List.not_mem_nil, or_false] at hf
    rcases hf with rfl
    · exact ⟨ti_sz ti17, by decide⟩⟩) (by decide)
def T21 : TI := { agg := false, size := 1, bytes := 4, ty := .int .i32, zero := .cons (.lit (.int .i32 0)) .nil, kind := 0, dflt := true, elem := 0, flds := [] }
theorem ti21 : TIok Try.prog 21 T21 := ti_mk (z := .int .i32 0) (by kernel_rfl) rfl rfl (fun m ρ => ⟨_, _, rfl, rfl, rfl⟩) (fun _ m => rfl) (by decide) (by decide) (by decide) rfl Try.underlying21 (fun h => by cases h) (fun h => by cases h) (fun h => by cases h)
  (fun h => by cases h)
  (fun h => by cases h) (by decide)
def T22 : TI := { agg := false, size := 1, bytes := 24, ty := .list (.int .i64), zero := .cons (.lit (.slice none 0 0)) .nil, kind := 1, dflt := true, elem := 3, flds := [] }
theorem ti22 : TIok Try.prog 22 T22 := ti_mk (z := .slice none 0 0) (by kernel_rfl) rfl rfl (fun m ρ => ⟨_, _, rfl, rfl, rfl⟩) (fun _ m => ⟨none, 0, rfl, Nat.le_refl _, by unfold maxLen; exact Nat.zero_le _, fun h => absurd h (Nat.lt_irrefl 0)⟩) (by decide) (by decide) (by decide) rfl Try.underlying22 (fun _ => Try.underlying22) (fun h => by cases h) (fun h => by cases h)
  (fun h => by cases h)
  (fun h => by cases h) (by decide)
def T23 : TI := { agg := false, size := 1, bytes := 8, ty := .bool, zero := .cons (.lit .nilFunc) .nil, kind := 0, dflt := false, elem := 0, flds := [] }
theorem ti23 : TIok Try.prog 23 T23 := ti_mk (z := .nilFunc) (by kernel_rfl) rfl rfl (fun m ρ => ⟨_, _, rfl, rfl, rfl⟩) (fun h => by cases h) (by decide) (by decide) (by decide) rfl Try.underlying23 (fun h => by cases h) (fun h => by cases h) (fun h => by cases h)
  (fun h => by cases h)
  (fun h => by cases h) (by decide)
def T24 : TI := { agg := false, size := 1, bytes := 8, ty := .bool, zero := .cons (.lit .nilFunc) .nil, kind := 0, dflt := false, elem := 0, flds := [] }
theorem ti24 : TIok Try.prog 24 T24 := ti_mk (z := .nilFunc) (by kernel_rfl) rfl rfl (fun m ρ => ⟨_, _, rfl, rfl, rfl⟩) (fun h => by cases h) (by decide) (by decide) (by decide) rfl Try.underlying24 (fun h => by cases h) (fun h => by cases h) (fun h => by cases h)
  (fun h => by cases h)
  (fun h => by cases h) (by decide)
def T25 : TI := { agg := false, size := 1, bytes := 8, ty := .bool, zero := .cons (.lit .nilFunc) .nil, kind := 0, dflt := false, elem := 0, flds := [] }
theorem ti25 : TIok Try.prog 25 T25 := ti_mk (z := .nilFunc) (by kernel_rfl) rfl rfl (fun m ρ => ⟨_, _, rfl, rfl, rfl⟩) (fun h => by cases h) (by decide) (by decide) (by decide) rfl Try.underlying25 (fun h => by cases h) (fun h => by cases h) (fun h => by cases h)
  (fun h => by cases h)
  (fun h => by cases h) (by decide)
def T26 : TI := { agg := false, size := 1, bytes := 8, ty := .int .i64, zero := .cons (.lit (.int .i64 0)) .nil, kind := 0, dflt := true, elem := 0, flds := [] }
theorem ti26 : TIok Try.prog 26 T26 := ti_mk (z := .int .i64 0) (by kernel_rfl) rfl rfl (fun m ρ => ⟨_, _, rfl, rfl, rfl⟩) (fun _ m => rfl) (by decide) (by decide) (by decide) rfl Try.underlying26 (fun h => by cases h) (fun h => by cases h) (fun h => by cases h)
  (fun h => by cases h)
  (fun h => by cases h) (by decide)
def T28 : TI := { agg := false, size := 1, bytes := 8, ty := .bool, zero := .cons (.lit .nilFunc) .nil, kind := 0, dflt := false, elem := 0, flds := [] }
theorem ti28 : TIok Try.prog 28 T28 := ti_mk (z := .nilFunc) (by kernel_rfl) rfl rfl (fun m ρ => ⟨_, _, rfl, rfl, rfl⟩) (fun h => by cases h) (by decide) (by decide) (by decide) rfl Try.underlying28 (fun h => by cases h) (fun h => by cases h) (fun h => by cases h)
  (fun h => by cases h)
  (fun h => by cases h) (by decide)
def T29 : TI := { agg := true, size := 3, bytes := 40, ty := .prod (.int .i64) (.prod (.int .i64) (.list (.int .i64))), zero := .cons (.lit (.int .i64 0)) (.cons (.lit (.int .i64 0)) (.cons (.lit (.slice none 0 0)) .nil)), kind := 5, dflt := true, elem := 0, flds := [(0, 3, 1), (1, 3, 1), (2, 22, 1)] }
theorem ti29 : TIok Try.prog 29 T29 := ti_mk (z := .agg #[.int .i64 0, .int .i64 0, .slice none 0 0]) (by kernel_rfl) rfl rfl (fun m ρ => ⟨_, _, rfl, rfl, ⟨_, _, rfl, rfl, ⟨_, _, rfl, rfl, rfl⟩⟩⟩) (fun _ m => ⟨[.int .i64 0], [.int .i64 0, .slice none 0 0], rfl, rfl, ⟨[.int .i64 0], [.slice none 0 0], rfl, rfl, ⟨none, 0, rfl, Nat.le_refl _, by unfold maxLen; exact Nat.zero_le _, fun h => absurd h (Nat.lt_irrefl 0)⟩⟩⟩) (by decide) (by decide) (by decide) rfl Try.underlying29 (fun h => by cases h) (fun h => by cases h) (fun h => by cases h)
  (fun h => by cases h)
  (fun _ => ⟨_, Try.underlying29, rfl, fun f hf => by
    simp only [T29, List.mem_cons, List.not_mem_nil, or_false] at hf
    rcases hf with rfl | rfl | rfl
    · exact ⟨ti_sz ti3, by decide⟩
    · exact ⟨ti_sz ti3, by decide⟩
    · exact ⟨ti_sz ti22, by decide⟩⟩) (by decide)
def T30 : TI := { agg := true, size := 3, bytes := 40, ty := .prod (.int .i64) (.prod (.int .i64) (.list (.int .i64))), zero := .cons (.lit (.int .i64 0)) (.cons (.lit (.int .i64 0)) (.cons (.lit (.slice none 0 0)) .nil)), kind := 5, dflt := true, elem := 0, flds := [(0, 3, 1), (1, 3, 1), (2, 22, 1)] }
theorem ti30 : TIok Try.prog 30 T30 := ti_mk (z := .agg #[.int .i64 0, .int .i64 0, .slice none 0 0]) (by kernel_rfl) rfl rfl (fun m ρ => ⟨_, _, rfl, rfl, ⟨_, _, rfl, rfl, ⟨_, _, rfl, rfl, rfl⟩⟩⟩) (fun _ m => ⟨[.int .i64 0], [.int .i64 0, .slice none 0 0], rfl, rfl, ⟨[.int .i64 0], [.slice none 0 0], rfl, rfl, ⟨none, 0, rfl, Nat.le_refl _, by unfold maxLen; exact Nat.zero_le _, fun h => absurd h (Nat.lt_irrefl 0)⟩⟩⟩) (by decide) (by decide) (by decide) rfl Try.underlying30 (fun h => by cases h) (fun h => by cases h) (fun h => by cases h)
  (fun h => by cases h)
  (fun _ => ⟨_, Try.underlying30, rfl, fun f hf => by
    simp only [T30, List.mem_cons, List.not_mem_nil, or_false] at hf
    rcases hf with rfl | rfl | rfl
    · exact ⟨ti_sz ti3, by decide⟩
    · exact ⟨ti_sz ti3, by decide⟩
    · exact ⟨ti_sz ti22, by decide⟩⟩) (by decide)
def T31 : TI := { agg := true, size := 2, bytes := 16, ty := .prod (.int .i64) (.int .i64), zero := .cons (.lit (.int .i64 0)) (.cons (.lit (.int .i64 0)) .nil), kind := 4, dflt := true, elem := 3, flds := [(0, 3, 1), (1, 3, 1)], eq2 := true }
theorem ti31 : TIok Try.prog 31 T31 := ti_mk (z := .agg #[.int .i64 0, .int .i64 0]) (by kernel_rfl) rfl rfl (fun m ρ => ⟨_, _, rfl, rfl, ⟨_, _, rfl, rfl, rfl⟩⟩) (fun _ m => ⟨[.int .i64 0], [.int .i64 0], rfl, rfl, rfl⟩) (by decide) (by decide) (by decide) rfl Try.underlying31 (fun h => by cases h) (fun h => by cases h) (fun h => by cases h)
  (fun _ => ⟨2, 1, Try.underlying31, ti_sz ti3, by decide, fun f fl h => by
    match f, h with
    | 0, h => injection h with h; exact ⟨h.symm, by decide⟩
    | 1, h => injection h with h; exact ⟨h.symm, by decide⟩⟩)
  (fun h => by cases h) (by decide) (fun _ => (ti_sz ti3).elim fun j hj => eq2_arr Try.underlying31 hj.1 (by kernel_rfl) Try.underlying3 (by kernel_rfl))
def T33 : TI := { agg := false, size := 1, bytes := 8, ty := .bool, zero := .cons (.lit .nilFunc) .nil, kind := 0, dflt := false, elem := 0, flds := [] }
theorem ti33 : TIok Try.prog 33 T33 := ti_mk (z := .nilFunc) (by kernel_rfl) rfl rfl (fun m ρ => ⟨_, _, rfl, rfl, rfl⟩) (fun h => by cases h) (by decide) (by decide) (by decide) rfl Try.underlying33 (fun h => by cases h) (fun h => by cases h) (fun h => by cases h)
  (fun h => by cases h)
  (fun h => by cases h) (by decide)
def T34 : TI := { agg := false, size := 1, bytes := 8, ty := .bool, zero := .cons (.lit .nilFunc) .nil, kind := 0, dflt := false, elem := 0, flds := [] }
theorem ti34 : TIok Try.prog 34 T34 := ti_mk (z := .nilFunc) (by kernel_rfl) rfl rfl (fun m ρ => ⟨_, _, rfl, rfl, rfl⟩) (fun h => by cases h) (by decide) (by decide) (by decide) rfl Try.underlying34 (fun h => by cases h) (fun h => by cases h) (fun h => by cases h)
  (fun h => by cases h)
  (fun h => by cases h) (by decide)
def T35 : TI := { agg := false, size := 1, bytes := 8, ty := .bool, zero := .cons (.lit .nilFunc) .nil, kind := 0, dflt := false, elem := 0, flds := [] }
theorem ti35 : TIok Try.prog 35 T35 := ti_mk (z := .nilFunc) (by kernel_rfl) rfl rfl (fun m ρ => ⟨_, _, rfl, rfl, rfl⟩) (fun h => by cases h) (by decide) (by decide) (by decide) rfl Try.underlying35 (fun h => by cases h) (fun h => by cases h) (fun h => by cases h)
  (fun h => by cases h)
  (fun h => by cases h) (by decide)
def T36 : TI := { agg := false, size := 1, bytes := 8, ty := .bool, zero := .cons (.lit .nilFunc) .nil, kind := 0, dflt := false, elem := 0, flds := [] }
theorem ti36 : TIok Try.prog 36 T36 := ti_mk (z := .nilFunc) (by kernel_rfl) rfl rfl (fun m ρ => ⟨_, _, rfl, rfl, rfl⟩) (fun h => by cases h) (by decide) (by decide) (by decide) rfl Try.underlying36 (fun h => by cases h) (fun h => by cases h) (fun h => by cases h)
  (fun h => by cases h)
  (fun h => by cases h) (by decide)
def T38 : TI := { agg := false, size := 1, bytes := 8, ty := .bool, zero := .cons (.lit .nilFunc) .nil, kind := 0, dflt := false, elem := 0, flds := [] }
theorem ti38 : TIok Try.prog 38 T38 := ti_mk (z := .nilFunc) (by kernel_rfl) rfl rfl (fun m ρ => ⟨_, _, rfl, rfl, rfl⟩) (fun h => by cases h) (by decide) (by decide) (by decide) rfl Try.underlying38 (fun h => by cases h) (fun h => by cases h) (fun h => by cases h)
  (fun h => by cases h)
  (fun h => by cases h) (by decide)
def T39 : TI := { agg := false, size := 1, bytes := 8, ty := .bool, zero := .cons (.lit .nilFunc) .nil, kind := 0, dflt := false, elem := 0, flds := [] }
theorem ti39 : TIok Try.prog 39 T39 := ti_mk (z := .nilFunc) (by kernel_rfl) rfl rfl (fun m ρ => ⟨_, _, rfl, rfl, rfl⟩) (fun h => by cases h) (by decide) (by decide) (by decide) rfl Try.underlying39 (fun h => by cases h) (fun h => by cases h) (fun h => by cases h)
  (fun h => by cases h)
  (fun h => by cases h) (by decide)
def T40 : TI := { agg := false, size := 1, bytes := 8, ty := .bool, zero := .cons (.lit .nilFunc) .nil, kind := 0, dflt := false, elem := 0, flds := [] }
theorem ti40 : TIok Try.prog 40 T40 := ti_mk (z := .nilFunc) (by kernel_rfl) rfl rfl (fun m ρ => ⟨_, _, rfl, rfl, rfl⟩) (fun h => by cases h) (by decide) (by decide) (by decide) rfl Try.underlying40 (fun h => by cases h) (fun h => by cases h) (fun h => by cases h)
  (fun h => by cases h)
  (fun h => by cases h) (by decide)
def T41 : TI := { agg := false, size := 1, bytes := 8, ty := .bool, zero := .cons (.lit .nilFunc) .nil, kind := 0, dflt := false, elem := 0, flds := [] }
theorem ti41 : TIok Try.prog 41 T41 := ti_mk (z := .nilFunc) (by kernel_rfl) rfl rfl (fun m ρ => ⟨_, _, rfl, rfl, rfl⟩) (fun h => by cases h) (by decide) (by decide) (by decide) rfl Try.underlying41 (fun h => by cases h) (fun h => by cases h) (fun h => by cases h)
  (fun h => by cases h)
  (fun h => by cases h) (by decide)
def T42 : TI := { agg := false, size := 1, bytes := 8, ty := .bool, zero := .cons (.lit .nilFunc) .nil, kind := 0, dflt := false, elem := 0, flds := [] }
theorem ti42 : TIok Try.prog 42 T42 := ti_mk (z := .nilFunc) (by kernel_rfl) rfl rfl (fun m ρ => ⟨_, _, rfl, rfl, rfl⟩) (fun h => by cases h) (by decide) (by decide) (by decide) rfl Try.underlying42 (fun h => by cases h) (fun h => by cases h) (fun h => by cases h)
  (fun h => by cases h)
  (fun h => by cases h) (by decide)
def T43 : TI := { agg := false, size := 1, bytes := 8, ty := .bool, zero := .cons (.lit .nilFunc) .nil, kind := 0, dflt := false, elem := 0, flds := [] }
theorem ti43 : TIok Try.prog 43 T43 := ti_mk (z := .nilFunc) (by kernel_rfl) rfl rfl (fun m ρ => ⟨_, _, rfl, rfl, rfl⟩) (fun h => by cases h) (by decide) (by decide) (by decide) rfl Try.underlying43 (fun h => by cases h) (fun h => by cases h) (fun h => by cases h)
  (fun h => by cases h)
  (fun h => by cases h) (by decide)
def T44 : TI := { agg := false, size := 1, bytes := 8, ty := .bool, zero := .cons (.lit .nilFunc) .nil, kind := 0, dflt := false, elem := 0, flds := [] }
theorem ti44 : TIok Try.prog 44 T44 := ti_mk (z := .nilFunc) (by kernel_rfl) rfl rfl (fun m ρ => ⟨_, _, rfl, rfl, rfl⟩) (fun h => by cases h) (by decide) (by decide) (by decide) rfl Try.underlying44 (fun h => by cases h) (fun h => by cases h) (fun h => by cases h)
  (fun h => by cases h)
  (fun h => by cases h) (by decide)
def T45 : TI := { agg := false, size := 1, bytes := 24, ty := .list (.prod (.int .i64) (.prod (.int .i64) (.list (.int .i64)))), zero := .cons (.lit (.slice none 0 0)) .nil, kind := 1, dflt := true, elem := 30, flds := [] }
theorem ti45 : TIok Try.prog 45 T45 := ti_mk (z := .slice none 0 0) (by kernel_rfl) rfl rfl (fun m ρ => ⟨_, _, rfl, rfl, rfl⟩) (fun _ m => ⟨none, 0, rfl, Nat.le_refl _, by unfold maxLen; exact Nat.zero_le _, fun h => absurd h (Nat.lt_irrefl 0)⟩) (by decide) (by decide) (by decide) rfl Try.underlying45 (fun _ => Try.underlying45) (fun h => by cases h) (fun h => by cases h)
  (fun h => by cases h)
  (fun h => by cases h) (by decide)
def T46 : TI := { agg := false, size := 1, bytes := 8, ty := .bool, zero := .cons (.lit .nilFunc) .nil, kind := 0, dflt := false, elem := 0, flds := [] }
theorem ti46 : TIok Try.prog 46 T46 := ti_mk (z := .nilFunc) (by kernel_rfl) rfl rfl (fun m ρ => ⟨_, _, rfl, rfl, rfl⟩) (fun h => by cases h) (by decide) (by decide) (by decide) rfl Try.underlying46 (fun h => by cases h) (fun h => by cases h) (fun h => by cases h)
  (fun h => by cases h)
  (fun h => by cases h) (by decide)
def T47 : TI := { agg := false, size := 1, bytes := 24, ty := .list (.bool), zero := .cons (.lit (.slice none 0 0)) .nil, kind := 1, dflt := true, elem := 4, flds := [] }
theorem ti47 : TIok Try.prog 47 T47 := ti_mk (z := .slice none 0 0) (by kernel_rfl) rfl rfl (fun m ρ => ⟨_, _, rfl, rfl, rfl⟩) (fun _ m => ⟨none, 0, rfl, Nat.le_refl _, by unfold maxLen; exact Nat.zero_le _, fun h => absurd h (Nat.lt_irrefl 0)⟩) (by decide) (by decide) (by decide) rfl Try.underlying47 (fun _ => Try.underlying47) (fun h => by cases h) (fun h => by cases h)
  (fun h => by cases h)
  (fun h => by cases h) (by decide)
def T48 : TI := { agg := false, size := 1, bytes := 8, ty := .bool, zero := .cons (.lit .nilFunc) .nil, kind := 0, dflt := false, elem := 0, flds := [] }
theorem ti48 : TIok Try.prog 48 T48 := ti_mk (z := .nilFunc) (by kernel_rfl) rfl rfl (fun m ρ => ⟨_, _, rfl, rfl, rfl⟩) (fun h => by cases h) (by decide) (by decide) (by decide) rfl Try.underlying48 (fun h => by cases h) (fun h => by cases h) (fun h => by cases h)
  (fun h => by cases h)
  (fun h => by cases h) (by decide)
def T49 : TI := { agg := false, size := 1, bytes := 8, ty := .bool, zero := .cons (.lit .nilFunc) .nil, kind := 0, dflt := false, elem := 0, flds := [] }
theorem ti49 : TIok Try.prog 49 T49 := ti_mk (z := .nilFunc) (by kernel_rfl) rfl rfl (fun m ρ => ⟨_, _, rfl, rfl, rfl⟩) (fun h => by cases h) (by decide) (by decide) (by decide) rfl Try.underlying49 (fun h => by cases h) (fun h => by cases h) (fun h => by cases h)
  (fun h => by cases h)
  (fun h => by cases h) (by decide)
def T50 : TI := { agg := false, size := 1, bytes := 24, ty := .list (.list (.int .i64)), zero := .cons (.lit (.slice none 0 0)) .nil, kind := 1, dflt := true, elem := 22, flds := [] }
theorem ti50 : TIok Try.prog 50 T50 := ti_mk (z := .slice none 0 0) (by kernel_rfl) rfl rfl (fun m ρ => ⟨_, _, rfl, rfl, rfl⟩) (fun _ m => ⟨none, 0, rfl, Nat.le_refl _, by unfold maxLen; exact Nat.zero_le _, fun h => absurd h (Nat.lt_irrefl 0)⟩) (by decide) (by decide) (by decide) rfl Try.underlying50 (fun _ => Try.underlying50) (fun h => by cases h) (fun h => by cases h)
  (fun h => by cases h)
  (fun h => by cases h) (by decide)
def T51 : TI := { agg := false, size := 1, bytes := 8, ty := .bool, zero := .cons (.lit .nilFunc) .nil, kind := 0, dflt := false, elem := 0, flds := [] }
theorem ti51 : TIok Try.prog 51 T51 := ti_mk (z := .nilFunc) (by kernel_rfl) rfl rfl (fun m ρ => ⟨_, _, rfl, rfl, rfl⟩) (fun h => by cases h) (by decide) (by decide) (by decide) rfl Try.underlying51 (fun h => by cases h) (fun h => by cases h) (fun h => by cases h)
  (fun h => by cases h)
  (fun h => by cases h) (by decide)
def T52 : TI := { agg := false, size := 1, bytes := 8, ty := .bool, zero := .cons (.lit .nilFunc) .nil, kind := 0, dflt := false, elem := 0, flds := [] }
theorem ti52 : TIok Try.prog 52 T52 := ti_mk (z := .nilFunc) (by kernel_rfl) rfl rfl (fun m ρ => ⟨_, _, rfl, rfl, rfl⟩) (fun h => by cases h) (by decide) (by decide) (by decide) rfl Try.underlying52 (fun h => by cases h) (fun h => by cases h) (fun h => by cases h)
  (fun h => by cases h)
  (fun h => by cases h) (by decide)
def T53 : TI := { agg := false, size := 1, bytes := 8, ty := .bool, zero := .cons (.lit .nilFunc) .nil, kind := 0, dflt := false, elem := 0, flds := [] }
theorem ti53 : TIok Try.prog 53 T53 := ti_mk (z := .nilFunc) (by kernel_rfl) rfl rfl (fun m ρ => ⟨_, _, rfl, rfl, rfl⟩) (fun h => by cases h) (by decide) (by decide) (by decide) rfl Try.underlying53 (fun h => by cases h) (fun h => by cases h) (fun h => by cases h)
  (fun h => by cases h)
  (fun h => by cases h) (by decide)
def T54 : TI := { agg := false, size := 1, bytes := 8, ty := .bool, zero := .cons (.lit .nilFunc) .nil, kind := 0, dflt := false, elem := 0, flds := [] }
theorem ti54 : TIok Try.prog 54 T54 := ti_mk (z := .nilFunc) (by kernel_rfl) rfl rfl (fun m ρ => ⟨_, _, rfl, rfl, rfl⟩) (fun h => by cases h) (by decide) (by decide) (by decide) rfl Try.underlying54 (fun h => by cases h) (fun h => by cases h) (fun h => by cases h)
  (fun h => by cases h)
  (fun h => by cases h) (by decide)
def T55 : TI := { agg := false, size := 1, bytes := 8, ty := .bool, zero := .cons (.lit .nilFunc) .nil, kind := 0, dflt := false, elem := 0, flds := [] }
theorem ti55 : TIok Try.prog 55 T55 := ti_mk (z := .nilFunc) (by kernel_rfl) rfl rfl (fun m ρ => ⟨_, _, rfl, rfl, rfl⟩) (fun h => by cases h) (by decide) (by decide) (by decide) rfl Try.underlying55 (fun h => by cases h) (fun h => by cases h) (fun h => by cases h)
  (fun h => by cases h)
  (fun h => by cases h) (by decide)
def T56 : TI := { agg := false, size := 1, bytes := 8, ty := .bool, zero := .cons (.lit .nilFunc) .nil, kind := 0, dflt := false, elem := 0, flds := [] }
theorem ti56 : TIok Try.prog 56 T56 := ti_mk (z := .nilFunc) (by kernel_rfl) rfl rfl (fun m ρ => ⟨_, _, rfl, rfl, rfl⟩) (fun h => by cases h) (by decide) (by decide) (by decide) rfl Try.underlying56 (fun h => by cases h) (fun h => by cases h) (fun h => by cases h)
  (fun h => by cases h)
  (fun h => by cases h) (by decide)
def T57 : TI := { agg := false, size := 1, bytes := 8, ty := .int .u64, zero := .cons (.lit (.int .u64 0)) .nil, kind := 0, dflt := true, elem := 0, flds := [] }
theorem ti57 : TIok Try.prog 57 T57 := ti_mk (z := .int .u64 0) (by kernel_rfl) rfl rfl (fun m ρ => ⟨_, _, rfl, rfl, rfl⟩) (fun _ m => rfl) (by decide) (by decide) (by decide) rfl Try.underlying57 (fun h => by cases h) (fun h => by cases h) (fun h => by cases h)
  (fun h => by cases h)
  (fun h => by cases h) (by decide)
def T58 : TI := { agg := false, size := 1, bytes := 8, ty := .bool, zero := .cons (.lit .nilFunc) .nil, kind := 0, dflt := false, elem := 0, flds := [] }
theorem ti58 : TIok Try.prog 58 T58 := ti_mk (z := .nilFunc) (by kernel_rfl) rfl rfl (fun m ρ => ⟨_, _, rfl, rfl, rfl⟩) (fun h => by cases h) (by decide) (by decide) (by decide) rfl Try.underlying58 (fun h => by cases h) (fun h => by cases h) (fun h => by cases h)
  (fun h => by cases h)
  (fun h => by cases h) (by decide)
def T59 : TI := { agg := false, size := 1, bytes := 8, ty := .bool, zero := .cons (.lit .nilFunc) .nil, kind := 0, dflt := false, elem := 0, flds := [] }
theorem ti59 : TIok Try.prog 59 T59 := ti_mk (z := .nilFunc) (by kernel_rfl) rfl rfl (fun m ρ => ⟨_, _, rfl, rfl, rfl⟩) (fun h => by cases h) (by decide) (by decide) (by decide) rfl Try.underlying59 (fun h => by cases h) (fun h => by cases h) (fun h => by cases h)
  (fun h => by cases h)
  (fun h => by cases h) (by decide)
def T60 : TI := { agg := false, size := 1, bytes := 8, ty := .bool, zero := .cons (.lit .nilFunc) .nil, kind := 0, dflt := false, elem := 0, flds := [] }
theorem ti60 : TIok Try.prog 60 T60 := ti_mk (z := .nilFunc) (by kernel_rfl) rfl rfl (fun m ρ => ⟨_, _, rfl, rfl, rfl⟩) (fun h => by cases h) (by decide) (by decide) (by decide) rfl Try.underlying60 (fun h => by cases h) (fun h => by cases h) (fun h => by cases h)
  (fun h => by cases h)
  (fun h => by cases h) (by decide)
def T61 : TI := { agg := false, size := 1, bytes := 8, ty := .bool, zero := .cons (.lit .nilFunc) .nil, kind := 0, dflt := false, elem := 0, flds := [] }
theorem ti61 : TIok Try.prog 61 T61 := ti_mk (z := .nilFunc) (by kernel_rfl) rfl rfl (fun m ρ => ⟨_, _, rfl, rfl, rfl⟩) (fun h => by cases h) (by decide) (by decide) (by decide) rfl Try.underlying61 (fun h => by cases h) (fun h => by cases h) (fun h => by cases h)
  (fun h => by cases h)
  (fun h => by cases h) (by decide)
def T62 : TI := { agg := false, size := 1, bytes := 8, ty := .bool, zero := .cons (.lit .nilFunc) .nil, kind := 0, dflt := false, elem := 0, flds := [] }
theorem ti62 : TIok Try.prog 62 T62 := ti_mk (z := .nilFunc) (by kernel_rfl) rfl rfl (fun m ρ => ⟨_, _, rfl, rfl, rfl⟩) (fun h => by cases h) (by decide) (by decide) (by decide) rfl Try.underlying62 (fun h => by cases h) (fun h => by cases h) (fun h => by cases h)
  (fun h => by cases h)
  (fun h => by cases h) (by decide)
def T63 : TI := { agg := false, size := 1, bytes := 8, ty := .bool, zero := .cons (.lit .nilFunc) .nil, kind := 0, dflt := false, elem := 0, flds := [] }
theorem ti63 : TIok Try.prog 63 T63 := ti_mk (z := .nilFunc) (by kernel_rfl) rfl rfl (fun m ρ => ⟨_, _, rfl, rfl, rfl⟩) (fun h => by cases h) (by decide) (by decide) (by decide) rfl Try.underlying63 (fun h => by cases h) (fun h => by cases h) (fun h => by cases h)
  (fun h => by cases h)
  (fun h => by cases h) (by decide)
def T64 : TI := { agg := false, size := 1, bytes := 8, ty := .bool, zero := .cons (.lit .nilFunc) .nil, kind := 0, dflt := false, elem := 0, flds := [] }
theorem ti64 : TIok Try.prog 64 T64 := ti_mk (z := .nilFunc) (by kernel_rfl) rfl rfl (fun m ρ => ⟨_, _, rfl, rfl, rfl⟩) (fun h => by cases h) (by decide) (by decide) (by decide) rfl Try.underlying64 (fun h => by cases h) (fun h => by cases h) (fun h => by cases h)
  (fun h => by cases h)
  (fun h => by cases h) (by decide)
def T65 : TI := { agg := false, size := 1, bytes := 8, ty := .bool, zero := .cons (.lit .nilFunc) .nil, kind := 0, dflt := false, elem := 0, flds := [] }
theorem ti65 : TIok Try.prog 65 T65 := ti_mk (z := .nilFunc) (by kernel_rfl) rfl rfl (fun m ρ => ⟨_, _, rfl, rfl, rfl⟩) (fun h => by cases h) (by decide) (by decide) (by decide) rfl Try.underlying65 (fun h => by cases h) (fun h => by cases h) (fun h => by cases h)
  (fun h => by cases h)
  (fun h => by cases h) (by decide)
def T66 : TI := { agg := false, size := 1, bytes := 8, ty := .bool, zero := .cons (.lit .nilFunc) .nil, kind := 0, dflt := false, elem := 0, flds := [] }
theorem ti66 : TIok Try.prog 66 T66 := ti_mk (z := .nilFunc) (by kernel_rfl) rfl rfl (fun m ρ => ⟨_, _, rfl, rfl, rfl⟩) (fun h => by cases h) (by decide) (by decide) (by decide) rfl Try.underlying66 (fun h => by cases h) (fun h => by cases h) (fun h => by cases h)
  (fun h => by cases h)
  (fun h => by cases h) (by decide)
def T67 : TI := { agg := false, size := 1, bytes := 8, ty := .bool, zero := .cons (.lit .nilFunc) .nil, kind := 0, dflt := false, elem := 0, flds := [] }
theorem ti67 : TIok Try.prog 67 T67 := ti_mk (z := .nilFunc) (by kernel_rfl) rfl rfl (fun m ρ => ⟨_, _, rfl, rfl, rfl⟩) (fun h => by cases h) (by decide) (by decide) (by decide) rfl Try.underlying67 (fun h => by cases h) (fun h => by cases h) (fun h => by cases h)
  (fun h => by cases h)
  (fun h => by cases h) (by decide)
def T68 : TI := { agg := true, size := 5, bytes := 40, ty := .bool, zero := .cons (.lit .nilFunc) (.cons (.lit .nilFunc) (.cons (.lit .nilFunc) (.cons (.lit .nilFunc) (.cons (.lit .nilFunc) .nil)))), kind := 4, dflt := false, elem := 67, flds := [(0, 67, 1), (1, 67, 1), (2, 67, 1), (3, 67, 1), (4, 67, 1)] }
theorem ti68 : TIok Try.prog 68 T68 := ti_mk (z := .agg #[.nilFunc, .nilFunc, .nilFunc, .nilFunc, .nilFunc]) (by kernel_rfl) rfl rfl (fun m ρ => ⟨_, _, rfl, rfl, ⟨_, _, rfl, rfl, ⟨_, _, rfl, rfl, ⟨_, _, rfl, rfl, ⟨_, _, rfl, rfl, rfl⟩⟩⟩⟩⟩) (fun h => by cases h) (by decide) (by decide) (by decide) rfl Try.underlying68 (fun h => by cases h) (fun h => by cases h) (fun h => by cases h)
  (fun _ => ⟨5, 1, Try.underlying68, ti_sz ti67, by decide, fun f fl h => by
    match f, h with
    | 0, h => injection h with h; exact ⟨h.symm, by decide⟩
    | 1, h => injection h with h; exact ⟨h.symm, by decide⟩
    | 2, h => injection h with h; exact ⟨h.symm, by decide⟩
    | 3, h => injection h with h; exact ⟨h.symm, by decide⟩
    | 4, h => injection h with h; exact ⟨h.symm, by decide⟩⟩)
  (fun h => by cases h) (by decide)
def T69 : TI := { agg := false, size := 1, bytes := 8, ty := .bool, zero := .cons (.lit .nilFunc) .nil, kind := 0, dflt := false, elem := 0, flds := [] }
theorem ti69 : TIok Try.prog 69 T69 := ti_mk (z := .nilFunc) (by kernel_rfl) rfl rfl (fun m ρ => ⟨_, _, rfl, rfl, rfl⟩) (fun h => by cases h) (by decide) (by decide) (by decide) rfl Try.underlying69 (fun h => by cases h) (fun h => by cases h) (fun h => by cases h)
  (fun h => by cases h)
  (fun h => by cases h) (by decide)
def T71 : TI := { agg := false, size := 1, bytes := 8, ty := .bool, zero := .cons (.lit .nilFunc) .nil, kind := 0, dflt := false, elem := 0, flds := [] }
theorem ti71 : TIok Try.prog 71 T71 := ti_mk (z := .nilFunc) (by kernel_rfl) rfl rfl (fun m ρ => ⟨_, _, rfl, rfl, rfl⟩) (fun h => by cases h) (by decide) (by decide) (by decide) rfl Try.underlying71 (fun h => by cases h) (fun h => by cases h) (fun h => by cases h)
  (fun h => by cases h)
  (fun h => by cases h) (by decide)
def T72 : TI := { agg := false, size := 1, bytes := 8, ty := .bool, zero := .cons (.lit .nilFunc) .nil, kind := 0, dflt := false, elem := 0, flds := [] }
theorem ti72 : TIok Try.prog 72 T72 := ti_mk (z := .nilFunc) (by kernel_rfl) rfl rfl (fun m ρ => ⟨_, _, rfl, rfl, rfl⟩) (fun h => by cases h) (by decide) (by decide) (by decide) rfl Try.underlying72 (fun h => by cases h) (fun h => by cases h) (fun h => by cases h)
  (fun h => by cases h)
  (fun h => by cases h) (by decide)
def T73 : TI := { agg := false, size := 1, bytes := 8, ty := .bool, zero := .cons (.lit .nilFunc) .nil, kind := 0, dflt := false, elem := 0, flds := [] }
theorem ti73 : TIok Try.prog 73 T73 := ti_mk (z := .nilFunc) (by kernel_rfl) rfl rfl (fun m ρ => ⟨_, _, rfl, rfl, rfl⟩) (fun h => by cases h) (by decide) (by decide) (by decide) rfl Try.underlying73 (fun h => by cases h) (fun h => by cases h) (fun h => by cases h)
  (fun h => by cases h)
  (fun h => by cases h) (by decide)
def T74 : TI := { agg := false, size := 1, bytes := 8, ty := .bool, zero := .cons (.lit .nilFunc) .nil, kind := 0, dflt := false, elem := 0, flds := [] }
theorem ti74 : TIok Try.prog 74 T74 := ti_mk (z := .nilFunc) (by kernel_rfl) rfl rfl (fun m ρ => ⟨_, _, rfl, rfl, rfl⟩) (fun h => by cases h) (by decide) (by decide) (by decide) rfl Try.underlying74 (fun h => by cases h) (fun h => by cases h) (fun h => by cases h)
  (fun h => by cases h)
  (fun h => by cases h) (by decide)
def T75 : TI := { agg := false, size := 1, bytes := 4, ty := .int .u32, zero := .cons (.lit (.int .u32 0)) .nil, kind := 0, dflt := true, elem := 0, flds := [] }
theorem ti75 : TIok Try.prog 75 T75 := ti_mk (z := .int .u32 0) (by kernel_rfl) rfl rfl (fun m ρ => ⟨_, _, rfl, rfl, rfl⟩) (fun _ m => rfl) (by decide) (by decide) (by decide) rfl Try.underlying75 (fun h => by cases h) (fun h => by cases h) (fun h => by cases h)
  (fun h => by cases h)
  (fun h => by cases h) (by decide)
def T76 : TI := { agg := false, size := 1, bytes := 8, ty := .bool, zero := .cons (.lit .nilFunc) .nil, kind := 0, dflt := false, elem := 0, flds := [] }
theorem ti76 : TIok Try.prog 76 T76 := ti_mk (z := .nilFunc) (by kernel_rfl) rfl rfl (fun m ρ => ⟨_, _, rfl, rfl, rfl⟩) (fun h => by cases h) (by decide) (by decide) (by decide) rfl Try.underlying76 (fun h => by cases h) (fun h => by cases h) (fun h => by cases h)
  (fun h => by cases h)
  (fun h => by cases h) (by decide)
def T77 : TI := { agg := false, size := 1, bytes := 8, ty := .int .u64, zero := .cons (.lit (.int .u64 0)) .nil, kind := 0, dflt := true, elem := 0, flds := [] }
theorem ti77 : TIok Try.prog 77 T77 := ti_mk (z := .int .u64 0) (by kernel_rfl) rfl rfl (fun m ρ => ⟨_, _, rfl, rfl, rfl⟩) (fun _ m => rfl) (by decide) (by decide) (by decide) rfl Try.underlying77 (fun h => by cases h) (fun h => by cases h) (fun h => by cases h)
  (fun h => by cases h)
  (fun h => by cases h) (by decide)
def T78 : TI := { agg := false, size := 1, bytes := 8, ty := .bool, zero := .cons (.lit .nilFunc) .nil, kind := 0, dflt := false, elem := 0, flds := [] }
theorem ti78 : TIok Try.prog 78 T78 := ti_mk (z := .nilFunc) (by kernel_rfl) rfl rfl (fun m ρ => ⟨_, _, rfl, rfl, rfl⟩) (fun h => by cases h) (by decide) (by decide) (by decide) rfl Try.underlying78 (fun h => by cases h) (fun h => by cases h) (fun h => by cases h)
  (fun h => by cases h)
  (fun h => by cases h) (by decide)
def T79 : TI := { agg := false, size := 1, bytes := 8, ty := .int .i64, zero := .cons (.lit (.int .i64 0)) .nil, kind := 0, dflt := true, elem := 0, flds := [] }
theorem ti79 : TIok Try.prog 79 T79 := ti_mk (z := .int .i64 0) (by kernel_rfl) rfl rfl (fun m ρ => ⟨_, _, rfl, rfl, rfl⟩) (fun _ m => rfl) (by decide) (by decide) (by decide) rfl Try.underlying79 (fun h => by cases h) (fun h => by cases h) (fun h => by cases h)
  (fun h => by cases h)
  (fun h => by cases h) (by decide)
def T81 : TI := { agg := false, size := 1, bytes := 8, ty := .bool, zero := .cons (.lit .nilFunc) .nil, kind := 0, dflt := false, elem := 0, flds := [] }
theorem ti81 : TIok Try.prog 81 T81 := ti_mk (z := .nilFunc) (by kernel_rfl) rfl rfl (fun m ρ => ⟨_, _, rfl, rfl, rfl⟩) (fun h => by cases h) (by decide) (by decide) (by decide) rfl Try.underlying81 (fun h => by cases h) (fun h => by cases h) (fun h => by cases h)
  (fun h => by cases h)
  (fun h => by cases h) (by decide)
def T82 : TI := { agg := false, size := 1, bytes := 8, ty := .bool, zero := .cons (.lit .nilFunc) .nil, kind := 0, dflt := false, elem := 0, flds := [] }
theorem ti82 : TIok Try.prog 82 T82 := ti_mk (z := .nilFunc) (by kernel_rfl) rfl rfl (fun m ρ => ⟨_, _, rfl, rfl, rfl⟩) (fun h => by cases h) (by decide) (by decide) (by decide) rfl Try.underlying82 (fun h => by cases h) (fun h => by cases h) (fun h => by cases h)
  (fun h => by cases h)
  (fun h => by cases h) (by decide)
def T83 : TI := { agg := false, size := 1, bytes := 8, ty := .bool, zero := .cons (.lit .nilFunc) .nil, kind := 0, dflt := false, elem := 0, flds := [] }
theorem ti83 : TIok Try.prog 83 T83 := ti_mk (z := .nilFunc) (by kernel_rfl) rfl rfl (fun m ρ => ⟨_, _, rfl, rfl, rfl⟩) (fun h => by cases h) (by decide) (by decide) (by decide) rfl Try.underlying83 (fun h => by cases h) (fun h => by cases h) (fun h => by cases h)
  (fun h => by cases h)
  (fun h => by cases h) (by decide)
def T85 : TI := { agg := false, size := 1, bytes := 8, ty := .bool, zero := .cons (.lit .nilFunc) .nil, kind := 0, dflt := false, elem := 0, flds := [] }
theorem ti85 : TIok Try.prog 85 T85 := ti_mk (z := .nilFunc) (by kernel_rfl) rfl rfl (fun m ρ => ⟨_, _, rfl, rfl, rfl⟩) (fun h => by cases h) (by decide) (by decide) (by decide) rfl Try.underlying85 (fun h => by cases h) (fun h => by cases h) (fun h => by cases h)
  (fun h => by cases h)
  (fun h => by cases h) (by decide)
def T86 : TI := { agg := false, size := 1, bytes := 8, ty := .bool, zero := .cons (.lit .nilFunc) .nil, kind := 0, dflt := false, elem := 0, flds := [] }
theorem ti86 : TIok Try.prog 86 T86 := ti_mk (z := .nilFunc) (by kernel_rfl) rfl rfl (fun m ρ => ⟨_, _, rfl, rfl, rfl⟩) (fun h => by cases h) (by decide) (by decide) (by decide) rfl Try.underlying86 (fun h => by cases h) (fun h => by cases h) (fun h => by cases h)
  (fun h => by cases h)
  (fun h => by cases h) (by decide)
def T87 : TI := { agg := false, size := 1, bytes := 8, ty := .bool, zero := .cons (.lit .nilFunc) .nil, kind := 0, dflt := false, elem := 0, flds := [] }
theorem ti87 : TIok Try.prog 87 T87 := ti_mk (z := .nilFunc) (by kernel_rfl) rfl rfl (fun m ρ => ⟨_, _, rfl, rfl, rfl⟩) (fun h => by cases h) (by decide) (by decide) (by decide) rfl Try.underlying87 (fun h => by cases h) (fun h => by cases h) (fun h => by cases h)
  (fun h => by cases h)
  (fun h => by cases h) (by decide)
def T88 : TI := { agg := false, size := 1, bytes := 8, ty := .bool, zero := .cons (.lit .nilFunc) .nil, kind := 0, dflt := false, elem := 0, flds := [] }
theorem ti88 : TIok Try.prog 88 T88 := ti_mk (z := .nilFunc) (by kernel_rfl) rfl rfl (fun m ρ => ⟨_, _, rfl, rfl, rfl⟩) (fun h => by cases h) (by decide) (by decide) (by decide) rfl Try.underlying88 (fun h => by cases h) (fun h => by cases h) (fun h => by cases h)
  (fun h => by cases h)
  (fun h => by cases h) (by decide)
def T89 : TI := { agg := false, size := 1, bytes := 8, ty := .bool, zero := .cons (.lit .nilFunc) .nil, kind := 0, dflt := false, elem := 0, flds := [] }
theorem ti89 : TIok Try.prog 89 T89 := ti_mk (z := .nilFunc) (by kernel_rfl) rfl rfl (fun m ρ => ⟨_, _, rfl, rfl, rfl⟩) (fun h => by cases h) (by decide) (by decide) (by decide) rfl Try.underlying89 (fun h => by cases h) (fun h => by cases h) (fun h => by cases h)
  (fun h => by cases h)
  (fun h => by cases h) (by decide)
def T90 : TI := { agg := false, size := 1, bytes := 8, ty := .bool, zero := .cons (.lit .nilFunc) .nil, kind := 0, dflt := false, elem := 0, flds := [] }
theorem ti90 : TIok Try.prog 90 T90 := ti_mk (z := .nilFunc) (by kernel_rfl) rfl rfl (fun m ρ => ⟨_, _, rfl, rfl, rfl⟩) (fun h => by cases h) (by decide) (by decide) (by decide) rfl Try.underlying90 (fun h => by cases h) (fun h => by cases h) (fun h => by cases h)
  (fun h => by cases h)
  (fun h => by cases h) (by decide)
def T91 : TI := { agg := false, size := 1, bytes := 8, ty := .int .u64, zero := .cons (.lit (.int .u64 0)) .nil, kind := 0, dflt := true, elem := 0, flds := [] }
theorem ti91 : TIok Try.prog 91 T91 := ti_mk (z := .int .u64 0) (by kernel_rfl) rfl rfl (fun m ρ => ⟨_, _, rfl, rfl, rfl⟩) (fun _ m => rfl) (by decide) (by decide) (by decide) rfl Try.underlying91 (fun h => by cases h) (fun h => by cases h) (fun h => by cases h)
  (fun h => by cases h)
  (fun h => by cases h) (by decide)
def T92 : TI := { agg := false, size := 1, bytes := 8, ty := .bool, zero := .cons (.lit .nilFunc) .nil, kind := 0, dflt := false, elem := 0, flds := [] }
theorem ti92 : TIok Try.prog 92 T92 := ti_mk (z := .nilFunc) (by kernel_rfl) rfl rfl (fun m ρ => ⟨_, _, rfl, rfl, rfl⟩) (fun h => by cases h) (by decide) (by decide) (by decide) rfl Try.underlying92 (fun h => by cases h) (fun h => by cases h) (fun h => by cases h)
  (fun h => by cases h)
  (fun h => by cases h) (by decide)
def T93 : TI := { agg := false, size := 1, bytes := 8, ty := .bool, zero := .cons (.lit .nilFunc) .nil, kind := 0, dflt := false, elem := 0, flds := [] }
theorem ti93 : TIok Try.prog 93 T93 := ti_mk (z := .nilFunc) (by kernel_rfl) rfl rfl (fun m ρ => ⟨_, _, rfl, rfl, rfl⟩) (fun h => by cases h) (by decide) (by decide) (by decide) rfl Try.underlying93 (fun h => by cases h) (fun h => by cases h) (fun h => by cases h)
  (fun h => by cases h)
  (fun h => by cases h) (by decide)
def T94 : TI := { agg := false, size := 1, bytes := 8, ty := .bool, zero := .cons (.lit .nilFunc) .nil, kind := 0, dflt := false, elem := 0, flds := [] }
theorem ti94 : TIok Try.prog 94 T94 := ti_mk (z := .nilFunc) (by kernel_rfl) rfl rfl (fun m ρ => ⟨_, _, rfl, rfl, rfl⟩) (fun h => by cases h) (by decide) (by decide) (by decide) rfl Try.underlying94 (fun h => by cases h) (fun h => by cases h) (fun h => by cases h)
  (fun h => by cases h)
  (fun h => by cases h) (by decide)
def T95 : TI := { agg := false, size := 1, bytes := 8, ty := .bool, zero := .cons (.lit (.pointer none)) .nil, kind := 0, dflt := false, elem := 0, flds := [] }
theorem ti95 : TIok Try.prog 95 T95 := ti_mk (z := .pointer none) (by kernel_rfl) rfl rfl (fun m ρ => ⟨_, _, rfl, rfl, rfl⟩) (fun h => by cases h) (by decide) (by decide) (by decide) rfl Try.underlying95 (fun h => by cases h) (fun h => by cases h) (fun h => by cases h)
  (fun h => by cases h)
  (fun h => by cases h) (by decide)
def T96 : TI := { agg := false, size := 1, bytes := 8, ty := .bool, zero := .cons (.lit .nilFunc) .nil, kind := 0, dflt := false, elem := 0, flds := [] }
theorem ti96 : TIok Try.prog 96 T96 := ti_mk (z := .nilFunc) (by kernel_rfl) rfl rfl (fun m ρ => ⟨_, _, rfl, rfl, rfl⟩) (fun h => by cases h) (by decide) (by decide) (by decide) rfl Try.underlying96 (fun h => by cases h) (fun h => by cases h) (fun h => by cases h)
  (fun h => by cases h)
  (fun h => by cases h) (by decide)
def T97 : TI := { agg := false, size := 1, bytes := 8, ty := .bool, zero := .cons (.lit .nilFunc) .nil, kind := 0, dflt := false, elem := 0, flds := [] }
theorem ti97 : TIok Try.prog 97 T97 := ti_mk (z := .nilFunc) (by kernel_rfl) rfl rfl (fun m ρ => ⟨_, _, rfl, rfl, rfl⟩) (fun h => by cases h) (by decide) (by decide) (by decide) rfl Try.underlying97 (fun h => by cases h) (fun h => by cases h) (fun h => by cases h)
  (fun h => by cases h)
  (fun h => by cases h) (by decide)
def T98 : TI := { agg := false, size := 1, bytes := 8, ty := .bool, zero := .cons (.lit .nilFunc) .nil, kind := 0, dflt := false, elem := 0, flds := [] }
theorem ti98 : TIok Try.prog 98 T98 := ti_mk (z := .nilFunc) (by kernel_rfl) rfl rfl (fun m ρ => ⟨_, _, rfl, rfl, rfl⟩) (fun h => by cases h) (by decide) (by decide) (by decide) rfl Try.underlying98 (fun h => by cases h) (fun h => by cases h) (fun h => by cases h)
  (fun h => by cases h)
  (fun h => by cases h) (by decide)
def T99 : TI := { agg := false, size := 1, bytes := 8, ty := .bool, zero := .cons (.lit (.pointer none)) .nil, kind := 0, dflt := false, elem := 0, flds := [] }
theorem ti99 : TIok Try.prog 99 T99 := ti_mk (z := .pointer none) (by kernel_rfl) rfl rfl (fun m ρ => ⟨_, _, rfl, rfl, rfl⟩) (fun h => by cases h) (by decide) (by decide) (by decide) rfl Try.underlying99 (fun h => by cases h) (fun h => by cases h) (fun h => by cases h)
  (fun h => by cases h)
  (fun h => by cases h) (by decide)
def T100 : TI := { agg := false, size := 1, bytes := 8, ty := .bool, zero := .cons (.lit .nilFunc) .nil, kind := 0, dflt := false, elem := 0, flds := [] }
theorem ti100 : TIok Try.prog 100 T100 := ti_mk (z := .nilFunc) (by kernel_rfl) rfl rfl (fun m ρ => ⟨_, _, rfl, rfl, rfl⟩) (fun h => by cases h) (by decide) (by decide) (by decide) rfl Try.underlying100 (fun h => by cases h) (fun h => by cases h) (fun h => by cases h)
  (fun h => by cases h)
  (fun h => by cases h) (by decide)
def T101 : TI := { agg := false, size := 1, bytes := 8, ty := .bool, zero := .cons (.lit .nilFunc) .nil, kind := 0, dflt := false, elem := 0, flds := [] }
theorem ti101 : TIok Try.prog 101 T101 := ti_mk (z := .nilFunc) (by kernel_rfl) rfl rfl (fun m ρ => ⟨_, _, rfl, rfl, rfl⟩) (fun h => by cases h) (by decide) (by decide) (by decide) rfl Try.underlying101 (fun h => by cases h) (fun h => by cases h) (fun h => by cases h)
  (fun h => by cases h)
  (fun h => by cases h) (by decide)
def T102 : TI := { agg := false, size := 1, bytes := 8, ty := .bool, zero := .cons (.lit .nilFunc) .nil, kind := 0, dflt := false, elem := 0, flds := [] }
theorem ti102 : TIok Try.prog 102 T102 := ti_mk (z := .nilFunc) (by kernel_rfl) rfl rfl (fun m ρ => ⟨_, _, rfl, rfl, rfl⟩) (fun h => by cases h) (by decide) (by decide) (by decide) rfl Try.underlying102 (fun h => by cases h) (fun h => by cases h) (fun h => by cases h)
  (fun h => by cases h)
  (fun h => by cases h) (by decide)
def T103 : TI := { agg := true, size := 4, bytes := 40, ty := .bool, zero := .cons (.lit (.pointer none)) (.cons (.lit (.pointer none)) (.cons (.lit (.pointer none)) (.cons (.lit (.string ⟨#[]⟩)) .nil))), kind := 5, dflt := false, elem := 0, flds := [(0, 17, 1), (1, 17, 1), (2, 17, 1), (3, 9, 1)] }
theorem ti103 : TIok Try.prog 103 T103 := ti_mk (z := .agg #[.pointer none, .pointer none, .pointer none, .string ⟨#[]⟩]) (by kernel_rfl) rfl rfl (fun m ρ => ⟨_, _, rfl, rfl, ⟨_, _, rfl, rfl, ⟨_, _, rfl, rfl, ⟨_, _, rfl, rfl, rfl⟩⟩⟩⟩) (fun h => by cases h) (by decide) (by decide) (by decide) rfl Try.underlying103 (fun h => by cases h) (fun h => by cases h) (fun h => by cases h)
  (fun h => by cases h)
  (fun _ => ⟨_, Try.underlying103, rfl, fun f hf => by
    simp only [T103, List.mem_cons, List.not_mem_nil, or_false] at hf
    rcases hf with rfl | rfl | rfl | rfl
    · exact ⟨ti_sz ti17, by decide⟩
    · exact ⟨ti_sz ti17, by decide⟩
    · exact ⟨ti_sz ti17, by decide⟩
    · exact ⟨ti_sz ti9, by decide⟩⟩) (by decide)
def T104 : TI := { agg := true, size := 4, bytes := 40, ty := .bool, zero := .cons (.lit (.pointer none)) (.cons (.lit (.pointer none)) (.cons (.lit (.pointer none)) (.cons (.lit (.string ⟨#[]⟩)) .nil))), kind := 5, dflt := false, elem := 0, flds := [(0, 17, 1), (1, 17, 1), (2, 17, 1), (3, 9, 1)] }
theorem ti104 : TIok Try.prog 104 T104 := ti_mk (z := .agg #[.pointer none, .pointer none, .pointer none, .string ⟨#[]⟩]) (by kernel_rfl) rfl rfl (fun m ρ => ⟨_, _, rfl, rfl, ⟨_, _, rfl, rfl, ⟨_, _, rfl, rfl, ⟨_, _, rfl, rfl, rfl⟩⟩⟩⟩) (fun h => by cases h) (by decide) (by decide) (by decide) rfl Try.underlying104 (fun h => by cases h) (fun h => by cases h) (fun h => by cases h)
  (fun h => by cases h)
  (fun _ => ⟨_, Try.underlying104, rfl, fun f hf => by
    simp only [T104, List.mem_cons, List.not_mem_nil, or_false] at hf
    rcases hf with rfl | rfl | rfl | rfl
    · exact ⟨ti_sz ti17, by decide⟩
    · exact ⟨ti_sz ti17, by decide⟩
    · exact ⟨ti_sz ti17, by decide⟩
    · exact ⟨ti_sz ti9, by decide⟩⟩) (by decide)
def T108 : TI := { agg := false, size := 1, bytes := 8, ty := .bool, zero := .cons (.lit .nilFunc) .nil, kind := 0, dflt := false, elem := 0, flds := [] }
theorem ti108 : TIok Try.prog 108 T108 := ti_mk (z := .nilFunc) (by kernel_rfl) rfl rfl (fun m ρ => ⟨_, _, rfl, rfl, rfl⟩) (fun h => by cases h) (by decide) (by decide) (by decide) rfl Try.underlying108 (fun h => by cases h) (fun h => by cases h) (fun h => by cases h)
  (fun h => by cases h)
  (fun h => by cases h) (by decide)
def T109 : TI := { agg := false, size := 1, bytes := 1, ty := .int .u8, zero := .cons (.lit (.int .u8 0)) .nil, kind := 0, dflt := true, elem := 0, flds := [] }
theorem ti109 : TIok Try.prog 109 T109 := ti_mk (z := .int .u8 0) (by kernel_rfl) rfl rfl (fun m ρ => ⟨_, _, rfl, rfl, rfl⟩) (fun _ m => rfl) (by decide) (by decide) (by decide) rfl Try.underlying109 (fun h => by cases h) (fun h => by cases h) (fun h => by cases h)
  (fun h => by cases h)
  (fun h => by cases h) (by decide)
def T110 : TI := { agg := false, size := 1, bytes := 1, ty := .int .u8, zero := .cons (.lit (.int .u8 0)) .nil, kind := 0, dflt := true, elem := 0, flds := [] }
theorem ti110 : TIok Try.prog 110 T110 := ti_mk (z := .int .u8 0) (by kernel_rfl) rfl rfl (fun m ρ => ⟨_, _, rfl, rfl, rfl⟩) (fun _ m => rfl) (by decide) (by decide) (by decide) rfl Try.underlying110 (fun h => by cases h) (fun h => by cases h) (fun h => by cases h)
  (fun h => by cases h)
  (fun h => by cases h) (by decide)
def T111 : TI := { agg := false, size := 1, bytes := 8, ty := .bool, zero := .cons (.lit .nilFunc) .nil, kind := 0, dflt := false, elem := 0, flds := [] }
theorem ti111 : TIok Try.prog 111 T111 := ti_mk (z := .nilFunc) (by kernel_rfl) rfl rfl (fun m ρ => ⟨_, _, rfl, rfl, rfl⟩) (fun h => by cases h) (by decide) (by decide) (by decide) rfl Try.underlying111 (fun h => by cases h) (fun h => by cases h) (fun h => by cases h)
  (fun h => by cases h)
  (fun h => by cases h) (by decide)
def T112 : TI := { agg := false, size := 1, bytes := 8, ty := .bool, zero := .cons (.lit (.pointer none)) .nil, kind := 0, dflt := false, elem := 0, flds := [] }
theorem ti112 : TIok Try.prog 112 T112 := ti_mk (z := .pointer none) (by kernel_rfl) rfl rfl (fun m ρ => ⟨_, _, rfl, rfl, rfl⟩) (fun h => by cases h) (by decide) (by decide) (by decide) rfl Try.underlying112 (fun h => by cases h) (fun h => by cases h) (fun h => by cases h)
  (fun h => by cases h)
  (fun h => by cases h) (by decide)
def T113 : TI := { agg := false, size := 1, bytes := 4, ty := .int .i32, zero := .cons (.lit (.int .i32 0)) .nil, kind := 0, dflt := true, elem := 0, flds := [] }
theorem ti113 : TIok Try.prog 113 T113 := ti_mk (z := .int .i32 0) (by kernel_rfl) rfl rfl (fun m ρ => ⟨_, _, rfl, rfl, rfl⟩) (fun _ m => rfl) (by decide) (by decide) (by decide) rfl Try.underlying113 (fun h => by cases h) (fun h => by cases h) (fun h => by cases h)
  (fun h => by cases h)
  (fun h => by cases h) (by decide)
def T114 : TI := { agg := false, size := 1, bytes := 4, ty := .int .i32, zero := .cons (.lit (.int .i32 0)) .nil, kind := 0, dflt := true, elem := 0, flds := [] }
theorem ti114 : TIok Try.prog 114 T114 := ti_mk (z := .int .i32 0) (by kernel_rfl) rfl rfl (fun m ρ => ⟨_, _, rfl, rfl, rfl⟩) (fun _ m => rfl) (by decide) (by decide) (by decide) rfl Try.underlying114 (fun h => by cases h) (fun h => by cases h) (fun h => by cases h)
  (fun h => by cases h)
  (fun h => by cases h) (by decide)
def T115 : TI := { agg := true, size := 11, bytes := 48, ty := .bool, zero := .cons (.lit (.int .u64 0)) (.cons (.lit (.int .u64 0)) (.cons (.lit (.int .u32 0)) (.cons (.lit (.int .u8 0)) (.cons (.lit (.int .u8 0)) (.cons (.lit (.int .u8 0)) (.cons (.lit (.int .u8 0)) (.cons (.lit .nilFunc) (.cons (.lit (.pointer none)) (.cons (.lit (.int .i32 0)) (.cons (.lit (.int .i32 0)) .nil)))))))))), kind := 5, dflt := false, elem := 0, flds := [(0, 12, 1), (1, 12, 1), (2, 75, 1), (3, 109, 1), (4, 5, 1), (5, 5, 1), (6, 110, 1), (7, 111, 1), (8, 112, 1), (9, 113, 1), (10, 114, 1)] }
theorem ti115 : TIok Try.prog 115 T115 := ti_mk (z := .agg #[.int .u64 0, .int .u64 0, .int .u32 0, .int .u8 0, .int .u8 0, .int .u8 0, .int .u8 0, .nilFunc, .pointer none, .int .i32 0, .int .i32 0]) (by kernel_rfl) rfl rfl (fun m ρ => ⟨_, _, rfl, rfl, ⟨_, _, rfl, rfl, ⟨_, _, rfl, rfl, ⟨_, _, rfl, rfl, ⟨_, _, rfl, rfl, ⟨_, _, rfl, rfl, ⟨_, _, rfl, rfl, ⟨_, _, rfl, rfl, ⟨_, _, rfl, rfl, ⟨_, _, rfl, rfl, ⟨_, _, rfl, rfl, rfl⟩⟩⟩⟩⟩⟩⟩⟩⟩⟩⟩) (fun h => by cases h) (by decide) (by decide) (by decide) rfl Try.underlying115 (fun h => by cases h) (fun h => by cases h) (fun h => by cases h)
  (fun h => by cases h)
  (fun _ => ⟨_, Try.underlying115, rfl, fun f hf => by
    simp only [T115, List.mem_cons, List.not_mem_nil, or_false] at hf
    rcases hf with rfl | rfl | rfl | rfl | rfl | rfl | rfl | rfl | rfl | rfl | rfl
    · exact ⟨ti_sz ti12, by decide⟩
    · exact ⟨ti_sz ti12, by decide⟩
    · exact ⟨ti_sz ti75, by decide⟩
    · exact ⟨ti_sz ti109, by decide⟩
    · exact ⟨ti_sz ti5, by decide⟩
    · exact ⟨ti_sz ti5, by decide⟩
    · exact ⟨ti_sz ti110, by decide⟩
    · exact ⟨ti_sz ti111, by decide⟩
    · exact ⟨ti_sz ti112, by decide⟩
    · exact ⟨ti_sz ti113, by decide⟩
    · exact ⟨ti_sz ti114, by decide⟩⟩) (by decide)
def T116 : TI := { agg := true, size := 11, bytes := 48, ty := .bool, zero := .cons (.lit (.int .u64 0)) (.cons (.lit (.int .u64 0)) (.cons (.lit (.int .u32 0)) (.cons (.lit (.int .u8 0)) (.cons (.lit (.int .u8 0)) (.cons (.lit (.int .u8 0)) (.cons (.lit (.int .u8 0)) (.cons (.lit .nilFunc) (.cons (.lit (.pointer none)) (.cons (.lit (.int .i32 0)) (.cons (.lit (.int .i32 0)) .nil)))))))))), kind := 5, dflt := false, elem := 0, flds := [(0, 12, 1), (1, 12, 1), (2, 75, 1), (3, 109, 1), (4, 5, 1), (5, 5, 1), (6, 110, 1), (7, 111, 1), (8, 112, 1), (9, 113, 1), (10, 114, 1)] }
theorem ti116 : TIok Try.prog 116 T116 := ti_mk (z := .agg #[.int .u64 0, .int .u64 0, .int .u32 0, .int .u8 0, .int .u8 0, .int .u8 0, .int .u8 0, .nilFunc, .pointer none, .int .i32 0, .int .i32 0]) (by kernel_rfl) rfl rfl (fun m ρ => ⟨_, _, rfl, rfl, ⟨_, _, rfl, rfl, ⟨_, _, rfl, rfl, ⟨_, _, rfl, rfl, ⟨_, _, rfl, rfl, ⟨_, _, rfl, rfl, ⟨_, _, rfl, rfl, ⟨_, _, rfl, rfl, ⟨_, _, rfl, rfl, ⟨_, _, rfl, rfl, ⟨_, _, rfl, rfl, rfl⟩⟩⟩⟩⟩⟩⟩⟩⟩⟩⟩) (fun h => by cases h) (by decide) (by decide) (by decide) rfl Try.underlying116 (fun h => by cases h) (fun h => by cases h) (fun h => by cases h)
  (fun h => by cases h)
  (fun _ => ⟨_, Try.underlying116, rfl, fun f hf => by
    simp only [T116, List.mem_cons, List.not_mem_nil, or_false] at hf
    rcases hf with rfl | rfl | rfl | rfl | rfl | rfl | rfl | rfl | rfl | rfl | rfl
    · exact ⟨ti_sz ti12, by decide⟩
    · exact ⟨ti_sz ti12, by decide⟩
    · exact ⟨ti_sz ti75, by decide⟩
    · exact ⟨ti_sz ti109, by decide⟩
    · exact ⟨ti_sz ti5, by decide⟩
    · exact ⟨ti_sz ti5, by decide⟩
    · exact ⟨ti_sz ti110, by decide⟩
    · exact ⟨ti_sz ti111, by decide⟩
    · exact ⟨ti_sz ti112, by decide⟩
    · exact ⟨ti_sz ti113, by decide⟩
    · exact ⟨ti_sz ti114, by decide⟩⟩) (by decide)
def tys : List (Nat × TI) := [(1, T1), (2, T2), (3, T3), (4, T4), (5, T5), (6, T6), (7, T7), (8, T8), (9, T9), (10, T10), (11, T11), (12, T12), (13, T13), (14, T14), (15, T15), (16, T16), (17, T17), (18, T18), (19, T19), (21, T21), (22, T22), (23, T23), (24, T24), (25, T25), (26, T26), (28, T28), (29, T29), (30, T30), (31, T31), (33, T33), (34, T34), (35, T35), (36, T36), (38, T38), (39, T39), (40, T40), (41, T41), (42, T42), (43, T43), (44, T44), (45, T45), (46, T46), (47, T47), (48, T48), (49, T49), (50, T50), (51, T51), (52, T52), (53, T53), (54, T54), (55, T55), (56, T56), (57, T57), (58, T58), (59, T59), (60, T60), (61, T61), (62, T62), (63, T63), (64, T64), (65, T65), (66, T66), (67, T67), (68, T68), (69, T69), (71, T71), (72, T72), (73, T73), (74, T74), (75, T75), (76, T76), (77, T77), (78, T78), (79, T79), (81, T81), (82, T82), (83, T83), (85, T85), (86, T86), (87, T87), (88, T88), (89, T89), (90, T90), (91, T91), (92, T92), (93, T93), (94, T94), (95, T95), (96, T96), (97, T97), (98, T98), (99, T99), (100, T100), (101, T101), (102, T102), (103, T103), (104, T104), (108, T108), (109, T109), (110, T110), (111, T111), (112, T112), (113, T113), (114, T114), (115, T115), (116, T116)]
theorem find_cons {α : Type} {i j : Nat} {v w : α} {l : List (Nat × α)} (h : find ((j, v) :: l) i = some w) : (i = j ∧ w = v) ∨ find l i = some w := by
  simp only [find] at h
  split at h
  · rename_i e; exact .inl ⟨(Nat.eq_of_beq_eq_true e).symm, by injection h with h; exact h.symm⟩
  · exact .inr h
theorem tys_ok : ∀ t T, find tys t = some T → TIok Try.prog t T := by
  intro t T h
  unfold tys at h
  rcases find_cons h with ⟨rfl, rfl⟩ | h
  · exact ti1
  rcases find_cons h with ⟨rfl, rfl⟩ | h
  · exact ti2
  rcases find_cons h with ⟨rfl, rfl⟩ | h
  · exact ti3
  rcases find_cons h with ⟨rfl, rfl⟩ | h
  · exact ti4
  rcases find_cons h with ⟨rfl, rfl⟩ | h
  · exact ti5
  rcases find_cons h with ⟨rfl, rfl⟩ | h
  · exact ti6
  rcases find_cons h with ⟨rfl, rfl⟩ | h
  · exact ti7
  rcases find_cons h with ⟨rfl, rfl⟩ | h
  · exact ti8
  rcases find_cons h with ⟨rfl, rfl⟩ | h
  · exact ti9
  rcases find_cons h with ⟨rfl, rfl⟩ | h
  · exact ti10
  rcases find_cons h with ⟨rfl, rfl⟩ | h
  · exact ti11
  rcases find_cons h with ⟨rfl, rfl⟩ | h
  · exact ti12
  rcases find_cons h with ⟨rfl, rfl⟩ | h
  · exact ti13
  rcases find_cons h with ⟨rfl, rfl⟩ | h
  · exact ti14
  rcases find_cons h with ⟨rfl, rfl⟩ | h
  · exact ti15
  rcases find_cons h with ⟨rfl, rfl⟩ | h
  · exact ti16
  rcases find_cons h with ⟨rfl, rfl⟩ | h
  · exact ti17
  rcases find_cons h with ⟨rfl, rfl⟩ | h
  · exact ti18
  rcases find_cons h with ⟨rfl, rfl⟩ | h
  · exact ti19
  rcases find_cons h with ⟨rfl, rfl⟩ | h
  · exact ti21
  rcases find_cons h with ⟨rfl, rfl⟩ | h
  · exact ti22
  rcases find_cons h with ⟨rfl, rfl⟩ | h
  · exact ti23
  rcases find_cons h with ⟨rfl, rfl⟩ | h
  · exact ti24
  rcases find_cons h with ⟨rfl, rfl⟩ | h
  · exact ti25
  rcases find_cons h with ⟨rfl, rfl⟩ | h
  · exact ti26
  rcases find_cons h with ⟨rfl, rfl⟩ | h
  · exact ti28
  rcases find_cons h with ⟨rfl, rfl⟩ | h
  · exact ti29
  rcases find_cons h with ⟨rfl, rfl⟩ | h
  · exact ti30
  rcases find_cons h with ⟨rfl, rfl⟩ | h
  · exact ti31
  rcases find_cons h with ⟨rfl, rfl⟩ | h
  · exact ti33
  rcases find_cons h with ⟨rfl, rfl⟩ | h
  · exact ti34
  rcases find_cons h with ⟨rfl, rfl⟩ | h
  · exact ti35
  rcases find_cons h with ⟨rfl, rfl⟩ | h
  · exact ti36
  rcases find_cons h with ⟨rfl, rfl⟩ | h
  · exact ti38
  rcases find_cons h with ⟨rfl, rfl⟩ | h
  · exact ti39
  rcases find_cons h with ⟨rfl, rfl⟩ | h
  · exact ti40
  rcases find_cons h with ⟨rfl, rfl⟩ | h
  · exact ti41
  rcases find_cons h with ⟨rfl, rfl⟩ | h
  · exact ti42
  rcases find_cons h with ⟨rfl, rfl⟩ | h
  · exact ti43
  rcases find_cons h with ⟨rfl, rfl⟩ | h
  · exact ti44
  rcases find_cons h with ⟨rfl, rfl⟩ | h
  · exact ti45
  rcases find_cons h with ⟨rfl, rfl⟩ | h
  · exact ti46
  rcases find_cons h with ⟨rfl, rfl⟩ | h
  · exact ti47
  rcases find_cons h with ⟨rfl, rfl⟩ | h
  · exact ti48
  rcases find_cons h with ⟨rfl, rfl⟩ | h
  · exact ti49
  rcases find_cons h with ⟨rfl, rfl⟩ | h
  · exact ti50
  rcases find_cons h with ⟨rfl, rfl⟩ | h
  · exact ti51
  rcases find_cons h with ⟨rfl, rfl⟩ | h
  · exact ti52
  rcases find_cons h with ⟨rfl, rfl⟩ | h
  · exact ti53
  rcases find_cons h with ⟨rfl, rfl⟩ | h
  · exact ti54
  rcases find_cons h with ⟨rfl, rfl⟩ | h
  · exact ti55
  rcases find_cons h with ⟨rfl, rfl⟩ | h
  · exact ti56
  rcases find_cons h with ⟨rfl, rfl⟩ | h
  · exact ti57
  rcases find_cons h with ⟨rfl, rfl⟩ | h
  · exact ti58
  rcases find_cons h with ⟨rfl, rfl⟩ | h
  · exact ti59
  rcases find_cons h with ⟨rfl, rfl⟩ | h
  · exact ti60
  rcases find_cons h with ⟨rfl, rfl⟩ | h
  · exact ti61
  rcases find_cons h with ⟨rfl, rfl⟩ | h
  · exact ti62
  rcases find_cons h with ⟨rfl, rfl⟩ | h
  · exact ti63
  rcases find_cons h with ⟨rfl, rfl⟩ | h
  · exact ti64
  rcases find_cons h with ⟨rfl, rfl⟩ | h
  · exact ti65
  rcases find_cons h with ⟨rfl, rfl⟩ | h
  · exact ti66
  rcases find_cons h with ⟨rfl, rfl⟩ | h
  · exact ti67
  rcases find_cons h with ⟨rfl, rfl⟩ | h
  · exact ti68
  rcases find_cons h with ⟨rfl, rfl⟩ | h
  · exact ti69
  rcases find_cons h with ⟨rfl, rfl⟩ | h
  · exact ti71
  rcases find_cons h with ⟨rfl, rfl⟩ | h
  · exact ti72
  rcases find_cons h with ⟨rfl, rfl⟩ | h
  · exact ti73
  rcases find_cons h with ⟨rfl, rfl⟩ | h
  · exact ti74
  rcases find_cons h with ⟨rfl, rfl⟩ | h
  · exact ti75
  rcases find_cons h with ⟨rfl, rfl⟩ | h
  · exact ti76
  rcases find_cons h with ⟨rfl, rfl⟩ | h
  · exact ti77
  rcases find_cons h with ⟨rfl, rfl⟩ | h
  · exact ti78
  rcases find_cons h with ⟨rfl, rfl⟩ | h
  · exact ti79
  rcases find_cons h with ⟨rfl, rfl⟩ | h
  · exact ti81
  rcases find_cons h with ⟨rfl, rfl⟩ | h
  · exact ti82
  rcases find_cons h with ⟨rfl, rfl⟩ | h
  · exact ti83
  rcases find_cons h with ⟨rfl, rfl⟩ | h
  · exact ti85
  rcases find_cons h with ⟨rfl, rfl⟩ | h
  · exact ti86
  rcases find_cons h with ⟨rfl, rfl⟩ | h
  · exact ti87
  rcases find_cons h with ⟨rfl, rfl⟩ | h
  · exact ti88
  rcases find_cons h with ⟨rfl, rfl⟩ | h
  · exact ti89
  rcases find_cons h with ⟨rfl, rfl⟩ | h
  · exact ti90
  rcases find_cons h with ⟨rfl, rfl⟩ | h
  · exact ti91
  rcases find_cons h with ⟨rfl, rfl⟩ | h
  · exact ti92
  rcases find_cons h with ⟨rfl, rfl⟩ | h
  · exact ti93
  rcases find_cons h with ⟨rfl, rfl⟩ | h
  · exact ti94
  rcases find_cons h with ⟨rfl, rfl⟩ | h
  · exact ti95
  rcases find_cons h with ⟨rfl, rfl⟩ | h
  · exact ti96
  rcases find_cons h with ⟨rfl, rfl⟩ | h
  · exact ti97
  rcases find_cons h with ⟨rfl, rfl⟩ | h
  · exact ti98
  rcases find_cons h with ⟨rfl, rfl⟩ | h
  · exact ti99
  rcases find_cons h with ⟨rfl, rfl⟩ | h
  · exact ti100
  rcases find_cons h with ⟨rfl, rfl⟩ | h
  · exact ti101
  rcases find_cons h with ⟨rfl, rfl⟩ | h
  · exact ti102
  rcases find_cons h with ⟨rfl, rfl⟩ | h
  · exact ti103
  rcases find_cons h with ⟨rfl, rfl⟩ | h
  · exact ti104
  rcases find_cons h with ⟨rfl, rfl⟩ | h
  · exact ti108
  rcases find_cons h with ⟨rfl, rfl⟩ | h
  · exact ti109
  rcases find_cons h with ⟨rfl, rfl⟩ | h
  · exact ti110
  rcases find_cons h with ⟨rfl, rfl⟩ | h
  · exact ti111
  rcases find_cons h with ⟨rfl, rfl⟩ | h
  · exact ti112
  rcases find_cons h with ⟨rfl, rfl⟩ | h
  · exact ti113
  rcases find_cons h with ⟨rfl, rfl⟩ | h
  · exact ti114
  rcases find_cons h with ⟨rfl, rfl⟩ | h
  · exact ti115
  rcases find_cons h with ⟨rfl, rfl⟩ | h
  · exact ti116
  cases h

end Go.Proofs.Ytahccnljckgjmaa
