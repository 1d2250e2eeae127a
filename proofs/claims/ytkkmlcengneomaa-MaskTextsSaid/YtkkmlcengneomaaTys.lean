/- What the table of this seat says of its types, for the engine. Printed by program (gentys.py). No condition. -/
import Derived.Test.YtkkmlcengneomaaEng3
import Derived.Test.YtkkmlcengneomaaProg
set_option linter.unusedVariables false
set_option linter.unusedSimpArgs false
namespace Go.Proofs.Ytkkmlcengneomaa
open Go Go.RowKit Eng

theorem zero_of {P : Program} {t : Nat} {z : Value} (h : (P.info? t).map (fun i => i.zero) = some (some z)) : ∃ i, P.info? t = some i ∧ i.zero = some z := by
  cases hi : P.info? t with
  | none => rw [hi] at h; cases h
  | some i => rw [hi] at h; exact ⟨i, rfl, Option.some.inj h⟩
theorem ti_mk {P : Program} {t : Nat} {T : TI} {z : Value} {d : TypeDesc} (h1 : (P.info? t).map (fun i => (i.size, i.bytes, i.zero)) = some (T.size, T.bytes, some z)) (hz : z.cells.size = T.size) (h2 : z.cells.toList.all (·.oneCell') = true)
    (h3 : ∀ m ρ, T.zero.ok P m ρ z.cells.toList) (h4 : T.dflt = true → ∀ m, Rd m T.ty T.ty.dflt z.cells.toList) (h5 : T.bytes ≤ 1000000) (h6 : T.size ≠ 0) (h7 : T.size ≤ 10000) (h8 : (match d with | .struct _ | .array _ _ => true | _ => false) = T.agg) (hu : P.underlying t = some d)
    (h9 : T.kind = 1 → P.underlying t = some (.slice T.elem)) (h10 : T.kind = 2 → P.underlying t = some .string) (h11 : T.kind = 3 → P.underlying t = some .bool)
    (h12 : T.kind = 4 → ∃ n sz, P.underlying t = some (.array n T.elem) ∧ (∃ j, P.info? T.elem = some j ∧ j.size = sz) ∧ sz ≠ 0 ∧ ∀ (f : Nat) (fl : Nat × Nat × Nat), T.flds[f]? = some fl → fl = (f * sz, T.elem, sz) ∧ f < n)
    (h13 : T.kind = 5 → ∃ fields, P.underlying t = some (.struct fields) ∧ fields.toList.map (fun F => (F.offset, F.type)) = T.flds.map (fun f => (f.1, f.2.1)) ∧ ∀ f ∈ T.flds, (∃ j, P.info? f.2.1 = some j ∧ j.size = f.2.2) ∧ f.2.2 ≠ 0) (h14 : T.kind ≤ 5) (h15 : T.eq2 = true → Eq2 P t := by (intro h; cases h)) (h16 : T.isInt = true → ∃ k, T.ty = .int k ∧ P.underlying t = some (.int k) := by (intro h; cases h))
    (h17 : ∀ eb, T.bld = some eb → ∃ i, P.info? t = some i ∧ i.zero = some (.agg #[.pointer none, .slice none 0 0]) := by (intro eb h; cases h)) : TIok P t T := by
  refine ⟨?_, h5, h6, h7, ⟨d, hu, h8⟩, h9, h10, h11, h12, h13, h14, h15, h16, h17⟩
  cases hi : P.info? t with
  | none => rw [hi] at h1; cases h1
  | some i =>
    rw [hi] at h1
    simp only [Option.map_some, Option.some.injEq, Prod.mk.injEq] at h1
    exact ⟨i, z, rfl, h1.1, h1.2.1, h1.2.2, hz, h2, h3, h4⟩
theorem ti_sz {P : Program} {t : Nat} {T : TI} (h : TIok P t T) : ∃ j, P.info? t = some j ∧ j.size = T.size := by
  obtain ⟨i, z, h1, h2, _⟩ := h.info
  exact ⟨i, h1, h2⟩

def T1 : TI := { agg := false, size := 1, bytes := 8, ty := .bool, zero := .cons (.lit .nilFunc) .nil, kind := 0, dflt := false, elem := 0, flds := [] }
theorem ti1 : TIok Try.prog 1 T1 := ti_mk (z := .nilFunc) (by kernel_rfl) rfl rfl (fun m ρ => ⟨_, _, rfl, rfl, rfl⟩) (fun h => by cases h) (by decide) (by decide) (by decide) rfl Try.underlying1 (fun h => by cases h) (fun h => by cases h) (fun h => by cases h)
  (fun h => by cases h)
  (fun h => by cases h) (by decide)
def T2 : TI := { agg := false, size := 1, bytes := 8, ty := .int .i64, zero := .cons (.lit (.int .i64 0)) .nil, kind := 0, dflt := true, elem := 0, flds := [], isInt := true }
theorem ti2 : TIok Try.prog 2 T2 := ti_mk (z := .int .i64 0) (by kernel_rfl) rfl rfl (fun m ρ => ⟨_, _, rfl, rfl, rfl⟩) (fun _ m => rfl) (by decide) (by decide) (by decide) rfl Try.underlying2 (fun h => by cases h) (fun h => by cases h) (fun h => by cases h)
  (fun h => by cases h)
  (fun h => by cases h) (by decide) (h16 := fun _ => ⟨.i64, rfl, Try.underlying2⟩)
def T3 : TI := { agg := false, size := 1, bytes := 8, ty := .int .i64, zero := .cons (.lit (.int .i64 0)) .nil, kind := 0, dflt := true, elem := 0, flds := [], isInt := true }
theorem ti3 : TIok Try.prog 3 T3 := ti_mk (z := .int .i64 0) (by kernel_rfl) rfl rfl (fun m ρ => ⟨_, _, rfl, rfl, rfl⟩) (fun _ m => rfl) (by decide) (by decide) (by decide) rfl Try.underlying3 (fun h => by cases h) (fun h => by cases h) (fun h => by cases h)
  (fun h => by cases h)
  (fun h => by cases h) (by decide) (h16 := fun _ => ⟨.i64, rfl, Try.underlying3⟩)
def T4 : TI := { agg := false, size := 1, bytes := 1, ty := .bool, zero := .cons (.ff) .nil, kind := 3, dflt := true, elem := 0, flds := [] }
theorem ti4 : TIok Try.prog 4 T4 := ti_mk (z := .bool false) (by kernel_rfl) rfl rfl (fun m ρ => ⟨_, _, rfl, rfl, rfl⟩) (fun _ m => rfl) (by decide) (by decide) (by decide) rfl Try.underlying4 (fun h => by cases h) (fun h => by cases h) (fun _ => Try.underlying4)
  (fun h => by cases h)
  (fun h => by cases h) (by decide)
def T5 : TI := { agg := false, size := 1, bytes := 1, ty := .int .u8, zero := .cons (.lit (.int .u8 0)) .nil, kind := 0, dflt := true, elem := 0, flds := [], isInt := true }
theorem ti5 : TIok Try.prog 5 T5 := ti_mk (z := .int .u8 0) (by kernel_rfl) rfl rfl (fun m ρ => ⟨_, _, rfl, rfl, rfl⟩) (fun _ m => rfl) (by decide) (by decide) (by decide) rfl Try.underlying5 (fun h => by cases h) (fun h => by cases h) (fun h => by cases h)
  (fun h => by cases h)
  (fun h => by cases h) (by decide) (h16 := fun _ => ⟨.u8, rfl, Try.underlying5⟩)
def T6 : TI := { agg := false, size := 1, bytes := 1, ty := .int .u8, zero := .cons (.lit (.int .u8 0)) .nil, kind := 0, dflt := true, elem := 0, flds := [], isInt := true }
theorem ti6 : TIok Try.prog 6 T6 := ti_mk (z := .int .u8 0) (by kernel_rfl) rfl rfl (fun m ρ => ⟨_, _, rfl, rfl, rfl⟩) (fun _ m => rfl) (by decide) (by decide) (by decide) rfl Try.underlying6 (fun h => by cases h) (fun h => by cases h) (fun h => by cases h)
  (fun h => by cases h)
  (fun h => by cases h) (by decide) (h16 := fun _ => ⟨.u8, rfl, Try.underlying6⟩)
def T7 : TI := { agg := true, size := 4, bytes := 24, ty := .prod (.int .i64) (.prod (.int .i64) (.prod (.bool) (.int .u8))), zero := .cons (.lit (.int .i64 0)) (.cons (.lit (.int .i64 0)) (.cons (.ff) (.cons (.lit (.int .u8 0)) .nil))), kind := 5, dflt := true, elem := 0, flds := [(0, 2, 1), (1, 3, 1), (2, 4, 1), (3, 6, 1)] }
theorem ti7 : TIok Try.prog 7 T7 := ti_mk (z := .agg #[.int .i64 0, .int .i64 0, .bool false, .int .u8 0]) (by kernel_rfl) rfl rfl (fun m ρ => ⟨_, _, rfl, rfl, ⟨_, _, rfl, rfl, ⟨_, _, rfl, rfl, ⟨_, _, rfl, rfl, rfl⟩⟩⟩⟩) (fun _ m => ⟨[.int .i64 0], [.int .i64 0, .bool false, .int .u8 0], rfl, rfl, ⟨[.int .i64 0], [.bool false, .int .u8 0], rfl, rfl, ⟨[.bool false], [.int .u8 0], rfl, rfl, rfl⟩⟩⟩) (by decide) (by decide) (by decide) rfl Try.underlying7 (fun h => by cases h) (fun h => by cases h) (fun h => by cases h)
  (fun h => by cases h)
  (fun _ => ⟨_, Try.underlying7, rfl, fun f hf => by
    simp only [T7, List.mem_cons, List.not_mem_nil, or_false] at hf
    rcases hf with rfl | rfl | rfl | rfl
    · exact ⟨ti_sz ti2, by decide⟩
    · exact ⟨ti_sz ti3, by decide⟩
    · exact ⟨ti_sz ti4, by decide⟩
    · exact ⟨ti_sz ti6, by decide⟩⟩) (by decide)
def T8 : TI := { agg := true, size := 4, bytes := 24, ty := .prod (.int .i64) (.prod (.int .i64) (.prod (.bool) (.int .u8))), zero := .cons (.lit (.int .i64 0)) (.cons (.lit (.int .i64 0)) (.cons (.ff) (.cons (.lit (.int .u8 0)) .nil))), kind := 5, dflt := true, elem := 0, flds := [(0, 2, 1), (1, 3, 1), (2, 4, 1), (3, 6, 1)] }
theorem ti8 : TIok Try.prog 8 T8 := ti_mk (z := .agg #[.int .i64 0, .int .i64 0, .bool false, .int .u8 0]) (by kernel_rfl) rfl rfl (fun m ρ => ⟨_, _, rfl, rfl, ⟨_, _, rfl, rfl, ⟨_, _, rfl, rfl, ⟨_, _, rfl, rfl, rfl⟩⟩⟩⟩) (fun _ m => ⟨[.int .i64 0], [.int .i64 0, .bool false, .int .u8 0], rfl, rfl, ⟨[.int .i64 0], [.bool false, .int .u8 0], rfl, rfl, ⟨[.bool false], [.int .u8 0], rfl, rfl, rfl⟩⟩⟩) (by decide) (by decide) (by decide) rfl Try.underlying8 (fun h => by cases h) (fun h => by cases h) (fun h => by cases h)
  (fun h => by cases h)
  (fun _ => ⟨_, Try.underlying8, rfl, fun f hf => by
    simp only [T8, List.mem_cons, List.not_mem_nil, or_false] at hf
    rcases hf with rfl | rfl | rfl | rfl
    · exact ⟨ti_sz ti2, by decide⟩
    · exact ⟨ti_sz ti3, by decide⟩
    · exact ⟨ti_sz ti4, by decide⟩
    · exact ⟨ti_sz ti6, by decide⟩⟩) (by decide)
def T9 : TI := { agg := false, size := 1, bytes := 16, ty := .str, zero := .cons (.lit (.string ⟨#[]⟩)) .nil, kind := 2, dflt := true, elem := 0, flds := [] }
theorem ti9 : TIok Try.prog 9 T9 := ti_mk (z := .string ⟨#[]⟩) (by kernel_rfl) rfl rfl (fun m ρ => ⟨_, _, rfl, rfl, rfl⟩) (fun _ m => rfl) (by decide) (by decide) (by decide) rfl Try.underlying9 (fun h => by cases h) (fun _ => Try.underlying9) (fun h => by cases h)
  (fun h => by cases h)
  (fun h => by cases h) (by decide)
def T10 : TI := { agg := false, size := 1, bytes := 16, ty := .str, zero := .cons (.lit (.string ⟨#[]⟩)) .nil, kind := 2, dflt := true, elem := 0, flds := [] }
theorem ti10 : TIok Try.prog 10 T10 := ti_mk (z := .string ⟨#[]⟩) (by kernel_rfl) rfl rfl (fun m ρ => ⟨_, _, rfl, rfl, rfl⟩) (fun _ m => rfl) (by decide) (by decide) (by decide) rfl Try.underlying10 (fun h => by cases h) (fun _ => Try.underlying10) (fun h => by cases h)
  (fun h => by cases h)
  (fun h => by cases h) (by decide)
def T11 : TI := { agg := false, size := 1, bytes := 16, ty := .str, zero := .cons (.lit (.string ⟨#[]⟩)) .nil, kind := 2, dflt := true, elem := 0, flds := [] }
theorem ti11 : TIok Try.prog 11 T11 := ti_mk (z := .string ⟨#[]⟩) (by kernel_rfl) rfl rfl (fun m ρ => ⟨_, _, rfl, rfl, rfl⟩) (fun _ m => rfl) (by decide) (by decide) (by decide) rfl Try.underlying11 (fun h => by cases h) (fun _ => Try.underlying11) (fun h => by cases h)
  (fun h => by cases h)
  (fun h => by cases h) (by decide)
def T12 : TI := { agg := false, size := 1, bytes := 8, ty := .int .u64, zero := .cons (.lit (.int .u64 0)) .nil, kind := 0, dflt := true, elem := 0, flds := [], isInt := true }
theorem ti12 : TIok Try.prog 12 T12 := ti_mk (z := .int .u64 0) (by kernel_rfl) rfl rfl (fun m ρ => ⟨_, _, rfl, rfl, rfl⟩) (fun _ m => rfl) (by decide) (by decide) (by decide) rfl Try.underlying12 (fun h => by cases h) (fun h => by cases h) (fun h => by cases h)
  (fun h => by cases h)
  (fun h => by cases h) (by decide) (h16 := fun _ => ⟨.u64, rfl, Try.underlying12⟩)
def T13 : TI := { agg := true, size := 2, bytes := 24, ty := .prod (.str) (.int .u64), zero := .cons (.lit (.string ⟨#[]⟩)) (.cons (.lit (.int .u64 0)) .nil), kind := 5, dflt := true, elem := 0, flds := [(0, 9, 1), (1, 12, 1)] }
theorem ti13 : TIok Try.prog 13 T13 := ti_mk (z := .agg #[.string ⟨#[]⟩, .int .u64 0]) (by kernel_rfl) rfl rfl (fun m ρ => ⟨_, _, rfl, rfl, ⟨_, _, rfl, rfl, rfl⟩⟩) (fun _ m => ⟨[.string ⟨#[]⟩], [.int .u64 0], rfl, rfl, rfl⟩) (by decide) (by decide) (by decide) rfl Try.underlying13 (fun h => by cases h) (fun h => by cases h) (fun h => by cases h)
  (fun h => by cases h)
  (fun _ => ⟨_, Try.underlying13, rfl, fun f hf => by
    simp only [T13, List.mem_cons, List.not_mem_nil, or_false] at hf
    rcases hf with rfl | rfl
    · exact ⟨ti_sz ti9, by decide⟩
    · exact ⟨ti_sz ti12, by decide⟩⟩) (by decide)
def T14 : TI := { agg := true, size := 2, bytes := 24, ty := .prod (.str) (.int .u64), zero := .cons (.lit (.string ⟨#[]⟩)) (.cons (.lit (.int .u64 0)) .nil), kind := 5, dflt := true, elem := 0, flds := [(0, 9, 1), (1, 12, 1)] }
theorem ti14 : TIok Try.prog 14 T14 := ti_mk (z := .agg #[.string ⟨#[]⟩, .int .u64 0]) (by kernel_rfl) rfl rfl (fun m ρ => ⟨_, _, rfl, rfl, ⟨_, _, rfl, rfl, rfl⟩⟩) (fun _ m => ⟨[.string ⟨#[]⟩], [.int .u64 0], rfl, rfl, rfl⟩) (by decide) (by decide) (by decide) rfl Try.underlying14 (fun h => by cases h) (fun h => by cases h) (fun h => by cases h)
  (fun h => by cases h)
  (fun _ => ⟨_, Try.underlying14, rfl, fun f hf => by
    simp only [T14, List.mem_cons, List.not_mem_nil, or_false] at hf
    rcases hf with rfl | rfl
    · exact ⟨ti_sz ti9, by decide⟩
    · exact ⟨ti_sz ti12, by decide⟩⟩) (by decide)
def T15 : TI := { agg := false, size := 1, bytes := 8, ty := .bool, zero := .cons (.lit (.pointer none)) .nil, kind := 0, dflt := false, elem := 0, flds := [] }
theorem ti15 : TIok Try.prog 15 T15 := ti_mk (z := .pointer none) (by kernel_rfl) rfl rfl (fun m ρ => ⟨_, _, rfl, rfl, rfl⟩) (fun h => by cases h) (by decide) (by decide) (by decide) rfl Try.underlying15 (fun h => by cases h) (fun h => by cases h) (fun h => by cases h)
  (fun h => by cases h)
  (fun h => by cases h) (by decide)
def T16 : TI := { agg := false, size := 1, bytes := 8, ty := .bool, zero := .cons (.lit (.pointer none)) .nil, kind := 0, dflt := false, elem := 0, flds := [] }
theorem ti16 : TIok Try.prog 16 T16 := ti_mk (z := .pointer none) (by kernel_rfl) rfl rfl (fun m ρ => ⟨_, _, rfl, rfl, rfl⟩) (fun h => by cases h) (by decide) (by decide) (by decide) rfl Try.underlying16 (fun h => by cases h) (fun h => by cases h) (fun h => by cases h)
  (fun h => by cases h)
  (fun h => by cases h) (by decide)
def T17 : TI := { agg := false, size := 1, bytes := 8, ty := .bool, zero := .cons (.lit (.pointer none)) .nil, kind := 0, dflt := false, elem := 0, flds := [] }
theorem ti17 : TIok Try.prog 17 T17 := ti_mk (z := .pointer none) (by kernel_rfl) rfl rfl (fun m ρ => ⟨_, _, rfl, rfl, rfl⟩) (fun h => by cases h) (by decide) (by decide) (by decide) rfl Try.underlying17 (fun h => by cases h) (fun h => by cases h) (fun h => by cases h)
  (fun h => by cases h)
  (fun h => by cases h) (by decide)
def T18 : TI := { agg := true, size := 1, bytes := 8, ty := .bool, zero := .cons (.lit (.pointer none)) .nil, kind := 5, dflt := false, elem := 0, flds := [(0, 17, 1)] }
theorem ti18 : TIok Try.prog 18 T18 := ti_mk (z := .agg #[.pointer none]) (by kernel_rfl) rfl rfl (fun m ρ => ⟨_, _, rfl, rfl, rfl⟩) (fun h => by cases h) (by decide) (by decide) (by decide) rfl Try.underlying18 (fun h => by cases h) (fun h => by cases h) (fun h => by cases h)
  (fun h => by cases h)
  (fun _ => ⟨_, Try.underlying18, rfl, fun f hf => by
    simp only [T18, List.mem_cons, List.not_mem_nil, or_false] at hf
    rcases hf with rfl
    · exact ⟨ti_sz ti17, by decide⟩⟩) (by decide)
def T19 : TI := { agg := true, size := 1, bytes := 8, ty := .bool, zero := .cons (.lit (.pointer none)) .nil, kind := 5, dflt := false, elem := 0, flds := [(0, 17, 1)] }
theorem ti19 : TIok Try.prog 19 T19 := ti_mk (z := .agg #[.pointer none]) (by kernel_rfl) rfl rfl (fun m ρ => ⟨_, _, rfl, rfl, rfl⟩) (fun h => by cases h) (by decide) (by decide) (by decide) rfl Try.underlying19 (fun h => by cases h) (fun h => by cases h) (fun h => by cases h)
  (fun h => by cases h)
  (fun _ => ⟨_, Try.underlying19, rfl, fun f hf => by
    simp only [T19, List.mem_cons, List.not_mem_nil, or_false] at hf
    rcases hf with rfl
    · exact ⟨ti_sz ti17, by decide⟩⟩) (by decide)
def T21 : TI := { agg := false, size := 1, bytes := 4, ty := .int .i32, zero := .cons (.lit (.int .i32 0)) .nil, kind := 0, dflt := true, elem := 0, flds := [], isInt := true }
theorem ti21 : TIok Try.prog 21 T21 := ti_mk (z := .int .i32 0) (by kernel_rfl) rfl rfl (fun m ρ => ⟨_, _, rfl, rfl, rfl⟩) (fun _ m => rfl) (by decide) (by decide) (by decide) rfl Try.underlying21 (fun h => by cases h) (fun h => by cases h) (fun h => by cases h)
  (fun h => by cases h)
  (fun h => by cases h) (by decide) (h16 := fun _ => ⟨.i32, rfl, Try.underlying21⟩)
def T22 : TI := { agg := false, size := 1, bytes := 24, ty := .list (.list (.int .i64)), zero := .cons (.lit (.slice none 0 0)) .nil, kind := 1, dflt := true, elem := 24, flds := [] }
theorem ti22 : TIok Try.prog 22 T22 := ti_mk (z := .slice none 0 0) (by kernel_rfl) rfl rfl (fun m ρ => ⟨_, _, rfl, rfl, rfl⟩) (fun _ m => ⟨none, 0, rfl, Nat.le_refl _, by unfold maxLen; exact Nat.zero_le _, fun h => absurd h (Nat.lt_irrefl 0)⟩) (by decide) (by decide) (by decide) rfl Try.underlying22 (fun _ => Try.underlying22) (fun h => by cases h) (fun h => by cases h)
  (fun h => by cases h)
  (fun h => by cases h) (by decide)
def T23 : TI := { agg := false, size := 1, bytes := 24, ty := .list (.list (.int .i64)), zero := .cons (.lit (.slice none 0 0)) .nil, kind := 1, dflt := true, elem := 24, flds := [] }
theorem ti23 : TIok Try.prog 23 T23 := ti_mk (z := .slice none 0 0) (by kernel_rfl) rfl rfl (fun m ρ => ⟨_, _, rfl, rfl, rfl⟩) (fun _ m => ⟨none, 0, rfl, Nat.le_refl _, by unfold maxLen; exact Nat.zero_le _, fun h => absurd h (Nat.lt_irrefl 0)⟩) (by decide) (by decide) (by decide) rfl Try.underlying23 (fun _ => Try.underlying23) (fun h => by cases h) (fun h => by cases h)
  (fun h => by cases h)
  (fun h => by cases h) (by decide)
def T24 : TI := { agg := false, size := 1, bytes := 24, ty := .list (.int .i64), zero := .cons (.lit (.slice none 0 0)) .nil, kind := 1, dflt := true, elem := 3, flds := [] }
theorem ti24 : TIok Try.prog 24 T24 := ti_mk (z := .slice none 0 0) (by kernel_rfl) rfl rfl (fun m ρ => ⟨_, _, rfl, rfl, rfl⟩) (fun _ m => ⟨none, 0, rfl, Nat.le_refl _, by unfold maxLen; exact Nat.zero_le _, fun h => absurd h (Nat.lt_irrefl 0)⟩) (by decide) (by decide) (by decide) rfl Try.underlying24 (fun _ => Try.underlying24) (fun h => by cases h) (fun h => by cases h)
  (fun h => by cases h)
  (fun h => by cases h) (by decide)
def T25 : TI := { agg := false, size := 1, bytes := 8, ty := .bool, zero := .cons (.lit .nilFunc) .nil, kind := 0, dflt := false, elem := 0, flds := [] }
theorem ti25 : TIok Try.prog 25 T25 := ti_mk (z := .nilFunc) (by kernel_rfl) rfl rfl (fun m ρ => ⟨_, _, rfl, rfl, rfl⟩) (fun h => by cases h) (by decide) (by decide) (by decide) rfl Try.underlying25 (fun h => by cases h) (fun h => by cases h) (fun h => by cases h)
  (fun h => by cases h)
  (fun h => by cases h) (by decide)
def T26 : TI := { agg := false, size := 1, bytes := 8, ty := .bool, zero := .cons (.lit .nilFunc) .nil, kind := 0, dflt := false, elem := 0, flds := [] }
theorem ti26 : TIok Try.prog 26 T26 := ti_mk (z := .nilFunc) (by kernel_rfl) rfl rfl (fun m ρ => ⟨_, _, rfl, rfl, rfl⟩) (fun h => by cases h) (by decide) (by decide) (by decide) rfl Try.underlying26 (fun h => by cases h) (fun h => by cases h) (fun h => by cases h)
  (fun h => by cases h)
  (fun h => by cases h) (by decide)
def T27 : TI := { agg := false, size := 1, bytes := 8, ty := .bool, zero := .cons (.lit .nilFunc) .nil, kind := 0, dflt := false, elem := 0, flds := [] }
theorem ti27 : TIok Try.prog 27 T27 := ti_mk (z := .nilFunc) (by kernel_rfl) rfl rfl (fun m ρ => ⟨_, _, rfl, rfl, rfl⟩) (fun h => by cases h) (by decide) (by decide) (by decide) rfl Try.underlying27 (fun h => by cases h) (fun h => by cases h) (fun h => by cases h)
  (fun h => by cases h)
  (fun h => by cases h) (by decide)
def T28 : TI := { agg := false, size := 1, bytes := 8, ty := .bool, zero := .cons (.lit .nilFunc) .nil, kind := 0, dflt := false, elem := 0, flds := [] }
theorem ti28 : TIok Try.prog 28 T28 := ti_mk (z := .nilFunc) (by kernel_rfl) rfl rfl (fun m ρ => ⟨_, _, rfl, rfl, rfl⟩) (fun h => by cases h) (by decide) (by decide) (by decide) rfl Try.underlying28 (fun h => by cases h) (fun h => by cases h) (fun h => by cases h)
  (fun h => by cases h)
  (fun h => by cases h) (by decide)
def T29 : TI := { agg := false, size := 1, bytes := 8, ty := .int .i64, zero := .cons (.lit (.int .i64 0)) .nil, kind := 0, dflt := true, elem := 0, flds := [], isInt := true }
theorem ti29 : TIok Try.prog 29 T29 := ti_mk (z := .int .i64 0) (by kernel_rfl) rfl rfl (fun m ρ => ⟨_, _, rfl, rfl, rfl⟩) (fun _ m => rfl) (by decide) (by decide) (by decide) rfl Try.underlying29 (fun h => by cases h) (fun h => by cases h) (fun h => by cases h)
  (fun h => by cases h)
  (fun h => by cases h) (by decide) (h16 := fun _ => ⟨.i64, rfl, Try.underlying29⟩)
def T31 : TI := { agg := false, size := 1, bytes := 8, ty := .bool, zero := .cons (.lit .nilFunc) .nil, kind := 0, dflt := false, elem := 0, flds := [] }
theorem ti31 : TIok Try.prog 31 T31 := ti_mk (z := .nilFunc) (by kernel_rfl) rfl rfl (fun m ρ => ⟨_, _, rfl, rfl, rfl⟩) (fun h => by cases h) (by decide) (by decide) (by decide) rfl Try.underlying31 (fun h => by cases h) (fun h => by cases h) (fun h => by cases h)
  (fun h => by cases h)
  (fun h => by cases h) (by decide)
def T32 : TI := { agg := false, size := 1, bytes := 8, ty := .bool, zero := .cons (.lit .nilFunc) .nil, kind := 0, dflt := false, elem := 0, flds := [] }
theorem ti32 : TIok Try.prog 32 T32 := ti_mk (z := .nilFunc) (by kernel_rfl) rfl rfl (fun m ρ => ⟨_, _, rfl, rfl, rfl⟩) (fun h => by cases h) (by decide) (by decide) (by decide) rfl Try.underlying32 (fun h => by cases h) (fun h => by cases h) (fun h => by cases h)
  (fun h => by cases h)
  (fun h => by cases h) (by decide)
def T33 : TI := { agg := false, size := 1, bytes := 8, ty := .bool, zero := .cons (.lit .nilFunc) .nil, kind := 0, dflt := false, elem := 0, flds := [] }
theorem ti33 : TIok Try.prog 33 T33 := ti_mk (z := .nilFunc) (by kernel_rfl) rfl rfl (fun m ρ => ⟨_, _, rfl, rfl, rfl⟩) (fun h => by cases h) (by decide) (by decide) (by decide) rfl Try.underlying33 (fun h => by cases h) (fun h => by cases h) (fun h => by cases h)
  (fun h => by cases h)
  (fun h => by cases h) (by decide)
def T34 : TI := { agg := false, size := 1, bytes := 8, ty := .bool, zero := .cons (.lit .nilFunc) .nil, kind := 0, dflt := false, elem := 0, flds := [] }
theorem ti34 : TIok Try.prog 34 T34 := ti_mk (z := .nilFunc) (by kernel_rfl) rfl rfl (fun m ρ => ⟨_, _, rfl, rfl, rfl⟩) (fun h => by cases h) (by decide) (by decide) (by decide) rfl Try.underlying34 (fun h => by cases h) (fun h => by cases h) (fun h => by cases h)
  (fun h => by cases h)
  (fun h => by cases h) (by decide)
def T35 : TI := { agg := false, size := 1, bytes := 8, ty := .bool, zero := .cons (.lit .nilFunc) .nil, kind := 0, dflt := false, elem := 0, flds := [] }
theorem ti35 : TIok Try.prog 35 T35 := ti_mk (z := .nilFunc) (by kernel_rfl) rfl rfl (fun m ρ => ⟨_, _, rfl, rfl, rfl⟩) (fun h => by cases h) (by decide) (by decide) (by decide) rfl Try.underlying35 (fun h => by cases h) (fun h => by cases h) (fun h => by cases h)
  (fun h => by cases h)
  (fun h => by cases h) (by decide)
def T37 : TI := { agg := false, size := 1, bytes := 8, ty := .bool, zero := .cons (.lit .nilFunc) .nil, kind := 0, dflt := false, elem := 0, flds := [] }
theorem ti37 : TIok Try.prog 37 T37 := ti_mk (z := .nilFunc) (by kernel_rfl) rfl rfl (fun m ρ => ⟨_, _, rfl, rfl, rfl⟩) (fun h => by cases h) (by decide) (by decide) (by decide) rfl Try.underlying37 (fun h => by cases h) (fun h => by cases h) (fun h => by cases h)
  (fun h => by cases h)
  (fun h => by cases h) (by decide)
def T38 : TI := { agg := true, size := 2, bytes := 16, ty := .prod (.int .i64) (.int .i64), zero := .cons (.lit (.int .i64 0)) (.cons (.lit (.int .i64 0)) .nil), kind := 5, dflt := true, elem := 0, flds := [(0, 3, 1), (1, 3, 1)], eq2 := true }
theorem ti38 : TIok Try.prog 38 T38 := ti_mk (z := .agg #[.int .i64 0, .int .i64 0]) (by kernel_rfl) rfl rfl (fun m ρ => ⟨_, _, rfl, rfl, ⟨_, _, rfl, rfl, rfl⟩⟩) (fun _ m => ⟨[.int .i64 0], [.int .i64 0], rfl, rfl, rfl⟩) (by decide) (by decide) (by decide) rfl Try.underlying38 (fun h => by cases h) (fun h => by cases h) (fun h => by cases h)
  (fun h => by cases h)
  (fun _ => ⟨_, Try.underlying38, rfl, fun f hf => by
    simp only [T38, List.mem_cons, List.not_mem_nil, or_false] at hf
    rcases hf with rfl | rfl
    · exact ⟨ti_sz ti3, by decide⟩
    · exact ⟨ti_sz ti3, by decide⟩⟩) (by decide) (fun _ => eq2_struct Try.underlying38 (by decide) (by decide) rfl rfl Try.underlying3 Try.underlying3 (by kernel_rfl) (by kernel_rfl))
def T39 : TI := { agg := true, size := 2, bytes := 16, ty := .prod (.int .i64) (.int .i64), zero := .cons (.lit (.int .i64 0)) (.cons (.lit (.int .i64 0)) .nil), kind := 5, dflt := true, elem := 0, flds := [(0, 3, 1), (1, 3, 1)], eq2 := true }
theorem ti39 : TIok Try.prog 39 T39 := ti_mk (z := .agg #[.int .i64 0, .int .i64 0]) (by kernel_rfl) rfl rfl (fun m ρ => ⟨_, _, rfl, rfl, ⟨_, _, rfl, rfl, rfl⟩⟩) (fun _ m => ⟨[.int .i64 0], [.int .i64 0], rfl, rfl, rfl⟩) (by decide) (by decide) (by decide) rfl Try.underlying39 (fun h => by cases h) (fun h => by cases h) (fun h => by cases h)
  (fun h => by cases h)
  (fun _ => ⟨_, Try.underlying39, rfl, fun f hf => by
    simp only [T39, List.mem_cons, List.not_mem_nil, or_false] at hf
    rcases hf with rfl | rfl
    · exact ⟨ti_sz ti3, by decide⟩
    · exact ⟨ti_sz ti3, by decide⟩⟩) (by decide) (fun _ => eq2_struct Try.underlying39 (by decide) (by decide) rfl rfl Try.underlying3 Try.underlying3 (by kernel_rfl) (by kernel_rfl))
def T41 : TI := { agg := false, size := 1, bytes := 8, ty := .bool, zero := .cons (.lit .nilFunc) .nil, kind := 0, dflt := false, elem := 0, flds := [] }
theorem ti41 : TIok Try.prog 41 T41 := ti_mk (z := .nilFunc) (by kernel_rfl) rfl rfl (fun m ρ => ⟨_, _, rfl, rfl, rfl⟩) (fun h => by cases h) (by decide) (by decide) (by decide) rfl Try.underlying41 (fun h => by cases h) (fun h => by cases h) (fun h => by cases h)
  (fun h => by cases h)
  (fun h => by cases h) (by decide)
def T42 : TI := { agg := false, size := 1, bytes := 8, ty := .bool, zero := .cons (.lit .nilFunc) .nil, kind := 0, dflt := false, elem := 0, flds := [] }
theorem ti42 : TIok Try.prog 42 T42 := ti_mk (z := .nilFunc) (by kernel_rfl) rfl rfl (fun m ρ => ⟨_, _, rfl, rfl, rfl⟩) (fun h => by cases h) (by decide) (by decide) (by decide) rfl Try.underlying42 (fun h => by cases h) (fun h => by cases h) (fun h => by cases h)
  (fun h => by cases h)
  (fun h => by cases h) (by decide)
def T43 : TI := { agg := false, size := 1, bytes := 8, ty := .bool, zero := .cons (.lit .nilFunc) .nil, kind := 0, dflt := false, elem := 0, flds := [] }
theorem ti43 : TIok Try.prog 43 T43 := ti_mk (z := .nilFunc) (by kernel_rfl) rfl rfl (fun m ρ => ⟨_, _, rfl, rfl, rfl⟩) (fun h => by cases h) (by decide) (by decide) (by decide) rfl Try.underlying43 (fun h => by cases h) (fun h => by cases h) (fun h => by cases h)
  (fun h => by cases h)
  (fun h => by cases h) (by decide)
def T44 : TI := { agg := false, size := 1, bytes := 8, ty := .bool, zero := .cons (.lit .nilFunc) .nil, kind := 0, dflt := false, elem := 0, flds := [] }
theorem ti44 : TIok Try.prog 44 T44 := ti_mk (z := .nilFunc) (by kernel_rfl) rfl rfl (fun m ρ => ⟨_, _, rfl, rfl, rfl⟩) (fun h => by cases h) (by decide) (by decide) (by decide) rfl Try.underlying44 (fun h => by cases h) (fun h => by cases h) (fun h => by cases h)
  (fun h => by cases h)
  (fun h => by cases h) (by decide)
def T45 : TI := { agg := false, size := 1, bytes := 8, ty := .bool, zero := .cons (.lit .nilFunc) .nil, kind := 0, dflt := false, elem := 0, flds := [] }
theorem ti45 : TIok Try.prog 45 T45 := ti_mk (z := .nilFunc) (by kernel_rfl) rfl rfl (fun m ρ => ⟨_, _, rfl, rfl, rfl⟩) (fun h => by cases h) (by decide) (by decide) (by decide) rfl Try.underlying45 (fun h => by cases h) (fun h => by cases h) (fun h => by cases h)
  (fun h => by cases h)
  (fun h => by cases h) (by decide)
def T47 : TI := { agg := false, size := 1, bytes := 8, ty := .bool, zero := .cons (.lit .nilFunc) .nil, kind := 0, dflt := false, elem := 0, flds := [] }
theorem ti47 : TIok Try.prog 47 T47 := ti_mk (z := .nilFunc) (by kernel_rfl) rfl rfl (fun m ρ => ⟨_, _, rfl, rfl, rfl⟩) (fun h => by cases h) (by decide) (by decide) (by decide) rfl Try.underlying47 (fun h => by cases h) (fun h => by cases h) (fun h => by cases h)
  (fun h => by cases h)
  (fun h => by cases h) (by decide)
def T48 : TI := { agg := false, size := 1, bytes := 8, ty := .bool, zero := .cons (.lit .nilFunc) .nil, kind := 0, dflt := false, elem := 0, flds := [] }
theorem ti48 : TIok Try.prog 48 T48 := ti_mk (z := .nilFunc) (by kernel_rfl) rfl rfl (fun m ρ => ⟨_, _, rfl, rfl, rfl⟩) (fun h => by cases h) (by decide) (by decide) (by decide) rfl Try.underlying48 (fun h => by cases h) (fun h => by cases h) (fun h => by cases h)
  (fun h => by cases h)
  (fun h => by cases h) (by decide)
def T49 : TI := { agg := false, size := 1, bytes := 8, ty := .bool, zero := .cons (.lit .nilFunc) .nil, kind := 0, dflt := false, elem := 0, flds := [] }
theorem ti49 : TIok Try.prog 49 T49 := ti_mk (z := .nilFunc) (by kernel_rfl) rfl rfl (fun m ρ => ⟨_, _, rfl, rfl, rfl⟩) (fun h => by cases h) (by decide) (by decide) (by decide) rfl Try.underlying49 (fun h => by cases h) (fun h => by cases h) (fun h => by cases h)
  (fun h => by cases h)
  (fun h => by cases h) (by decide)
def T50 : TI := { agg := false, size := 1, bytes := 8, ty := .bool, zero := .cons (.lit .nilFunc) .nil, kind := 0, dflt := false, elem := 0, flds := [] }
theorem ti50 : TIok Try.prog 50 T50 := ti_mk (z := .nilFunc) (by kernel_rfl) rfl rfl (fun m ρ => ⟨_, _, rfl, rfl, rfl⟩) (fun h => by cases h) (by decide) (by decide) (by decide) rfl Try.underlying50 (fun h => by cases h) (fun h => by cases h) (fun h => by cases h)
  (fun h => by cases h)
  (fun h => by cases h) (by decide)
def T51 : TI := { agg := false, size := 1, bytes := 8, ty := .bool, zero := .cons (.lit .nilFunc) .nil, kind := 0, dflt := false, elem := 0, flds := [] }
theorem ti51 : TIok Try.prog 51 T51 := ti_mk (z := .nilFunc) (by kernel_rfl) rfl rfl (fun m ρ => ⟨_, _, rfl, rfl, rfl⟩) (fun h => by cases h) (by decide) (by decide) (by decide) rfl Try.underlying51 (fun h => by cases h) (fun h => by cases h) (fun h => by cases h)
  (fun h => by cases h)
  (fun h => by cases h) (by decide)
def T52 : TI := { agg := false, size := 1, bytes := 24, ty := .list (.prod (.int .i64) (.int .i64)), zero := .cons (.lit (.slice none 0 0)) .nil, kind := 1, dflt := true, elem := 55, flds := [] }
theorem ti52 : TIok Try.prog 52 T52 := ti_mk (z := .slice none 0 0) (by kernel_rfl) rfl rfl (fun m ρ => ⟨_, _, rfl, rfl, rfl⟩) (fun _ m => ⟨none, 0, rfl, Nat.le_refl _, by unfold maxLen; exact Nat.zero_le _, fun h => absurd h (Nat.lt_irrefl 0)⟩) (by decide) (by decide) (by decide) rfl Try.underlying52 (fun _ => Try.underlying52) (fun h => by cases h) (fun h => by cases h)
  (fun h => by cases h)
  (fun h => by cases h) (by decide)
def T54 : TI := { agg := false, size := 1, bytes := 8, ty := .bool, zero := .cons (.lit .nilFunc) .nil, kind := 0, dflt := false, elem := 0, flds := [] }
theorem ti54 : TIok Try.prog 54 T54 := ti_mk (z := .nilFunc) (by kernel_rfl) rfl rfl (fun m ρ => ⟨_, _, rfl, rfl, rfl⟩) (fun h => by cases h) (by decide) (by decide) (by decide) rfl Try.underlying54 (fun h => by cases h) (fun h => by cases h) (fun h => by cases h)
  (fun h => by cases h)
  (fun h => by cases h) (by decide)
def T55 : TI := { agg := true, size := 2, bytes := 16, ty := .prod (.int .i64) (.int .i64), zero := .cons (.lit (.int .i64 0)) (.cons (.lit (.int .i64 0)) .nil), kind := 4, dflt := true, elem := 3, flds := [(0, 3, 1), (1, 3, 1)], eq2 := true }
theorem ti55 : TIok Try.prog 55 T55 := ti_mk (z := .agg #[.int .i64 0, .int .i64 0]) (by kernel_rfl) rfl rfl (fun m ρ => ⟨_, _, rfl, rfl, ⟨_, _, rfl, rfl, rfl⟩⟩) (fun _ m => ⟨[.int .i64 0], [.int .i64 0], rfl, rfl, rfl⟩) (by decide) (by decide) (by decide) rfl Try.underlying55 (fun h => by cases h) (fun h => by cases h) (fun h => by cases h)
  (fun _ => ⟨2, 1, Try.underlying55, ti_sz ti3, by decide, fun f fl h => by
    match f, h with
    | 0, h => injection h with h; exact ⟨h.symm, by decide⟩
    | 1, h => injection h with h; exact ⟨h.symm, by decide⟩⟩)
  (fun h => by cases h) (by decide) (fun _ => (ti_sz ti3).elim fun j hj => eq2_arr Try.underlying55 hj.1 (by kernel_rfl) Try.underlying3 (by kernel_rfl))
def T56 : TI := { agg := true, size := 3, bytes := 24, ty := .prod (.int .i64) (.prod (.int .i64) (.int .i64)), zero := .cons (.lit (.int .i64 0)) (.cons (.lit (.int .i64 0)) (.cons (.lit (.int .i64 0)) .nil)), kind := 4, dflt := true, elem := 3, flds := [(0, 3, 1), (1, 3, 1), (2, 3, 1)] }
theorem ti56 : TIok Try.prog 56 T56 := ti_mk (z := .agg #[.int .i64 0, .int .i64 0, .int .i64 0]) (by kernel_rfl) rfl rfl (fun m ρ => ⟨_, _, rfl, rfl, ⟨_, _, rfl, rfl, ⟨_, _, rfl, rfl, rfl⟩⟩⟩) (fun _ m => ⟨[.int .i64 0], [.int .i64 0, .int .i64 0], rfl, rfl, ⟨[.int .i64 0], [.int .i64 0], rfl, rfl, rfl⟩⟩) (by decide) (by decide) (by decide) rfl Try.underlying56 (fun h => by cases h) (fun h => by cases h) (fun h => by cases h)
  (fun _ => ⟨3, 1, Try.underlying56, ti_sz ti3, by decide, fun f fl h => by
    match f, h with
    | 0, h => injection h with h; exact ⟨h.symm, by decide⟩
    | 1, h => injection h with h; exact ⟨h.symm, by decide⟩
    | 2, h => injection h with h; exact ⟨h.symm, by decide⟩⟩)
  (fun h => by cases h) (by decide)
def T57 : TI := { agg := false, size := 1, bytes := 8, ty := .bool, zero := .cons (.lit .nilFunc) .nil, kind := 0, dflt := false, elem := 0, flds := [] }
theorem ti57 : TIok Try.prog 57 T57 := ti_mk (z := .nilFunc) (by kernel_rfl) rfl rfl (fun m ρ => ⟨_, _, rfl, rfl, rfl⟩) (fun h => by cases h) (by decide) (by decide) (by decide) rfl Try.underlying57 (fun h => by cases h) (fun h => by cases h) (fun h => by cases h)
  (fun h => by cases h)
  (fun h => by cases h) (by decide)
def T58 : TI := { agg := false, size := 1, bytes := 8, ty := .bool, zero := .cons (.lit .nilFunc) .nil, kind := 0, dflt := false, elem := 0, flds := [] }
theorem ti58 : TIok Try.prog 58 T58 := ti_mk (z := .nilFunc) (by kernel_rfl) rfl rfl (fun m ρ => ⟨_, _, rfl, rfl, rfl⟩) (fun h => by cases h) (by decide) (by decide) (by decide) rfl Try.underlying58 (fun h => by cases h) (fun h => by cases h) (fun h => by cases h)
  (fun h => by cases h)
  (fun h => by cases h) (by decide)
def T59 : TI := { agg := false, size := 1, bytes := 8, ty := .bool, zero := .cons (.lit .nilFunc) .nil, kind := 0, dflt := false, elem := 0, flds := [] }
theorem ti59 : TIok Try.prog 59 T59 := ti_mk (z := .nilFunc) (by kernel_rfl) rfl rfl (fun m ρ => ⟨_, _, rfl, rfl, rfl⟩) (fun h => by cases h) (by decide) (by decide) (by decide) rfl Try.underlying59 (fun h => by cases h) (fun h => by cases h) (fun h => by cases h)
  (fun h => by cases h)
  (fun h => by cases h) (by decide)
def T60 : TI := { agg := false, size := 1, bytes := 8, ty := .bool, zero := .cons (.lit .nilFunc) .nil, kind := 0, dflt := false, elem := 0, flds := [] }
theorem ti60 : TIok Try.prog 60 T60 := ti_mk (z := .nilFunc) (by kernel_rfl) rfl rfl (fun m ρ => ⟨_, _, rfl, rfl, rfl⟩) (fun h => by cases h) (by decide) (by decide) (by decide) rfl Try.underlying60 (fun h => by cases h) (fun h => by cases h) (fun h => by cases h)
  (fun h => by cases h)
  (fun h => by cases h) (by decide)
def T61 : TI := { agg := false, size := 1, bytes := 8, ty := .bool, zero := .cons (.lit .nilFunc) .nil, kind := 0, dflt := false, elem := 0, flds := [] }
theorem ti61 : TIok Try.prog 61 T61 := ti_mk (z := .nilFunc) (by kernel_rfl) rfl rfl (fun m ρ => ⟨_, _, rfl, rfl, rfl⟩) (fun h => by cases h) (by decide) (by decide) (by decide) rfl Try.underlying61 (fun h => by cases h) (fun h => by cases h) (fun h => by cases h)
  (fun h => by cases h)
  (fun h => by cases h) (by decide)
def T62 : TI := { agg := false, size := 1, bytes := 8, ty := .bool, zero := .cons (.lit .nilFunc) .nil, kind := 0, dflt := false, elem := 0, flds := [] }
theorem ti62 : TIok Try.prog 62 T62 := ti_mk (z := .nilFunc) (by kernel_rfl) rfl rfl (fun m ρ => ⟨_, _, rfl, rfl, rfl⟩) (fun h => by cases h) (by decide) (by decide) (by decide) rfl Try.underlying62 (fun h => by cases h) (fun h => by cases h) (fun h => by cases h)
  (fun h => by cases h)
  (fun h => by cases h) (by decide)
def T64 : TI := { agg := false, size := 1, bytes := 8, ty := .bool, zero := .cons (.lit .nilFunc) .nil, kind := 0, dflt := false, elem := 0, flds := [] }
theorem ti64 : TIok Try.prog 64 T64 := ti_mk (z := .nilFunc) (by kernel_rfl) rfl rfl (fun m ρ => ⟨_, _, rfl, rfl, rfl⟩) (fun h => by cases h) (by decide) (by decide) (by decide) rfl Try.underlying64 (fun h => by cases h) (fun h => by cases h) (fun h => by cases h)
  (fun h => by cases h)
  (fun h => by cases h) (by decide)
def T65 : TI := { agg := false, size := 1, bytes := 8, ty := .bool, zero := .cons (.lit .nilFunc) .nil, kind := 0, dflt := false, elem := 0, flds := [] }
theorem ti65 : TIok Try.prog 65 T65 := ti_mk (z := .nilFunc) (by kernel_rfl) rfl rfl (fun m ρ => ⟨_, _, rfl, rfl, rfl⟩) (fun h => by cases h) (by decide) (by decide) (by decide) rfl Try.underlying65 (fun h => by cases h) (fun h => by cases h) (fun h => by cases h)
  (fun h => by cases h)
  (fun h => by cases h) (by decide)
def T66 : TI := { agg := false, size := 1, bytes := 8, ty := .bool, zero := .cons (.lit .nilFunc) .nil, kind := 0, dflt := false, elem := 0, flds := [] }
theorem ti66 : TIok Try.prog 66 T66 := ti_mk (z := .nilFunc) (by kernel_rfl) rfl rfl (fun m ρ => ⟨_, _, rfl, rfl, rfl⟩) (fun h => by cases h) (by decide) (by decide) (by decide) rfl Try.underlying66 (fun h => by cases h) (fun h => by cases h) (fun h => by cases h)
  (fun h => by cases h)
  (fun h => by cases h) (by decide)
def T67 : TI := { agg := false, size := 1, bytes := 8, ty := .bool, zero := .cons (.lit .nilFunc) .nil, kind := 0, dflt := false, elem := 0, flds := [] }
theorem ti67 : TIok Try.prog 67 T67 := ti_mk (z := .nilFunc) (by kernel_rfl) rfl rfl (fun m ρ => ⟨_, _, rfl, rfl, rfl⟩) (fun h => by cases h) (by decide) (by decide) (by decide) rfl Try.underlying67 (fun h => by cases h) (fun h => by cases h) (fun h => by cases h)
  (fun h => by cases h)
  (fun h => by cases h) (by decide)
def T68 : TI := { agg := false, size := 1, bytes := 8, ty := .bool, zero := .cons (.lit .nilFunc) .nil, kind := 0, dflt := false, elem := 0, flds := [] }
theorem ti68 : TIok Try.prog 68 T68 := ti_mk (z := .nilFunc) (by kernel_rfl) rfl rfl (fun m ρ => ⟨_, _, rfl, rfl, rfl⟩) (fun h => by cases h) (by decide) (by decide) (by decide) rfl Try.underlying68 (fun h => by cases h) (fun h => by cases h) (fun h => by cases h)
  (fun h => by cases h)
  (fun h => by cases h) (by decide)
def T69 : TI := { agg := false, size := 1, bytes := 8, ty := .bool, zero := .cons (.lit .nilFunc) .nil, kind := 0, dflt := false, elem := 0, flds := [] }
theorem ti69 : TIok Try.prog 69 T69 := ti_mk (z := .nilFunc) (by kernel_rfl) rfl rfl (fun m ρ => ⟨_, _, rfl, rfl, rfl⟩) (fun h => by cases h) (by decide) (by decide) (by decide) rfl Try.underlying69 (fun h => by cases h) (fun h => by cases h) (fun h => by cases h)
  (fun h => by cases h)
  (fun h => by cases h) (by decide)
def T70 : TI := { agg := false, size := 1, bytes := 8, ty := .bool, zero := .cons (.lit .nilFunc) .nil, kind := 0, dflt := false, elem := 0, flds := [] }
theorem ti70 : TIok Try.prog 70 T70 := ti_mk (z := .nilFunc) (by kernel_rfl) rfl rfl (fun m ρ => ⟨_, _, rfl, rfl, rfl⟩) (fun h => by cases h) (by decide) (by decide) (by decide) rfl Try.underlying70 (fun h => by cases h) (fun h => by cases h) (fun h => by cases h)
  (fun h => by cases h)
  (fun h => by cases h) (by decide)
def T71 : TI := { agg := false, size := 1, bytes := 8, ty := .bool, zero := .cons (.lit .nilFunc) .nil, kind := 0, dflt := false, elem := 0, flds := [] }
theorem ti71 : TIok Try.prog 71 T71 := ti_mk (z := .nilFunc) (by kernel_rfl) rfl rfl (fun m ρ => ⟨_, _, rfl, rfl, rfl⟩) (fun h => by cases h) (by decide) (by decide) (by decide) rfl Try.underlying71 (fun h => by cases h) (fun h => by cases h) (fun h => by cases h)
  (fun h => by cases h)
  (fun h => by cases h) (by decide)
def T72 : TI := { agg := false, size := 1, bytes := 8, ty := .bool, zero := .cons (.lit .nilFunc) .nil, kind := 0, dflt := false, elem := 0, flds := [] }
theorem ti72 : TIok Try.prog 72 T72 := ti_mk (z := .nilFunc) (by kernel_rfl) rfl rfl (fun m ρ => ⟨_, _, rfl, rfl, rfl⟩) (fun h => by cases h) (by decide) (by decide) (by decide) rfl Try.underlying72 (fun h => by cases h) (fun h => by cases h) (fun h => by cases h)
  (fun h => by cases h)
  (fun h => by cases h) (by decide)
def T73 : TI := { agg := false, size := 1, bytes := 8, ty := .bool, zero := .cons (.lit .nilFunc) .nil, kind := 0, dflt := false, elem := 0, flds := [] }
theorem ti73 : TIok Try.prog 73 T73 := ti_mk (z := .nilFunc) (by kernel_rfl) rfl rfl (fun m ρ => ⟨_, _, rfl, rfl, rfl⟩) (fun h => by cases h) (by decide) (by decide) (by decide) rfl Try.underlying73 (fun h => by cases h) (fun h => by cases h) (fun h => by cases h)
  (fun h => by cases h)
  (fun h => by cases h) (by decide)
def T74 : TI := { agg := false, size := 1, bytes := 24, ty := .list (.list (.list (.int .i64))), zero := .cons (.lit (.slice none 0 0)) .nil, kind := 1, dflt := true, elem := 23, flds := [] }
theorem ti74 : TIok Try.prog 74 T74 := ti_mk (z := .slice none 0 0) (by kernel_rfl) rfl rfl (fun m ρ => ⟨_, _, rfl, rfl, rfl⟩) (fun _ m => ⟨none, 0, rfl, Nat.le_refl _, by unfold maxLen; exact Nat.zero_le _, fun h => absurd h (Nat.lt_irrefl 0)⟩) (by decide) (by decide) (by decide) rfl Try.underlying74 (fun _ => Try.underlying74) (fun h => by cases h) (fun h => by cases h)
  (fun h => by cases h)
  (fun h => by cases h) (by decide)
def T75 : TI := { agg := false, size := 1, bytes := 8, ty := .bool, zero := .cons (.lit .nilFunc) .nil, kind := 0, dflt := false, elem := 0, flds := [] }
theorem ti75 : TIok Try.prog 75 T75 := ti_mk (z := .nilFunc) (by kernel_rfl) rfl rfl (fun m ρ => ⟨_, _, rfl, rfl, rfl⟩) (fun h => by cases h) (by decide) (by decide) (by decide) rfl Try.underlying75 (fun h => by cases h) (fun h => by cases h) (fun h => by cases h)
  (fun h => by cases h)
  (fun h => by cases h) (by decide)
def T77 : TI := { agg := false, size := 1, bytes := 8, ty := .bool, zero := .cons (.lit .nilFunc) .nil, kind := 0, dflt := false, elem := 0, flds := [] }
theorem ti77 : TIok Try.prog 77 T77 := ti_mk (z := .nilFunc) (by kernel_rfl) rfl rfl (fun m ρ => ⟨_, _, rfl, rfl, rfl⟩) (fun h => by cases h) (by decide) (by decide) (by decide) rfl Try.underlying77 (fun h => by cases h) (fun h => by cases h) (fun h => by cases h)
  (fun h => by cases h)
  (fun h => by cases h) (by decide)
def T78 : TI := { agg := false, size := 1, bytes := 8, ty := .bool, zero := .cons (.lit .nilFunc) .nil, kind := 0, dflt := false, elem := 0, flds := [] }
theorem ti78 : TIok Try.prog 78 T78 := ti_mk (z := .nilFunc) (by kernel_rfl) rfl rfl (fun m ρ => ⟨_, _, rfl, rfl, rfl⟩) (fun h => by cases h) (by decide) (by decide) (by decide) rfl Try.underlying78 (fun h => by cases h) (fun h => by cases h) (fun h => by cases h)
  (fun h => by cases h)
  (fun h => by cases h) (by decide)
def T79 : TI := { agg := false, size := 1, bytes := 8, ty := .bool, zero := .cons (.lit .nilFunc) .nil, kind := 0, dflt := false, elem := 0, flds := [] }
theorem ti79 : TIok Try.prog 79 T79 := ti_mk (z := .nilFunc) (by kernel_rfl) rfl rfl (fun m ρ => ⟨_, _, rfl, rfl, rfl⟩) (fun h => by cases h) (by decide) (by decide) (by decide) rfl Try.underlying79 (fun h => by cases h) (fun h => by cases h) (fun h => by cases h)
  (fun h => by cases h)
  (fun h => by cases h) (by decide)
def T80 : TI := { agg := false, size := 1, bytes := 8, ty := .bool, zero := .cons (.lit .nilFunc) .nil, kind := 0, dflt := false, elem := 0, flds := [] }
theorem ti80 : TIok Try.prog 80 T80 := ti_mk (z := .nilFunc) (by kernel_rfl) rfl rfl (fun m ρ => ⟨_, _, rfl, rfl, rfl⟩) (fun h => by cases h) (by decide) (by decide) (by decide) rfl Try.underlying80 (fun h => by cases h) (fun h => by cases h) (fun h => by cases h)
  (fun h => by cases h)
  (fun h => by cases h) (by decide)
def T81 : TI := { agg := false, size := 1, bytes := 8, ty := .bool, zero := .cons (.lit .nilFunc) .nil, kind := 0, dflt := false, elem := 0, flds := [] }
theorem ti81 : TIok Try.prog 81 T81 := ti_mk (z := .nilFunc) (by kernel_rfl) rfl rfl (fun m ρ => ⟨_, _, rfl, rfl, rfl⟩) (fun h => by cases h) (by decide) (by decide) (by decide) rfl Try.underlying81 (fun h => by cases h) (fun h => by cases h) (fun h => by cases h)
  (fun h => by cases h)
  (fun h => by cases h) (by decide)
def T82 : TI := { agg := false, size := 1, bytes := 8, ty := .bool, zero := .cons (.lit .nilFunc) .nil, kind := 0, dflt := false, elem := 0, flds := [] }
theorem ti82 : TIok Try.prog 82 T82 := ti_mk (z := .nilFunc) (by kernel_rfl) rfl rfl (fun m ρ => ⟨_, _, rfl, rfl, rfl⟩) (fun h => by cases h) (by decide) (by decide) (by decide) rfl Try.underlying82 (fun h => by cases h) (fun h => by cases h) (fun h => by cases h)
  (fun h => by cases h)
  (fun h => by cases h) (by decide)
def T83 : TI := { agg := false, size := 1, bytes := 8, ty := .bool, zero := .cons (.lit .nilFunc) .nil, kind := 0, dflt := false, elem := 0, flds := [] }
theorem ti83 : TIok Try.prog 83 T83 := ti_mk (z := .nilFunc) (by kernel_rfl) rfl rfl (fun m ρ => ⟨_, _, rfl, rfl, rfl⟩) (fun h => by cases h) (by decide) (by decide) (by decide) rfl Try.underlying83 (fun h => by cases h) (fun h => by cases h) (fun h => by cases h)
  (fun h => by cases h)
  (fun h => by cases h) (by decide)
def T84 : TI := { agg := false, size := 1, bytes := 8, ty := .bool, zero := .cons (.lit .nilFunc) .nil, kind := 0, dflt := false, elem := 0, flds := [] }
theorem ti84 : TIok Try.prog 84 T84 := ti_mk (z := .nilFunc) (by kernel_rfl) rfl rfl (fun m ρ => ⟨_, _, rfl, rfl, rfl⟩) (fun h => by cases h) (by decide) (by decide) (by decide) rfl Try.underlying84 (fun h => by cases h) (fun h => by cases h) (fun h => by cases h)
  (fun h => by cases h)
  (fun h => by cases h) (by decide)
def T85 : TI := { agg := true, size := 2, bytes := 48, ty := .prod (.list (.int .i64)) (.list (.int .i64)), zero := .cons (.lit (.slice none 0 0)) (.cons (.lit (.slice none 0 0)) .nil), kind := 4, dflt := true, elem := 24, flds := [(0, 24, 1), (1, 24, 1)] }
theorem ti85 : TIok Try.prog 85 T85 := ti_mk (z := .agg #[.slice none 0 0, .slice none 0 0]) (by kernel_rfl) rfl rfl (fun m ρ => ⟨_, _, rfl, rfl, ⟨_, _, rfl, rfl, rfl⟩⟩) (fun _ m => ⟨[.slice none 0 0], [.slice none 0 0], rfl, ⟨none, 0, rfl, Nat.le_refl _, by unfold maxLen; exact Nat.zero_le _, fun h => absurd h (Nat.lt_irrefl 0)⟩, ⟨none, 0, rfl, Nat.le_refl _, by unfold maxLen; exact Nat.zero_le _, fun h => absurd h (Nat.lt_irrefl 0)⟩⟩) (by decide) (by decide) (by decide) rfl Try.underlying85 (fun h => by cases h) (fun h => by cases h) (fun h => by cases h)
  (fun _ => ⟨2, 1, Try.underlying85, ti_sz ti24, by decide, fun f fl h => by
    match f, h with
    | 0, h => injection h with h; exact ⟨h.symm, by decide⟩
    | 1, h => injection h with h; exact ⟨h.symm, by decide⟩⟩)
  (fun h => by cases h) (by decide)
def T86 : TI := { agg := false, size := 1, bytes := 8, ty := .bool, zero := .cons (.lit .nilFunc) .nil, kind := 0, dflt := false, elem := 0, flds := [] }
theorem ti86 : TIok Try.prog 86 T86 := ti_mk (z := .nilFunc) (by kernel_rfl) rfl rfl (fun m ρ => ⟨_, _, rfl, rfl, rfl⟩) (fun h => by cases h) (by decide) (by decide) (by decide) rfl Try.underlying86 (fun h => by cases h) (fun h => by cases h) (fun h => by cases h)
  (fun h => by cases h)
  (fun h => by cases h) (by decide)
def T87 : TI := { agg := false, size := 1, bytes := 8, ty := .bool, zero := .cons (.lit .nilFunc) .nil, kind := 0, dflt := false, elem := 0, flds := [] }
theorem ti87 : TIok Try.prog 87 T87 := ti_mk (z := .nilFunc) (by kernel_rfl) rfl rfl (fun m ρ => ⟨_, _, rfl, rfl, rfl⟩) (fun h => by cases h) (by decide) (by decide) (by decide) rfl Try.underlying87 (fun h => by cases h) (fun h => by cases h) (fun h => by cases h)
  (fun h => by cases h)
  (fun h => by cases h) (by decide)
def T88 : TI := { agg := false, size := 1, bytes := 8, ty := .int .u64, zero := .cons (.lit (.int .u64 0)) .nil, kind := 0, dflt := true, elem := 0, flds := [], isInt := true }
theorem ti88 : TIok Try.prog 88 T88 := ti_mk (z := .int .u64 0) (by kernel_rfl) rfl rfl (fun m ρ => ⟨_, _, rfl, rfl, rfl⟩) (fun _ m => rfl) (by decide) (by decide) (by decide) rfl Try.underlying88 (fun h => by cases h) (fun h => by cases h) (fun h => by cases h)
  (fun h => by cases h)
  (fun h => by cases h) (by decide) (h16 := fun _ => ⟨.u64, rfl, Try.underlying88⟩)
def T89 : TI := { agg := false, size := 1, bytes := 8, ty := .bool, zero := .cons (.lit .nilFunc) .nil, kind := 0, dflt := false, elem := 0, flds := [] }
theorem ti89 : TIok Try.prog 89 T89 := ti_mk (z := .nilFunc) (by kernel_rfl) rfl rfl (fun m ρ => ⟨_, _, rfl, rfl, rfl⟩) (fun h => by cases h) (by decide) (by decide) (by decide) rfl Try.underlying89 (fun h => by cases h) (fun h => by cases h) (fun h => by cases h)
  (fun h => by cases h)
  (fun h => by cases h) (by decide)
def T90 : TI := { agg := false, size := 1, bytes := 8, ty := .bool, zero := .cons (.lit .nilFunc) .nil, kind := 0, dflt := false, elem := 0, flds := [] }
theorem ti90 : TIok Try.prog 90 T90 := ti_mk (z := .nilFunc) (by kernel_rfl) rfl rfl (fun m ρ => ⟨_, _, rfl, rfl, rfl⟩) (fun h => by cases h) (by decide) (by decide) (by decide) rfl Try.underlying90 (fun h => by cases h) (fun h => by cases h) (fun h => by cases h)
  (fun h => by cases h)
  (fun h => by cases h) (by decide)
def T91 : TI := { agg := false, size := 1, bytes := 8, ty := .bool, zero := .cons (.lit .nilFunc) .nil, kind := 0, dflt := false, elem := 0, flds := [] }
theorem ti91 : TIok Try.prog 91 T91 := ti_mk (z := .nilFunc) (by kernel_rfl) rfl rfl (fun m ρ => ⟨_, _, rfl, rfl, rfl⟩) (fun h => by cases h) (by decide) (by decide) (by decide) rfl Try.underlying91 (fun h => by cases h) (fun h => by cases h) (fun h => by cases h)
  (fun h => by cases h)
  (fun h => by cases h) (by decide)
def T92 : TI := { agg := false, size := 1, bytes := 8, ty := .bool, zero := .cons (.lit (.map none)) .nil, kind := 0, dflt := false, elem := 0, flds := [] }
theorem ti92 : TIok Try.prog 92 T92 := ti_mk (z := .map none) (by kernel_rfl) rfl rfl (fun m ρ => ⟨_, _, rfl, rfl, rfl⟩) (fun h => by cases h) (by decide) (by decide) (by decide) rfl Try.underlying92 (fun h => by cases h) (fun h => by cases h) (fun h => by cases h)
  (fun h => by cases h)
  (fun h => by cases h) (by decide)
def T93 : TI := { agg := false, size := 1, bytes := 8, ty := .bool, zero := .cons (.lit .nilFunc) .nil, kind := 0, dflt := false, elem := 0, flds := [] }
theorem ti93 : TIok Try.prog 93 T93 := ti_mk (z := .nilFunc) (by kernel_rfl) rfl rfl (fun m ρ => ⟨_, _, rfl, rfl, rfl⟩) (fun h => by cases h) (by decide) (by decide) (by decide) rfl Try.underlying93 (fun h => by cases h) (fun h => by cases h) (fun h => by cases h)
  (fun h => by cases h)
  (fun h => by cases h) (by decide)
def T95 : TI := { agg := false, size := 1, bytes := 8, ty := .bool, zero := .cons (.lit .nilFunc) .nil, kind := 0, dflt := false, elem := 0, flds := [] }
theorem ti95 : TIok Try.prog 95 T95 := ti_mk (z := .nilFunc) (by kernel_rfl) rfl rfl (fun m ρ => ⟨_, _, rfl, rfl, rfl⟩) (fun h => by cases h) (by decide) (by decide) (by decide) rfl Try.underlying95 (fun h => by cases h) (fun h => by cases h) (fun h => by cases h)
  (fun h => by cases h)
  (fun h => by cases h) (by decide)
def T96 : TI := { agg := false, size := 1, bytes := 8, ty := .bool, zero := .cons (.lit .nilFunc) .nil, kind := 0, dflt := false, elem := 0, flds := [] }
theorem ti96 : TIok Try.prog 96 T96 := ti_mk (z := .nilFunc) (by kernel_rfl) rfl rfl (fun m ρ => ⟨_, _, rfl, rfl, rfl⟩) (fun h => by cases h) (by decide) (by decide) (by decide) rfl Try.underlying96 (fun h => by cases h) (fun h => by cases h) (fun h => by cases h)
  (fun h => by cases h)
  (fun h => by cases h) (by decide)
def T97 : TI := { agg := false, size := 1, bytes := 8, ty := .bool, zero := .cons (.lit .nilFunc) .nil, kind := 0, dflt := false, elem := 0, flds := [] }
theorem ti97 : TIok Try.prog 97 T97 := ti_mk (z := .nilFunc) (by kernel_rfl) rfl rfl (fun m ρ => ⟨_, _, rfl, rfl, rfl⟩) (fun h => by cases h) (by decide) (by decide) (by decide) rfl Try.underlying97 (fun h => by cases h) (fun h => by cases h) (fun h => by cases h)
  (fun h => by cases h)
  (fun h => by cases h) (by decide)
def T98 : TI := { agg := false, size := 1, bytes := 8, ty := .bool, zero := .cons (.lit (.pointer none)) .nil, kind := 0, dflt := false, elem := 0, flds := [] }
theorem ti98 : TIok Try.prog 98 T98 := ti_mk (z := .pointer none) (by kernel_rfl) rfl rfl (fun m ρ => ⟨_, _, rfl, rfl, rfl⟩) (fun h => by cases h) (by decide) (by decide) (by decide) rfl Try.underlying98 (fun h => by cases h) (fun h => by cases h) (fun h => by cases h)
  (fun h => by cases h)
  (fun h => by cases h) (by decide)
def T99 : TI := { agg := false, size := 1, bytes := 24, ty := .list (.int .u8), zero := .cons (.lit (.slice none 0 0)) .nil, kind := 1, dflt := true, elem := 5, flds := [] }
theorem ti99 : TIok Try.prog 99 T99 := ti_mk (z := .slice none 0 0) (by kernel_rfl) rfl rfl (fun m ρ => ⟨_, _, rfl, rfl, rfl⟩) (fun _ m => ⟨none, 0, rfl, Nat.le_refl _, by unfold maxLen; exact Nat.zero_le _, fun h => absurd h (Nat.lt_irrefl 0)⟩) (by decide) (by decide) (by decide) rfl Try.underlying99 (fun _ => Try.underlying99) (fun h => by cases h) (fun h => by cases h)
  (fun h => by cases h)
  (fun h => by cases h) (by decide)
def T100 : TI := { agg := true, size := 2, bytes := 32, ty := .bool, zero := .cons (.lit (.pointer none)) (.cons (.lit (.slice none 0 0)) .nil), kind := 5, dflt := false, elem := 0, flds := [(0, 98, 1), (1, 99, 1)] }
theorem ti100 : TIok Try.prog 100 T100 := ti_mk (z := .agg #[.pointer none, .slice none 0 0]) (by kernel_rfl) rfl rfl (fun m ρ => ⟨_, _, rfl, rfl, ⟨_, _, rfl, rfl, rfl⟩⟩) (fun h => by cases h) (by decide) (by decide) (by decide) rfl Try.underlying100 (fun h => by cases h) (fun h => by cases h) (fun h => by cases h)
  (fun h => by cases h)
  (fun _ => ⟨_, Try.underlying100, rfl, fun f hf => by
    simp only [T100, List.mem_cons, List.not_mem_nil, or_false] at hf
    rcases hf with rfl | rfl
    · exact ⟨ti_sz ti98, by decide⟩
    · exact ⟨ti_sz ti99, by decide⟩⟩) (by decide)
def T101 : TI := { agg := true, size := 2, bytes := 32, ty := .bool, zero := .cons (.lit (.pointer none)) (.cons (.lit (.slice none 0 0)) .nil), kind := 5, dflt := false, elem := 0, flds := [(0, 98, 1), (1, 99, 1)], bld := some 5 }
theorem ti101 : TIok Try.prog 101 T101 := ti_mk (z := .agg #[.pointer none, .slice none 0 0]) (by kernel_rfl) rfl rfl (fun m ρ => ⟨_, _, rfl, rfl, ⟨_, _, rfl, rfl, rfl⟩⟩) (fun h => by cases h) (by decide) (by decide) (by decide) rfl Try.underlying101 (fun h => by cases h) (fun h => by cases h) (fun h => by cases h)
  (fun h => by cases h)
  (fun _ => ⟨_, Try.underlying101, rfl, fun f hf => by
    simp only [T101, List.mem_cons, List.not_mem_nil, or_false] at hf
    rcases hf with rfl | rfl
    · exact ⟨ti_sz ti98, by decide⟩
    · exact ⟨ti_sz ti99, by decide⟩⟩) (by decide) (h17 := fun _ _ => zero_of (by kernel_rfl))
def T104 : TI := { agg := false, size := 1, bytes := 8, ty := .bool, zero := .cons (.lit .nilFunc) .nil, kind := 0, dflt := false, elem := 0, flds := [] }
theorem ti104 : TIok Try.prog 104 T104 := ti_mk (z := .nilFunc) (by kernel_rfl) rfl rfl (fun m ρ => ⟨_, _, rfl, rfl, rfl⟩) (fun h => by cases h) (by decide) (by decide) (by decide) rfl Try.underlying104 (fun h => by cases h) (fun h => by cases h) (fun h => by cases h)
  (fun h => by cases h)
  (fun h => by cases h) (by decide)
def T105 : TI := { agg := false, size := 1, bytes := 8, ty := .bool, zero := .cons (.lit .nilFunc) .nil, kind := 0, dflt := false, elem := 0, flds := [] }
theorem ti105 : TIok Try.prog 105 T105 := ti_mk (z := .nilFunc) (by kernel_rfl) rfl rfl (fun m ρ => ⟨_, _, rfl, rfl, rfl⟩) (fun h => by cases h) (by decide) (by decide) (by decide) rfl Try.underlying105 (fun h => by cases h) (fun h => by cases h) (fun h => by cases h)
  (fun h => by cases h)
  (fun h => by cases h) (by decide)
def T106 : TI := { agg := false, size := 1, bytes := 8, ty := .bool, zero := .cons (.lit .nilFunc) .nil, kind := 0, dflt := false, elem := 0, flds := [] }
theorem ti106 : TIok Try.prog 106 T106 := ti_mk (z := .nilFunc) (by kernel_rfl) rfl rfl (fun m ρ => ⟨_, _, rfl, rfl, rfl⟩) (fun h => by cases h) (by decide) (by decide) (by decide) rfl Try.underlying106 (fun h => by cases h) (fun h => by cases h) (fun h => by cases h)
  (fun h => by cases h)
  (fun h => by cases h) (by decide)
def T107 : TI := { agg := false, size := 1, bytes := 8, ty := .bool, zero := .cons (.lit .nilFunc) .nil, kind := 0, dflt := false, elem := 0, flds := [] }
theorem ti107 : TIok Try.prog 107 T107 := ti_mk (z := .nilFunc) (by kernel_rfl) rfl rfl (fun m ρ => ⟨_, _, rfl, rfl, rfl⟩) (fun h => by cases h) (by decide) (by decide) (by decide) rfl Try.underlying107 (fun h => by cases h) (fun h => by cases h) (fun h => by cases h)
  (fun h => by cases h)
  (fun h => by cases h) (by decide)
def T108 : TI := { agg := false, size := 1, bytes := 8, ty := .bool, zero := .cons (.lit .nilFunc) .nil, kind := 0, dflt := false, elem := 0, flds := [] }
theorem ti108 : TIok Try.prog 108 T108 := ti_mk (z := .nilFunc) (by kernel_rfl) rfl rfl (fun m ρ => ⟨_, _, rfl, rfl, rfl⟩) (fun h => by cases h) (by decide) (by decide) (by decide) rfl Try.underlying108 (fun h => by cases h) (fun h => by cases h) (fun h => by cases h)
  (fun h => by cases h)
  (fun h => by cases h) (by decide)
def T109 : TI := { agg := false, size := 1, bytes := 8, ty := .bool, zero := .cons (.lit .nilFunc) .nil, kind := 0, dflt := false, elem := 0, flds := [] }
theorem ti109 : TIok Try.prog 109 T109 := ti_mk (z := .nilFunc) (by kernel_rfl) rfl rfl (fun m ρ => ⟨_, _, rfl, rfl, rfl⟩) (fun h => by cases h) (by decide) (by decide) (by decide) rfl Try.underlying109 (fun h => by cases h) (fun h => by cases h) (fun h => by cases h)
  (fun h => by cases h)
  (fun h => by cases h) (by decide)
def T110 : TI := { agg := false, size := 1, bytes := 4, ty := .int .u32, zero := .cons (.lit (.int .u32 0)) .nil, kind := 0, dflt := true, elem := 0, flds := [], isInt := true }
theorem ti110 : TIok Try.prog 110 T110 := ti_mk (z := .int .u32 0) (by kernel_rfl) rfl rfl (fun m ρ => ⟨_, _, rfl, rfl, rfl⟩) (fun _ m => rfl) (by decide) (by decide) (by decide) rfl Try.underlying110 (fun h => by cases h) (fun h => by cases h) (fun h => by cases h)
  (fun h => by cases h)
  (fun h => by cases h) (by decide) (h16 := fun _ => ⟨.u32, rfl, Try.underlying110⟩)
def T111 : TI := { agg := false, size := 1, bytes := 8, ty := .bool, zero := .cons (.lit .nilFunc) .nil, kind := 0, dflt := false, elem := 0, flds := [] }
theorem ti111 : TIok Try.prog 111 T111 := ti_mk (z := .nilFunc) (by kernel_rfl) rfl rfl (fun m ρ => ⟨_, _, rfl, rfl, rfl⟩) (fun h => by cases h) (by decide) (by decide) (by decide) rfl Try.underlying111 (fun h => by cases h) (fun h => by cases h) (fun h => by cases h)
  (fun h => by cases h)
  (fun h => by cases h) (by decide)
def T112 : TI := { agg := false, size := 1, bytes := 8, ty := .int .u64, zero := .cons (.lit (.int .u64 0)) .nil, kind := 0, dflt := true, elem := 0, flds := [], isInt := true }
theorem ti112 : TIok Try.prog 112 T112 := ti_mk (z := .int .u64 0) (by kernel_rfl) rfl rfl (fun m ρ => ⟨_, _, rfl, rfl, rfl⟩) (fun _ m => rfl) (by decide) (by decide) (by decide) rfl Try.underlying112 (fun h => by cases h) (fun h => by cases h) (fun h => by cases h)
  (fun h => by cases h)
  (fun h => by cases h) (by decide) (h16 := fun _ => ⟨.u64, rfl, Try.underlying112⟩)
def T113 : TI := { agg := false, size := 1, bytes := 8, ty := .bool, zero := .cons (.lit .nilFunc) .nil, kind := 0, dflt := false, elem := 0, flds := [] }
theorem ti113 : TIok Try.prog 113 T113 := ti_mk (z := .nilFunc) (by kernel_rfl) rfl rfl (fun m ρ => ⟨_, _, rfl, rfl, rfl⟩) (fun h => by cases h) (by decide) (by decide) (by decide) rfl Try.underlying113 (fun h => by cases h) (fun h => by cases h) (fun h => by cases h)
  (fun h => by cases h)
  (fun h => by cases h) (by decide)
def T114 : TI := { agg := false, size := 1, bytes := 8, ty := .bool, zero := .cons (.lit .nilFunc) .nil, kind := 0, dflt := false, elem := 0, flds := [] }
theorem ti114 : TIok Try.prog 114 T114 := ti_mk (z := .nilFunc) (by kernel_rfl) rfl rfl (fun m ρ => ⟨_, _, rfl, rfl, rfl⟩) (fun h => by cases h) (by decide) (by decide) (by decide) rfl Try.underlying114 (fun h => by cases h) (fun h => by cases h) (fun h => by cases h)
  (fun h => by cases h)
  (fun h => by cases h) (by decide)
def T115 : TI := { agg := false, size := 1, bytes := 8, ty := .bool, zero := .cons (.lit .nilFunc) .nil, kind := 0, dflt := false, elem := 0, flds := [] }
theorem ti115 : TIok Try.prog 115 T115 := ti_mk (z := .nilFunc) (by kernel_rfl) rfl rfl (fun m ρ => ⟨_, _, rfl, rfl, rfl⟩) (fun h => by cases h) (by decide) (by decide) (by decide) rfl Try.underlying115 (fun h => by cases h) (fun h => by cases h) (fun h => by cases h)
  (fun h => by cases h)
  (fun h => by cases h) (by decide)
def T116 : TI := { agg := false, size := 1, bytes := 8, ty := .bool, zero := .cons (.lit .nilFunc) .nil, kind := 0, dflt := false, elem := 0, flds := [] }
theorem ti116 : TIok Try.prog 116 T116 := ti_mk (z := .nilFunc) (by kernel_rfl) rfl rfl (fun m ρ => ⟨_, _, rfl, rfl, rfl⟩) (fun h => by cases h) (by decide) (by decide) (by decide) rfl Try.underlying116 (fun h => by cases h) (fun h => by cases h) (fun h => by cases h)
  (fun h => by cases h)
  (fun h => by cases h) (by decide)
def T117 : TI := { agg := false, size := 1, bytes := 8, ty := .bool, zero := .cons (.lit (.pointer none)) .nil, kind := 0, dflt := false, elem := 0, flds := [] }
theorem ti117 : TIok Try.prog 117 T117 := ti_mk (z := .pointer none) (by kernel_rfl) rfl rfl (fun m ρ => ⟨_, _, rfl, rfl, rfl⟩) (fun h => by cases h) (by decide) (by decide) (by decide) rfl Try.underlying117 (fun h => by cases h) (fun h => by cases h) (fun h => by cases h)
  (fun h => by cases h)
  (fun h => by cases h) (by decide)
def T118 : TI := { agg := false, size := 1, bytes := 8, ty := .bool, zero := .cons (.lit .nilFunc) .nil, kind := 0, dflt := false, elem := 0, flds := [] }
theorem ti118 : TIok Try.prog 118 T118 := ti_mk (z := .nilFunc) (by kernel_rfl) rfl rfl (fun m ρ => ⟨_, _, rfl, rfl, rfl⟩) (fun h => by cases h) (by decide) (by decide) (by decide) rfl Try.underlying118 (fun h => by cases h) (fun h => by cases h) (fun h => by cases h)
  (fun h => by cases h)
  (fun h => by cases h) (by decide)
def T119 : TI := { agg := false, size := 1, bytes := 8, ty := .bool, zero := .cons (.lit .nilFunc) .nil, kind := 0, dflt := false, elem := 0, flds := [] }
theorem ti119 : TIok Try.prog 119 T119 := ti_mk (z := .nilFunc) (by kernel_rfl) rfl rfl (fun m ρ => ⟨_, _, rfl, rfl, rfl⟩) (fun h => by cases h) (by decide) (by decide) (by decide) rfl Try.underlying119 (fun h => by cases h) (fun h => by cases h) (fun h => by cases h)
  (fun h => by cases h)
  (fun h => by cases h) (by decide)
def T121 : TI := { agg := false, size := 1, bytes := 8, ty := .bool, zero := .cons (.lit .nilFunc) .nil, kind := 0, dflt := false, elem := 0, flds := [] }
theorem ti121 : TIok Try.prog 121 T121 := ti_mk (z := .nilFunc) (by kernel_rfl) rfl rfl (fun m ρ => ⟨_, _, rfl, rfl, rfl⟩) (fun h => by cases h) (by decide) (by decide) (by decide) rfl Try.underlying121 (fun h => by cases h) (fun h => by cases h) (fun h => by cases h)
  (fun h => by cases h)
  (fun h => by cases h) (by decide)
def T123 : TI := { agg := false, size := 1, bytes := 8, ty := .bool, zero := .cons (.lit .nilFunc) .nil, kind := 0, dflt := false, elem := 0, flds := [] }
theorem ti123 : TIok Try.prog 123 T123 := ti_mk (z := .nilFunc) (by kernel_rfl) rfl rfl (fun m ρ => ⟨_, _, rfl, rfl, rfl⟩) (fun h => by cases h) (by decide) (by decide) (by decide) rfl Try.underlying123 (fun h => by cases h) (fun h => by cases h) (fun h => by cases h)
  (fun h => by cases h)
  (fun h => by cases h) (by decide)
def T124 : TI := { agg := true, size := 4, bytes := 40, ty := .bool, zero := .cons (.lit (.pointer none)) (.cons (.lit (.pointer none)) (.cons (.lit (.pointer none)) (.cons (.lit (.string ⟨#[]⟩)) .nil))), kind := 5, dflt := false, elem := 0, flds := [(0, 17, 1), (1, 17, 1), (2, 17, 1), (3, 9, 1)] }
theorem ti124 : TIok Try.prog 124 T124 := ti_mk (z := .agg #[.pointer none, .pointer none, .pointer none, .string ⟨#[]⟩]) (by kernel_rfl) rfl rfl (fun m ρ => ⟨_, _, rfl, rfl, ⟨_, _, rfl, rfl, ⟨_, _, rfl, rfl, ⟨_, _, rfl, rfl, rfl⟩⟩⟩⟩) (fun h => by cases h) (by decide) (by decide) (by decide) rfl Try.underlying124 (fun h => by cases h) (fun h => by cases h) (fun h => by cases h)
  (fun h => by cases h)
  (fun _ => ⟨_, Try.underlying124, rfl, fun f hf => by
    simp only [T124, List.mem_cons, List.not_mem_nil, or_false] at hf
    rcases hf with rfl | rfl | rfl | rfl
    · exact ⟨ti_sz ti17, by decide⟩
    · exact ⟨ti_sz ti17, by decide⟩
    · exact ⟨ti_sz ti17, by decide⟩
    · exact ⟨ti_sz ti9, by decide⟩⟩) (by decide)
def T125 : TI := { agg := true, size := 4, bytes := 40, ty := .bool, zero := .cons (.lit (.pointer none)) (.cons (.lit (.pointer none)) (.cons (.lit (.pointer none)) (.cons (.lit (.string ⟨#[]⟩)) .nil))), kind := 5, dflt := false, elem := 0, flds := [(0, 17, 1), (1, 17, 1), (2, 17, 1), (3, 9, 1)] }
theorem ti125 : TIok Try.prog 125 T125 := ti_mk (z := .agg #[.pointer none, .pointer none, .pointer none, .string ⟨#[]⟩]) (by kernel_rfl) rfl rfl (fun m ρ => ⟨_, _, rfl, rfl, ⟨_, _, rfl, rfl, ⟨_, _, rfl, rfl, ⟨_, _, rfl, rfl, rfl⟩⟩⟩⟩) (fun h => by cases h) (by decide) (by decide) (by decide) rfl Try.underlying125 (fun h => by cases h) (fun h => by cases h) (fun h => by cases h)
  (fun h => by cases h)
  (fun _ => ⟨_, Try.underlying125, rfl, fun f hf => by
    simp only [T125, List.mem_cons, List.not_mem_nil, or_false] at hf
    rcases hf with rfl | rfl | rfl | rfl
    · exact ⟨ti_sz ti17, by decide⟩
    · exact ⟨ti_sz ti17, by decide⟩
    · exact ⟨ti_sz ti17, by decide⟩
    · exact ⟨ti_sz ti9, by decide⟩⟩) (by decide)
def T129 : TI := { agg := false, size := 1, bytes := 1, ty := .int .u8, zero := .cons (.lit (.int .u8 0)) .nil, kind := 0, dflt := true, elem := 0, flds := [], isInt := true }
theorem ti129 : TIok Try.prog 129 T129 := ti_mk (z := .int .u8 0) (by kernel_rfl) rfl rfl (fun m ρ => ⟨_, _, rfl, rfl, rfl⟩) (fun _ m => rfl) (by decide) (by decide) (by decide) rfl Try.underlying129 (fun h => by cases h) (fun h => by cases h) (fun h => by cases h)
  (fun h => by cases h)
  (fun h => by cases h) (by decide) (h16 := fun _ => ⟨.u8, rfl, Try.underlying129⟩)
def T130 : TI := { agg := false, size := 1, bytes := 1, ty := .int .u8, zero := .cons (.lit (.int .u8 0)) .nil, kind := 0, dflt := true, elem := 0, flds := [], isInt := true }
theorem ti130 : TIok Try.prog 130 T130 := ti_mk (z := .int .u8 0) (by kernel_rfl) rfl rfl (fun m ρ => ⟨_, _, rfl, rfl, rfl⟩) (fun _ m => rfl) (by decide) (by decide) (by decide) rfl Try.underlying130 (fun h => by cases h) (fun h => by cases h) (fun h => by cases h)
  (fun h => by cases h)
  (fun h => by cases h) (by decide) (h16 := fun _ => ⟨.u8, rfl, Try.underlying130⟩)
def T131 : TI := { agg := false, size := 1, bytes := 8, ty := .bool, zero := .cons (.lit .nilFunc) .nil, kind := 0, dflt := false, elem := 0, flds := [] }
theorem ti131 : TIok Try.prog 131 T131 := ti_mk (z := .nilFunc) (by kernel_rfl) rfl rfl (fun m ρ => ⟨_, _, rfl, rfl, rfl⟩) (fun h => by cases h) (by decide) (by decide) (by decide) rfl Try.underlying131 (fun h => by cases h) (fun h => by cases h) (fun h => by cases h)
  (fun h => by cases h)
  (fun h => by cases h) (by decide)
def T132 : TI := { agg := false, size := 1, bytes := 4, ty := .int .i32, zero := .cons (.lit (.int .i32 0)) .nil, kind := 0, dflt := true, elem := 0, flds := [], isInt := true }
theorem ti132 : TIok Try.prog 132 T132 := ti_mk (z := .int .i32 0) (by kernel_rfl) rfl rfl (fun m ρ => ⟨_, _, rfl, rfl, rfl⟩) (fun _ m => rfl) (by decide) (by decide) (by decide) rfl Try.underlying132 (fun h => by cases h) (fun h => by cases h) (fun h => by cases h)
  (fun h => by cases h)
  (fun h => by cases h) (by decide) (h16 := fun _ => ⟨.i32, rfl, Try.underlying132⟩)
def T133 : TI := { agg := false, size := 1, bytes := 4, ty := .int .i32, zero := .cons (.lit (.int .i32 0)) .nil, kind := 0, dflt := true, elem := 0, flds := [], isInt := true }
theorem ti133 : TIok Try.prog 133 T133 := ti_mk (z := .int .i32 0) (by kernel_rfl) rfl rfl (fun m ρ => ⟨_, _, rfl, rfl, rfl⟩) (fun _ m => rfl) (by decide) (by decide) (by decide) rfl Try.underlying133 (fun h => by cases h) (fun h => by cases h) (fun h => by cases h)
  (fun h => by cases h)
  (fun h => by cases h) (by decide) (h16 := fun _ => ⟨.i32, rfl, Try.underlying133⟩)
def T134 : TI := { agg := true, size := 11, bytes := 48, ty := .bool, zero := .cons (.lit (.int .u64 0)) (.cons (.lit (.int .u64 0)) (.cons (.lit (.int .u32 0)) (.cons (.lit (.int .u8 0)) (.cons (.lit (.int .u8 0)) (.cons (.lit (.int .u8 0)) (.cons (.lit (.int .u8 0)) (.cons (.lit .nilFunc) (.cons (.lit (.pointer none)) (.cons (.lit (.int .i32 0)) (.cons (.lit (.int .i32 0)) .nil)))))))))), kind := 5, dflt := false, elem := 0, flds := [(0, 12, 1), (1, 12, 1), (2, 110, 1), (3, 129, 1), (4, 5, 1), (5, 5, 1), (6, 130, 1), (7, 131, 1), (8, 117, 1), (9, 132, 1), (10, 133, 1)] }
theorem ti134 : TIok Try.prog 134 T134 := ti_mk (z := .agg #[.int .u64 0, .int .u64 0, .int .u32 0, .int .u8 0, .int .u8 0, .int .u8 0, .int .u8 0, .nilFunc, .pointer none, .int .i32 0, .int .i32 0]) (by kernel_rfl) rfl rfl (fun m ρ => ⟨_, _, rfl, rfl, ⟨_, _, rfl, rfl, ⟨_, _, rfl, rfl, ⟨_, _, rfl, rfl, ⟨_, _, rfl, rfl, ⟨_, _, rfl, rfl, ⟨_, _, rfl, rfl, ⟨_, _, rfl, rfl, ⟨_, _, rfl, rfl, ⟨_, _, rfl, rfl, ⟨_, _, rfl, rfl, rfl⟩⟩⟩⟩⟩⟩⟩⟩⟩⟩⟩) (fun h => by cases h) (by decide) (by decide) (by decide) rfl Try.underlying134 (fun h => by cases h) (fun h => by cases h) (fun h => by cases h)
  (fun h => by cases h)
  (fun _ => ⟨_, Try.underlying134, rfl, fun f hf => by
    simp only [T134, List.mem_cons, List.not_mem_nil, or_false] at hf
    rcases hf with rfl | rfl | rfl | rfl | rfl | rfl | rfl | rfl | rfl | rfl | rfl
    · exact ⟨ti_sz ti12, by decide⟩
    · exact ⟨ti_sz ti12, by decide⟩
    · exact ⟨ti_sz ti110, by decide⟩
    · exact ⟨ti_sz ti129, by decide⟩
    · exact ⟨ti_sz ti5, by decide⟩
    · exact ⟨ti_sz ti5, by decide⟩
    · exact ⟨ti_sz ti130, by decide⟩
    · exact ⟨ti_sz ti131, by decide⟩
    · exact ⟨ti_sz ti117, by decide⟩
    · exact ⟨ti_sz ti132, by decide⟩
    · exact ⟨ti_sz ti133, by decide⟩⟩) (by decide)
def T135 : TI := { agg := true, size := 11, bytes := 48, ty := .bool, zero := .cons (.lit (.int .u64 0)) (.cons (.lit (.int .u64 0)) (.cons (.lit (.int .u32 0)) (.cons (.lit (.int .u8 0)) (.cons (.lit (.int .u8 0)) (.cons (.lit (.int .u8 0)) (.cons (.lit (.int .u8 0)) (.cons (.lit .nilFunc) (.cons (.lit (.pointer none)) (.cons (.lit (.int .i32 0)) (.cons (.lit (.int .i32 0)) .nil)))))))))), kind := 5, dflt := false, elem := 0, flds := [(0, 12, 1), (1, 12, 1), (2, 110, 1), (3, 129, 1), (4, 5, 1), (5, 5, 1), (6, 130, 1), (7, 131, 1), (8, 117, 1), (9, 132, 1), (10, 133, 1)] }
theorem ti135 : TIok Try.prog 135 T135 := ti_mk (z := .agg #[.int .u64 0, .int .u64 0, .int .u32 0, .int .u8 0, .int .u8 0, .int .u8 0, .int .u8 0, .nilFunc, .pointer none, .int .i32 0, .int .i32 0]) (by kernel_rfl) rfl rfl (fun m ρ => ⟨_, _, rfl, rfl, ⟨_, _, rfl, rfl, ⟨_, _, rfl, rfl, ⟨_, _, rfl, rfl, ⟨_, _, rfl, rfl, ⟨_, _, rfl, rfl, ⟨_, _, rfl, rfl, ⟨_, _, rfl, rfl, ⟨_, _, rfl, rfl, ⟨_, _, rfl, rfl, ⟨_, _, rfl, rfl, rfl⟩⟩⟩⟩⟩⟩⟩⟩⟩⟩⟩) (fun h => by cases h) (by decide) (by decide) (by decide) rfl Try.underlying135 (fun h => by cases h) (fun h => by cases h) (fun h => by cases h)
  (fun h => by cases h)
  (fun _ => ⟨_, Try.underlying135, rfl, fun f hf => by
    simp only [T135, List.mem_cons, List.not_mem_nil, or_false] at hf
    rcases hf with rfl | rfl | rfl | rfl | rfl | rfl | rfl | rfl | rfl | rfl | rfl
    · exact ⟨ti_sz ti12, by decide⟩
    · exact ⟨ti_sz ti12, by decide⟩
    · exact ⟨ti_sz ti110, by decide⟩
    · exact ⟨ti_sz ti129, by decide⟩
    · exact ⟨ti_sz ti5, by decide⟩
    · exact ⟨ti_sz ti5, by decide⟩
    · exact ⟨ti_sz ti130, by decide⟩
    · exact ⟨ti_sz ti131, by decide⟩
    · exact ⟨ti_sz ti117, by decide⟩
    · exact ⟨ti_sz ti132, by decide⟩
    · exact ⟨ti_sz ti133, by decide⟩⟩) (by decide)
def tys : List (Nat × TI) := [(1, T1), (2, T2), (3, T3), (4, T4), (5, T5), (6, T6), (7, T7), (8, T8), (9, T9), (10, T10), (11, T11), (12, T12), (13, T13), (14, T14), (15, T15), (16, T16), (17, T17), (18, T18), (19, T19), (21, T21), (22, T22), (23, T23), (24, T24), (25, T25), (26, T26), (27, T27), (28, T28), (29, T29), (31, T31), (32, T32), (33, T33), (34, T34), (35, T35), (37, T37), (38, T38), (39, T39), (41, T41), (42, T42), (43, T43), (44, T44), (45, T45), (47, T47), (48, T48), (49, T49), (50, T50), (51, T51), (52, T52), (54, T54), (55, T55), (56, T56), (57, T57), (58, T58), (59, T59), (60, T60), (61, T61), (62, T62), (64, T64), (65, T65), (66, T66), (67, T67), (68, T68), (69, T69), (70, T70), (71, T71), (72, T72), (73, T73), (74, T74), (75, T75), (77, T77), (78, T78), (79, T79), (80, T80), (81, T81), (82, T82), (83, T83), (84, T84), (85, T85), (86, T86), (87, T87), (88, T88), (89, T89), (90, T90), (91, T91), (92, T92), (93, T93), (95, T95), (96, T96), (97, T97), (98, T98), (99, T99), (100, T100), (101, T101), (104, T104), (105, T105), (106, T106), (107, T107), (108, T108), (109, T109), (110, T110), (111, T111), (112, T112), (113, T113), (114, T114), (115, T115), (116, T116), (117, T117), (118, T118), (119, T119), (121, T121), (123, T123), (124, T124), (125, T125), (129, T129), (130, T130), (131, T131), (132, T132), (133, T133), (134, T134), (135, T135)]
theorem find_cons {α : Type} {i j : Nat} {v w : α} {l : List (Nat × α)} (h : find ((j, v) :: l) i = some w) : (i = j ∧ w = v) ∨ find l i = some w := by
  simp only [find] at h
  split at h
  · rename_i e; exact .inl ⟨(Nat.eq_of_beq_eq_true e).symm, by injection h with h; exact h.symm⟩
  · exact .inr h
theorem tys_ok : ∀ t T, find tys t = some T → TIok Try.prog t T := by
  intro t T h
  unfold tys at h
  rcases find_cons h with ⟨rfl, rfl⟩ | h
  · exact ti1
  rcases find_cons h with ⟨rfl, rfl⟩ | h
  · exact ti2
  rcases find_cons h with ⟨rfl, rfl⟩ | h
  · exact ti3
  rcases find_cons h with ⟨rfl, rfl⟩ | h
  · exact ti4
  rcases find_cons h with ⟨rfl, rfl⟩ | h
  · exact ti5
  rcases find_cons h with ⟨rfl, rfl⟩ | h
  · exact ti6
  rcases find_cons h with ⟨rfl, rfl⟩ | h
  · exact ti7
  rcases find_cons h with ⟨rfl, rfl⟩ | h
  · exact ti8
  rcases find_cons h with ⟨rfl, rfl⟩ | h
  · exact ti9
  rcases find_cons h with ⟨rfl, rfl⟩ | h
  · exact ti10
  rcases find_cons h with ⟨rfl, rfl⟩ | h
  · exact ti11
  rcases find_cons h with ⟨rfl, rfl⟩ | h
  · exact ti12
  rcases find_cons h with ⟨rfl, rfl⟩ | h
  · exact ti13
  rcases find_cons h with ⟨rfl, rfl⟩ | h
  · exact ti14
  rcases find_cons h with ⟨rfl, rfl⟩ | h
  · exact ti15
  rcases find_cons h with ⟨rfl, rfl⟩ | h
  · exact ti16
  rcases find_cons h with ⟨rfl, rfl⟩ | h
  · exact ti17
  rcases find_cons h with ⟨rfl, rfl⟩ | h
  · exact ti18
  rcases find_cons h with ⟨rfl, rfl⟩ | h
  · exact ti19
  rcases find_cons h with ⟨rfl, rfl⟩ | h
  · exact ti21
  rcases find_cons h with ⟨rfl, rfl⟩ | h
  · exact ti22
  rcases find_cons h with ⟨rfl, rfl⟩ | h
  · exact ti23
  rcases find_cons h with ⟨rfl, rfl⟩ | h
  · exact ti24
  rcases find_cons h with ⟨rfl, rfl⟩ | h
  · exact ti25
  rcases find_cons h with ⟨rfl, rfl⟩ | h
  · exact ti26
  rcases find_cons h with ⟨rfl, rfl⟩ | h
  · exact ti27
  rcases find_cons h with ⟨rfl, rfl⟩ | h
  · exact ti28
  rcases find_cons h with ⟨rfl, rfl⟩ | h
  · exact ti29
  rcases find_cons h with ⟨rfl, rfl⟩ | h
  · exact ti31
  rcases find_cons h with ⟨rfl, rfl⟩ | h
  · exact ti32
  rcases find_cons h with ⟨rfl, rfl⟩ | h
  · exact ti33
  rcases find_cons h with ⟨rfl, rfl⟩ | h
  · exact ti34
  rcases find_cons h with ⟨rfl, rfl⟩ | h
  · exact ti35
  rcases find_cons h with ⟨rfl, rfl⟩ | h
  · exact ti37
  rcases find_cons h with ⟨rfl, rfl⟩ | h
  · exact ti38
  rcases find_cons h with ⟨rfl, rfl⟩ | h
  · exact ti39
  rcases find_cons h with ⟨rfl, rfl⟩ | h
  · exact ti41
  rcases find_cons h with ⟨rfl, rfl⟩ | h
  · exact ti42
  rcases find_cons h with ⟨rfl, rfl⟩ | h
  · exact ti43
  rcases find_cons h with ⟨rfl, rfl⟩ | h
  · exact ti44
  rcases find_cons h with ⟨rfl, rfl⟩ | h
  · exact ti45
  rcases find_cons h with ⟨rfl, rfl⟩ | h
  · exact ti47
  rcases find_cons h with ⟨rfl, rfl⟩ | h
  · exact ti48
  rcases find_cons h with ⟨rfl, rfl⟩ | h
  · exact ti49
  rcases find_cons h with ⟨rfl, rfl⟩ | h
  · exact ti50
  rcases find_cons h with ⟨rfl, rfl⟩ | h
  · exact ti51
  rcases find_cons h with ⟨rfl, rfl⟩ | h
  · exact ti52
  rcases find_cons h with ⟨rfl, rfl⟩ | h
  · exact ti54
  rcases find_cons h with ⟨rfl, rfl⟩ | h
  · exact ti55
  rcases find_cons h with ⟨rfl, rfl⟩ | h
  · exact ti56
  rcases find_cons h with ⟨rfl, rfl⟩ | h
  · exact ti57
  rcases find_cons h with ⟨rfl, rfl⟩ | h
  · exact ti58
  rcases find_cons h with ⟨rfl, rfl⟩ | h
  · exact ti59
  rcases find_cons h with ⟨rfl, rfl⟩ | h
  · exact ti60
  rcases find_cons h with ⟨rfl, rfl⟩ | h
  · exact ti61
  rcases find_cons h with ⟨rfl, rfl⟩ | h
  · exact ti62
  rcases find_cons h with ⟨rfl, rfl⟩ | h
  · exact ti64
  rcases find_cons h with ⟨rfl, rfl⟩ | h
  · exact ti65
  rcases find_cons h with ⟨rfl, rfl⟩ | h
  · exact ti66
  rcases find_cons h with ⟨rfl, rfl⟩ | h
  · exact ti67
  rcases find_cons h with ⟨rfl, rfl⟩ | h
  · exact ti68
  rcases find_cons h with ⟨rfl, rfl⟩ | h
  · exact ti69
  rcases find_cons h with ⟨rfl, rfl⟩ | h
  · exact ti70
  rcases find_cons h with ⟨rfl, rfl⟩ | h
  · exact ti71
  rcases find_cons h with ⟨rfl, rfl⟩ | h
  · exact ti72
  rcases find_cons h with ⟨rfl, rfl⟩ | h
  · exact ti73
  rcases find_cons h with ⟨rfl, rfl⟩ | h
  · exact ti74
  rcases find_cons h with ⟨rfl, rfl⟩ | h
  · exact ti75
  rcases find_cons h with ⟨rfl, rfl⟩ | h
  · exact ti77
  rcases find_cons h with ⟨rfl, rfl⟩ | h
  · exact ti78
  rcases find_cons h with ⟨rfl, rfl⟩ | h
  · exact ti79
  rcases find_cons h with ⟨rfl, rfl⟩ | h
  · exact ti80
  rcases find_cons h with ⟨rfl, rfl⟩ | h
  · exact ti81
  rcases find_cons h with ⟨rfl, rfl⟩ | h
  · exact ti82
  rcases find_cons h with ⟨rfl, rfl⟩ | h
  · exact ti83
  rcases find_cons h with ⟨rfl, rfl⟩ | h
  · exact ti84
  rcases find_cons h with ⟨rfl, rfl⟩ | h
  · exact ti85
  rcases find_cons h with ⟨rfl, rfl⟩ | h
  · exact ti86
  rcases find_cons h with ⟨rfl, rfl⟩ | h
  · exact ti87
  rcases find_cons h with ⟨rfl, rfl⟩ | h
  · exact ti88
  rcases find_cons h with ⟨rfl, rfl⟩ | h
  · exact ti89
  rcases find_cons h with ⟨rfl, rfl⟩ | h
  · exact ti90
  rcases find_cons h with ⟨rfl, rfl⟩ | h
  · exact ti91
  rcases find_cons h with ⟨rfl, rfl⟩ | h
  · exact ti92
  rcases find_cons h with ⟨rfl, rfl⟩ | h
  · exact ti93
  rcases find_cons h with ⟨rfl, rfl⟩ | h
  · exact ti95
  rcases find_cons h with ⟨rfl, rfl⟩ | h
  · exact ti96
  rcases find_cons h with ⟨rfl, rfl⟩ | h
  · exact ti97
  rcases find_cons h with ⟨rfl, rfl⟩ | h
  · exact ti98
  rcases find_cons h with ⟨rfl, rfl⟩ | h
  · exact ti99
  rcases find_cons h with ⟨rfl, rfl⟩ | h
  · exact ti100
  rcases find_cons h with ⟨rfl, rfl⟩ | h
  · exact ti101
  rcases find_cons h with ⟨rfl, rfl⟩ | h
  · exact ti104
  rcases find_cons h with ⟨rfl, rfl⟩ | h
  · exact ti105
  rcases find_cons h with ⟨rfl, rfl⟩ | h
  · exact ti106
  rcases find_cons h with ⟨rfl, rfl⟩ | h
  · exact ti107
  rcases find_cons h with ⟨rfl, rfl⟩ | h
  · exact ti108
  rcases find_cons h with ⟨rfl, rfl⟩ | h
  · exact ti109
  rcases find_cons h with ⟨rfl, rfl⟩ | h
  · exact ti110
  rcases find_cons h with ⟨rfl, rfl⟩ | h
  · exact ti111
  rcases find_cons h with ⟨rfl, rfl⟩ | h
  · exact ti112
  rcases find_cons h with ⟨rfl, rfl⟩ | h
  · exact ti113
  rcases find_cons h with ⟨rfl, rfl⟩ | h
  · exact ti114
  rcases find_cons h with ⟨rfl, rfl⟩ | h
  · exact ti115
  rcases find_cons h with ⟨rfl, rfl⟩ | h
  · exact ti116
  rcases find_cons h with ⟨rfl, rfl⟩ | h
  · exact ti117
  rcases find_cons h with ⟨rfl, rfl⟩ | h
  · exact ti118
  rcases find_cons h with ⟨rfl, rfl⟩ | h
  · exact ti119
  rcases find_cons h with ⟨rfl, rfl⟩ | h
  · exact ti121
  rcases find_cons h with ⟨rfl, rfl⟩ | h
  · exact ti123
  rcases find_cons h with ⟨rfl, rfl⟩ | h
  · exact ti124
  rcases find_cons h with ⟨rfl, rfl⟩ | h
  · exact ti125
  rcases find_cons h with ⟨rfl, rfl⟩ | h
  · exact ti129
  rcases find_cons h with ⟨rfl, rfl⟩ | h
  · exact ti130
  rcases find_cons h with ⟨rfl, rfl⟩ | h
  · exact ti131
  rcases find_cons h with ⟨rfl, rfl⟩ | h
  · exact ti132
  rcases find_cons h with ⟨rfl, rfl⟩ | h
  · exact ti133
  rcases find_cons h with ⟨rfl, rfl⟩ | h
  · exact ti134
  rcases find_cons h with ⟨rfl, rfl⟩ | h
  · exact ti135
  cases h

end Go.Proofs.Ytkkmlcengneomaa
