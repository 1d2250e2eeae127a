/- What the table of this seat says of its types, for the engine. Printed by program (gentys.py). No condition. -/
import Derived.Test.YtdibdlelmkcccaaEng3
import Derived.Test.YtdibdlelmkcccaaProg
set_option linter.unusedVariables false
set_option linter.unusedSimpArgs false
namespace Go.Proofs.Ytdibdlelmkcccaa
open Go Go.RowKit Eng
theorem qg6 {P : Program} {t : Nat} {T : TI} {z : Value} {d : TypeDesc} (h1 : (P.info? t).map (fun i => (i.size, i.bytes, i.zero)) = some (T.size, T.bytes, some z)) (hz : z.cells.size = T.size) (h2 : z.cells.toList.all (·.oneCell') = true)
    (h3 : ∀ m ρ, T.zero.ok P m ρ z.cells.toList) (h4 : T.dflt = true -> ∀ m, Rd m T.ty T.ty.dflt z.cells.toList) (h5 : T.bytes <= 1000000) (h6 : T.size ≠ 0) (h7 : T.size <= 10000) (h8 : (match d with | .struct _ | .array _ _ => true | _ => false) = T.agg) (hu : P.underlying t = some d)
    (h9 : T.kind = 1 -> P.underlying t = some (.slice T.elem)) (h10 : T.kind = 2 -> P.underlying t = some .string) (h11 : T.kind = 3 -> P.underlying t = some .bool)
    (h12 : T.kind = 4 -> ∃ n sz, P.underlying t = some (.array n T.elem) /\ (∃ j, P.info? T.elem = some j /\ j.size = sz) /\ sz ≠ 0 /\ ∀ (f : Nat) (fl : Nat × Nat × Nat), T.flds[f]? = some fl -> fl = (f * sz, T.elem, sz) /\ f < n)
    (h13 : T.kind = 5 -> ∃ fields, P.underlying t = some (.struct fields) /\ fields.toList.map (fun F => (F.offset, F.type)) = T.flds.map (fun f => (f.1, f.2.1)) /\ ∀ f ∈ T.flds, (∃ j, P.info? f.2.1 = some j /\ j.size = f.2.2) /\ f.2.2 ≠ 0) (h14 : T.kind <= 5) (h15 : T.eq2 = true -> Eq2 P t := by (intro h; cases h)) (h16 : T.isInt = true -> ∃ k, T.ty = .int k /\ P.underlying t = some (.int k) := by (intro h; cases h))
    (h17 : ∀ eb, T.bld = some eb -> ∃ i, P.info? t = some i /\ i.zero = some (.agg #[.pointer none, .slice none 0 0]) := by (intro eb h; cases h)) : TIok P t T := by
  refine ⟨?_, h5, h6, h7, ⟨d, hu, h8⟩, h9, h10, h11, h12, h13, h14, h15, h16, h17⟩
  cases hi : P.info? t with
  | none => rw [hi] at h1; cases h1
  | some i =>
    rw [hi] at h1
    simp only [Option.map_some, Option.some.injEq, Prod.mk.injEq] at h1
    exact ⟨i, z, rfl, h1.1, h1.2.1, h1.2.2, hz, h2, h3, h4⟩
theorem qs8 {P : Program} {t : Nat} {T : TI} (h : TIok P t T) : ∃ j, P.info? t = some j /\ j.size = T.size := by
  obtain ⟨i, z, h1, h2, _⟩ := h.info
  exact ⟨i, h1, h2⟩
def T1 : TI := { agg := false, size := 1, bytes := 8, ty := .bool, zero := .cons (.lit .nilFunc) .nil, kind := 0, dflt := false, elem := 0, flds := [] }
theorem ti1 : TIok Try.prog 1 T1 := qg6 (z := .nilFunc) (by kernel_rfl) rfl rfl (fun m ρ => ⟨_, _, rfl, rfl, rfl⟩) (fun h => by cases h) (by decide) (by decide) (by decide) rfl Try.underlying1 (fun h => by cases h) (fun h => by cases h) (fun h => by cases h)
  (fun h => by cases h)
  (fun h => by cases h) (by decide)
def T2 : TI := { agg := false, size := 1, bytes := 8, ty := .int .i64, zero := .cons (.lit (.int .i64 0)) .nil, kind := 0, dflt := true, elem := 0, flds := [], isInt := true }
theorem ti2 : TIok Try.prog 2 T2 := qg6 (z := .int .i64 0) (by kernel_rfl) rfl rfl (fun m ρ => ⟨_, _, rfl, rfl, rfl⟩) (fun _ m => rfl) (by decide) (by decide) (by decide) rfl Try.underlying2 (fun h => by cases h) (fun h => by cases h) (fun h => by cases h)
  (fun h => by cases h)
  (fun h => by cases h) (by decide) (h16 := fun _ => ⟨.i64, rfl, Try.underlying2⟩)
def T3 : TI := { agg := false, size := 1, bytes := 8, ty := .int .i64, zero := .cons (.lit (.int .i64 0)) .nil, kind := 0, dflt := true, elem := 0, flds := [], isInt := true }
theorem ti3 : TIok Try.prog 3 T3 := qg6 (z := .int .i64 0) (by kernel_rfl) rfl rfl (fun m ρ => ⟨_, _, rfl, rfl, rfl⟩) (fun _ m => rfl) (by decide) (by decide) (by decide) rfl Try.underlying3 (fun h => by cases h) (fun h => by cases h) (fun h => by cases h)
  (fun h => by cases h)
  (fun h => by cases h) (by decide) (h16 := fun _ => ⟨.i64, rfl, Try.underlying3⟩)
def T4 : TI := { agg := false, size := 1, bytes := 1, ty := .bool, zero := .cons (.ff) .nil, kind := 3, dflt := true, elem := 0, flds := [] }
theorem ti4 : TIok Try.prog 4 T4 := qg6 (z := .bool false) (by kernel_rfl) rfl rfl (fun m ρ => ⟨_, _, rfl, rfl, rfl⟩) (fun _ m => rfl) (by decide) (by decide) (by decide) rfl Try.underlying4 (fun h => by cases h) (fun h => by cases h) (fun _ => Try.underlying4)
  (fun h => by cases h)
  (fun h => by cases h) (by decide)
def T5 : TI := { agg := false, size := 1, bytes := 1, ty := .int .u8, zero := .cons (.lit (.int .u8 0)) .nil, kind := 0, dflt := true, elem := 0, flds := [], isInt := true }
theorem ti5 : TIok Try.prog 5 T5 := qg6 (z := .int .u8 0) (by kernel_rfl) rfl rfl (fun m ρ => ⟨_, _, rfl, rfl, rfl⟩) (fun _ m => rfl) (by decide) (by decide) (by decide) rfl Try.underlying5 (fun h => by cases h) (fun h => by cases h) (fun h => by cases h)
  (fun h => by cases h)
  (fun h => by cases h) (by decide) (h16 := fun _ => ⟨.u8, rfl, Try.underlying5⟩)
def T6 : TI := { agg := false, size := 1, bytes := 1, ty := .int .u8, zero := .cons (.lit (.int .u8 0)) .nil, kind := 0, dflt := true, elem := 0, flds := [], isInt := true }
theorem ti6 : TIok Try.prog 6 T6 := qg6 (z := .int .u8 0) (by kernel_rfl) rfl rfl (fun m ρ => ⟨_, _, rfl, rfl, rfl⟩) (fun _ m => rfl) (by decide) (by decide) (by decide) rfl Try.underlying6 (fun h => by cases h) (fun h => by cases h) (fun h => by cases h)
  (fun h => by cases h)
  (fun h => by cases h) (by decide) (h16 := fun _ => ⟨.u8, rfl, Try.underlying6⟩)
def T7 : TI := { agg := true, size := 4, bytes := 24, ty := .prod (.int .i64) (.prod (.int .i64) (.prod (.bool) (.int .u8))), zero := .cons (.lit (.int .i64 0)) (.cons (.lit (.int .i64 0)) (.cons (.ff) (.cons (.lit (.int .u8 0)) .nil))), kind := 5, dflt := true, elem := 0, flds := [(0, 2, 1), (1, 3, 1), (2, 4, 1), (3, 6, 1)] }
theorem ti7 : TIok Try.prog 7 T7 := qg6 (z := .agg #[.int .i64 0, .int .i64 0, .bool false, .int .u8 0]) (by kernel_rfl) rfl rfl (fun m ρ => ⟨_, _, rfl, rfl, ⟨_, _, rfl, rfl, ⟨_, _, rfl, rfl, ⟨_, _, rfl, rfl, rfl⟩⟩⟩⟩) (fun _ m => ⟨[.int .i64 0], [.int .i64 0, .bool false, .int .u8 0], rfl, rfl, ⟨[.int .i64 0], [.bool false, .int .u8 0], rfl, rfl, ⟨[.bool false], [.int .u8 0], rfl, rfl, rfl⟩⟩⟩) (by decide) (by decide) (by decide) rfl Try.underlying7 (fun h => by cases h) (fun h => by cases h) (fun h => by cases h)
  (fun h => by cases h)
  (fun _ => ⟨_, Try.underlying7, rfl, fun f hf => by
    simp only [T7, List.mem_cons, List.not_mem_nil, or_false] at hf
    rcases hf with rfl | rfl | rfl | rfl
    · exact ⟨qs8 ti2, by decide⟩
    · exact ⟨qs8 ti3, by decide⟩
    · exact ⟨qs8 ti4, by decide⟩
    · exact ⟨qs8 ti6, by decide⟩⟩) (by decide)
def T8 : TI := { agg := true, size := 4, bytes := 24, ty := .prod (.int .i64) (.prod (.int .i64) (.prod (.bool) (.int .u8))), zero := .cons (.lit (.int .i64 0)) (.cons (.lit (.int .i64 0)) (.cons (.ff) (.cons (.lit (.int .u8 0)) .nil))), kind := 5, dflt := true, elem := 0, flds := [(0, 2, 1), (1, 3, 1), (2, 4, 1), (3, 6, 1)] }
theorem ti8 : TIok Try.prog 8 T8 := qg6 (z := .agg #[.int .i64 0, .int .i64 0, .bool false, .int .u8 0]) (by kernel_rfl) rfl rfl (fun m ρ => ⟨_, _, rfl, rfl, ⟨_, _, rfl, rfl, ⟨_, _, rfl, rfl, ⟨_, _, rfl, rfl, rfl⟩⟩⟩⟩) (fun _ m => ⟨[.int .i64 0], [.int .i64 0, .bool false, .int .u8 0], rfl, rfl, ⟨[.int .i64 0], [.bool false, .int .u8 0], rfl, rfl, ⟨[.bool false], [.int .u8 0], rfl, rfl, rfl⟩⟩⟩) (by decide) (by decide) (by decide) rfl Try.underlying8 (fun h => by cases h) (fun h => by cases h) (fun h => by cases h)
  (fun h => by cases h)
  (fun _ => ⟨_, Try.underlying8, rfl, fun f hf => by
    simp only [T8, List.mem_cons, List.not_mem_nil, or_false] at hf
    rcases hf with rfl | rfl | rfl | rfl
    · exact ⟨qs8 ti2, by decide⟩
    · exact ⟨qs8 ti3, by decide⟩
    · exact ⟨qs8 ti4, by decide⟩
    · exact ⟨qs8 ti6, by decide⟩⟩) (by decide)
def T9 : TI := { agg := false, size := 1, bytes := 16, ty := .str, zero := .cons (.lit (.string ⟨#[]⟩)) .nil, kind := 2, dflt := true, elem := 0, flds := [] }
theorem ti9 : TIok Try.prog 9 T9 := qg6 (z := .string ⟨#[]⟩) (by kernel_rfl) rfl rfl (fun m ρ => ⟨_, _, rfl, rfl, rfl⟩) (fun _ m => rfl) (by decide) (by decide) (by decide) rfl Try.underlying9 (fun h => by cases h) (fun _ => Try.underlying9) (fun h => by cases h)
  (fun h => by cases h)
  (fun h => by cases h) (by decide)
def T10 : TI := { agg := false, size := 1, bytes := 16, ty := .str, zero := .cons (.lit (.string ⟨#[]⟩)) .nil, kind := 2, dflt := true, elem := 0, flds := [] }
theorem xw2 : TIok Try.prog 10 T10 := qg6 (z := .string ⟨#[]⟩) (by kernel_rfl) rfl rfl (fun m ρ => ⟨_, _, rfl, rfl, rfl⟩) (fun _ m => rfl) (by decide) (by decide) (by decide) rfl Try.underlying10 (fun h => by cases h) (fun _ => Try.underlying10) (fun h => by cases h)
  (fun h => by cases h)
  (fun h => by cases h) (by decide)
def T11 : TI := { agg := false, size := 1, bytes := 16, ty := .str, zero := .cons (.lit (.string ⟨#[]⟩)) .nil, kind := 2, dflt := true, elem := 0, flds := [] }
theorem xw3 : TIok Try.prog 11 T11 := qg6 (z := .string ⟨#[]⟩) (by kernel_rfl) rfl rfl (fun m ρ => ⟨_, _, rfl, rfl, rfl⟩) (fun _ m => rfl) (by decide) (by decide) (by decide) rfl Try.underlying11 (fun h => by cases h) (fun _ => Try.underlying11) (fun h => by cases h)
  (fun h => by cases h)
  (fun h => by cases h) (by decide)
def T12 : TI := { agg := false, size := 1, bytes := 8, ty := .int .u64, zero := .cons (.lit (.int .u64 0)) .nil, kind := 0, dflt := true, elem := 0, flds := [], isInt := true }
theorem xn0 : TIok Try.prog 12 T12 := qg6 (z := .int .u64 0) (by kernel_rfl) rfl rfl (fun m ρ => ⟨_, _, rfl, rfl, rfl⟩) (fun _ m => rfl) (by decide) (by decide) (by decide) rfl Try.underlying12 (fun h => by cases h) (fun h => by cases h) (fun h => by cases h)
  (fun h => by cases h)
  (fun h => by cases h) (by decide) (h16 := fun _ => ⟨.u64, rfl, Try.underlying12⟩)
def T13 : TI := { agg := true, size := 2, bytes := 24, ty := .prod (.str) (.int .u64), zero := .cons (.lit (.string ⟨#[]⟩)) (.cons (.lit (.int .u64 0)) .nil), kind := 5, dflt := true, elem := 0, flds := [(0, 9, 1), (1, 12, 1)] }
theorem xw4 : TIok Try.prog 13 T13 := qg6 (z := .agg #[.string ⟨#[]⟩, .int .u64 0]) (by kernel_rfl) rfl rfl (fun m ρ => ⟨_, _, rfl, rfl, ⟨_, _, rfl, rfl, rfl⟩⟩) (fun _ m => ⟨[.string ⟨#[]⟩], [.int .u64 0], rfl, rfl, rfl⟩) (by decide) (by decide) (by decide) rfl Try.underlying13 (fun h => by cases h) (fun h => by cases h) (fun h => by cases h)
  (fun h => by cases h)
  (fun _ => ⟨_, Try.underlying13, rfl, fun f hf => by
    simp only [T13, List.mem_cons, List.not_mem_nil, or_false] at hf
    rcases hf with rfl | rfl
    · exact ⟨qs8 ti9, by decide⟩
    · exact ⟨qs8 xn0, by decide⟩⟩) (by decide)
def T14 : TI := { agg := true, size := 2, bytes := 24, ty := .prod (.str) (.int .u64), zero := .cons (.lit (.string ⟨#[]⟩)) (.cons (.lit (.int .u64 0)) .nil), kind := 5, dflt := true, elem := 0, flds := [(0, 9, 1), (1, 12, 1)] }
theorem xw5 : TIok Try.prog 14 T14 := qg6 (z := .agg #[.string ⟨#[]⟩, .int .u64 0]) (by kernel_rfl) rfl rfl (fun m ρ => ⟨_, _, rfl, rfl, ⟨_, _, rfl, rfl, rfl⟩⟩) (fun _ m => ⟨[.string ⟨#[]⟩], [.int .u64 0], rfl, rfl, rfl⟩) (by decide) (by decide) (by decide) rfl Try.underlying14 (fun h => by cases h) (fun h => by cases h) (fun h => by cases h)
  (fun h => by cases h)
  (fun _ => ⟨_, Try.underlying14, rfl, fun f hf => by
    simp only [T14, List.mem_cons, List.not_mem_nil, or_false] at hf
    rcases hf with rfl | rfl
    · exact ⟨qs8 ti9, by decide⟩
    · exact ⟨qs8 xn0, by decide⟩⟩) (by decide)
def T15 : TI := { agg := false, size := 1, bytes := 8, ty := .bool, zero := .cons (.lit (.pointer none)) .nil, kind := 0, dflt := false, elem := 0, flds := [] }
theorem xw6 : TIok Try.prog 15 T15 := qg6 (z := .pointer none) (by kernel_rfl) rfl rfl (fun m ρ => ⟨_, _, rfl, rfl, rfl⟩) (fun h => by cases h) (by decide) (by decide) (by decide) rfl Try.underlying15 (fun h => by cases h) (fun h => by cases h) (fun h => by cases h)
  (fun h => by cases h)
  (fun h => by cases h) (by decide)
def T16 : TI := { agg := false, size := 1, bytes := 8, ty := .bool, zero := .cons (.lit (.pointer none)) .nil, kind := 0, dflt := false, elem := 0, flds := [] }
theorem xw7 : TIok Try.prog 16 T16 := qg6 (z := .pointer none) (by kernel_rfl) rfl rfl (fun m ρ => ⟨_, _, rfl, rfl, rfl⟩) (fun h => by cases h) (by decide) (by decide) (by decide) rfl Try.underlying16 (fun h => by cases h) (fun h => by cases h) (fun h => by cases h)
  (fun h => by cases h)
  (fun h => by cases h) (by decide)
def T17 : TI := { agg := false, size := 1, bytes := 8, ty := .bool, zero := .cons (.lit (.pointer none)) .nil, kind := 0, dflt := false, elem := 0, flds := [] }
theorem xn1 : TIok Try.prog 17 T17 := qg6 (z := .pointer none) (by kernel_rfl) rfl rfl (fun m ρ => ⟨_, _, rfl, rfl, rfl⟩) (fun h => by cases h) (by decide) (by decide) (by decide) rfl Try.underlying17 (fun h => by cases h) (fun h => by cases h) (fun h => by cases h)
  (fun h => by cases h)
  (fun h => by cases h) (by decide)
def T18 : TI := { agg := true, size := 1, bytes := 8, ty := .bool, zero := .cons (.lit (.pointer none)) .nil, kind := 5, dflt := false, elem := 0, flds := [(0, 17, 1)] }
theorem xw8 : TIok Try.prog 18 T18 := qg6 (z := .agg #[.pointer none]) (by kernel_rfl) rfl rfl (fun m ρ => ⟨_, _, rfl, rfl, rfl⟩) (fun h => by cases h) (by decide) (by decide) (by decide) rfl Try.underlying18 (fun h => by cases h) (fun h => by cases h) (fun h => by cases h)
  (fun h => by cases h)
  (fun _ => ⟨_, Try.underlying18, rfl, fun f hf => by
    simp only [T18, List.mem_cons, List.not_mem_nil, or_false] at hf
    rcases hf with rfl
    · exact ⟨qs8 xn1, by decide⟩⟩) (by decide)
def T19 : TI := { agg := true, size := 1, bytes := 8, ty := .bool, zero := .cons (.lit (.pointer none)) .nil, kind := 5, dflt := false, elem := 0, flds := [(0, 17, 1)] }
theorem xw9 : TIok Try.prog 19 T19 := qg6 (z := .agg #[.pointer none]) (by kernel_rfl) rfl rfl (fun m ρ => ⟨_, _, rfl, rfl, rfl⟩) (fun h => by cases h) (by decide) (by decide) (by decide) rfl Try.underlying19 (fun h => by cases h) (fun h => by cases h) (fun h => by cases h)
  (fun h => by cases h)
  (fun _ => ⟨_, Try.underlying19, rfl, fun f hf => by
    simp only [T19, List.mem_cons, List.not_mem_nil, or_false] at hf
    rcases hf with rfl
    · exact ⟨qs8 xn1, by decide⟩⟩) (by decide)
def T21 : TI := { agg := false, size := 1, bytes := 4, ty := .int .i32, zero := .cons (.lit (.int .i32 0)) .nil, kind := 0, dflt := true, elem := 0, flds := [], isInt := true }
theorem xx0 : TIok Try.prog 21 T21 := qg6 (z := .int .i32 0) (by kernel_rfl) rfl rfl (fun m ρ => ⟨_, _, rfl, rfl, rfl⟩) (fun _ m => rfl) (by decide) (by decide) (by decide) rfl Try.underlying21 (fun h => by cases h) (fun h => by cases h) (fun h => by cases h)
  (fun h => by cases h)
  (fun h => by cases h) (by decide) (h16 := fun _ => ⟨.i32, rfl, Try.underlying21⟩)
def T22 : TI := { agg := false, size := 1, bytes := 24, ty := .list (.list (.int .i64)), zero := .cons (.lit (.slice none 0 0)) .nil, kind := 1, dflt := true, elem := 24, flds := [] }
theorem xx1 : TIok Try.prog 22 T22 := qg6 (z := .slice none 0 0) (by kernel_rfl) rfl rfl (fun m ρ => ⟨_, _, rfl, rfl, rfl⟩) (fun _ m => ⟨none, 0, rfl, Nat.le_refl _, by unfold maxLen; exact Nat.zero_le _, fun h => absurd h (Nat.lt_irrefl 0)⟩) (by decide) (by decide) (by decide) rfl Try.underlying22 (fun _ => Try.underlying22) (fun h => by cases h) (fun h => by cases h)
  (fun h => by cases h)
  (fun h => by cases h) (by decide)
def T23 : TI := { agg := false, size := 1, bytes := 24, ty := .list (.list (.int .i64)), zero := .cons (.lit (.slice none 0 0)) .nil, kind := 1, dflt := true, elem := 24, flds := [] }
theorem xt9 : TIok Try.prog 23 T23 := qg6 (z := .slice none 0 0) (by kernel_rfl) rfl rfl (fun m ρ => ⟨_, _, rfl, rfl, rfl⟩) (fun _ m => ⟨none, 0, rfl, Nat.le_refl _, by unfold maxLen; exact Nat.zero_le _, fun h => absurd h (Nat.lt_irrefl 0)⟩) (by decide) (by decide) (by decide) rfl Try.underlying23 (fun _ => Try.underlying23) (fun h => by cases h) (fun h => by cases h)
  (fun h => by cases h)
  (fun h => by cases h) (by decide)
def T24 : TI := { agg := false, size := 1, bytes := 24, ty := .list (.int .i64), zero := .cons (.lit (.slice none 0 0)) .nil, kind := 1, dflt := true, elem := 3, flds := [] }
theorem xl1 : TIok Try.prog 24 T24 := qg6 (z := .slice none 0 0) (by kernel_rfl) rfl rfl (fun m ρ => ⟨_, _, rfl, rfl, rfl⟩) (fun _ m => ⟨none, 0, rfl, Nat.le_refl _, by unfold maxLen; exact Nat.zero_le _, fun h => absurd h (Nat.lt_irrefl 0)⟩) (by decide) (by decide) (by decide) rfl Try.underlying24 (fun _ => Try.underlying24) (fun h => by cases h) (fun h => by cases h)
  (fun h => by cases h)
  (fun h => by cases h) (by decide)
def T25 : TI := { agg := false, size := 1, bytes := 8, ty := .bool, zero := .cons (.lit .nilFunc) .nil, kind := 0, dflt := false, elem := 0, flds := [] }
theorem xx2 : TIok Try.prog 25 T25 := qg6 (z := .nilFunc) (by kernel_rfl) rfl rfl (fun m ρ => ⟨_, _, rfl, rfl, rfl⟩) (fun h => by cases h) (by decide) (by decide) (by decide) rfl Try.underlying25 (fun h => by cases h) (fun h => by cases h) (fun h => by cases h)
  (fun h => by cases h)
  (fun h => by cases h) (by decide)
def T26 : TI := { agg := false, size := 1, bytes := 8, ty := .bool, zero := .cons (.lit .nilFunc) .nil, kind := 0, dflt := false, elem := 0, flds := [] }
theorem xx3 : TIok Try.prog 26 T26 := qg6 (z := .nilFunc) (by kernel_rfl) rfl rfl (fun m ρ => ⟨_, _, rfl, rfl, rfl⟩) (fun h => by cases h) (by decide) (by decide) (by decide) rfl Try.underlying26 (fun h => by cases h) (fun h => by cases h) (fun h => by cases h)
  (fun h => by cases h)
  (fun h => by cases h) (by decide)
def T27 : TI := { agg := false, size := 1, bytes := 8, ty := .bool, zero := .cons (.lit .nilFunc) .nil, kind := 0, dflt := false, elem := 0, flds := [] }
theorem xx4 : TIok Try.prog 27 T27 := qg6 (z := .nilFunc) (by kernel_rfl) rfl rfl (fun m ρ => ⟨_, _, rfl, rfl, rfl⟩) (fun h => by cases h) (by decide) (by decide) (by decide) rfl Try.underlying27 (fun h => by cases h) (fun h => by cases h) (fun h => by cases h)
  (fun h => by cases h)
  (fun h => by cases h) (by decide)
def T28 : TI := { agg := false, size := 1, bytes := 24, ty := .list (.prod (.int .i64) (.int .i64)), zero := .cons (.lit (.slice none 0 0)) .nil, kind := 1, dflt := true, elem := 60, flds := [] }
theorem xn2 : TIok Try.prog 28 T28 := qg6 (z := .slice none 0 0) (by kernel_rfl) rfl rfl (fun m ρ => ⟨_, _, rfl, rfl, rfl⟩) (fun _ m => ⟨none, 0, rfl, Nat.le_refl _, by unfold maxLen; exact Nat.zero_le _, fun h => absurd h (Nat.lt_irrefl 0)⟩) (by decide) (by decide) (by decide) rfl Try.underlying28 (fun _ => Try.underlying28) (fun h => by cases h) (fun h => by cases h)
  (fun h => by cases h)
  (fun h => by cases h) (by decide)
def T29 : TI := { agg := true, size := 2, bytes := 48, ty := .prod (.list (.int .i64)) (.list (.prod (.int .i64) (.int .i64))), zero := .cons (.lit (.slice none 0 0)) (.cons (.lit (.slice none 0 0)) .nil), kind := 5, dflt := true, elem := 0, flds := [(0, 24, 1), (1, 28, 1)] }
theorem xx5 : TIok Try.prog 29 T29 := qg6 (z := .agg #[.slice none 0 0, .slice none 0 0]) (by kernel_rfl) rfl rfl (fun m ρ => ⟨_, _, rfl, rfl, ⟨_, _, rfl, rfl, rfl⟩⟩) (fun _ m => ⟨[.slice none 0 0], [.slice none 0 0], rfl, ⟨none, 0, rfl, Nat.le_refl _, by unfold maxLen; exact Nat.zero_le _, fun h => absurd h (Nat.lt_irrefl 0)⟩, ⟨none, 0, rfl, Nat.le_refl _, by unfold maxLen; exact Nat.zero_le _, fun h => absurd h (Nat.lt_irrefl 0)⟩⟩) (by decide) (by decide) (by decide) rfl Try.underlying29 (fun h => by cases h) (fun h => by cases h) (fun h => by cases h)
  (fun h => by cases h)
  (fun _ => ⟨_, Try.underlying29, rfl, fun f hf => by
    simp only [T29, List.mem_cons, List.not_mem_nil, or_false] at hf
    rcases hf with rfl | rfl
    · exact ⟨qs8 xl1, by decide⟩
    · exact ⟨qs8 xn2, by decide⟩⟩) (by decide)
def T30 : TI := { agg := true, size := 2, bytes := 48, ty := .prod (.list (.int .i64)) (.list (.prod (.int .i64) (.int .i64))), zero := .cons (.lit (.slice none 0 0)) (.cons (.lit (.slice none 0 0)) .nil), kind := 5, dflt := true, elem := 0, flds := [(0, 24, 1), (1, 28, 1)] }
theorem xx6 : TIok Try.prog 30 T30 := qg6 (z := .agg #[.slice none 0 0, .slice none 0 0]) (by kernel_rfl) rfl rfl (fun m ρ => ⟨_, _, rfl, rfl, ⟨_, _, rfl, rfl, rfl⟩⟩) (fun _ m => ⟨[.slice none 0 0], [.slice none 0 0], rfl, ⟨none, 0, rfl, Nat.le_refl _, by unfold maxLen; exact Nat.zero_le _, fun h => absurd h (Nat.lt_irrefl 0)⟩, ⟨none, 0, rfl, Nat.le_refl _, by unfold maxLen; exact Nat.zero_le _, fun h => absurd h (Nat.lt_irrefl 0)⟩⟩) (by decide) (by decide) (by decide) rfl Try.underlying30 (fun h => by cases h) (fun h => by cases h) (fun h => by cases h)
  (fun h => by cases h)
  (fun _ => ⟨_, Try.underlying30, rfl, fun f hf => by
    simp only [T30, List.mem_cons, List.not_mem_nil, or_false] at hf
    rcases hf with rfl | rfl
    · exact ⟨qs8 xl1, by decide⟩
    · exact ⟨qs8 xn2, by decide⟩⟩) (by decide)
def T31 : TI := { agg := false, size := 1, bytes := 8, ty := .int .i64, zero := .cons (.lit (.int .i64 0)) .nil, kind := 0, dflt := true, elem := 0, flds := [], isInt := true }
theorem xx7 : TIok Try.prog 31 T31 := qg6 (z := .int .i64 0) (by kernel_rfl) rfl rfl (fun m ρ => ⟨_, _, rfl, rfl, rfl⟩) (fun _ m => rfl) (by decide) (by decide) (by decide) rfl Try.underlying31 (fun h => by cases h) (fun h => by cases h) (fun h => by cases h)
  (fun h => by cases h)
  (fun h => by cases h) (by decide) (h16 := fun _ => ⟨.i64, rfl, Try.underlying31⟩)
def T33 : TI := { agg := false, size := 1, bytes := 8, ty := .bool, zero := .cons (.lit .nilFunc) .nil, kind := 0, dflt := false, elem := 0, flds := [] }
theorem xx8 : TIok Try.prog 33 T33 := qg6 (z := .nilFunc) (by kernel_rfl) rfl rfl (fun m ρ => ⟨_, _, rfl, rfl, rfl⟩) (fun h => by cases h) (by decide) (by decide) (by decide) rfl Try.underlying33 (fun h => by cases h) (fun h => by cases h) (fun h => by cases h)
  (fun h => by cases h)
  (fun h => by cases h) (by decide)
def T34 : TI := { agg := false, size := 1, bytes := 8, ty := .bool, zero := .cons (.lit .nilFunc) .nil, kind := 0, dflt := false, elem := 0, flds := [] }
theorem xx9 : TIok Try.prog 34 T34 := qg6 (z := .nilFunc) (by kernel_rfl) rfl rfl (fun m ρ => ⟨_, _, rfl, rfl, rfl⟩) (fun h => by cases h) (by decide) (by decide) (by decide) rfl Try.underlying34 (fun h => by cases h) (fun h => by cases h) (fun h => by cases h)
  (fun h => by cases h)
  (fun h => by cases h) (by decide)
def T37 : TI := { agg := false, size := 1, bytes := 8, ty := .bool, zero := .cons (.lit .nilFunc) .nil, kind := 0, dflt := false, elem := 0, flds := [] }
theorem xy0 : TIok Try.prog 37 T37 := qg6 (z := .nilFunc) (by kernel_rfl) rfl rfl (fun m ρ => ⟨_, _, rfl, rfl, rfl⟩) (fun h => by cases h) (by decide) (by decide) (by decide) rfl Try.underlying37 (fun h => by cases h) (fun h => by cases h) (fun h => by cases h)
  (fun h => by cases h)
  (fun h => by cases h) (by decide)
def T39 : TI := { agg := false, size := 1, bytes := 8, ty := .bool, zero := .cons (.lit .nilFunc) .nil, kind := 0, dflt := false, elem := 0, flds := [] }
theorem xy1 : TIok Try.prog 39 T39 := qg6 (z := .nilFunc) (by kernel_rfl) rfl rfl (fun m ρ => ⟨_, _, rfl, rfl, rfl⟩) (fun h => by cases h) (by decide) (by decide) (by decide) rfl Try.underlying39 (fun h => by cases h) (fun h => by cases h) (fun h => by cases h)
  (fun h => by cases h)
  (fun h => by cases h) (by decide)
def T40 : TI := { agg := false, size := 1, bytes := 8, ty := .bool, zero := .cons (.lit .nilFunc) .nil, kind := 0, dflt := false, elem := 0, flds := [] }
theorem xy2 : TIok Try.prog 40 T40 := qg6 (z := .nilFunc) (by kernel_rfl) rfl rfl (fun m ρ => ⟨_, _, rfl, rfl, rfl⟩) (fun h => by cases h) (by decide) (by decide) (by decide) rfl Try.underlying40 (fun h => by cases h) (fun h => by cases h) (fun h => by cases h)
  (fun h => by cases h)
  (fun h => by cases h) (by decide)
def T44 : TI := { agg := false, size := 1, bytes := 24, ty := .list (.prod (.list (.int .i64)) (.list (.prod (.int .i64) (.int .i64)))), zero := .cons (.lit (.slice none 0 0)) .nil, kind := 1, dflt := true, elem := 30, flds := [] }
theorem xy3 : TIok Try.prog 44 T44 := qg6 (z := .slice none 0 0) (by kernel_rfl) rfl rfl (fun m ρ => ⟨_, _, rfl, rfl, rfl⟩) (fun _ m => ⟨none, 0, rfl, Nat.le_refl _, by unfold maxLen; exact Nat.zero_le _, fun h => absurd h (Nat.lt_irrefl 0)⟩) (by decide) (by decide) (by decide) rfl Try.underlying44 (fun _ => Try.underlying44) (fun h => by cases h) (fun h => by cases h)
  (fun h => by cases h)
  (fun h => by cases h) (by decide)
def T46 : TI := { agg := false, size := 1, bytes := 8, ty := .bool, zero := .cons (.lit .nilFunc) .nil, kind := 0, dflt := false, elem := 0, flds := [] }
theorem xy4 : TIok Try.prog 46 T46 := qg6 (z := .nilFunc) (by kernel_rfl) rfl rfl (fun m ρ => ⟨_, _, rfl, rfl, rfl⟩) (fun h => by cases h) (by decide) (by decide) (by decide) rfl Try.underlying46 (fun h => by cases h) (fun h => by cases h) (fun h => by cases h)
  (fun h => by cases h)
  (fun h => by cases h) (by decide)
def T49 : TI := { agg := false, size := 1, bytes := 8, ty := .bool, zero := .cons (.lit .nilFunc) .nil, kind := 0, dflt := false, elem := 0, flds := [] }
theorem xy5 : TIok Try.prog 49 T49 := qg6 (z := .nilFunc) (by kernel_rfl) rfl rfl (fun m ρ => ⟨_, _, rfl, rfl, rfl⟩) (fun h => by cases h) (by decide) (by decide) (by decide) rfl Try.underlying49 (fun h => by cases h) (fun h => by cases h) (fun h => by cases h)
  (fun h => by cases h)
  (fun h => by cases h) (by decide)
def T58 : TI := { agg := false, size := 1, bytes := 8, ty := .bool, zero := .cons (.lit .nilFunc) .nil, kind := 0, dflt := false, elem := 0, flds := [] }
theorem xy6 : TIok Try.prog 58 T58 := qg6 (z := .nilFunc) (by kernel_rfl) rfl rfl (fun m ρ => ⟨_, _, rfl, rfl, rfl⟩) (fun h => by cases h) (by decide) (by decide) (by decide) rfl Try.underlying58 (fun h => by cases h) (fun h => by cases h) (fun h => by cases h)
  (fun h => by cases h)
  (fun h => by cases h) (by decide)
def T60 : TI := { agg := true, size := 2, bytes := 16, ty := .prod (.int .i64) (.int .i64), zero := .cons (.lit (.int .i64 0)) (.cons (.lit (.int .i64 0)) .nil), kind := 5, dflt := true, elem := 0, flds := [(0, 3, 1), (1, 3, 1)], eq2 := true }
theorem xy7 : TIok Try.prog 60 T60 := qg6 (z := .agg #[.int .i64 0, .int .i64 0]) (by kernel_rfl) rfl rfl (fun m ρ => ⟨_, _, rfl, rfl, ⟨_, _, rfl, rfl, rfl⟩⟩) (fun _ m => ⟨[.int .i64 0], [.int .i64 0], rfl, rfl, rfl⟩) (by decide) (by decide) (by decide) rfl Try.underlying60 (fun h => by cases h) (fun h => by cases h) (fun h => by cases h)
  (fun h => by cases h)
  (fun _ => ⟨_, Try.underlying60, rfl, fun f hf => by
    simp only [T60, List.mem_cons, List.not_mem_nil, or_false] at hf
    rcases hf with rfl | rfl
    · exact ⟨qs8 ti3, by decide⟩
    · exact ⟨qs8 ti3, by decide⟩⟩) (by decide) (fun _ => wv4 Try.underlying60 (by decide) (by decide) rfl rfl Try.underlying3 Try.underlying3 (by kernel_rfl) (by kernel_rfl))
def T66 : TI := { agg := false, size := 1, bytes := 8, ty := .bool, zero := .cons (.lit .nilFunc) .nil, kind := 0, dflt := false, elem := 0, flds := [] }
theorem xy8 : TIok Try.prog 66 T66 := qg6 (z := .nilFunc) (by kernel_rfl) rfl rfl (fun m ρ => ⟨_, _, rfl, rfl, rfl⟩) (fun h => by cases h) (by decide) (by decide) (by decide) rfl Try.underlying66 (fun h => by cases h) (fun h => by cases h) (fun h => by cases h)
  (fun h => by cases h)
  (fun h => by cases h) (by decide)
def T68 : TI := { agg := false, size := 1, bytes := 8, ty := .bool, zero := .cons (.lit .nilFunc) .nil, kind := 0, dflt := false, elem := 0, flds := [] }
theorem xy9 : TIok Try.prog 68 T68 := qg6 (z := .nilFunc) (by kernel_rfl) rfl rfl (fun m ρ => ⟨_, _, rfl, rfl, rfl⟩) (fun h => by cases h) (by decide) (by decide) (by decide) rfl Try.underlying68 (fun h => by cases h) (fun h => by cases h) (fun h => by cases h)
  (fun h => by cases h)
  (fun h => by cases h) (by decide)
def T70 : TI := { agg := true, size := 2, bytes := 48, ty := .prod (.list (.list (.int .i64))) (.list (.int .i64)), zero := .cons (.lit (.slice none 0 0)) (.cons (.lit (.slice none 0 0)) .nil), kind := 5, dflt := true, elem := 0, flds := [(0, 23, 1), (1, 24, 1)] }
theorem xz0 : TIok Try.prog 70 T70 := qg6 (z := .agg #[.slice none 0 0, .slice none 0 0]) (by kernel_rfl) rfl rfl (fun m ρ => ⟨_, _, rfl, rfl, ⟨_, _, rfl, rfl, rfl⟩⟩) (fun _ m => ⟨[.slice none 0 0], [.slice none 0 0], rfl, ⟨none, 0, rfl, Nat.le_refl _, by unfold maxLen; exact Nat.zero_le _, fun h => absurd h (Nat.lt_irrefl 0)⟩, ⟨none, 0, rfl, Nat.le_refl _, by unfold maxLen; exact Nat.zero_le _, fun h => absurd h (Nat.lt_irrefl 0)⟩⟩) (by decide) (by decide) (by decide) rfl Try.underlying70 (fun h => by cases h) (fun h => by cases h) (fun h => by cases h)
  (fun h => by cases h)
  (fun _ => ⟨_, Try.underlying70, rfl, fun f hf => by
    simp only [T70, List.mem_cons, List.not_mem_nil, or_false] at hf
    rcases hf with rfl | rfl
    · exact ⟨qs8 xt9, by decide⟩
    · exact ⟨qs8 xl1, by decide⟩⟩) (by decide)
def T75 : TI := { agg := false, size := 1, bytes := 8, ty := .bool, zero := .cons (.lit .nilFunc) .nil, kind := 0, dflt := false, elem := 0, flds := [] }
theorem xz1 : TIok Try.prog 75 T75 := qg6 (z := .nilFunc) (by kernel_rfl) rfl rfl (fun m ρ => ⟨_, _, rfl, rfl, rfl⟩) (fun h => by cases h) (by decide) (by decide) (by decide) rfl Try.underlying75 (fun h => by cases h) (fun h => by cases h) (fun h => by cases h)
  (fun h => by cases h)
  (fun h => by cases h) (by decide)
def T76 : TI := { agg := false, size := 1, bytes := 8, ty := .bool, zero := .cons (.lit .nilFunc) .nil, kind := 0, dflt := false, elem := 0, flds := [] }
theorem xz2 : TIok Try.prog 76 T76 := qg6 (z := .nilFunc) (by kernel_rfl) rfl rfl (fun m ρ => ⟨_, _, rfl, rfl, rfl⟩) (fun h => by cases h) (by decide) (by decide) (by decide) rfl Try.underlying76 (fun h => by cases h) (fun h => by cases h) (fun h => by cases h)
  (fun h => by cases h)
  (fun h => by cases h) (by decide)
def T79 : TI := { agg := false, size := 1, bytes := 8, ty := .bool, zero := .cons (.lit .nilFunc) .nil, kind := 0, dflt := false, elem := 0, flds := [] }
theorem xz3 : TIok Try.prog 79 T79 := qg6 (z := .nilFunc) (by kernel_rfl) rfl rfl (fun m ρ => ⟨_, _, rfl, rfl, rfl⟩) (fun h => by cases h) (by decide) (by decide) (by decide) rfl Try.underlying79 (fun h => by cases h) (fun h => by cases h) (fun h => by cases h)
  (fun h => by cases h)
  (fun h => by cases h) (by decide)
def T82 : TI := { agg := false, size := 1, bytes := 8, ty := .bool, zero := .cons (.lit .nilFunc) .nil, kind := 0, dflt := false, elem := 0, flds := [] }
theorem xz4 : TIok Try.prog 82 T82 := qg6 (z := .nilFunc) (by kernel_rfl) rfl rfl (fun m ρ => ⟨_, _, rfl, rfl, rfl⟩) (fun h => by cases h) (by decide) (by decide) (by decide) rfl Try.underlying82 (fun h => by cases h) (fun h => by cases h) (fun h => by cases h)
  (fun h => by cases h)
  (fun h => by cases h) (by decide)
def T94 : TI := { agg := false, size := 1, bytes := 8, ty := .bool, zero := .cons (.lit .nilFunc) .nil, kind := 0, dflt := false, elem := 0, flds := [] }
theorem xz5 : TIok Try.prog 94 T94 := qg6 (z := .nilFunc) (by kernel_rfl) rfl rfl (fun m ρ => ⟨_, _, rfl, rfl, rfl⟩) (fun h => by cases h) (by decide) (by decide) (by decide) rfl Try.underlying94 (fun h => by cases h) (fun h => by cases h) (fun h => by cases h)
  (fun h => by cases h)
  (fun h => by cases h) (by decide)
def T95 : TI := { agg := false, size := 1, bytes := 8, ty := .bool, zero := .cons (.lit .nilFunc) .nil, kind := 0, dflt := false, elem := 0, flds := [] }
theorem xz6 : TIok Try.prog 95 T95 := qg6 (z := .nilFunc) (by kernel_rfl) rfl rfl (fun m ρ => ⟨_, _, rfl, rfl, rfl⟩) (fun h => by cases h) (by decide) (by decide) (by decide) rfl Try.underlying95 (fun h => by cases h) (fun h => by cases h) (fun h => by cases h)
  (fun h => by cases h)
  (fun h => by cases h) (by decide)
def T96 : TI := { agg := false, size := 1, bytes := 8, ty := .bool, zero := .cons (.lit .nilFunc) .nil, kind := 0, dflt := false, elem := 0, flds := [] }
theorem xz7 : TIok Try.prog 96 T96 := qg6 (z := .nilFunc) (by kernel_rfl) rfl rfl (fun m ρ => ⟨_, _, rfl, rfl, rfl⟩) (fun h => by cases h) (by decide) (by decide) (by decide) rfl Try.underlying96 (fun h => by cases h) (fun h => by cases h) (fun h => by cases h)
  (fun h => by cases h)
  (fun h => by cases h) (by decide)
def T99 : TI := { agg := false, size := 1, bytes := 8, ty := .bool, zero := .cons (.lit .nilFunc) .nil, kind := 0, dflt := false, elem := 0, flds := [] }
theorem xz8 : TIok Try.prog 99 T99 := qg6 (z := .nilFunc) (by kernel_rfl) rfl rfl (fun m ρ => ⟨_, _, rfl, rfl, rfl⟩) (fun h => by cases h) (by decide) (by decide) (by decide) rfl Try.underlying99 (fun h => by cases h) (fun h => by cases h) (fun h => by cases h)
  (fun h => by cases h)
  (fun h => by cases h) (by decide)
def xu0 : TI := { agg := false, size := 1, bytes := 8, ty := .bool, zero := .cons (.lit .nilFunc) .nil, kind := 0, dflt := false, elem := 0, flds := [] }
theorem xn3 : TIok Try.prog 100 xu0 := qg6 (z := .nilFunc) (by kernel_rfl) rfl rfl (fun m ρ => ⟨_, _, rfl, rfl, rfl⟩) (fun h => by cases h) (by decide) (by decide) (by decide) rfl Try.underlying100 (fun h => by cases h) (fun h => by cases h) (fun h => by cases h)
  (fun h => by cases h)
  (fun h => by cases h) (by decide)
def xu1 : TI := { agg := false, size := 1, bytes := 8, ty := .bool, zero := .cons (.lit .nilFunc) .nil, kind := 0, dflt := false, elem := 0, flds := [] }
theorem xn4 : TIok Try.prog 102 xu1 := qg6 (z := .nilFunc) (by kernel_rfl) rfl rfl (fun m ρ => ⟨_, _, rfl, rfl, rfl⟩) (fun h => by cases h) (by decide) (by decide) (by decide) rfl Try.underlying102 (fun h => by cases h) (fun h => by cases h) (fun h => by cases h)
  (fun h => by cases h)
  (fun h => by cases h) (by decide)
def xu2 : TI := { agg := false, size := 1, bytes := 8, ty := .bool, zero := .cons (.lit .nilFunc) .nil, kind := 0, dflt := false, elem := 0, flds := [] }
theorem xn5 : TIok Try.prog 105 xu2 := qg6 (z := .nilFunc) (by kernel_rfl) rfl rfl (fun m ρ => ⟨_, _, rfl, rfl, rfl⟩) (fun h => by cases h) (by decide) (by decide) (by decide) rfl Try.underlying105 (fun h => by cases h) (fun h => by cases h) (fun h => by cases h)
  (fun h => by cases h)
  (fun h => by cases h) (by decide)
def xu3 : TI := { agg := false, size := 1, bytes := 8, ty := .bool, zero := .cons (.lit .nilFunc) .nil, kind := 0, dflt := false, elem := 0, flds := [] }
theorem xn6 : TIok Try.prog 110 xu3 := qg6 (z := .nilFunc) (by kernel_rfl) rfl rfl (fun m ρ => ⟨_, _, rfl, rfl, rfl⟩) (fun h => by cases h) (by decide) (by decide) (by decide) rfl Try.underlying110 (fun h => by cases h) (fun h => by cases h) (fun h => by cases h)
  (fun h => by cases h)
  (fun h => by cases h) (by decide)
def xu4 : TI := { agg := false, size := 1, bytes := 8, ty := .bool, zero := .cons (.lit .nilFunc) .nil, kind := 0, dflt := false, elem := 0, flds := [] }
theorem xn7 : TIok Try.prog 113 xu4 := qg6 (z := .nilFunc) (by kernel_rfl) rfl rfl (fun m ρ => ⟨_, _, rfl, rfl, rfl⟩) (fun h => by cases h) (by decide) (by decide) (by decide) rfl Try.underlying113 (fun h => by cases h) (fun h => by cases h) (fun h => by cases h)
  (fun h => by cases h)
  (fun h => by cases h) (by decide)
def xu5 : TI := { agg := false, size := 1, bytes := 8, ty := .bool, zero := .cons (.lit .nilFunc) .nil, kind := 0, dflt := false, elem := 0, flds := [] }
theorem xn8 : TIok Try.prog 114 xu5 := qg6 (z := .nilFunc) (by kernel_rfl) rfl rfl (fun m ρ => ⟨_, _, rfl, rfl, rfl⟩) (fun h => by cases h) (by decide) (by decide) (by decide) rfl Try.underlying114 (fun h => by cases h) (fun h => by cases h) (fun h => by cases h)
  (fun h => by cases h)
  (fun h => by cases h) (by decide)
def xu6 : TI := { agg := false, size := 1, bytes := 8, ty := .bool, zero := .cons (.lit .nilFunc) .nil, kind := 0, dflt := false, elem := 0, flds := [] }
theorem xn9 : TIok Try.prog 115 xu6 := qg6 (z := .nilFunc) (by kernel_rfl) rfl rfl (fun m ρ => ⟨_, _, rfl, rfl, rfl⟩) (fun h => by cases h) (by decide) (by decide) (by decide) rfl Try.underlying115 (fun h => by cases h) (fun h => by cases h) (fun h => by cases h)
  (fun h => by cases h)
  (fun h => by cases h) (by decide)
def xu7 : TI := { agg := false, size := 1, bytes := 8, ty := .bool, zero := .cons (.lit .nilFunc) .nil, kind := 0, dflt := false, elem := 0, flds := [] }
theorem xo0 : TIok Try.prog 131 xu7 := qg6 (z := .nilFunc) (by kernel_rfl) rfl rfl (fun m ρ => ⟨_, _, rfl, rfl, rfl⟩) (fun h => by cases h) (by decide) (by decide) (by decide) rfl Try.underlying131 (fun h => by cases h) (fun h => by cases h) (fun h => by cases h)
  (fun h => by cases h)
  (fun h => by cases h) (by decide)
def xu8 : TI := { agg := false, size := 1, bytes := 8, ty := .bool, zero := .cons (.lit .nilFunc) .nil, kind := 0, dflt := false, elem := 0, flds := [] }
theorem xo1 : TIok Try.prog 134 xu8 := qg6 (z := .nilFunc) (by kernel_rfl) rfl rfl (fun m ρ => ⟨_, _, rfl, rfl, rfl⟩) (fun h => by cases h) (by decide) (by decide) (by decide) rfl Try.underlying134 (fun h => by cases h) (fun h => by cases h) (fun h => by cases h)
  (fun h => by cases h)
  (fun h => by cases h) (by decide)
def xu9 : TI := { agg := false, size := 1, bytes := 8, ty := .bool, zero := .cons (.lit .nilFunc) .nil, kind := 0, dflt := false, elem := 0, flds := [] }
theorem xo2 : TIok Try.prog 143 xu9 := qg6 (z := .nilFunc) (by kernel_rfl) rfl rfl (fun m ρ => ⟨_, _, rfl, rfl, rfl⟩) (fun h => by cases h) (by decide) (by decide) (by decide) rfl Try.underlying143 (fun h => by cases h) (fun h => by cases h) (fun h => by cases h)
  (fun h => by cases h)
  (fun h => by cases h) (by decide)
def tys : List (Nat × TI) := [(1, T1), (2, T2), (3, T3), (4, T4), (5, T5), (6, T6), (7, T7), (8, T8), (9, T9), (10, T10), (11, T11), (12, T12), (13, T13), (14, T14), (15, T15), (16, T16), (17, T17), (18, T18), (19, T19), (21, T21), (22, T22), (23, T23), (24, T24), (25, T25), (26, T26), (27, T27), (28, T28), (29, T29), (30, T30), (31, T31), (33, T33), (34, T34), (37, T37), (39, T39), (40, T40), (44, T44), (46, T46), (49, T49), (58, T58), (60, T60), (66, T66), (68, T68), (70, T70), (75, T75), (76, T76), (79, T79), (82, T82), (94, T94), (95, T95), (96, T96), (99, T99), (100, xu0), (102, xu1), (105, xu2), (110, xu3), (113, xu4), (114, xu5), (115, xu6), (131, xu7), (134, xu8), (143, xu9)]
theorem qb8 {α : Type} {i j : Nat} {v w : α} {l : List (Nat × α)} (h : find ((j, v) :: l) i = some w) : (i = j /\ w = v) \/ find l i = some w := by
  simp only [find] at h
  split at h
  · rename_i e; exact .inl ⟨(Nat.eq_of_beq_eq_true e).symm, by injection h with h; exact h.symm⟩
  · exact .inr h
theorem q2l : ∀ t T, find tys t = some T -> TIok Try.prog t T := by
  intro t T h
  unfold tys at h
  rcases qb8 h with ⟨rfl, rfl⟩ | h
  · exact ti1
  rcases qb8 h with ⟨rfl, rfl⟩ | h
  · exact ti2
  rcases qb8 h with ⟨rfl, rfl⟩ | h
  · exact ti3
  rcases qb8 h with ⟨rfl, rfl⟩ | h
  · exact ti4
  rcases qb8 h with ⟨rfl, rfl⟩ | h
  · exact ti5
  rcases qb8 h with ⟨rfl, rfl⟩ | h
  · exact ti6
  rcases qb8 h with ⟨rfl, rfl⟩ | h
  · exact ti7
  rcases qb8 h with ⟨rfl, rfl⟩ | h
  · exact ti8
  rcases qb8 h with ⟨rfl, rfl⟩ | h
  · exact ti9
  rcases qb8 h with ⟨rfl, rfl⟩ | h
  · exact xw2
  rcases qb8 h with ⟨rfl, rfl⟩ | h
  · exact xw3
  rcases qb8 h with ⟨rfl, rfl⟩ | h
  · exact xn0
  rcases qb8 h with ⟨rfl, rfl⟩ | h
  · exact xw4
  rcases qb8 h with ⟨rfl, rfl⟩ | h
  · exact xw5
  rcases qb8 h with ⟨rfl, rfl⟩ | h
  · exact xw6
  rcases qb8 h with ⟨rfl, rfl⟩ | h
  · exact xw7
  rcases qb8 h with ⟨rfl, rfl⟩ | h
  · exact xn1
  rcases qb8 h with ⟨rfl, rfl⟩ | h
  · exact xw8
  rcases qb8 h with ⟨rfl, rfl⟩ | h
  · exact xw9
  rcases qb8 h with ⟨rfl, rfl⟩ | h
  · exact xx0
  rcases qb8 h with ⟨rfl, rfl⟩ | h
  · exact xx1
  rcases qb8 h with ⟨rfl, rfl⟩ | h
  · exact xt9
  rcases qb8 h with ⟨rfl, rfl⟩ | h
  · exact xl1
  rcases qb8 h with ⟨rfl, rfl⟩ | h
  · exact xx2
  rcases qb8 h with ⟨rfl, rfl⟩ | h
  · exact xx3
  rcases qb8 h with ⟨rfl, rfl⟩ | h
  · exact xx4
  rcases qb8 h with ⟨rfl, rfl⟩ | h
  · exact xn2
  rcases qb8 h with ⟨rfl, rfl⟩ | h
  · exact xx5
  rcases qb8 h with ⟨rfl, rfl⟩ | h
  · exact xx6
  rcases qb8 h with ⟨rfl, rfl⟩ | h
  · exact xx7
  rcases qb8 h with ⟨rfl, rfl⟩ | h
  · exact xx8
  rcases qb8 h with ⟨rfl, rfl⟩ | h
  · exact xx9
  rcases qb8 h with ⟨rfl, rfl⟩ | h
  · exact xy0
  rcases qb8 h with ⟨rfl, rfl⟩ | h
  · exact xy1
  rcases qb8 h with ⟨rfl, rfl⟩ | h
  · exact xy2
  rcases qb8 h with ⟨rfl, rfl⟩ | h
  · exact xy3
  rcases qb8 h with ⟨rfl, rfl⟩ | h
  · exact xy4
  rcases qb8 h with ⟨rfl, rfl⟩ | h
  · exact xy5
  rcases qb8 h with ⟨rfl, rfl⟩ | h
  · exact xy6
  rcases qb8 h with ⟨rfl, rfl⟩ | h
  · exact xy7
  rcases qb8 h with ⟨rfl, rfl⟩ | h
  · exact xy8
  rcases qb8 h with ⟨rfl, rfl⟩ | h
  · exact xy9
  rcases qb8 h with ⟨rfl, rfl⟩ | h
  · exact xz0
  rcases qb8 h with ⟨rfl, rfl⟩ | h
  · exact xz1
  rcases qb8 h with ⟨rfl, rfl⟩ | h
  · exact xz2
  rcases qb8 h with ⟨rfl, rfl⟩ | h
  · exact xz3
  rcases qb8 h with ⟨rfl, rfl⟩ | h
  · exact xz4
  rcases qb8 h with ⟨rfl, rfl⟩ | h
  · exact xz5
  rcases qb8 h with ⟨rfl, rfl⟩ | h
  · exact xz6
  rcases qb8 h with ⟨rfl, rfl⟩ | h
  · exact xz7
  rcases qb8 h with ⟨rfl, rfl⟩ | h
  · exact xz8
  rcases qb8 h with ⟨rfl, rfl⟩ | h
  · exact xn3
  rcases qb8 h with ⟨rfl, rfl⟩ | h
  · exact xn4
  rcases qb8 h with ⟨rfl, rfl⟩ | h
  · exact xn5
  rcases qb8 h with ⟨rfl, rfl⟩ | h
  · exact xn6
  rcases qb8 h with ⟨rfl, rfl⟩ | h
  · exact xn7
  rcases qb8 h with ⟨rfl, rfl⟩ | h
  · exact xn8
  rcases qb8 h with ⟨rfl, rfl⟩ | h
  · exact xn9
  rcases qb8 h with ⟨rfl, rfl⟩ | h
  · exact xo0
  rcases qb8 h with ⟨rfl, rfl⟩ | h
  · exact xo1
  rcases qb8 h with ⟨rfl, rfl⟩ | h
  · exact xo2
  cases h
end Go.Proofs.Ytdibdlelmkcccaa
