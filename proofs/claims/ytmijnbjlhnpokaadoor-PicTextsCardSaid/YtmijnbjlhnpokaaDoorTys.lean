/- What the table of this seat says of its types, for the engine. Printed by program (gentys.py). No condition. -/
import Derived.Test.YtmijnbjlhnpokaaDoorEng3
import Derived.Test.YtmijnbjlhnpokaaDoorProg
set_option linter.unusedVariables false
set_option linter.unusedSimpArgs false
namespace Go.Proofs.YtmijnbjlhnpokaaDoor
open Go Go.RowKit Eng
theorem zero_of {P : Program} {t : Nat} {z : Value} (h : (P.info? t).map (fun i => i.zero) = some (some z)) : ∃ i, P.info? t = some i /\ i.zero = some z := by
  cases hi : P.info? t with
  | none => rw [hi] at h; cases h
  | some i => rw [hi] at h; exact ⟨i, rfl, Option.some.inj h⟩
theorem ti_mk {P : Program} {t : Nat} {T : TI} {z : Value} {d : TypeDesc} (h1 : (P.info? t).map (fun i => (i.size, i.bytes, i.zero)) = some (T.size, T.bytes, some z)) (hz : z.cells.size = T.size) (h2 : z.cells.toList.all (·.oneCell') = true)
    (h3 : ∀ m ρ, T.zero.ok P m ρ z.cells.toList) (h4 : T.dflt = true -> ∀ m, Rd m T.ty T.ty.dflt z.cells.toList) (h5 : T.bytes <= 1000000) (h6 : T.size ≠ 0) (h7 : T.size <= 10000) (h8 : (match d with | .struct _ | .array _ _ => true | _ => false) = T.agg) (hu : P.underlying t = some d)
    (h9 : T.kind = 1 -> P.underlying t = some (.slice T.elem)) (h10 : T.kind = 2 -> P.underlying t = some .string) (h11 : T.kind = 3 -> P.underlying t = some .bool)
    (h12 : T.kind = 4 -> ∃ n sz, P.underlying t = some (.array n T.elem) /\ (∃ j, P.info? T.elem = some j /\ j.size = sz) /\ sz ≠ 0 /\ ∀ (f : Nat) (fl : Nat × Nat × Nat), T.flds[f]? = some fl -> fl = (f * sz, T.elem, sz) /\ f < n)
    (h13 : T.kind = 5 -> ∃ fields, P.underlying t = some (.struct fields) /\ fields.toList.map (fun F => (F.offset, F.type)) = T.flds.map (fun f => (f.1, f.2.1)) /\ ∀ f ∈ T.flds, (∃ j, P.info? f.2.1 = some j /\ j.size = f.2.2) /\ f.2.2 ≠ 0) (h14 : T.kind <= 5) (h15 : T.eq2 = true -> Eq2 P t := by (intro h; cases h)) (h16 : T.isInt = true -> ∃ k, T.ty = .int k /\ P.underlying t = some (.int k) := by (intro h; cases h))
    (h17 : ∀ eb, T.bld = some eb -> ∃ i, P.info? t = some i /\ i.zero = some (.agg #[.pointer none, .slice none 0 0]) := by (intro eb h; cases h)) : TIok P t T := by
  refine ⟨?_, h5, h6, h7, ⟨d, hu, h8⟩, h9, h10, h11, h12, h13, h14, h15, h16, h17⟩
  cases hi : P.info? t with
  | none => rw [hi] at h1; cases h1
  | some i =>
    rw [hi] at h1
    simp only [Option.map_some, Option.some.injEq, Prod.mk.injEq] at h1
    exact ⟨i, z, rfl, h1.1, h1.2.1, h1.2.2, hz, h2, h3, h4⟩
def tiI (k : IntKind) (b : Nat) : TI := { agg := false, size := 1, bytes := b, ty := .int k, zero := .cons (.lit (.int k 0)) .nil, kind := 0, dflt := true, elem := 0, flds := [], isInt := true }
def tiS (b e : Nat) (y : Ty) : TI := { agg := false, size := 1, bytes := b, ty := .list y, zero := .cons (.lit (.slice none 0 0)) .nil, kind := 1, dflt := true, elem := e, flds := [] }
def tiZ (z : Value) (b : Nat) : TI := { agg := false, size := 1, bytes := b, ty := .bool, zero := .cons (.lit z) .nil, kind := 0, dflt := false, elem := 0, flds := [] }
theorem k_ne {a b : Nat} {p : Prop} (h : a = b) (hn : Nat.beq a b = false) : p := absurd h (Nat.ne_of_beq_eq_false hn)
theorem tiI_ok {P : Program} {t : Nat} {k : IntKind} {b : Nat} (h1 : (P.info? t).map (fun i => (i.size, i.bytes, i.zero)) = some (1, b, some (.int k 0))) (hu : P.underlying t = some (.int k)) (hb : b <= 1000000) : TIok P t (tiI k b) :=
  ti_mk (z := .int k 0) h1 rfl rfl (fun m ρ => ⟨_, _, rfl, rfl, rfl⟩) (fun _ m => rfl) hb (Nat.succ_ne_zero 0) (show 1 <= 10000 by decide) rfl hu (fun h => k_ne h rfl) (fun h => k_ne h rfl) (fun h => k_ne h rfl) (fun h => k_ne h rfl) (fun h => k_ne h rfl) (Nat.zero_le 5) (h16 := fun _ => ⟨k, rfl, hu⟩)
theorem tiS_ok {P : Program} {t b e : Nat} {y : Ty} (h1 : (P.info? t).map (fun i => (i.size, i.bytes, i.zero)) = some (1, b, some (.slice none 0 0))) (hu : P.underlying t = some (.slice e)) (hb : b <= 1000000) : TIok P t (tiS b e y) :=
  ti_mk (z := .slice none 0 0) h1 rfl rfl (fun m ρ => ⟨_, _, rfl, rfl, rfl⟩) (fun _ m => ⟨none, 0, rfl, Nat.le_refl _, by unfold maxLen; exact Nat.zero_le _, fun h => absurd h (Nat.lt_irrefl 0)⟩) hb (Nat.succ_ne_zero 0) (show 1 <= 10000 by decide) rfl hu (fun _ => hu) (fun h => k_ne h rfl) (fun h => k_ne h rfl) (fun h => k_ne h rfl) (fun h => k_ne h rfl) (show 1 <= 5 by decide)
theorem tiZ_ok {P : Program} {t b : Nat} {z : Value} {d : TypeDesc} (hz : z.cells = #[z]) (ho : z.oneCell' = true) (h1 : (P.info? t).map (fun i => (i.size, i.bytes, i.zero)) = some (1, b, some z)) (hu : P.underlying t = some d) (h8 : (match (generalizing := false) d with | .struct _ | .array _ _ => true | _ => false) = false) (hb : b <= 1000000) : TIok P t (tiZ z b) :=
  ti_mk (z := z) h1 (by rw [hz]; rfl) (by rw [hz]; show (z.oneCell' && true) = true; rw [ho]; rfl) (fun m ρ => by rw [hz]; exact ⟨_, _, rfl, rfl, rfl⟩) (fun h => by cases h) hb (Nat.succ_ne_zero 0) (show 1 <= 10000 by decide) h8 hu (fun h => k_ne h rfl) (fun h => k_ne h rfl) (fun h => k_ne h rfl) (fun h => k_ne h rfl) (fun h => k_ne h rfl) (Nat.zero_le 5)
def tiR (b : Nat) : TI := { agg := false, size := 1, bytes := b, ty := .str, zero := .cons (.lit (.string ⟨#[]⟩)) .nil, kind := 2, dflt := true, elem := 0, flds := [] }
def tiB (b : Nat) : TI := { agg := false, size := 1, bytes := b, ty := .bool, zero := .cons .ff .nil, kind := 3, dflt := true, elem := 0, flds := [] }
theorem tiR_ok {P : Program} {t b : Nat} (h1 : (P.info? t).map (fun i => (i.size, i.bytes, i.zero)) = some (1, b, some (.string ⟨#[]⟩))) (hu : P.underlying t = some .string) (hb : b <= 1000000) : TIok P t (tiR b) :=
  ti_mk (z := .string ⟨#[]⟩) h1 rfl rfl (fun m ρ => ⟨_, _, rfl, rfl, rfl⟩) (fun _ m => rfl) hb (Nat.succ_ne_zero 0) (show 1 <= 10000 by decide) rfl hu (fun h => k_ne h rfl) (fun _ => hu) (fun h => k_ne h rfl) (fun h => k_ne h rfl) (fun h => k_ne h rfl) (show 2 <= 5 by decide)
theorem tiB_ok {P : Program} {t b : Nat} (h1 : (P.info? t).map (fun i => (i.size, i.bytes, i.zero)) = some (1, b, some (.bool false))) (hu : P.underlying t = some .bool) (hb : b <= 1000000) : TIok P t (tiB b) :=
  ti_mk (z := .bool false) h1 rfl rfl (fun m ρ => ⟨_, _, rfl, rfl, rfl⟩) (fun _ m => rfl) hb (Nat.succ_ne_zero 0) (show 1 <= 10000 by decide) rfl hu (fun h => k_ne h rfl) (fun h => k_ne h rfl) (fun _ => hu) (fun h => k_ne h rfl) (fun h => k_ne h rfl) (show 3 <= 5 by decide)
theorem ti_sz {P : Program} {t : Nat} {T : TI} (h : TIok P t T) : ∃ j, P.info? t = some j /\ j.size = T.size := by
  obtain ⟨i, z, h1, h2, _⟩ := h.info
  exact ⟨i, h1, h2⟩
def T3 : TI := tiI .i64 8
theorem ti3 : TIok Tryd.prog 3 T3 := tiI_ok (by kernel_rfl) Tryd.underlying3 (by decide)
def T4 : TI := tiB 1
theorem ti4 : TIok Tryd.prog 4 T4 := tiB_ok (by kernel_rfl) Tryd.underlying4 (by decide)
def T5 : TI := tiI .u8 1
theorem ti5 : TIok Tryd.prog 5 T5 := tiI_ok (by kernel_rfl) Tryd.underlying5 (by decide)
def T9 : TI := tiR 16
theorem ti9 : TIok Tryd.prog 9 T9 := tiR_ok (by kernel_rfl) Tryd.underlying9 (by decide)
def T10 : TI := tiR 16
theorem ti10 : TIok Tryd.prog 10 T10 := tiR_ok (by kernel_rfl) Tryd.underlying10 (by decide)
def T22 : TI := tiS 24 3 (.int .i64)
theorem ti22 : TIok Tryd.prog 22 T22 := tiS_ok (by kernel_rfl) Tryd.underlying22 (by decide)
def T24 : TI := { agg := true, size := 3, bytes := 40, ty := .prod (.int .i64) (.prod (.int .i64) (.list (.int .i64))), zero := .cons (.lit (.int .i64 0)) (.cons (.lit (.int .i64 0)) (.cons (.lit (.slice none 0 0)) .nil)), kind := 5, dflt := true, elem := 0, flds := [(0, 3, 1), (1, 3, 1), (2, 22, 1)] }
theorem ti24 : TIok Tryd.prog 24 T24 := ti_mk (z := .agg #[.int .i64 0, .int .i64 0, .slice none 0 0]) (by kernel_rfl) rfl rfl (fun m ρ => ⟨_, _, rfl, rfl, ⟨_, _, rfl, rfl, ⟨_, _, rfl, rfl, rfl⟩⟩⟩) (fun _ m => ⟨[.int .i64 0], [.int .i64 0, .slice none 0 0], rfl, rfl, ⟨[.int .i64 0], [.slice none 0 0], rfl, rfl, ⟨none, 0, rfl, Nat.le_refl _, by unfold maxLen; exact Nat.zero_le _, fun h => absurd h (Nat.lt_irrefl 0)⟩⟩⟩) (by decide) (by decide) (by decide) rfl Tryd.underlying24 (fun h => by cases h) (fun h => by cases h) (fun h => by cases h)
  (fun h => by cases h)
  (fun _ => ⟨_, Tryd.underlying24, rfl, fun f hf => by
    simp only [T24, List.mem_cons, List.not_mem_nil, or_false] at hf
    rcases hf with rfl | rfl | rfl
    · exact ⟨ti_sz ti3, by decide⟩
    · exact ⟨ti_sz ti3, by decide⟩
    · exact ⟨ti_sz ti22, by decide⟩⟩) (by decide)
def T27 : TI := tiI .i64 8
theorem ti27 : TIok Tryd.prog 27 T27 := tiI_ok (by kernel_rfl) Tryd.underlying27 (by decide)
def T32 : TI := tiZ (.nilFunc) 8
theorem ti32 : TIok Tryd.prog 32 T32 := tiZ_ok rfl rfl (by kernel_rfl) Tryd.underlying32 rfl (by decide)
def T34 : TI := tiS 24 22 (.list (.int .i64))
theorem ti34 : TIok Tryd.prog 34 T34 := tiS_ok (by kernel_rfl) Tryd.underlying34 (by decide)
def T40 : TI := tiS 24 9 (.str)
theorem ti40 : TIok Tryd.prog 40 T40 := tiS_ok (by kernel_rfl) Tryd.underlying40 (by decide)
def T50 : TI := tiZ (.pointer none) 8
theorem ti50 : TIok Tryd.prog 50 T50 := tiZ_ok rfl rfl (by kernel_rfl) Tryd.underlying50 rfl (by decide)
def T51 : TI := tiS 24 5 (.int .u8)
theorem ti51 : TIok Tryd.prog 51 T51 := tiS_ok (by kernel_rfl) Tryd.underlying51 (by decide)
def T53 : TI := { agg := true, size := 2, bytes := 32, ty := .bool, zero := .cons (.lit (.pointer none)) (.cons (.lit (.slice none 0 0)) .nil), kind := 5, dflt := false, elem := 0, flds := [(0, 50, 1), (1, 51, 1)], bld := some 5 }
theorem ti53 : TIok Tryd.prog 53 T53 := ti_mk (z := .agg #[.pointer none, .slice none 0 0]) (by kernel_rfl) rfl rfl (fun m ρ => ⟨_, _, rfl, rfl, ⟨_, _, rfl, rfl, rfl⟩⟩) (fun h => by cases h) (by decide) (by decide) (by decide) rfl Tryd.underlying53 (fun h => by cases h) (fun h => by cases h) (fun h => by cases h)
  (fun h => by cases h)
  (fun _ => ⟨_, Tryd.underlying53, rfl, fun f hf => by
    simp only [T53, List.mem_cons, List.not_mem_nil, or_false] at hf
    rcases hf with rfl | rfl
    · exact ⟨ti_sz ti50, by decide⟩
    · exact ⟨ti_sz ti51, by decide⟩⟩) (by decide) (h17 := fun _ _ => zero_of (by kernel_rfl))
def T66 : TI := tiI .u64 8
theorem ti66 : TIok Tryd.prog 66 T66 := tiI_ok (by kernel_rfl) Tryd.underlying66 (by decide)
def tys : List (Nat × TI) := [(3, T3), (4, T4), (5, T5), (9, T9), (10, T10), (22, T22), (24, T24), (27, T27), (32, T32), (34, T34), (40, T40), (50, T50), (51, T51), (53, T53), (66, T66)]
theorem find_cons {α : Type} {i j : Nat} {v w : α} {l : List (Nat × α)} (h : find ((j, v) :: l) i = some w) : (i = j /\ w = v) \/ find l i = some w := by
  simp only [find] at h
  split at h
  · rename_i e; exact .inl ⟨(Nat.eq_of_beq_eq_true e).symm, by injection h with h; exact h.symm⟩
  · exact .inr h
theorem tys_nil {P : Program} : ∀ t T, find ([] : List (Nat × TI)) t = some T -> TIok P t T := fun _ _ h => by cases h
theorem tys_cons {P : Program} {j : Nat} {U : TI} {l : List (Nat × TI)} (h : TIok P j U) (r : ∀ t T, find l t = some T -> TIok P t T) : ∀ t T, find ((j, U) :: l) t = some T -> TIok P t T := fun t T e => by
  rcases find_cons e with ⟨rfl, rfl⟩ | e
  · exact h
  · exact r t T e
set_option maxRecDepth 100000 in
theorem tys_ok : ∀ t T, find tys t = some T -> TIok Tryd.prog t T := by
  unfold tys
  exact tys_cons ti3 <| tys_cons ti4 <| tys_cons ti5 <| tys_cons ti9 <| tys_cons ti10 <| tys_cons ti22 <| tys_cons ti24 <| tys_cons ti27 <| tys_cons ti32 <| tys_cons ti34 <| tys_cons ti40 <| tys_cons ti50 <| tys_cons ti51 <| tys_cons ti53 <| tys_cons ti66 <| tys_nil
end Go.Proofs.YtmijnbjlhnpokaaDoor
