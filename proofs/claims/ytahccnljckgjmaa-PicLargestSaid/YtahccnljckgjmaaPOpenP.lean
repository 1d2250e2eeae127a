/- What a picture given by value, and a pair of integers, read as. No condition. -/
import Derived.Test.YtahccnljckgjmaaOpenA
import Derived.Lib.SmallJoins
namespace Go.Proofs.Ytahccnljckgjmaa
open Go.ChangeShapes Go.WideShapes Go.ChangeAt Go.RowKit Go.Deep Go.Joins Ls

theorem openP {H : Type} {enc : TypeId × Value → H} {W : World} {base : Nat} {t e : TypeId} {f0 f1 f2 : Field} {v : Value} {d : DataW H} {p : List MemPlace} (hs : Try.prog.underlying t = some (.struct #[f0, f1, f2])) (hone : oneCellFields Try.prog #[f0, f1, f2] = true) (hC : Try.prog.cellsOf t = 3)
    (h0 : Try.prog.underlying f0.type = some (.int .i64)) (h1 : Try.prog.underlying f1.type = some (.int .i64)) (h2 : Try.prog.underlying f2.type = some (.slice e)) (he : Try.prog.underlying e = some (.int .i64)) (ce : Try.prog.cellsOf e = 1)
    (hv : Value.okWide Try.prog W .any base t v) (h : DataW.Trod enc Try.prog W 0 (fun _ => true) true t v d p) :
    ∃ a b A n c l, v = .agg #[.int .i64 a, .int .i64 b, .slice A n c] ∧ SI W A n c l := by
  obtain ⟨c0, c1, c2, y0, y1, y2, m, rfl, rfl, rfl, g0, g1, g2⟩ := open_agg3 hs hone hC hv h
  obtain ⟨a, e0, _, _⟩ := DataW.trod_int h0 g0
  obtain ⟨b, e1, _, _⟩ := DataW.trod_int h1 g1
  simp only [List.cons.injEq, and_true] at e0 e1
  subst e0 e1
  have hsl : ∃ x n c, c2 = .slice x n c := by
    rcases DataW.trod_slice h2 g2 with ⟨q, _⟩ | ⟨x, n, c, _, _, _, _, q, _⟩
    · simp only [List.cons.injEq, and_true] at q; exact ⟨_, _, _, q⟩
    · simp only [List.cons.injEq, and_true] at q; exact ⟨_, _, _, q⟩
  have hT : DataW.Trod enc Try.prog W 0 (fun _ => true) true f2.type c2 y2.1 y2.2 := by
    obtain ⟨x, n, c, rfl⟩ := hsl
    exact ⟨m, by simpa [Value.cells] using g2⟩
  obtain ⟨x, n, c, zs, rfl, hSI⟩ := openI h2 he ce hsl hT
  exact ⟨_, _, _, _, _, _, rfl, hSI⟩

set_option maxRecDepth 10000 in
theorem openA2 {H : Type} {enc : TypeId × Value → H} {W : World} {base : Nat} {t e : TypeId} {v : Value} {d : DataW H} {p : List MemPlace} (ht : Try.prog.underlying t = some (.array 2 e)) (he : Try.prog.underlying e = some (.int .i64)) (ce : Try.prog.cellsOf e = 1) (ct : Try.prog.cellsOf t = 2)
    (hv : Value.okWide Try.prog W .any base t v) (h : DataW.Trod enc Try.prog W 0 (fun _ => true) true t v d p) :
    ∃ a b, v = .agg #[.int .i64 a, .int .i64 b] ∧ ((Lit.int .i64 a).wf = true ∧ (Lit.int .i64 b).wf = true) := by
  unfold Value.okWide at hv
  simp only [ht] at hv
  obtain ⟨cs, rfl, hs, _⟩ := hv
  rw [ct] at hs
  obtain ⟨l⟩ := cs
  match l, hs with
  | [x, y], _ =>
    obtain ⟨fuel, hf⟩ := h
    cases fuel with
    | zero => simp [DataW.trod] at hf
    | succ n =>
      simp only [DataW.trod, Value.cells, ht, ct, ce] at hf
      simp [List.range_succ] at hf
      cases h1 : DataW.trod enc Try.prog W 0 (fun _ => true) true n e [x] with
      | none => rw [h1] at hf; simp at hf
      | some r1 =>
        rw [h1] at hf
        cases h2 : DataW.trod enc Try.prog W 0 (fun _ => true) true n e [y] with
        | none => rw [h2] at hf; simp at hf
        | some r2 =>
          obtain ⟨a, ha, _, wa⟩ := DataW.trod_int he h1
          obtain ⟨b, hb, _, wb⟩ := DataW.trod_int he h2
          simp only [List.cons.injEq, and_true] at ha hb
          subst ha hb
          exact ⟨a, b, rfl, wa, wb⟩

end Go.Proofs.Ytahccnljckgjmaa
