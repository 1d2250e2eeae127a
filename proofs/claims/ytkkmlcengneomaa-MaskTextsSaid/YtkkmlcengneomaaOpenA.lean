/- What an argument that is a small array of integers reads as. No condition. -/
import Derived.Test.YtkkmlcengneomaaOpen
namespace Go.Proofs.Ytkkmlcengneomaa
open Go.ChangeShapes Go.WideShapes Go.ChangeAt Go.RowKit Go.Deep Ls

set_option maxRecDepth 10000 in
theorem openA3 {H : Type} {enc : TypeId × Value → H} {W : World} {base : Nat} {t e : TypeId} {v : Value} {d : DataW H} {p : List MemPlace} (ht : Try.prog.underlying t = some (.array 3 e)) (he : Try.prog.underlying e = some (.int .i64)) (ce : Try.prog.cellsOf e = 1) (ct : Try.prog.cellsOf t = 3)
    (hv : Value.okWide Try.prog W .any base t v) (h : DataW.Trod enc Try.prog W 0 (fun _ => true) true t v d p) :
    ∃ a b c, v = .agg #[.int .i64 a, .int .i64 b, .int .i64 c] ∧ ((Lit.int .i64 a).wf = true ∧ (Lit.int .i64 b).wf = true ∧ (Lit.int .i64 c).wf = true) := by
  unfold Value.okWide at hv
  simp only [ht] at hv
  obtain ⟨cs, rfl, hs, _⟩ := hv
  rw [ct] at hs
  obtain ⟨l⟩ := cs
  match l, hs with
  | [x, y, z], _ =>
    obtain ⟨fuel, hf⟩ := h
    cases fuel with
    | zero => simp [DataW.trod] at hf
    | succ n =>
      simp only [DataW.trod, Value.cells, ht, ct, ce] at hf
      simp [List.range_succ] at hf
      cases h1 : DataW.trod enc Try.prog W 0 (fun _ => true) true n e [x] with
      | none => rw [h1] at hf; simp at hf
      | some r1 =>
        rw [h1] at hf
        cases h2 : DataW.trod enc Try.prog W 0 (fun _ => true) true n e [y] with
        | none => rw [h2] at hf; simp at hf
        | some r2 =>
          rw [h2] at hf
          cases h3 : DataW.trod enc Try.prog W 0 (fun _ => true) true n e [z] with
          | none => rw [h3] at hf; simp at hf
          | some r3 =>
            obtain ⟨a, ha, _, wa⟩ := DataW.trod_int he h1
            obtain ⟨b, hb, _, wb⟩ := DataW.trod_int he h2
            obtain ⟨c, hc, _, wc⟩ := DataW.trod_int he h3
            simp only [List.cons.injEq, and_true] at ha hb hc
            subst ha hb hc
            exact ⟨a, b, c, rfl, wa, wb, wc⟩

end Go.Proofs.Ytkkmlcengneomaa
