/- What a picture given by value reads as. No condition. -/
import Derived.Test.YtmijnbjlhnpokaaDoorOpenA
import Derived.Lib.SmallJoins
set_option linter.constructorNameAsVariable false
set_option linter.unusedVariables false
namespace Go.Proofs.YtmijnbjlhnpokaaDoor
open Go.ChangeShapes Go.WideShapes Go.ChangeAt Go.RowKit Go.Deep Go.Joins Ls
set_option maxRecDepth 10000 in
theorem openP {H : Type} {enc : TypeId × Value -> H} {W : World} {base : Nat} {t e : TypeId} {f0 f1 f2 : Field} {v : Value} {d : DataW H} {p : List MemPlace} (hs : Tryd.prog.underlying t = some (.struct #[f0, f1, f2])) (hone : oneCellFields Tryd.prog #[f0, f1, f2] = true) (hC : Tryd.prog.cellsOf t = 3)
    (h0 : Tryd.prog.underlying f0.type = some (.int .i64)) (h1 : Tryd.prog.underlying f1.type = some (.int .i64)) (h2 : Tryd.prog.underlying f2.type = some (.slice e)) (he : Tryd.prog.underlying e = some (.int .i64)) (ce : Tryd.prog.cellsOf e = 1)
    (hv : Value.okWide Tryd.prog W .any base t v) (h : DataW.Trod enc Tryd.prog W 0 (fun _ => true) true t v d p) :
    ∃ a b A n c l, v = .agg #[.int .i64 a, .int .i64 b, .slice A n c] /\ SI W A n c l := by
  obtain ⟨c0, c1, c2, y0, y1, y2, m, rfl, rfl, rfl, g0, g1, g2⟩ := open_agg3 hs hone hC hv h
  obtain ⟨a, e0, _, _⟩ := DataW.trod_int h0 g0
  obtain ⟨b, e1, _, _⟩ := DataW.trod_int h1 g1
  simp only [List.cons.injEq, and_true] at e0 e1
  subst e0 e1
  have hsl : ∃ x n c, c2 = .slice x n c := by
    rcases DataW.trod_slice h2 g2 with ⟨q, _⟩ | ⟨x, n, c, _, _, _, _, q, _⟩
    · simp only [List.cons.injEq, and_true] at q; exact ⟨_, _, _, q⟩
    · simp only [List.cons.injEq, and_true] at q; exact ⟨_, _, _, q⟩
  have hT : DataW.Trod enc Tryd.prog W 0 (fun _ => true) true f2.type c2 y2.1 y2.2 := by
    obtain ⟨x, n, c, rfl⟩ := hsl
    exact ⟨m, by simpa [Value.cells] using g2⟩
  obtain ⟨x, n, c, zs, rfl, hSI⟩ := openI h2 he ce hsl hT
  exact ⟨_, _, _, _, _, _, rfl, hSI⟩
end Go.Proofs.YtmijnbjlhnpokaaDoor
