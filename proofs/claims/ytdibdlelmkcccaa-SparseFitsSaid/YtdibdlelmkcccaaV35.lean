/- The law SparseFits: contract by the engine. No condition. -/
import Derived.Test.YtdibdlelmkcccaaV34
import Derived.Test.YtdibdlelmkcccaaW11
set_option linter.unusedVariables false
set_option linter.unusedSimpArgs false
namespace Go.Proofs.Ytdibdlelmkcccaa
open Go Go.RowKit Eng
abbrev xk9 : qc7 := qg2 true none [qh5, qe1, q2m, qf9] [.bool] (fun x => q3v x.1) (fun _ => (true, ()))
theorem q38 : qd6 Try.prog 5 xk9 := by
  refine meets (snd (SpecsOk.cons w4b (SpecsOk.cons w0j (SpecsOk.cons wf6 (SpecsOk.cons q9a (SpecsOk.cons w0r (SpecsOk.cons wk2 (SpecsOk.cons wk6 (SpecsOk.cons wj2 (SpecsOk.cons w4p (SpecsOk.cons wd1 (SpecsOk.nil _)))))))))))) Try.func5 rfl rfl (fun _ _ => none) (fun _ => by kernel_rfl) (by decide) ?_
  rintro ⟨m, y, f, k, ⟨⟩⟩ h
  revert m y f k
  intro (m : List (List Int)) (y : List Int) (f : List Int × List (Int × Int)) (k : Int) (h : q3v m)
  refine qd7 (B := q3v m/\((!qs4 m)=true->True/\true=true)/\((!qs4 m)=false->List.length [y,Prod.fst f] <= (1000:Nat)/\(q9e [y,Prod.fst f]=true->True/\true=true)/\(q9e [y,Prod.fst f]=false->(decide ((100:Int) < (↑(List.length (Prod.snd f)):Int))=true->True/\true=true)/\(decide ((100:Int) < (↑(List.length (Prod.snd f)):Int))=false->(qp9 m (Prod.fst f) y/\List.length (Prod.fst f) <= (100000:Nat))/\q1p m (Prod.fst f) y/\(q9q m y k=(0:Int)->qn5 m y k)/\w7i m y/\((Prod.fst (wr6 m y (Prod.fst f)) == Prod.fst (wk5 m y (Prod.fst f)))=true->((Prod.snd (wr6 m y (Prod.fst f)) == Prod.snd (wk5 m y (Prod.fst f)))=true->(qp9 m (Prod.fst f) y/\List.length (Prod.fst f) <= (100000:Nat)/\List.length (Prod.snd f) <= (100000:Nat))/\w4n m y (Prod.fst f,Prod.snd f)/\((qu8 m y (Prod.fst f,Prod.snd f) == q03 m y (Prod.fst f,Prod.snd f))=true->wj3 (Prod.fst (q00 m y k))/\(decide (Prod.fst (q00 m y k)=Prod.fst (q1q m y k))=true->((Prod.snd (q00 m y k) == Prod.snd (q1q m y k))=true->True/\true=true)/\((Prod.snd (q00 m y k) == Prod.snd (q1q m y k))=false->false=true))/\(decide (Prod.fst (q00 m y k)=Prod.fst (q1q m y k))=false->false=true))/\((qu8 m y (Prod.fst f,Prod.snd f) == q03 m y (Prod.fst f,Prod.snd f))=false->false=true))/\((Prod.snd (wr6 m y (Prod.fst f)) == Prod.snd (wk5 m y (Prod.fst f)))=false->false=true))/\((Prod.fst (wr6 m y (Prod.fst f)) == Prod.fst (wk5 m y (Prod.fst f)))=false->false=true))))) (by kernel_rfl) ?_
  refine ⟨h, fun _ => ⟨trivial, rfl⟩, fun hl => ⟨by simp, fun _ => ⟨trivial, rfl⟩, fun hg => ⟨fun _ => ⟨trivial, rfl⟩, fun h100 => ?_⟩⟩⟩
  have hl : qs4 m = true := by simpa using hl
  have hv := of_decide_eq_false h100
  have hp : f.1.length <= 100 := by
    unfold q9e at hg
    rw [List.any_eq_false] at hg
    have := hg f.1 (by simp)
    simpa using this
  rw [<- xk3, <- xa4 y k hl, <- w7t]
  refine ⟨⟨w42 (by omega), by omega⟩, xa1 h (by omega), fun hc => ?_, xs9 h hl, fun _ => ⟨fun _ => ⟨⟨w42 (by omega), by omega, by omega⟩, ⟨xa1 h (show f.1.length <= 100000 by omega), show f.2.length <= 1000000 by omega⟩, fun _ => ⟨?_, fun _ => ⟨fun _ => ⟨trivial, rfl⟩, fun hn => ?_⟩, fun hn => ?_⟩, fun hn => ?_⟩, fun hn => ?_⟩, fun hn => ?_⟩
  · obtain ⟨h1, h2, h3⟩ := w8f hc
    have hM := q3l h1
    exact q9h h hM (q2v hl hM) h2 h3
  · unfold q00
    split
    · rename_i hc
      obtain ⟨h1, h2, h3⟩ := w8f hc
      have hM := q3l h1
      refine ⟨(q9h (y := y) h hM (q2v hl hM) h2 h3).len, fun i hi => ?_⟩
      rw [w0n _ i hi]
      exact wl2 _ (List.getElem_mem hi)
    · exact ⟨Nat.zero_le _, fun i hi => absurd hi (Nat.not_lt_zero _)⟩
  · simp at hn
  · simp at hn
  · simp at hn
  · simp at hn
  · simp at hn
end Go.Proofs.Ytdibdlelmkcccaa
