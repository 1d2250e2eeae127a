/- The laws SparseLeast and SparseWhole: contracts by the engine. No condition. -/
import Derived.Test.YtdibdlelmkcccaaV32
import Derived.Test.YtdibdlelmkcccaaW8
set_option linter.unusedVariables false
set_option linter.unusedSimpArgs false
namespace Go.Proofs.Ytdibdlelmkcccaa
open Go Go.RowKit Eng
theorem w45 : Mk q7t := Mk.of (by decide +kernel)
theorem w46 {n : Nat} {s : List Int} {k : Nat} (h : s ∈ qe8 (n : Nat) (k : Nat)) : Named n s := by
  unfold qe8 at h
  split at h
  · have hi := wq9 h
    refine ⟨fun j hj => ?_, fun i j hij hj => ?_⟩
    · have hj : j < (k : Int).toNat := by rw [<- hi.len]; exact hj
      have h1 := hi.lo j hj
      have h2 := hi.hi j hj
      omega
    · have hk := hi.len
      induction j with
      | zero => omega
      | succ j ih =>
        have h1 := hi.asc (j + 1) (by omega) (by omega)
        rw [Nat.add_sub_cancel] at h1
        rcases Nat.lt_succ_iff_lt_or_eq.1 hij with q | q
        · have := ih q (by omega); omega
        · rw [q]; exact h1
  · cases h
theorem q70 {m : List (List Int)} {pix : List Int} (hM : Mk m) (hn : Named (nL m 0).length pix) : Small m.length pix.length pix.length (qx1 m pix) := by
  have h6 := hM.rows6
  have hp10 := hM.pix10
  have hpl := hn.len
  have hat : ∀ i, i < m.length -> nL (qx1 m pix) i = qn8 (nL m i) pix := fun i hi => by
    unfold qx1
    rw [q7i _ _ _ i hi, List.append_nil]
  have hlo : ∀ i, i < m.length -> ∀ c, c < pix.length -> (nI (nL (qx1 m pix) i) c).natAbs <= 1 := fun i hi c hc => by
    rw [hat i hi, q4h _ _ _ hc]
    have h1 := hn.at_ c hc
    have h2 := hM.small i hi (nI pix c).toNat (by omega)
    omega
  exact ⟨⟨qm4 _ _ _, fun i hi => by rw [hat i hi, ql7]⟩, h6, Nat.le_refl _, by omega, fun a c ha hc => hlo a ha c hc, fun a c ha hc => by have := hlo a ha c hc; omega⟩
theorem xk4 {m : List (List Int)} (hM : Mk m) : wc8 m := by
  have := q6j (q70 hM (Named.idx _))
  rw [qr0] at this
  exact ⟨this⟩
def xt0 (r : List (List Int)) (piv : List Int) (n : Nat) : Bool :=
  ((List.range piv.length).all fun k => decide (nI (nL r k) (nI piv k).toNat ≠ 0) && (List.range n).all fun i => decide (qh4 BIG (nI (nL r k) i)))
  && (List.range n).all fun f => (piv.any fun e => (f : Int) == e) || (((List.range (piv.length + 1)).all fun k => decide (qh4 BIG (qg3 r piv f k) /\ qg3 r piv f k ≠ 0))
  && (List.range piv.length).all fun k => decide (qh4 BIG ((0 - nI (nL r k) f) * qg3 r piv f piv.length)))
theorem xa5 {r : List (List Int)} {piv : List Int} {n : Nat} (h : xt0 r piv n = true) : w61 r piv n := by
  unfold xt0 at h
  simp only [Bool.and_eq_true, Bool.or_eq_true, List.all_eq_true, List.mem_range, decide_eq_true_eq] at h
  obtain ⟨h1, h2⟩ := h
  refine ⟨fun k hk => (h1 k hk).1, fun k hk => (h1 k hk).2, fun f hf hp k hk => ?_, fun f hf hp k hk => ?_⟩
  · rcases h2 f hf with q | q
    · rw [hp] at q; cases q
    · exact q.1 k (by omega)
  · rcases h2 f hf with q | q
    · rw [hp] at q; cases q
    · exact q.2 k hk
theorem xa6 : ((List.range 3).all fun k => (qe8 (3 : Nat) (k + 1 : Nat)).all fun s => xt0 (qb3 q7t s).1 (qb3 q7t s).2 s.length) = true := by decide +kernel
theorem xa7 : wj9 q7t := by
  refine ⟨fun _ => ⟨xk4 w45, fun k hk s hs => ?_⟩, ?_⟩
  · have hn : (nL q7t 0).length = 3 := rfl
    rw [hn] at hk hs
    have h1 := w46 hs
    have h2 := List.all_eq_true.1 (List.all_eq_true.1 xa6 k (List.mem_range.2 hk)) s hs
    exact ⟨ChoOk.of w45 h1 fun _ _ => ⟨trivial, Nat.zero_le _⟩, q6j (q70 w45 h1), xa5 h2⟩
  · decide +kernel
theorem xa8 : qs4 q7t = true := by decide +kernel
theorem xa9 : q3v q7t := by
  have h : ∀ i, i < q7t.length -> (nL q7t i).length <= 9223372036854775807 := by decide
  exact ⟨by decide, h⟩
theorem wt6 : wd7 q7t [1, 1] = (([1], [(1, 1)]), 0) := by decide +kernel
abbrev xb0 : qc7 := qg2 true none [] [.bool] (fun _ => True) (fun _ => (true, ()))
theorem wf6 : qd6 Try.prog 10 xb0 := by
  refine meets (snd (SpecsOk.cons w4c (SpecsOk.cons w4h (SpecsOk.cons w0i (SpecsOk.cons q1m (SpecsOk.nil _)))))) Try.func10 rfl rfl (fun _ _ => none) (fun _ => by kernel_rfl) (by decide) ?_
  rintro ⟨⟩ -
  refine qd7 (B := True/\q6f q7t [(1:Int),(1:Int)]/\True/\wj9 q7t/\(((0:Int) == (0:Int))=true->q54 (Prod.fst (Prod.fst (wd7 q7t [(1:Int),(1:Int)])),Prod.snd (Prod.fst (wd7 q7t [(1:Int),(1:Int)])))/\(qz6 (Prod.fst (Prod.fst (wd7 q7t [(1:Int),(1:Int)])),Prod.snd (Prod.fst (wd7 q7t [(1:Int),(1:Int)]))) ([(1:Int)],[((1:Int),(1:Int))])=true->(((0:Int) == (0:Int))=true->((1:Int) == (1:Int))=true)/\(((0:Int) == (0:Int))=false->false=true))/\(qz6 (Prod.fst (Prod.fst (wd7 q7t [(1:Int),(1:Int)])),Prod.snd (Prod.fst (wd7 q7t [(1:Int),(1:Int)]))) ([(1:Int)],[((1:Int),(1:Int))])=false->false=true))/\(((0:Int) == (0:Int))=false->false=true)) (by kernel_rfl) ?_
  try simp only [z0,z1,z2,z3,z4,z5,z6,z7,z8,z9,z10,Int.reduceEq,z11,z12,z13,z14,z15,z16,z17,z18,z19,z20,z21,z22,z23,z24,z25,z26,z27,z28,z29,z30,Int.reduceLE,Int.reduceLT,z31,z32,z33,z34,qa3]
  try simp only [qb4, qb5, qc9, List.set_cons_zero, List.cons.injEq, and_true, true_and]
  refine ⟨xk2 xa9 xa8, xa7, ⟨?_, fun _ h => absurd trivial h, fun h => ?_⟩, fun h => absurd trivial h⟩
  · rw [wt6]; exact ⟨by decide, by decide⟩
  · rw [wt6] at h; cases h
end Go.Proofs.Ytdibdlelmkcccaa
set_option linter.unusedVariables false
set_option linter.unusedSimpArgs false
namespace Go.Proofs.Ytdibdlelmkcccaa
open Go Go.RowKit Eng
theorem wl2 {m : List (List Int)} {y : List Int} {k : Int} : ∀ f ∈ qg7 m y k, q54 f := fun f hf => by
  have h := (wl1 hf).2
  have h1 := h.len
  have h2 := h.lenB
  exact ⟨by omega, by omega⟩
end Go.Proofs.Ytdibdlelmkcccaa
