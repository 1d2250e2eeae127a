/- The fit of some columns; what it is asked with: contracts by the engine. No condition. -/
import Derived.Test.YtdibdlelmkcccaaV12
import Derived.Test.YtdibdlelmkcccaaVClo
set_option linter.unusedVariables false
set_option linter.unusedSimpArgs false
namespace Go.Proofs.Ytdibdlelmkcccaa
open Go Go.RowKit Eng
theorem q4l (t : Ty) (a b : List t.den) (hl : a.length = b.length) (h : ∀ i, i < a.length -> qa1 t a i = qa1 t b i) : a = b := by
  apply List.ext_getElem hl
  intro i h1 h2
  have := h i h1
  rwa [qj7 a i h1, qj7 b i h2] at this
def xq5 (a b : List (Ty.den (.prod (.int .i64) (.int .i64)))) : Nat -> Option Inv
  | 0 => some (Inv.of [13] 0 (fun k : Nat => [(13, .lit (.int .i64 k))]) (fun _ => []) (fun k => k <= a.length /\ ∀ i, i < k -> qa1 (.prod (.int .i64) (.int .i64)) a i = qa1 (.prod (.int .i64) (.int .i64)) b i) (fun k => a.length - k))
  | _ => none
abbrev x0y : qc7 := qg2 true none [.list (.prod (.int .i64) (.int .i64)), .list (.prod (.int .i64) (.int .i64))] [.bool] (fun x => x.1.length <= 1000000) (fun x => (decide (x.1 = x.2.1), ()))
theorem w3y : qd6 Try.prog 57 x0y := by
  refine meets (snd (SpecsOk.nil _)) Try.func57 rfl rfl (fun x => xq5 x.1 x.2.1) (fun _ => by kernel_rfl) (by decide) ?_
  rintro ⟨a, b, ⟨⟩⟩ h
  revert a b
  intro (a : List (Ty.den (.prod (.int .i64) (.int .i64)))) (b : List (Ty.den (.prod (.int .i64) (.int .i64)))) (h : a.length <= 1000000)
  refine qd7 (B := (((↑(List.length a):Int) != (↑(List.length b):Int))=true->false=decide (a=b))/\(((↑(List.length a):Int) != (↑(List.length b):Int))=false->∃ (v1:Unit),∃ (v2:Nat),(v2 <= List.length a/\∀ (v3:Nat),Nat.le (Nat.succ v3) v2->qa1 (Ty.prod (Ty.int .i64) (Ty.int .i64)) a v3=qa1 (Ty.prod (Ty.int .i64) (Ty.int .i64)) b v3)/\(((0:Int)=(↑v2:Int)/\True)/\True)/\∀ (v3:Nat),(v3 <= List.length a/\∀ (v5:Nat),Nat.le (Nat.succ v5) v3->qa1 (Ty.prod (Ty.int .i64) (Ty.int .i64)) a v5=qa1 (Ty.prod (Ty.int .i64) (Ty.int .i64)) b v5)->(decide ((↑v3:Int) < (↑(List.length a):Int))=true->((0:Int) <= (↑v3:Int)/\(↑v3:Int) < (↑(List.length a):Int))/\((0:Int) <= (↑v3:Int)/\(↑v3:Int) < (↑(List.length b):Int))/\((!(Prod.fst (qa1 (Ty.prod (Ty.int .i64) (Ty.int .i64)) a (Int.toNat (↑v3:Int))) == Prod.fst (qa1 (Ty.prod (Ty.int .i64) (Ty.int .i64)) b (Int.toNat (↑v3:Int))) && Prod.snd (qa1 (Ty.prod (Ty.int .i64) (Ty.int .i64)) a (Int.toNat (↑v3:Int))) == Prod.snd (qa1 (Ty.prod (Ty.int .i64) (Ty.int .i64)) b (Int.toNat (↑v3:Int)))))=true->false=decide (a=b))/\((!(Prod.fst (qa1 (Ty.prod (Ty.int .i64) (Ty.int .i64)) a (Int.toNat (↑v3:Int))) == Prod.fst (qa1 (Ty.prod (Ty.int .i64) (Ty.int .i64)) b (Int.toNat (↑v3:Int))) && Prod.snd (qa1 (Ty.prod (Ty.int .i64) (Ty.int .i64)) a (Int.toNat (↑v3:Int))) == Prod.snd (qa1 (Ty.prod (Ty.int .i64) (Ty.int .i64)) b (Int.toNat (↑v3:Int)))))=false->fits .i64 ((↑v3:Int) + (1:Int))/\∃ (v7:Nat),(v7 <= List.length a/\∀ (v8:Nat),Nat.le (Nat.succ v8) v7->qa1 (Ty.prod (Ty.int .i64) (Ty.int .i64)) a v8=qa1 (Ty.prod (Ty.int .i64) (Ty.int .i64)) b v8)/\List.length a - v7 < List.length a - v3/\((↑v3:Int) + (1:Int)=(↑v7:Int)/\True)/\True))/\(decide ((↑v3:Int) < (↑(List.length a):Int))=false->true=decide (a=b)))) (by kernel_rfl) ?_
  try simp only [z0,z1,z2,z3,z4,z5,z6,z7,z8,z9,z10,Int.reduceEq,z11,z12,z13,z14,z15,z16,z17,z18,z19,z20,z21,z22,z23,z24,z25,z26,z27,z28,z29,z30,Int.reduceLE,Int.reduceLT,z31,z32,z33,z34,qa3]
  try simp only [qb4, qb5, qc9, List.set_cons_zero, List.cons.injEq, and_true, true_and]
  refine ⟨fun hl => ?_, fun hl => ?_⟩
  · rw [decide_eq_false]; intro e; subst e; exact hl rfl
  · refine ⟨(), 0, ⟨Nat.zero_le _, fun i hi => absurd hi (by omega)⟩, rfl, fun k ⟨hk, hall⟩ => ⟨fun hlt => ⟨hlt, by omega, fun hne => ?_, fun he => ⟨qa8 (by omega) (by omega), k + 1, ⟨by omega, fun i hi => ?_⟩, by omega, by omega⟩⟩, fun hge => ?_⟩⟩
    · rw [decide_eq_false]; intro e; subst e; first | exact hne rfl | (revert hne; simp)
    · by_cases e : i = k
      · subst e; first | exact he | (refine Prod.ext ?_ ?_ <;> simp_all)
      · exact hall i (by omega)
    · exact (decide_eq_true (q4l _ a b (by omega) fun i hi => hall i (by omega))).symm
def q6r (r : Int × Int) : Bool := decide (1 <= r.2) && decide (r.2 <= 400) && decide (-10000000000 <= r.1) && decide (r.1 <= 10000000000) && (qf4 r.1 r.2 == 1)
abbrev xq6 : qc7 := qg2 true none [q6q] [.bool] (fun _ => True) (fun x => (q6r x.1, ()))
theorem wz8 : qd6 Try.prog 92 xq6 := by
  refine meets (snd (SpecsOk.cons qn2 (SpecsOk.nil _))) Try.func92 rfl rfl (fun _ _ => none) (fun _ => by kernel_rfl) (by decide) ?_
  rintro ⟨r, ⟨⟩⟩ -
  revert r
  intro (r : Int × Int)
  refine qd7 (B := (decide ((1:Int) <= Prod.snd r)=true->(decide (Prod.snd r <= (400:Int))=true->(decide ((-10000000000:Int) <= Prod.fst r)=true->(decide (Prod.fst r <= (10000000000:Int))=true->(((-4000000000000000000:Int) <= Prod.fst r/\Prod.fst r <= BIG)/\(-4000000000000000000:Int) <= Prod.snd r/\Prod.snd r <= BIG)/\(qf4 (Prod.fst r) (Prod.snd r) == (1:Int))=q6r r)/\(decide (Prod.fst r <= (10000000000:Int))=false->false=q6r r))/\(decide ((-10000000000:Int) <= Prod.fst r)=false->false=q6r r))/\(decide (Prod.snd r <= (400:Int))=false->false=q6r r))/\(decide ((1:Int) <= Prod.snd r)=false->false=q6r r)) (by kernel_rfl) ?_
  try simp only [z0,z1,z2,z3,z4,z5,z6,z7,z8,z9,z10,Int.reduceEq,z11,z12,z13,z14,z15,z16,z17,z18,z19,z20,z21,z22,z23,z24,z25,z26,z27,z28,z29,z30,Int.reduceLE,Int.reduceLT,z31,z32,z33,z34,qa3]
  try simp only [qb4, qb5, qc9, List.set_cons_zero, List.cons.injEq, and_true, true_and]
  have hB : BIG = 4000000000000000000 := rfl
  have no : ¬ (1 <= r.2 /\ r.2 <= 400 /\ -10000000000 <= r.1 /\ r.1 <= 10000000000) -> false = q6r r := fun h => by
    symm
    rw [Bool.eq_false_iff]
    intro e
    unfold q6r at e
    rw [Bool.and_eq_true, Bool.and_eq_true, Bool.and_eq_true, Bool.and_eq_true, decide_eq_true_eq, decide_eq_true_eq, decide_eq_true_eq, decide_eq_true_eq] at e
    exact h ⟨e.1.1.1.1, e.1.1.1.2, e.1.1.2, e.1.2⟩
  refine ⟨fun h1 => ⟨fun h2 => ⟨fun h3 => ⟨fun h4 => ⟨⟨⟨by omega, by omega⟩, by omega, by omega⟩, by simp [q6r, h1, h2, h3, h4]⟩, fun h4 => no (by omega)⟩, fun h3 => no (by omega)⟩, fun h2 => no (by omega)⟩, fun h1 => no (by omega)⟩
abbrev xh3 : qc7 := qg2 true none [q6q] [.bool] (fun _ => True) (fun x => (!q6r x.1 || x.1.1 == 0, ()))
theorem wz9 : qd6 Try.prog 91 xh3 := by
  refine meets (snd (SpecsOk.cons wz8 (SpecsOk.nil _))) Try.func91 rfl rfl (fun _ _ => none) (fun _ => by kernel_rfl) (by decide) ?_
  rintro ⟨r, ⟨⟩⟩ -
  revert r
  intro (r : Int × Int)
  refine qd7 (B := True/\((!q6r (Prod.fst r,Prod.snd r))=true->true=(!q6r r || Prod.fst r == (0 : Ty.den (Ty.int .i64))))/\((!q6r (Prod.fst r,Prod.snd r))=false->(Prod.fst r == (0:Int))=(!q6r r || Prod.fst r == (0 : Ty.den (Ty.int .i64))))) (by kernel_rfl) ?_
  try simp only [z0,z1,z2,z3,z4,z5,z6,z7,z8,z9,z10,Int.reduceEq,z11,z12,z13,z14,z15,z16,z17,z18,z19,z20,z21,z22,z23,z24,z25,z26,z27,z28,z29,z30,Int.reduceLE,Int.reduceLT,z31,z32,z33,z34,qa3]
  try simp only [qb4, qb5, qc9, List.set_cons_zero, List.cons.injEq, and_true, true_and]
  exact ⟨fun h => by have h : q6r r = false := h; rw [h]; rfl, fun h => by have h : q6r r = true := h; rw [h]; rfl⟩
def wr5 (v : List (Int × Int)) : Bool := v.any fun r => !q6r r || r.1 == 0
def wj1 (f : List Int × List (Int × Int)) : Bool := decide (f.1.length = f.2.length) && !wr5 f.2 && wq7 f.1
abbrev x0z : qc7 := qg2 true none [q2m] [.bool] (fun x => x.1.1.length <= 1000000 /\ x.1.2.length <= 1000000) (fun x => (wj1 x.1, ()))
def xq7 (l : List Int) (v : List (Int × Int)) : Nat -> Option Inv
  | 0 => some (Inv.of [4] 1 (fun k : Nat => [(4, .lit (.int .i64 k))]) (fun _ => [.box 30 (.cons (.dat (.int .i64) l) (.cons (.dat (.prod (.int .i64) (.int .i64)) v) .nil))]) (fun k => 1 <= k /\ (AscTo l k \/ (k = 1 /\ l = []))) (fun k => l.length - k))
  | _ => none
theorem w3z : qd6 Try.prog 56 x0z := by
  refine meets (snd (SpecsOk.cons (wb9 (fs := [(91, xh3)]) (SpecsOk.cons wz9 (SpecsOk.nil _))) (SpecsOk.nil _))) Try.func56 rfl rfl (fun x => xq7 x.1.1 x.1.2) (fun _ => by kernel_rfl) (by decide) ?_
  rintro ⟨f, ⟨⟩⟩ h
  revert f
  intro (f : List Int × List (Int × Int)) (h : f.1.length <= 1000000 /\ f.2.length <= 1000000)
  refine qd7 (B := (((↑(List.length (Prod.fst f)):Int) != (↑(List.length (Prod.snd f)):Int))=true->false=wj1 f)/\(((↑(List.length (Prod.fst f)):Int) != (↑(List.length (Prod.snd f)):Int))=false->∃ (v1 : qa6 [Ty.prod (Ty.int .i64) (Ty.int .i64)]->Prop),∃ (v2 : qa6 [Ty.prod (Ty.int .i64) (Ty.int .i64)]->Bool),(∀ (v3 : (Int × Int) × qa6._f [] PUnit.unit),v1 v3->True/\(!q6r (Prod.fst (Prod.fst v3),Prod.snd (Prod.fst v3)) || Prod.fst (Prod.fst v3) == (0 : Ty.den (Ty.int .i64)))=v2 v3)/\(List.length (Prod.snd f) <= (1000000:Nat)/\∀ (v3:Nat),v3 < List.length (Prod.snd f)->v1 (qa1 (Ty.prod (Ty.int .i64) (Ty.int .i64)) (Prod.snd f) v3,()))/\((List.any (Prod.snd f) fun (v4 : Int × Int) => v2 (v4,()))=true->false=wj1 f)/\((List.any (Prod.snd f) fun (v4 : Int × Int) => v2 (v4,()))=false->∃ (v4:Unit),∃ (v5:Nat),((1:Nat) <= v5/\(AscTo (Prod.fst f) v5 \/ v5=(1:Nat)/\Prod.fst f=[]))/\(((1:Int)=(↑v5:Int)/\True)/\(Prod.fst f=Prod.fst f/\Prod.snd f=Prod.snd f/\True)/\True)/\∀ (v6:Nat),(1:Nat) <= v6/\(AscTo (Prod.fst f) v6 \/ v6=(1:Nat)/\Prod.fst f=[])->(decide ((↑v6:Int) < (↑(List.length (Prod.fst f)):Int))=true->((0:Int) <= (↑v6:Int)/\(↑v6:Int) < (↑(List.length (Prod.fst f)):Int))/\fits .i64 ((↑v6:Int) - (1:Int))/\((0:Int) <= (↑v6:Int) - (1:Int)/\(↑v6:Int) - (1:Int) < (↑(List.length (Prod.fst f)):Int))/\(decide (qa1 (Ty.int .i64) (Prod.fst f) (Int.toNat (↑v6:Int)) <= qa1 (Ty.int .i64) (Prod.fst f) (Int.toNat ((↑v6:Int) - (1:Int))))=true->false=wj1 f)/\(decide (qa1 (Ty.int .i64) (Prod.fst f) (Int.toNat (↑v6:Int)) <= qa1 (Ty.int .i64) (Prod.fst f) (Int.toNat ((↑v6:Int) - (1:Int))))=false->fits .i64 ((↑v6:Int) + (1:Int))/\∃ (v10:Nat),((1:Nat) <= v10/\(AscTo (Prod.fst f) v10 \/ v10=(1:Nat)/\Prod.fst f=[]))/\List.length (Prod.fst f) - v10 < List.length (Prod.fst f) - v6/\((↑v6:Int) + (1:Int)=(↑v10:Int)/\True)/\(Prod.fst f=Prod.fst f/\Prod.snd f=Prod.snd f/\True)/\True))/\(decide ((↑v6:Int) < (↑(List.length (Prod.fst f)):Int))=false->true=wj1 f)))) (by kernel_rfl) ?_
  try simp only [z0,z1,z2,z3,z4,z5,z6,z7,z8,z9,z10,Int.reduceEq,z11,z12,z13,z14,z15,z16,z17,z18,z19,z20,z21,z22,z23,z24,z25,z26,z27,z28,z29,z30,Int.reduceLE,Int.reduceLT,z31,z32,z33,z34,qa3]
  try simp only [qb4, qb5, qc9, List.set_cons_zero, List.cons.injEq, and_true, true_and]
  obtain ⟨hp1, hp2⟩ := h
  refine ⟨fun hl => ?_, fun hl => ⟨fun _ => True, fun x => !q6r x.1 || x.1.1 == 0, fun _ _ => rfl, ⟨hp2, fun _ _ => trivial⟩, fun hw => ?_, fun hw => ?_⟩⟩
  · have : ¬ f.1.length = f.2.length := by omega
    simp [wj1, this]
  · have hw : wr5 f.2 = true := hw
    simp [wj1, hw]
  have hw : wr5 f.2 = false := hw
  have hl : f.1.length = f.2.length := by omega
  have hv : wj1 f = wq7 f.1 := by simp [wj1, hl, hw]
  rw [hv]
  generalize f.1 = l at *
  refine ⟨(), 1, ⟨Nat.le_refl _, ?_⟩, rfl, fun k ⟨h1, hk⟩ => ⟨fun hlt => ?_, fun hge => ?_⟩⟩
  · cases l with
    | nil => exact .inr ⟨rfl, rfl⟩
    | cons a l => exact .inl ⟨by simp, fun i h0 hi => by omega⟩
  · have hk : AscTo l k := hk.resolve_right fun ⟨_, e⟩ => by subst e; simp at hlt
    have e : ((k : Int) - 1).toNat = k - 1 := by omega
    rw [e]
    exact ⟨hlt, qa8 (by omega) (by omega), ⟨by omega, by omega⟩, fun h2 => (q83 (by omega) hlt h2).symm, fun h2 => ⟨qa8 (by omega) (by omega), k + 1, ⟨by omega, .inl (hk.step hlt (.inr h2))⟩, by omega, by omega⟩⟩
  · rcases hk with hk | ⟨_, rfl⟩
    · obtain rfl : k = l.length := by have := hk.le; omega
      exact hk.all.symm
    · rfl
abbrev tQ : Ty := .prod (.list (.list (.int .i64))) (.list (.int .i64))
abbrev xh4 : qc7 := qg2 true none [q6q] [.bool] (fun _ => True) (fun x => (x.1.1 == 0, ()))
theorem w0a : qd6 Try.prog 83 xh4 := by
  refine meets (snd (SpecsOk.nil _)) Try.func83 rfl rfl (fun _ _ => none) (fun _ => by kernel_rfl) (by decide) ?_
  rintro ⟨r, ⟨⟩⟩ -
  revert r
  intro (r : Int × Int)
  refine qd7 (B := (Prod.fst r == (0:Int))=(Prod.fst r == (0 : Ty.den (Ty.int .i64)))) (by kernel_rfl) ?_
  try simp only [z0,z1,z2,z3,z4,z5,z6,z7,z8,z9,z10,Int.reduceEq,z11,z12,z13,z14,z15,z16,z17,z18,z19,z20,z21,z22,z23,z24,z25,z26,z27,z28,z29,z30,Int.reduceLE,Int.reduceLT,z31,z32,z33,z34,qa3]
  try simp only [qb4, qb5, qc9, List.set_cons_zero, List.cons.injEq, and_true, true_and]
  done
abbrev xq8 : qc7 := qg2 true none [tQ] [qf9] (fun x => 0 < x.1.1.length) (fun x => ((nL x.1.1 0).length, ()))
theorem w0b : qd6 Try.prog 76 xq8 := by
  refine meets (snd (SpecsOk.nil _)) Try.func76 rfl rfl (fun _ _ => none) (fun _ => by kernel_rfl) (by decide) ?_
  rintro ⟨q, ⟨⟩⟩ h
  revert q
  intro (q : List (List Int) × List Int) (h : 0 < q.1.length)
  refine qd7 (B := ((0:Int) <= (0:Int)/\(0:Int) < (↑(List.length (Prod.fst q)):Int))/\(↑(List.length (qa1 (Ty.list (Ty.int .i64)) (Prod.fst q) (0:Nat))):Int)=(↑(List.length (nL (Prod.fst q) (0:Nat))):Int)) (by kernel_rfl) ?_
  try simp only [z0,z1,z2,z3,z4,z5,z6,z7,z8,z9,z10,Int.reduceEq,z11,z12,z13,z14,z15,z16,z17,z18,z19,z20,z21,z22,z23,z24,z25,z26,z27,z28,z29,z30,Int.reduceLE,Int.reduceLT,z31,z32,z33,z34,qa3]
  try simp only [qb4, qb5, qc9, List.set_cons_zero, List.cons.injEq, and_true, true_and]
  omega
end Go.Proofs.Ytdibdlelmkcccaa
set_option linter.unusedVariables false
set_option linter.unusedSimpArgs false
namespace Go.Proofs.Ytdibdlelmkcccaa
open Go Go.RowKit Eng
def qq3 (m : List (List Int)) (y pix : List Int) : (List Int × List (Int × Int)) × Bool := if (qt9 m pix y).2 ≠ 0 \/ ((qt9 m pix y).1.any fun r => r.1 == 0) = true then (([], []), false) else ((pix, (qt9 m pix y).1), true)
def wr6 (m : List (List Int)) (y pix : List Int) : Bool × Int := if qm8 m y pix = 0 then ((qq3 m y pix).2, 0) else (false, qm8 m y pix)
abbrev xq9 : qc7 := qg2 true none [tQ, qe1] [q2m, .bool] (fun x => qp9 x.1.1 x.2.1 x.1.2 /\ x.2.1.length <= 100000) (fun x => ((qq3 x.1.1 x.1.2 x.2.1).1, (qq3 x.1.1 x.1.2 x.2.1).2, ()))
theorem wr7 {m : List (List Int)} {pix y : List Int} (h : qp9 m pix y) : (qt9 m pix y).1.length <= 1000000 := by
  unfold qt9
  split
  · rename_i he
    have hA := Asked.of he
    have hO := h.ok he
    unfold wz7
    split
    · simp
    · split
      · simp
      · have hsh := (q0s hO.red pix.length).piv
        rw [show (qc8 m pix y).length = m.length from qm4 _ _ _] at hsh
        have := hA.msk.rows6
        have e : (qn6 m pix y).2.length = (qd3 (qc8 m pix y) pix.length).2.length := rfl
        simp
        omega
  · simp
theorem q51 : qd6 Try.prog 49 xq9 := by
  refine meets (snd (SpecsOk.cons w3w (SpecsOk.cons wj0 (SpecsOk.cons (wb9 (fs := [(83, xh4)]) (SpecsOk.cons w0a (SpecsOk.nil _))) (SpecsOk.nil _))))) Try.func49 rfl rfl (fun _ _ => none) (fun _ => by kernel_rfl) (by decide) ?_
  rintro ⟨q, pix, ⟨⟩⟩ h
  revert q pix
  intro (q : List (List Int) × List Int) (pix : List Int) (h : qp9 q.1 pix q.2 /\ pix.length <= 100000)
  refine qd7 (B := qp9 (Prod.fst q) pix (Prod.snd q)/\((Prod.snd (qt9 (Prod.fst q) pix (Prod.snd q)) != (0:Int))=true->(Prod.fst (Prod.fst (qq3 (Prod.fst q) (Prod.snd q) pix))=[]/\Prod.snd (Prod.fst (qq3 (Prod.fst q) (Prod.snd q) pix))=[]/\True)/\false=Prod.snd (qq3 (Prod.fst q) (Prod.snd q) pix)/\True)/\((Prod.snd (qt9 (Prod.fst q) pix (Prod.snd q)) != (0:Int))=false->∃ (v1 : qa6 [Ty.prod (Ty.int .i64) (Ty.int .i64)]->Prop),∃ (v2 : qa6 [Ty.prod (Ty.int .i64) (Ty.int .i64)]->Bool),(∀ (v3 : (Int × Int) × qa6._f [] PUnit.unit),v1 v3->True/\(Prod.fst (Prod.fst v3) == (0 : Ty.den (Ty.int .i64)))=v2 v3)/\(List.length (Prod.fst (qt9 (Prod.fst q) pix (Prod.snd q))) <= (1000000:Nat)/\∀ (v3:Nat),v3 < List.length (Prod.fst (qt9 (Prod.fst q) pix (Prod.snd q)))->v1 (qa1 (Ty.prod (Ty.int .i64) (Ty.int .i64)) (Prod.fst (qt9 (Prod.fst q) pix (Prod.snd q))) v3,()))/\((List.any (Prod.fst (qt9 (Prod.fst q) pix (Prod.snd q))) fun (v4 : Int × Int) => v2 (v4,()))=true->(Prod.fst (Prod.fst (qq3 (Prod.fst q) (Prod.snd q) pix))=[]/\Prod.snd (Prod.fst (qq3 (Prod.fst q) (Prod.snd q) pix))=[]/\True)/\false=Prod.snd (qq3 (Prod.fst q) (Prod.snd q) pix)/\True)/\((List.any (Prod.fst (qt9 (Prod.fst q) pix (Prod.snd q))) fun (v4 : Int × Int) => v2 (v4,()))=false->List.length pix <= (100000:Nat)/\(pix=Prod.fst (Prod.fst (qq3 (Prod.fst q) (Prod.snd q) pix))/\Prod.fst (qt9 (Prod.fst q) pix (Prod.snd q))=Prod.snd (Prod.fst (qq3 (Prod.fst q) (Prod.snd q) pix))/\True)/\true=Prod.snd (qq3 (Prod.fst q) (Prod.snd q) pix)/\True))) (by kernel_rfl) ?_
  try simp only [z0,z1,z2,z3,z4,z5,z6,z7,z8,z9,z10,Int.reduceEq,z11,z12,z13,z14,z15,z16,z17,z18,z19,z20,z21,z22,z23,z24,z25,z26,z27,z28,z29,z30,Int.reduceLE,Int.reduceLT,z31,z32,z33,z34,qa3]
  try simp only [qb4, qb5, qc9, List.set_cons_zero, List.cons.injEq, and_true, true_and]
  obtain ⟨hp, hl⟩ := h
  refine ⟨hp, fun h1 => by simp [qq3, h1], fun h1 => ⟨fun _ => True, fun x => x.1.1 == 0, fun _ _ => rfl, ⟨?_, fun _ _ => trivial⟩, fun h2 => ?_, fun h2 => ⟨hl, ?_⟩⟩⟩
  · exact wr7 hp
  · have h2 : ((qt9 q.1 pix q.2).1.any fun r => r.1 == 0) = true := h2
    unfold qq3; rw [if_pos (.inr h2)]; exact ⟨⟨rfl, rfl⟩, rfl⟩
  · have h2 : ((qt9 q.1 pix q.2).1.any fun r => r.1 == 0) = false := h2
    unfold qq3; rw [if_neg (by rw [h1, h2]; simp)]; exact ⟨⟨rfl, rfl⟩, rfl⟩
abbrev w64 : qc7 := qg2 true none [qh5, qe1, qe1] [.bool, qf9] (fun x => qp9 x.1 x.2.2.1 x.2.1 /\ x.2.2.1.length <= 100000) (fun x => ((wr6 x.1 x.2.1 x.2.2.1).1, (wr6 x.1 x.2.1 x.2.2.1).2, ()))
theorem q9a : qd6 Try.prog 23 w64 := by
  refine meets (snd (SpecsOk.cons qz3 (SpecsOk.cons q51 (SpecsOk.nil _)))) Try.func23 rfl rfl (fun _ _ => none) (fun _ => by kernel_rfl) (by decide) ?_
  rintro ⟨m, y, pix, ⟨⟩⟩ h
  revert m y pix
  intro (m : List (List Int)) (y : List Int) (pix : List Int) (h : qp9 m pix y /\ pix.length <= 100000)
  refine qd7 (B := List.length pix <= (1000000:Nat)/\((qm8 m y pix != (0:Int))=true->false=Prod.fst (wr6 m y pix)/\qm8 m y pix=Prod.snd (wr6 m y pix)/\True)/\((qm8 m y pix != (0:Int))=false->(qp9 m pix y/\List.length pix <= (100000:Nat))/\Prod.snd (qq3 m y pix)=Prod.fst (wr6 m y pix)/\(0:Int)=Prod.snd (wr6 m y pix)/\True)) (by kernel_rfl) ?_
  try simp only [z0,z1,z2,z3,z4,z5,z6,z7,z8,z9,z10,Int.reduceEq,z11,z12,z13,z14,z15,z16,z17,z18,z19,z20,z21,z22,z23,z24,z25,z26,z27,z28,z29,z30,Int.reduceLE,Int.reduceLT,z31,z32,z33,z34,qa3]
  try simp only [qb4, qb5, qc9, List.set_cons_zero, List.cons.injEq, and_true, true_and]
  refine ⟨by omega, fun he => by simp [wr6, he], fun he => ⟨h, by simp [wr6, he]⟩⟩
def q9q (m : List (List Int)) (y : List Int) (k : Int) : Int := if qm8 m y [] = 0 then (if inB k 0 10 then 0 else 7) else qm8 m y []
abbrev x00 : qc7 := qg2 true none [qh5, qe1, qf9] [qf9] (fun _ => True) (fun x => (q9q x.1 x.2.1 x.2.2.1, ()))
theorem w30 : qd6 Try.prog 43 x00 := by
  refine meets (snd (SpecsOk.cons qz3 (SpecsOk.cons qx0 (SpecsOk.nil _)))) Try.func43 rfl rfl (fun _ _ => none) (fun _ => by kernel_rfl) (by decide) ?_
  rintro ⟨m, y, k, ⟨⟩⟩ -
  revert m y k
  intro (m : List (List Int)) (y : List Int) (k : Int)
  refine qd7 (B := Value.slice none (0:Nat) (0:Nat)=Value.slice none (0:Nat) (0:Nat)/\(0:Nat) <= (1000000:Nat)/\((qm8 m y [] != (0:Int))=true->qm8 m y []=q9q m y k)/\((qm8 m y [] != (0:Int))=false->True/\((!inB k (0:Int) (10:Int))=true->(7:Int)=q9q m y k)/\((!inB k (0:Int) (10:Int))=false->(0:Int)=q9q m y k))) (by kernel_rfl) ?_
  try simp only [z0,z1,z2,z3,z4,z5,z6,z7,z8,z9,z10,Int.reduceEq,z11,z12,z13,z14,z15,z16,z17,z18,z19,z20,z21,z22,z23,z24,z25,z26,z27,z28,z29,z30,Int.reduceLE,Int.reduceLT,z31,z32,z33,z34,qa3]
  try simp only [qb4, qb5, qc9, List.set_cons_zero, List.cons.injEq, and_true, true_and]
  exact ⟨by decide, fun he => by simp [q9q, he], fun he => ⟨fun hk => by simp [q9q, he, hk], fun hk => by simp [q9q, he, hk]⟩⟩
def qu8 (m : List (List Int)) (y : List Int) (f : List Int × List (Int × Int)) : Bool := wj1 f && decide (qm8 m y f.1 = 0) && (qq3 m y f.1).2 && decide ((qq3 m y f.1).1.2 = f.2)
abbrev xh5 : qc7 := qg2 true none [qh5, qe1, q2m] [.bool] (fun x => qp9 x.1 x.2.2.1.1 x.2.1 /\ x.2.2.1.1.length <= 100000 /\ x.2.2.1.2.length <= 100000) (fun x => (qu8 x.1 x.2.1 x.2.2.1, ()))
theorem wj2 : qd6 Try.prog 27 xh5 := by
  refine meets (snd (SpecsOk.cons qz3 (SpecsOk.cons w3z (SpecsOk.cons q51 (SpecsOk.cons w3y (SpecsOk.nil _)))))) Try.func27 rfl rfl (fun _ _ => none) (fun _ => by kernel_rfl) (by decide) ?_
  rintro ⟨m, y, f, ⟨⟩⟩ h
  revert m y f
  intro (m : List (List Int)) (y : List Int) (f : List Int × List (Int × Int)) (h : qp9 m f.1 y /\ f.1.length <= 100000 /\ f.2.length <= 100000)
  refine qd7 (B := (List.length (Prod.fst f) <= (1000000:Nat)/\List.length (Prod.snd f) <= (1000000:Nat))/\((!wj1 (Prod.fst f,Prod.snd f))=true->false=qu8 m y f)/\((!wj1 (Prod.fst f,Prod.snd f))=false->List.length (Prod.fst f) <= (1000000:Nat)/\((qm8 m y (Prod.fst f) != (0:Int))=true->false=qu8 m y f)/\((qm8 m y (Prod.fst f) != (0:Int))=false->(qp9 m (Prod.fst f) y/\List.length (Prod.fst f) <= (100000:Nat))/\(Prod.snd (qq3 m y (Prod.fst f))=true->List.length (Prod.snd (Prod.fst (qq3 m y (Prod.fst f)))) <= (1000000:Nat)/\decide (Prod.snd (Prod.fst (qq3 m y (Prod.fst f)))=Prod.snd f)=qu8 m y f)/\(Prod.snd (qq3 m y (Prod.fst f))=false->false=qu8 m y f)))) (by kernel_rfl) ?_
  try simp only [z0,z1,z2,z3,z4,z5,z6,z7,z8,z9,z10,Int.reduceEq,z11,z12,z13,z14,z15,z16,z17,z18,z19,z20,z21,z22,z23,z24,z25,z26,z27,z28,z29,z30,Int.reduceLE,Int.reduceLT,z31,z32,z33,z34,qa3]
  try simp only [qb4, qb5, qc9, List.set_cons_zero, List.cons.injEq, and_true, true_and]
  obtain ⟨hp, h1, h2⟩ := h
  refine ⟨⟨by omega, by omega⟩, fun hv => ?_, fun hv => ⟨by omega, fun he => ?_, fun he => ⟨⟨hp, h1⟩, fun hf => ⟨?_, ?_⟩, fun hf => ?_⟩⟩⟩
  · have hv : wj1 f = false := hv
    simp [qu8, hv]
  · simp [qu8, he]
  · unfold qq3
    split
    · simp
    · exact wr7 hp
  · have hv : wj1 f = true := hv
    simp [qu8, hv, he, hf]
  · simp [qu8, hf]
end Go.Proofs.Ytdibdlelmkcccaa
