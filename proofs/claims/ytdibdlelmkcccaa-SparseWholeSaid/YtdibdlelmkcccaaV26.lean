/- Fits collected, the sparsest ones, whole ones: contracts by the engine. No condition. -/
import Derived.Test.YtdibdlelmkcccaaV25
set_option linter.unusedVariables false
set_option linter.unusedSimpArgs false
namespace Go.Proofs.Ytdibdlelmkcccaa
open Go Go.RowKit Eng
abbrev sFitsI : FSpec := gspec false none [tQ, tInt] (fun _ => True) (fun x => .clo 75 (.cons (.imm (.cons (.lit (.int .i64 x.2.1)) .nil) 0) (.cons (.imm (.cons (.dat (.list (.int .i64)) x.1.1) (.cons (.dat (.int .i64) x.1.2) .nil)) 0) .nil)))
theorem qr5 : Meets Try.prog 46 sFitsI := by
  refine meetsG (snd (SpecsOk.nil _)) Try.func46 rfl rfl (fun _ _ => none) (fun _ => by kernel_rfl) (by decide) ?_
  rintro ⟨q, k, ⟨⟩⟩ -
  revert q k
  intro (q : List (List Int) × List Int) (k : Int)
  refine by_vc (B := ((k = k/\True)/\(0 : Nat) = (0 : Nat))/\((Prod.fst q = Prod.fst q/\Prod.snd q = Prod.snd q/\True)/\(0 : Nat) = (0 : Nat))/\True) (by kernel_rfl) ?_
  try simp only [z0,z1,z2,z3,z4,z5,z6,z7,z8,z9,z10,Int.reduceEq,z11,z12,z13,z14,z15,z16,z17,z18,z19,z20,z21,z22,z23,z24,z25,z26,z27,z28,z29,z30,Int.reduceLE,Int.reduceLT,z31,z32,z33,z34,nilEq_true]
  try simp only [qa4, qa5, qa8, List.set_cons_zero, List.cons.injEq, and_true, true_and]
structure qw3 (m : List (List Int)) (y : List Int) (k : Int) : Prop where
  pre : qr4 m y k
  len : (qc7 m y k).length ≤ 1000000
def q4c (m : List (List Int)) (y : List Int) (k : Int) : List Fit × Int := if cntE m y k = 0 then (qc7 m y k, 0) else ([], cntE m y k)
def spL (L : List Fit) : List Fit := L.takeWhile fun f => decide (f.1.length ≤ (nF L 0).1.length)
def qf7 (m : List (List Int)) (y : List Int) : List Fit × Int := if chkE m y [] = 0 then (if qc7 m y 10 = [] then ([], 10) else (spL (qc7 m y 10), 0)) else ([], chkE m y [])
structure qr6 (m : List (List Int)) (y : List Int) : Prop where
  ok : chkE m y [] = 0 → qw3 m y 10
structure q2r (L : List Fit) (c : Nat) : Prop where
  le : c ≤ L.length
  all : ∀ i, i < c → (nF L i).1.length ≤ (nF L 0).1.length
abbrev sSpar : FSpec := tspec false none [qd2, qb8] [tFits, tInt] (fun x => qr6 x.1 x.2.1) (fun x => ((qf7 x.1 x.2.1).1, (qf7 x.1 x.2.1).2, ()))
def ivSpar (L : List Fit) : Nat → Option Inv
  | 0 => some (Inv.of [] 2 (fun _ => []) (fun c : Nat => [.box 44 (.cons (.own 1) .nil), .vec 30 tFit (L.take c)]) (fun c => q2r L c) (fun c => c))
  | _ => none
theorem q4d {α : Type} (p : α → Bool) : ∀ (l : List α) (c : Nat), c ≤ l.length → (∀ (i : Nat) (h : i < l.length), i < c → p l[i] = true) → (∀ h : c < l.length, p l[c] = false) → l.takeWhile p = l.take c
  | [], c, h, _, _ => by simp
  | x :: l, 0, _, _, h2 => by
    have := h2 (by simp)
    simp only [List.getElem_cons_zero] at this
    simp [List.takeWhile_cons, this]
  | x :: l, c + 1, h, h1, h2 => by
    have hx := h1 0 (by simp) (by omega)
    simp only [List.getElem_cons_zero] at hx
    rw [List.takeWhile_cons, hx, if_pos rfl, List.take_succ_cons, q4d p l c (by simpa using h) (fun i hi hc => h1 (i + 1) (by simpa using hi) (by omega)) (fun hc => h2 (by simpa using hc))]
theorem q0s (l : List Fit) (i : Nat) (h : i < l.length) : nF l i = l[i] := nthD_at (t := tFit) l i h
theorem q1c {L : List Fit} {c : Nat} (h : q2r L c) (hs : ∀ h : c < L.length, (nF L 0).1.length < (nF L c).1.length) : spL L = L.take c := by
  refine q4d _ L c h.le (fun i hi hc => ?_) fun hc => ?_
  · have := h.all i hc
    rw [q0s L i hi] at this
    exact decide_eq_true this
  · have := hs hc
    rw [q0s L c hc] at this
    exact decide_eq_false (by omega)
theorem q2s : Meets Try.prog 39 sSpar := by
  refine meets (sndI (SpecsOk.cons qp5 (SpecsOk.cons qr5 (SpecsOk.nil _))) (ItsOk.cons qu2 ItsOk.nil)) Try.func39 rfl rfl (fun x => ivSpar (qc7 x.1 x.2.1 10)) (fun _ => by kernel_rfl) (by decide) ?_
  rintro ⟨m, y, ⟨⟩⟩ h
  revert m y
  intro (m : List (List Int)) (y : List Int) (h : qr6 m y)
  refine by_vc (B := Value.slice none (0 : Nat) (0 : Nat) = Value.slice none (0 : Nat) (0 : Nat)/\(0 : Nat) <= (1000000 : Nat)/\((chkE m y [] != (0 : Int)) = true->Prod.fst (qf7 m y) = []/\chkE m y [] = Prod.snd (qf7 m y)/\True)/\((chkE m y [] != (0 : Int)) = false->True/\qr4 m y (10 : Int)/\∃ (v1 : Unit), ∃ (v2 : Nat), q2r (qc7 m y (10 : Int)) v2/\v2 = (0 : Nat)/\((True/\True)/\List.take v2 (qc7 m y (10 : Int)) = []/\True)/\∀ (v3 : Nat), q2r (qc7 m y (10 : Int)) v3->(∀ (v5 : (List Int × List (Int × Int)) × argsTy._f [] PUnit.unit), (List.map (fun (v7 : List Int × List (Int × Int)) => (v7, ())) (qc7 m y (10 : Int)))[v3]? = some v5->(decide ((0 : Int) < (↑(List.length (List.take v3 (qc7 m y (10 : Int)))) : Int)) = true->((0 : Int) <= (0 : Int)/\(0 : Int) < (↑(List.length (List.take v3 (qc7 m y (10 : Int)))) : Int))/\(0 : Nat) < List.length (List.take v3 (qc7 m y (10 : Int)))/\(decide ((↑(List.length (Prod.fst (nthD tFit (List.take v3 (qc7 m y (10 : Int))) (0 : Nat)))) : Int) < (↑(List.length (Prod.fst (Prod.fst v5))) : Int)) = true->(((↑(List.length (List.take v3 (qc7 m y (10 : Int)))) : Int) == (0 : Int)) = true->Prod.fst (qf7 m y) = []/\(10 : Int) = Prod.snd (qf7 m y)/\True)/\(((↑(List.length (List.take v3 (qc7 m y (10 : Int)))) : Int) == (0 : Int)) = false->List.take v3 (qc7 m y (10 : Int)) = Prod.fst (qf7 m y)/\(0 : Int) = Prod.snd (qf7 m y)/\True))/\(decide ((↑(List.length (Prod.fst (nthD tFit (List.take v3 (qc7 m y (10 : Int))) (0 : Nat)))) : Int) < (↑(List.length (Prod.fst (Prod.fst v5))) : Int)) = false->((0 : Nat) < List.length [(Prod.fst (Prod.fst v5), Prod.snd (Prod.fst v5))]/\Nat.le (List.length (List.take v3 (qc7 m y (10 : Int))) + List.length [(Prod.fst (Prod.fst v5), Prod.snd (Prod.fst v5))]) (1000000 : Nat))/\∃ (v9 : Nat), q2r (qc7 m y (10 : Int)) v9/\v9 = v3 + (1 : Nat)/\(True/\True)/\List.take v3 (qc7 m y (10 : Int)) ++ [(Prod.fst (Prod.fst v5), Prod.snd (Prod.fst v5))] = List.take v9 (qc7 m y (10 : Int))/\True))/\(decide ((0 : Int) < (↑(List.length (List.take v3 (qc7 m y (10 : Int)))) : Int)) = false->((0 : Nat) < List.length [(Prod.fst (Prod.fst v5), Prod.snd (Prod.fst v5))]/\Nat.le (List.length (List.take v3 (qc7 m y (10 : Int))) + List.length [(Prod.fst (Prod.fst v5), Prod.snd (Prod.fst v5))]) (1000000 : Nat))/\∃ (v8 : Nat), q2r (qc7 m y (10 : Int)) v8/\v8 = v3 + (1 : Nat)/\(True/\True)/\List.take v3 (qc7 m y (10 : Int)) ++ [(Prod.fst (Prod.fst v5), Prod.snd (Prod.fst v5))] = List.take v8 (qc7 m y (10 : Int))/\True))/\(v3 = List.length (List.map (fun (v6 : List Int × List (Int × Int)) => (v6, ())) (qc7 m y (10 : Int)))->(((↑(List.length (List.take v3 (qc7 m y (10 : Int)))) : Int) == (0 : Int)) = true->Prod.fst (qf7 m y) = []/\(10 : Int) = Prod.snd (qf7 m y)/\True)/\(((↑(List.length (List.take v3 (qc7 m y (10 : Int)))) : Int) == (0 : Int)) = false->List.take v3 (qc7 m y (10 : Int)) = Prod.fst (qf7 m y)/\(0 : Int) = Prod.snd (qf7 m y)/\True)))) (by kernel_rfl) ?_
  try simp only [z0,z1,z2,z3,z4,z5,z6,z7,z8,z9,z10,Int.reduceEq,z11,z12,z13,z14,z15,z16,z17,z18,z19,z20,z21,z22,z23,z24,z25,z26,z27,z28,z29,z30,Int.reduceLE,Int.reduceLT,z31,z32,z33,z34,nilEq_true]
  try simp only [qa4, qa5, qa8, List.set_cons_zero, List.cons.injEq, and_true, true_and]
  refine ⟨by omega, fun he => by simp [qf7, he], fun he => ?_⟩
  have hp := h.ok he
  have hR : qf7 m y = if qc7 m y 10 = [] then ([], 10) else (spL (qc7 m y 10), 0) := by rw [qf7, if_pos he]
  have hlen := hp.len
  refine ⟨hp.pre, (), 0, ⟨Nat.zero_le _, fun i hi => absurd hi (by omega)⟩, rfl, rfl, ?_⟩
  generalize qc7 m y 10 = L at hR hlen ⊢
  rw [hR]
  rintro c hc
  have hcl := hc.le
  have htl : (L.take c).length = c := by rw [List.length_take]; omega
  rw [htl]
  refine ⟨?_, fun hfin => ?_⟩
  · rintro ⟨f, ⟨⟩⟩ hf
    rw [List.getElem?_map] at hf
    obtain ⟨f', h1, h2⟩ := Option.map_eq_some_iff.1 hf
    obtain rfl : f' = f := congrArg Prod.fst h2
    have hlt := (List.getElem?_eq_some_iff.1 h1).1
    have hLne : L ≠ [] := fun e => by rw [e] at hlt; exact absurd hlt (by simp)
    have hfe : nF L c = f' := by rw [q0s L c hlt]; exact (List.getElem?_eq_some_iff.1 h1).2
    have hnx : L.take c ++ [(f'.1, f'.2)] = L.take (c + 1) := by rw [List.take_add_one, h1]; rfl
    refine ⟨fun h0 => ?_, fun h0 => ?_⟩
    · have h0 : 0 < c := by omega
      have hn0 : nthD tFit (L.take c) 0 = nF L 0 := by
        rw [nthD_at (t := tFit) _ 0 (by rw [htl]; exact h0), q0s L 0 (by omega)]
        simp
      rw [hn0]
      refine ⟨by omega, h0, fun hbr => ⟨fun hz => by omega, fun _ => ?_⟩, fun hbr => ⟨by omega, c + 1, ⟨hlt, fun i hi => ?_⟩, rfl, hnx⟩⟩
      · rw [if_neg hLne, q1c hc fun _ => by rw [hfe]; exact hbr]
        exact ⟨rfl, rfl⟩
      · by_cases e : i = c
        · have hbr : ¬ (nF L 0).1.length < f'.1.length := hbr
          subst e; rw [hfe]; omega
        · exact hc.all i (by omega)
    · have h0 : c = 0 := by omega
      subst h0
      exact ⟨by omega, 1, ⟨hlt, fun i hi => by obtain rfl : i = 0 := by omega
                                               exact Nat.le_refl _⟩, rfl, hnx⟩
  · rw [List.length_map] at hfin
    refine ⟨fun hz => ?_, fun hz => ?_⟩
    · have e : L = [] := List.eq_nil_of_length_eq_zero (by omega)
      rw [if_pos e]
      exact ⟨rfl, rfl⟩
    · have e : L ≠ [] := fun e => by rw [e] at hfin; simp at hfin; omega
      rw [if_neg e, q1c hc fun h => by omega]
      exact ⟨rfl, rfl⟩
def emptyF : Fit := ([], [])
def spsR (m : List (List Int)) (y : List Int) : Fit × Int := if (qf7 m y).2 = 0 then (nF (qf7 m y).1 0, 0) else (emptyF, (qf7 m y).2)
theorem spL_ne {L : List Fit} (h : L ≠ []) : 0 < (spL L).length := by
  cases L with
  | nil => exact absurd rfl h
  | cons f l =>
    unfold spL
    rw [List.takeWhile_cons, if_pos]
    · simp
    · exact decide_eq_true (Nat.le_refl _)
theorem q5p {m : List (List Int)} {y : List Int} (h : (qf7 m y).2 = 0) : 0 < (qf7 m y).1.length := by
  unfold qf7 at h ⊢
  split
  · rename_i he
    rw [if_pos he] at h
    split
    · rename_i e; rw [if_pos e] at h; cases h
    · rename_i e; exact spL_ne e
  · rename_i he
    rw [if_neg he] at h
    exact absurd h he
abbrev sSps : FSpec := tspec false none [qd2, qb8] [tFit, tInt] (fun x => qr6 x.1 x.2.1) (fun x => ((spsR x.1 x.2.1).1, (spsR x.1 x.2.1).2, ()))
theorem q4e : Meets Try.prog 11 sSps := by
  refine meets (snd (SpecsOk.cons q2s (SpecsOk.nil _))) Try.func11 rfl rfl (fun _ _ => none) (fun _ => by kernel_rfl) (by decide) ?_
  rintro ⟨m, y, ⟨⟩⟩ h
  revert m y
  intro (m : List (List Int)) (y : List Int) (h : qr6 m y)
  refine by_vc (B := qr6 m y/\((Prod.snd (qf7 m y) != (0 : Int)) = true->(Prod.fst (Prod.fst (spsR m y)) = []/\Prod.snd (Prod.fst (spsR m y)) = []/\True)/\Prod.snd (qf7 m y) = Prod.snd (spsR m y)/\True)/\((Prod.snd (qf7 m y) != (0 : Int)) = false->((0 : Int) <= (0 : Int)/\(0 : Int) < (↑(List.length (Prod.fst (qf7 m y))) : Int))/\(Prod.fst (nthD (Ty.prod (Ty.list (Ty.int .i64)) (Ty.list (Ty.prod (Ty.int .i64) (Ty.int .i64)))) (Prod.fst (qf7 m y)) (0 : Nat)) = Prod.fst (Prod.fst (spsR m y))/\Prod.snd (nthD (Ty.prod (Ty.list (Ty.int .i64)) (Ty.list (Ty.prod (Ty.int .i64) (Ty.int .i64)))) (Prod.fst (qf7 m y)) (0 : Nat)) = Prod.snd (Prod.fst (spsR m y))/\True)/\(0 : Int) = Prod.snd (spsR m y)/\True)) (by kernel_rfl) ?_
  try simp only [z0,z1,z2,z3,z4,z5,z6,z7,z8,z9,z10,Int.reduceEq,z11,z12,z13,z14,z15,z16,z17,z18,z19,z20,z21,z22,z23,z24,z25,z26,z27,z28,z29,z30,Int.reduceLE,Int.reduceLT,z31,z32,z33,z34,nilEq_true]
  try simp only [qa4, qa5, qa8, List.set_cons_zero, List.cons.injEq, and_true, true_and]
  refine ⟨h, fun he => ?_, fun he => ⟨by have := q5p he; omega, ?_⟩⟩
  · rw [spsR, if_neg (by omega)]; exact ⟨⟨rfl, rfl⟩, rfl⟩
  · rw [spsR, if_pos (by omega)]; exact ⟨⟨rfl, rfl⟩, rfl⟩
end Go.Proofs.Ytdibdlelmkcccaa
