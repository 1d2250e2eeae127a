/- The iterator over fits, and what is over it: contracts by the engine. No condition. -/
import Derived.Test.YtdibdlelmkcccaaV24
set_option linter.unusedVariables false
set_option linter.unusedSimpArgs false
namespace Go.Proofs.Ytdibdlelmkcccaa
open Go Go.RowKit Eng
abbrev Fit := List Int × List (Int × Int)
def qd0 (m : List (List Int)) (y : List Int) (s : List (List Int)) : List Fit := s.filterMap fun pix => if (fitR m y pix).2 = true then some (fitR m y pix).1 else none
def qd5 (m : List (List Int)) (y : List Int) : Nat → List Fit
  | 0 => []
  | k + 1 => qd5 m y k ++ qd0 m y (qb9 (nL m 0).length k)
def fitsN (m : List (List Int)) (k : Int) : Nat := (min (min k (nL m 0).length) m.length + 1).toNat
def qc7 (m : List (List Int)) (y : List Int) (k : Int) : List Fit := qd5 m y (fitsN m k)
structure qr4 (m : List (List Int)) (y : List Int) (k : Int) : Prop where
  k0 : 0 ≤ k
  k1 : k ≤ 1000
  one : 0 < m.length
  rows : m.length ≤ 1000
  pix : (nL m 0).length ≤ 1000
  sets : ∀ j : Nat, j < fitsN m k → ∀ s ∈ qb9 (nL m 0).length j, qm2 m s y ∧ s.length ≤ 100000
abbrev sFits1 : ISpec := ispec [tInt, tQ] [tFit] (fun x => qr4 x.2.1.1 x.2.1.2 x.1) (fun x => (qc7 x.2.1.1 x.2.1.2 x.1).map fun f => (f, ()))
def dead9 : List AObj := [.dead, .dead, .dead, .dead, .dead, .dead, .dead, .dead, .dead]
def ivFits (m : List (List Int)) (y : List Int) (k : Int) : Nat → Option Inv
  | 0 => some (Eng.Inv.mk Nat Nat [16] 11 (fun _ s => [(16, .lit (.int .i64 s))]) (fun l s => .cnt (some (qd5 m y s).length) :: .box 79 (.cons (.lit (.func (.yield l) #[] #[])) .nil) :: dead9) (fun _ s => s ≤ fitsN m k) (fun _ s => fitsN m k - s))
  | 1 => some (Eng.Inv.mk (Nat × Nat) Nat [] 11 (fun _ _ => []) (fun q c => .cnt (some ((qd5 m y q.2).length + (qd0 m y ((qb9 (nL m 0).length q.2).take c)).length)) :: .box 79 (.cons (.lit (.func (.yield q.1) #[] #[])) .nil) :: dead9) (fun q c => c ≤ (qb9 (nL m 0).length q.2).length) (fun _ c => c))
  | _ => none
theorem qu1 (m : List (List Int)) (y : List Int) (a : Nat) : ∀ j, ∃ t, qd5 m y (a + j) = qd5 m y a ++ t
  | 0 => ⟨[], by simp⟩
  | j + 1 => by
    obtain ⟨t, ht⟩ := qu1 m y a j
    exact ⟨t ++ qd0 m y (qb9 (nL m 0).length (a + j : Nat)), by rw [← Nat.add_assoc, qd5, ht, List.append_assoc]⟩
theorem qj6 (m : List (List Int)) (y : List Int) {s : List (List Int)} {c : Nat} {p : List Int} (h : s[c]? = some p) : qd0 m y (s.take (c + 1)) = qd0 m y (s.take c) ++ if (fitR m y p).2 = true then [(fitR m y p).1] else [] := by
  rw [List.take_add_one, h]
  unfold qd0
  rw [List.filterMap_append]
  congr 1
  simp only [Option.toList_some, List.filterMap_cons, List.filterMap_nil]
  by_cases hf : (fitR m y p).2 = true
  · rw [if_pos hf, if_pos hf]
  · rw [if_neg hf, if_neg hf]
theorem q2q (m : List (List Int)) (y : List Int) {s : List (List Int)} {c : Nat} {p : List Int} (h : s[c]? = some p) (hf : (fitR m y p).2 = true) : ∃ t, qd0 m y s = qd0 m y (s.take c) ++ (fitR m y p).1 :: t := by
  have e : s = s.take (c + 1) ++ s.drop (c + 1) := (List.take_append_drop _ _).symm
  have h1 : qd0 m y s = qd0 m y (s.take (c + 1)) ++ qd0 m y (s.drop (c + 1)) := by
    unfold qd0
    rw [← List.filterMap_append, List.take_append_drop]
  rw [h1, qj6 m y h, if_pos hf]
  exact ⟨qd0 m y (s.drop (c + 1)), by simp⟩
theorem qu2 : IMeets Try.prog 75 sFits1 := by
  refine says (sndI (SpecsOk.cons q2h (SpecsOk.cons q3u (SpecsOk.cons qt5 (SpecsOk.nil _)))) (ItsOk.cons qt4 ItsOk.nil)) Try.func75 rfl rfl rfl [32] (fun x => ivFits x.2.1.1 x.2.1.2 x.1) (fun _ => by kernel_rfl) (by decide) ?_
  rintro ⟨k, q, ⟨⟩⟩ l h
  revert k q
  intro (k : Int) (q : List (List Int) × List Int) (h : qr4 q.1 q.2 k)
  refine by_vc (B := (0 : Nat) < List.length (Prod.fst q)/\fits .i64 (max2 false (max2 false k (↑(List.length (nL (Prod.fst q) (0 : Nat))) : Int)) (↑(List.length (Prod.fst q)) : Int) + (1 : Int))/\∃ (v0 : Nat), ∃ (v1 : Nat), Nat.le v1 (fitsN (Prod.fst q) k)/\(((0 : Int) = (↑v1 : Int)/\True)/\some (0 : Nat) = some (List.length (qd5 (Prod.fst q) (Prod.snd q) v1))/\(Value.func (Fn.yield l) #[] #[] = Value.func (Fn.yield v0) #[] #[]/\True)/\True/\True/\True/\True/\True/\True/\True/\True/\True/\True)/\∀ (v2 : Nat), Nat.le v2 (fitsN (Prod.fst q) k)->(decide ((↑v2 : Int) < max2 false (max2 false k (↑(List.length (nL (Prod.fst q) (0 : Nat))) : Int)) (↑(List.length (Prod.fst q)) : Int) + (1 : Int)) = true->(0 : Nat) < List.length (Prod.fst q)/\True/\(((0 : Ty.den tInt) <= (↑v2 : Int)/\(↑v2 : Int) <= (1000 : Ty.den tInt))/\(0 : Ty.den tInt) <= (↑(List.length (nL (Prod.fst q) (0 : Nat))) : Int)/\(↑(List.length (nL (Prod.fst q) (0 : Nat))) : Int) <= (1000 : Ty.den tInt))/\∃ (v5 : Nat × Nat), ∃ (v6 : Nat), Nat.le v6 (List.length (qb9 (↑(List.length (nL (Prod.fst q) (0 : Nat))) : Int) (↑(Prod.snd v5) : Int)))/\v6 = (0 : Nat)/\(some (List.length (qd5 (Prod.fst q) (Prod.snd q) v2)) = some (List.length (qd5 (Prod.fst q) (Prod.snd q) (Prod.snd v5)) + List.length (qd0 (Prod.fst q) (Prod.snd q) (List.take v6 (qb9 (↑(List.length (nL (Prod.fst q) (0 : Nat))) : Int) (↑(Prod.snd v5) : Int)))))/\(Value.func (Fn.yield v0) #[] #[] = Value.func (Fn.yield (Prod.fst v5)) #[] #[]/\True)/\True/\True/\True/\True/\True/\True/\True/\True/\True/\True)/\∀ (v7 : Nat), Nat.le v7 (List.length (qb9 (↑(List.length (nL (Prod.fst q) (0 : Nat))) : Int) (↑(Prod.snd v5) : Int)))->(∀ (v9 : List Int × argsTy._f [] PUnit.unit), (List.map (fun (v11 : List Int) => (v11, ())) (qb9 (↑(List.length (nL (Prod.fst q) (0 : Nat))) : Int) (↑v2 : Int)))[v7]? = some v9->∀ (v11 : Lent), (qm2 (Prod.fst q) (nthD (Ty.list (Ty.int .i64)) [Prod.fst v9] (0 : Nat)) (Prod.snd q)/\List.length (nthD (Ty.list (Ty.int .i64)) [Prod.fst v9] (0 : Nat)) <= (100000 : Nat))/\[Prod.fst v9] = [Prod.fst v9]/\v11 = v11/\True/\(Prod.snd (fitR (Prod.fst q) (Prod.snd q) (nthD (Ty.list (Ty.int .i64)) [Prod.fst v9] (0 : Nat))) = true->Value.func (Fn.yield (Prod.fst v5)) #[] #[] = Value.func (Fn.yield (YSpec.l (yspec [tInt, tQ] [tFit] [(32 : Nat)] (k, q, PUnit.unit) (List.map (fun (v13 : List Int × List (Int × Int)) => (v13, ())) (qc7 (Prod.fst q) (Prod.snd q) k)) l))) #[] #[]/\(YSpec.L (yspec [tInt, tQ] [tFit] [(32 : Nat)] (k, q, PUnit.unit) (List.map (fun (v13 : List Int × List (Int × Int)) => (v13, ())) (qc7 (Prod.fst q) (Prod.snd q) k)) l))[List.length (qd5 (Prod.fst q) (Prod.snd q) (Prod.snd v5)) + List.length (qd0 (Prod.fst q) (Prod.snd q) (List.take v7 (qb9 (↑(List.length (nL (Prod.fst q) (0 : Nat))) : Int) (↑(Prod.snd v5) : Int))))]? = some ((Prod.fst (Prod.fst (fitR (Prod.fst q) (Prod.snd q) (nthD (Ty.list (Ty.int .i64)) [Prod.fst v9] (0 : Nat)))), Prod.snd (Prod.fst (fitR (Prod.fst q) (Prod.snd q) (nthD (Ty.list (Ty.int .i64)) [Prod.fst v9] (0 : Nat))))), ())/\(∃ (v13 : Nat), Nat.le v13 (List.length (qb9 (↑(List.length (nL (Prod.fst q) (0 : Nat))) : Int) (↑(Prod.snd v5) : Int)))/\v13 = v7 + (1 : Nat)/\some (List.length (qd5 (Prod.fst q) (Prod.snd q) (Prod.snd v5)) + List.length (qd0 (Prod.fst q) (Prod.snd q) (List.take v7 (qb9 (↑(List.length (nL (Prod.fst q) (0 : Nat))) : Int) (↑(Prod.snd v5) : Int)))) + (1 : Nat)) = some (List.length (qd5 (Prod.fst q) (Prod.snd q) (Prod.snd v5)) + List.length (qd0 (Prod.fst q) (Prod.snd q) (List.take v13 (qb9 (↑(List.length (nL (Prod.fst q) (0 : Nat))) : Int) (↑(Prod.snd v5) : Int)))))/\(Value.func (Fn.yield (Prod.fst v5)) #[] #[] = Value.func (Fn.yield (Prod.fst v5)) #[] #[]/\True)/\True/\True/\True/\True/\True/\True/\True/\True/\True/\True)/\True)/\(Prod.snd (fitR (Prod.fst q) (Prod.snd q) (nthD (Ty.list (Ty.int .i64)) [Prod.fst v9] (0 : Nat))) = false->∃ (v13 : Nat), Nat.le v13 (List.length (qb9 (↑(List.length (nL (Prod.fst q) (0 : Nat))) : Int) (↑(Prod.snd v5) : Int)))/\v13 = v7 + (1 : Nat)/\some (List.length (qd5 (Prod.fst q) (Prod.snd q) (Prod.snd v5)) + List.length (qd0 (Prod.fst q) (Prod.snd q) (List.take v7 (qb9 (↑(List.length (nL (Prod.fst q) (0 : Nat))) : Int) (↑(Prod.snd v5) : Int))))) = some (List.length (qd5 (Prod.fst q) (Prod.snd q) (Prod.snd v5)) + List.length (qd0 (Prod.fst q) (Prod.snd q) (List.take v13 (qb9 (↑(List.length (nL (Prod.fst q) (0 : Nat))) : Int) (↑(Prod.snd v5) : Int)))))/\(Value.func (Fn.yield (Prod.fst v5)) #[] #[] = Value.func (Fn.yield (Prod.fst v5)) #[] #[]/\True)/\True/\True/\True/\True/\True/\True/\True/\True/\True/\True))/\(v7 = List.length (List.map (fun (v10 : List Int) => (v10, ())) (qb9 (↑(List.length (nL (Prod.fst q) (0 : Nat))) : Int) (↑v2 : Int)))->fits .i64 ((↑v2 : Int) + (1 : Int))/\∃ (v10 : Nat), Nat.le v10 (fitsN (Prod.fst q) k)/\fitsN (Prod.fst q) k - v10 < fitsN (Prod.fst q) k - v2/\((↑v2 : Int) + (1 : Int) = (↑v10 : Int)/\True)/\some (List.length (qd5 (Prod.fst q) (Prod.snd q) (Prod.snd v5)) + List.length (qd0 (Prod.fst q) (Prod.snd q) (List.take v7 (qb9 (↑(List.length (nL (Prod.fst q) (0 : Nat))) : Int) (↑(Prod.snd v5) : Int))))) = some (List.length (qd5 (Prod.fst q) (Prod.snd q) v10))/\(Value.func (Fn.yield (Prod.fst v5)) #[] #[] = Value.func (Fn.yield v0) #[] #[]/\True)/\True/\True/\True/\True/\True/\True/\True/\True/\True/\True))/\(decide ((↑v2 : Int) < max2 false (max2 false k (↑(List.length (nL (Prod.fst q) (0 : Nat))) : Int)) (↑(List.length (Prod.fst q)) : Int) + (1 : Int)) = false->List.length (qd5 (Prod.fst q) (Prod.snd q) v2) = List.length (YSpec.L (yspec [tInt, tQ] [tFit] [(32 : Nat)] (k, q, PUnit.unit) (List.map (fun (v5 : List Int × List (Int × Int)) => (v5, ())) (qc7 (Prod.fst q) (Prod.snd q) k)) l)))) (by kernel_rfl) ?_
  try simp only [z0,z1,z2,z3,z4,z5,z6,z7,z8,z9,z10,Int.reduceEq,z11,z12,z13,z14,z15,z16,z17,z18,z19,z20,z21,z22,z23,z24,z25,z26,z27,z28,z29,z30,Int.reduceLE,Int.reduceLT,z31,z32,z33,z34,nilEq_true]
  try simp only [qa4, qa5, qa8, List.set_cons_zero, List.cons.injEq, and_true, true_and]
  have hk0 := h.k0
  have hk1 := h.k1
  have hone := h.one
  have hrows := h.rows
  have hpix := h.pix
  have hN : (fitsN q.1 k : Int) = min (min k (nL q.1 0).length) q.1.length + 1 := by unfold fitsN; omega
  have hM : max2 false (max2 false k ((nL q.1 0).length : Int)) (q.1.length : Int) = min (min k (nL q.1 0).length) q.1.length := rfl
  rw [hM]
  refine ⟨hone, fits64 (by omega) (by omega), l, 0, Nat.zero_le _, ⟨rfl, rfl, rfl⟩, fun s hs => ⟨fun hlt => ?_, fun hge => ?_⟩⟩
  · have hsN : s < fitsN q.1 k := by omega
    refine ⟨hone, by omega, (l, s), 0, Nat.zero_le _, rfl, ⟨by simp [qd0], rfl⟩, fun c hc => ⟨?_, fun hfin => ?_⟩⟩
    · rintro ⟨p, ⟨⟩⟩ hp -
      have hp2 : (qb9 (nL q.1 0).length s)[c]? = some p := by
        rw [List.getElem?_map] at hp
        obtain ⟨p', h1, h2⟩ := Option.map_eq_some_iff.1 hp
        rw [h1]
        exact congrArg some (congrArg Prod.fst h2)
      have hcl := (List.getElem?_eq_some_iff.1 hp2).1
      dsimp only
      refine ⟨h.sets s hsN p (List.mem_of_getElem? hp2), fun hf => ⟨rfl, ?_, c + 1, hcl, rfl, ?_⟩, fun hf => ⟨c + 1, hcl, rfl, ?_⟩⟩
      · show ((qc7 q.1 q.2 k).map fun f => ((f, ()) : argsTy [tFit]))[(qd5 q.1 q.2 s).length + (qd0 q.1 q.2 ((qb9 (nL q.1 0).length s).take c)).length]? = some ((fitR q.1 q.2 p).1, ())
        obtain ⟨t, ht⟩ := qu1 q.1 q.2 (s + 1) (fitsN q.1 k - (s + 1))
        rw [show s + 1 + (fitsN q.1 k - (s + 1)) = fitsN q.1 k by omega, qd5] at ht
        obtain ⟨t2, ht2⟩ := q2q q.1 q.2 hp2 hf
        rw [List.getElem?_map]
        unfold qc7
        rw [ht, ht2, List.append_assoc, List.append_assoc, List.getElem?_append_right (by omega), Nat.add_sub_cancel_left, List.getElem?_append_right (Nat.le_refl _), Nat.sub_self]
        rfl
      · rw [qj6 q.1 q.2 hp2, if_pos hf, List.length_append]
        rfl
      · rw [qj6 q.1 q.2 hp2, if_neg (by rw [hf]; decide), List.append_nil]
    · rw [List.length_map] at hfin
      refine ⟨fits64 (by omega) (by omega), s + 1, hsN, by omega, by omega, ?_, rfl⟩
      dsimp only
      rw [hfin, List.take_length, qd5, List.length_append]
  · have e : s = fitsN q.1 k := by omega
    show (qd5 q.1 q.2 s).length = ((qc7 q.1 q.2 k).map fun f => ((f, ()) : argsTy [tFit])).length
    rw [List.length_map, e]
    rfl
end Go.Proofs.Ytdibdlelmkcccaa
