/- The reference's fits, all of them, the sparsest, the whole ones: contracts by the engine. No condition. -/
import Derived.Test.YtdibdlelmkcccaaV30
set_option linter.unusedVariables false
set_option linter.unusedSimpArgs false
namespace Go.Proofs.Ytdibdlelmkcccaa
open Go Go.RowKit Eng
theorem q4l (L : List Fit) (i : Nat) : nthD ((Ty.int .i64).list.prod ((Ty.int .i64).prod (Ty.int .i64)).list) L i = nF L i := rfl
def qd9 (m : List (List Int)) (y : List Int) (s : List (List Int)) : List Fit := s.filterMap fun pix => if (fit4 m y pix).2 = true then some (fit4 m y pix).1 else none
def all4 (m : List (List Int)) (y : List Int) : List Fit := qd9 m y (qe2 (nL m 0).length)
structure qn4 (m : List (List Int)) (y : List Int) : Prop where
  one : 0 < m.length
  pix : (nL m 0).length ≤ 7
  each : ∀ s ∈ qe2 (nL m 0).length, qw4 m s y
abbrev sAll4 : FSpec := tspec false none [qd2, qb8] [tFits] (fun x => qn4 x.1 x.2.1) (fun x => (all4 x.1 x.2.1, ()))
def ivAll4 (m : List (List Int)) (y : List Int) (L : List (List Int)) : Nat → Option Inv
  | 0 => some (Inv.of [5, 16] 1 (fun k : Nat => [(5, .own 0), (16, .lit (.int .i64 k))]) (fun k => [.vec 30 tFit (qd9 m y (L.take k))]) (fun k => k ≤ L.length) (fun k => L.length - k))
  | _ => none
theorem qw6 (m : List (List Int)) (y : List Int) {s : List (List Int)} {c : Nat} (h : c < s.length) : qd9 m y (s.take (c + 1)) = qd9 m y (s.take c) ++ if (fit4 m y (nL s c)).2 = true then [(fit4 m y (nL s c)).1] else [] := by
  rw [qe3 s c h, List.take_add_one, List.getElem?_eq_getElem h]
  unfold qd9
  rw [List.filterMap_append]
  congr 1
  simp only [Option.toList_some, List.filterMap_cons, List.filterMap_nil]
  by_cases hf : (fit4 m y s[c]).2 = true
  · rw [if_pos hf, if_pos hf]
  · rw [if_neg hf, if_neg hf]
theorem qo0 (m : List (List Int)) (y : List Int) (s : List (List Int)) : (qd9 m y s).length ≤ s.length := List.length_filterMap_le _ s
theorem q2w : Meets Try.prog 55 sAll4 := by
  refine meets (snd (SpecsOk.cons q0l (SpecsOk.cons q2v (SpecsOk.nil _)))) Try.func55 rfl rfl (fun x => ivAll4 x.1 x.2.1 (qe2 (nL x.1 0).length)) (fun _ => by kernel_rfl) (by decide) ?_
  rintro ⟨m, y, ⟨⟩⟩ h
  revert m y
  intro (m : List (List Int)) (y : List Int) (h : qn4 m y)
  refine by_vc (B := ((0 : Int) <= (0 : Int)/\(0 : Int) < (↑(List.length m) : Int))/\((0 : Ty.den tInt) <= (↑(List.length (nthD (Ty.list (Ty.int .i64)) m (0 : Nat))) : Int)/\(↑(List.length (nthD (Ty.list (Ty.int .i64)) m (0 : Nat))) : Int) <= (7 : Ty.den tInt))/\∃ (v0 : Unit), ∃ (v1 : Nat), Nat.le v1 (List.length (qe2 (List.length (nL m (0 : Nat)))))/\((True/\(0 : Int) = (↑v1 : Int)/\True)/\qd9 m y (List.take v1 (qe2 (List.length (nL m (0 : Nat))))) = []/\True)/\∀ (v2 : Nat), Nat.le v2 (List.length (qe2 (List.length (nL m (0 : Nat)))))->(decide ((↑v2 : Int) < (↑(List.length (qe2 (Int.toNat (↑(List.length (nthD (Ty.list (Ty.int .i64)) m (0 : Nat))) : Int)))) : Int)) = true->((0 : Int) <= (↑v2 : Int)/\(↑v2 : Int) < (↑(List.length (qe2 (Int.toNat (↑(List.length (nthD (Ty.list (Ty.int .i64)) m (0 : Nat))) : Int)))) : Int))/\qw4 m (nthD (Ty.list (Ty.int .i64)) (qe2 (Int.toNat (↑(List.length (nthD (Ty.list (Ty.int .i64)) m (0 : Nat))) : Int))) (Int.toNat (↑v2 : Int))) y/\(Prod.snd (fit4 m y (nthD (Ty.list (Ty.int .i64)) (qe2 (Int.toNat (↑(List.length (nthD (Ty.list (Ty.int .i64)) m (0 : Nat))) : Int))) (Int.toNat (↑v2 : Int)))) = true->((0 : Nat) < List.length [(Prod.fst (Prod.fst (fit4 m y (nthD (Ty.list (Ty.int .i64)) (qe2 (Int.toNat (↑(List.length (nthD (Ty.list (Ty.int .i64)) m (0 : Nat))) : Int))) (Int.toNat (↑v2 : Int))))), Prod.snd (Prod.fst (fit4 m y (nthD (Ty.list (Ty.int .i64)) (qe2 (Int.toNat (↑(List.length (nthD (Ty.list (Ty.int .i64)) m (0 : Nat))) : Int))) (Int.toNat (↑v2 : Int))))))]/\Nat.le (List.length (qd9 m y (List.take v2 (qe2 (List.length (nL m (0 : Nat)))))) + List.length [(Prod.fst (Prod.fst (fit4 m y (nthD (Ty.list (Ty.int .i64)) (qe2 (Int.toNat (↑(List.length (nthD (Ty.list (Ty.int .i64)) m (0 : Nat))) : Int))) (Int.toNat (↑v2 : Int))))), Prod.snd (Prod.fst (fit4 m y (nthD (Ty.list (Ty.int .i64)) (qe2 (Int.toNat (↑(List.length (nthD (Ty.list (Ty.int .i64)) m (0 : Nat))) : Int))) (Int.toNat (↑v2 : Int))))))]) (1000000 : Nat))/\fits .i64 ((↑v2 : Int) + (1 : Int))/\∃ (v6 : Nat), Nat.le v6 (List.length (qe2 (List.length (nL m (0 : Nat)))))/\List.length (qe2 (List.length (nL m (0 : Nat)))) - v6 < List.length (qe2 (List.length (nL m (0 : Nat)))) - v2/\(True/\(↑v2 : Int) + (1 : Int) = (↑v6 : Int)/\True)/\qd9 m y (List.take v2 (qe2 (List.length (nL m (0 : Nat))))) ++ [(Prod.fst (Prod.fst (fit4 m y (nthD (Ty.list (Ty.int .i64)) (qe2 (Int.toNat (↑(List.length (nthD (Ty.list (Ty.int .i64)) m (0 : Nat))) : Int))) (Int.toNat (↑v2 : Int))))), Prod.snd (Prod.fst (fit4 m y (nthD (Ty.list (Ty.int .i64)) (qe2 (Int.toNat (↑(List.length (nthD (Ty.list (Ty.int .i64)) m (0 : Nat))) : Int))) (Int.toNat (↑v2 : Int))))))] = qd9 m y (List.take v6 (qe2 (List.length (nL m (0 : Nat)))))/\True)/\(Prod.snd (fit4 m y (nthD (Ty.list (Ty.int .i64)) (qe2 (Int.toNat (↑(List.length (nthD (Ty.list (Ty.int .i64)) m (0 : Nat))) : Int))) (Int.toNat (↑v2 : Int)))) = false->fits .i64 ((↑v2 : Int) + (1 : Int))/\∃ (v6 : Nat), Nat.le v6 (List.length (qe2 (List.length (nL m (0 : Nat)))))/\List.length (qe2 (List.length (nL m (0 : Nat)))) - v6 < List.length (qe2 (List.length (nL m (0 : Nat)))) - v2/\(True/\(↑v2 : Int) + (1 : Int) = (↑v6 : Int)/\True)/\qd9 m y (List.take v2 (qe2 (List.length (nL m (0 : Nat))))) = qd9 m y (List.take v6 (qe2 (List.length (nL m (0 : Nat)))))/\True))/\(decide ((↑v2 : Int) < (↑(List.length (qe2 (Int.toNat (↑(List.length (nthD (Ty.list (Ty.int .i64)) m (0 : Nat))) : Int)))) : Int)) = false->qd9 m y (List.take v2 (qe2 (List.length (nL m (0 : Nat))))) = all4 m y)) (by kernel_rfl) ?_
  try simp only [z0,z1,z2,z3,z4,z5,z6,z7,z8,z9,z10,Int.reduceEq,z11,z12,z13,z14,z15,z16,z17,z18,z19,z20,z21,z22,z23,z24,z25,z26,z27,z28,z29,z30,Int.reduceLE,Int.reduceLT,z31,z32,z33,z34,nilEq_true]
  try simp only [qa4, qa5, qa8, List.set_cons_zero, List.cons.injEq, and_true, true_and]
  have h1 := h.one
  have h2 := h.pix
  have hlen : (qe2 (nL m 0).length).length ≤ 128 := (qm3 (n := (nL m 0).length) (k := 128) h2 (Nat.le_refl _)).1
  have hea := h.each
  have hR : all4 m y = qd9 m y (qe2 (nL m 0).length) := rfl
  rw [hR]
  generalize qe2 (nL m 0).length = L at hlen hea ⊢
  refine ⟨by omega, by omega, (), 0, Nat.zero_le _, ⟨rfl, by simp [qd9]⟩, fun c hc => ⟨fun hlt => ?_, fun hge => ?_⟩⟩
  · have hl := qo0 m y (L.take c)
    rw [List.length_take] at hl
    have hs := qw6 m y hlt
    refine ⟨hlt, hea _ (qh7 L c hlt), fun hf => ⟨by omega, fits64 (by omega) (by omega), c + 1, hlt, by omega, by omega, ?_⟩, fun hf => ⟨fits64 (by omega) (by omega), c + 1, hlt, by omega, by omega, ?_⟩⟩
    · rw [hs, if_pos hf]
    · rw [hs, if_neg (by rw [hf]; decide), List.append_nil]
  · obtain rfl : c = L.length := by omega
    rw [List.take_length]
def qi1 (k : Int) (L : List Fit) : List Fit := L.filter fun f => decide ((f.1.length : Int) ≤ k)
def qb3 (m : List (List Int)) (y : List Int) (k : Int) : List Fit × Int := if qg6 m y ≠ 0 then ([], qg6 m y) else if inB k 0 10 = false then ([], 7) else (qi1 k (all4 m y), 0)
structure q4m (m : List (List Int)) (y : List Int) : Prop where
  fit : FitM m
  all : qg6 m y = 0 → qn4 m y
theorem qw7 {m : List (List Int)} {y : List Int} (h : qn4 m y) : (all4 m y).length ≤ 128 := by
  have h1 := qo0 m y (qe2 (nL m 0).length)
  have h2 := (qm3 (n := (nL m 0).length) (k := 128) h.pix (Nat.le_refl _)).1
  have e : qe2 (nL m 0).length = qa6 (nL m 0).length 128 := rfl
  rw [e] at h1
  unfold all4
  rw [e]
  omega
abbrev sFits4 : FSpec := tspec false none [qd2, qb8, tInt] [tFits, tInt] (fun x => q4m x.1 x.2.1) (fun x => ((qb3 x.1 x.2.1 x.2.2.1).1, (qb3 x.1 x.2.1 x.2.2.1).2, ()))
def ivFits4 (k : Int) (L : List Fit) : Nat → Option Inv
  | 0 => some (Inv.of [9, 25] 1 (fun i : Nat => [(9, .own 0), (25, .lit (.int .i64 i))]) (fun i => [.vec 30 tFit (qi1 k (L.take i))]) (fun i => i ≤ L.length) (fun i => L.length - i))
  | _ => none
theorem q0u : Meets Try.prog 26 sFits4 := by
  refine meets (snd (SpecsOk.cons q0g (SpecsOk.cons qw0 (SpecsOk.cons q2w (SpecsOk.nil _))))) Try.func26 rfl rfl (fun x => ivFits4 x.2.2.1 (all4 x.1 x.2.1)) (fun _ => by kernel_rfl) (by decide) ?_
  rintro ⟨m, y, k, ⟨⟩⟩ h
  revert m y k
  intro (m : List (List Int)) (y : List Int) (k : Int) (h : q4m m y)
  refine by_vc (B := FitM m/\((qg6 m y != (0 : Int)) = true->Prod.fst (qb3 m y k) = []/\qg6 m y = Prod.snd (qb3 m y k)/\True)/\((qg6 m y != (0 : Int)) = false->True/\((!inB k (0 : Int) (10 : Int)) = true->Prod.fst (qb3 m y k) = []/\(7 : Int) = Prod.snd (qb3 m y k)/\True)/\((!inB k (0 : Int) (10 : Int)) = false->qn4 m y/\∃ (v2 : Unit), ∃ (v3 : Nat), Nat.le v3 (List.length (all4 m y))/\((True/\(0 : Int) = (↑v3 : Int)/\True)/\qi1 k (List.take v3 (all4 m y)) = []/\True)/\∀ (v4 : Nat), Nat.le v4 (List.length (all4 m y))->(decide ((↑v4 : Int) < (↑(List.length (all4 m y)) : Int)) = true->((0 : Int) <= (↑v4 : Int)/\(↑v4 : Int) < (↑(List.length (all4 m y)) : Int))/\(decide ((↑(List.length (Prod.fst (nthD (Ty.prod (Ty.list (Ty.int .i64)) (Ty.list (Ty.prod (Ty.int .i64) (Ty.int .i64)))) (all4 m y) (Int.toNat (↑v4 : Int))))) : Int) <= k) = true->((0 : Nat) < List.length [(Prod.fst (nthD (Ty.prod (Ty.list (Ty.int .i64)) (Ty.list (Ty.prod (Ty.int .i64) (Ty.int .i64)))) (all4 m y) (Int.toNat (↑v4 : Int))), Prod.snd (nthD (Ty.prod (Ty.list (Ty.int .i64)) (Ty.list (Ty.prod (Ty.int .i64) (Ty.int .i64)))) (all4 m y) (Int.toNat (↑v4 : Int))))]/\Nat.le (List.length (qi1 k (List.take v4 (all4 m y))) + List.length [(Prod.fst (nthD (Ty.prod (Ty.list (Ty.int .i64)) (Ty.list (Ty.prod (Ty.int .i64) (Ty.int .i64)))) (all4 m y) (Int.toNat (↑v4 : Int))), Prod.snd (nthD (Ty.prod (Ty.list (Ty.int .i64)) (Ty.list (Ty.prod (Ty.int .i64) (Ty.int .i64)))) (all4 m y) (Int.toNat (↑v4 : Int))))]) (1000000 : Nat))/\fits .i64 ((↑v4 : Int) + (1 : Int))/\∃ (v8 : Nat), Nat.le v8 (List.length (all4 m y))/\List.length (all4 m y) - v8 < List.length (all4 m y) - v4/\(True/\(↑v4 : Int) + (1 : Int) = (↑v8 : Int)/\True)/\qi1 k (List.take v4 (all4 m y)) ++ [(Prod.fst (nthD (Ty.prod (Ty.list (Ty.int .i64)) (Ty.list (Ty.prod (Ty.int .i64) (Ty.int .i64)))) (all4 m y) (Int.toNat (↑v4 : Int))), Prod.snd (nthD (Ty.prod (Ty.list (Ty.int .i64)) (Ty.list (Ty.prod (Ty.int .i64) (Ty.int .i64)))) (all4 m y) (Int.toNat (↑v4 : Int))))] = qi1 k (List.take v8 (all4 m y))/\True)/\(decide ((↑(List.length (Prod.fst (nthD (Ty.prod (Ty.list (Ty.int .i64)) (Ty.list (Ty.prod (Ty.int .i64) (Ty.int .i64)))) (all4 m y) (Int.toNat (↑v4 : Int))))) : Int) <= k) = false->fits .i64 ((↑v4 : Int) + (1 : Int))/\∃ (v8 : Nat), Nat.le v8 (List.length (all4 m y))/\List.length (all4 m y) - v8 < List.length (all4 m y) - v4/\(True/\(↑v4 : Int) + (1 : Int) = (↑v8 : Int)/\True)/\qi1 k (List.take v4 (all4 m y)) = qi1 k (List.take v8 (all4 m y))/\True))/\(decide ((↑v4 : Int) < (↑(List.length (all4 m y)) : Int)) = false->qi1 k (List.take v4 (all4 m y)) = Prod.fst (qb3 m y k)/\(0 : Int) = Prod.snd (qb3 m y k)/\True)))) (by kernel_rfl) ?_
  try simp only [z0,z1,z2,z3,z4,z5,z6,z7,z8,z9,z10,Int.reduceEq,z11,z12,z13,z14,z15,z16,z17,z18,z19,z20,z21,z22,z23,z24,z25,z26,z27,z28,z29,z30,Int.reduceLE,Int.reduceLT,z31,z32,z33,z34,nilEq_true]
  try simp only [qa4, qa5, qa8, List.set_cons_zero, List.cons.injEq, and_true, true_and]
  have hR : qb3 m y k = if qg6 m y ≠ 0 then ([], qg6 m y) else if inB k 0 10 = false then ([], 7) else (qi1 k (all4 m y), 0) := rfl
  simp only [q4l]
  refine ⟨h.fit, fun he => by rw [hR, if_pos he]; exact ⟨rfl, rfl⟩, fun he => ⟨fun hk => by rw [hR, if_neg (fun q => q he), if_pos hk]; exact ⟨rfl, rfl⟩, fun hk => ?_⟩⟩
  have hA := h.all he
  have hlen := qw7 hA
  rw [hR, if_neg (fun q => q he), if_neg (by rw [hk]; decide)]
  generalize all4 m y = L at hlen ⊢
  refine ⟨hA, (), 0, Nat.zero_le _, ⟨rfl, rfl⟩, fun c hc => ⟨fun hlt => ?_, fun hge => ?_⟩⟩
  · have hl := List.length_filter_le (fun f : Fit => decide ((f.1.length : Int) ≤ k)) (L.take c)
    rw [List.length_take] at hl
    have hl2 : (qi1 k (L.take c)).length ≤ c := by unfold qi1; omega
    have hs : qi1 k (L.take (c + 1)) = qi1 k (L.take c) ++ if ((nF L c).1.length : Int) ≤ k then [nF L c] else [] := by
      rw [q0s L c hlt, List.take_add_one, List.getElem?_eq_getElem hlt]
      unfold qi1
      rw [List.filter_append]
      congr 1
      by_cases hf : ((L[c]).1.length : Int) ≤ k
      · rw [if_pos hf]; simp [hf]
      · rw [if_neg hf]; simp; omega
    refine ⟨hlt, fun hf => ⟨by omega, fits64 (by omega) (by omega), c + 1, hlt, by omega, by omega, ?_⟩, fun hf => ⟨fits64 (by omega) (by omega), c + 1, hlt, by omega, by omega, ?_⟩⟩
    · rw [hs, if_pos hf]
    · rw [hs, if_neg (by omega), List.append_nil]
  · obtain rfl : c = L.length := by omega
    rw [List.take_length]
    exact ⟨rfl, rfl⟩
end Go.Proofs.Ytdibdlelmkcccaa
