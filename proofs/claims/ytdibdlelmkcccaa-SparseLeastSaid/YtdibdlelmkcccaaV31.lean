/- The reference's fits, all of them, the sparsest, the whole ones: contracts by the engine. No condition. -/
import Derived.Test.YtdibdlelmkcccaaV30
set_option linter.unusedVariables false
set_option linter.unusedSimpArgs false
namespace Go.Proofs.Ytdibdlelmkcccaa
open Go Go.RowKit Eng
theorem nthD_nF (L : List Fit) (i : Nat) : nthD ((Ty.int .i64).list.prod ((Ty.int .i64).prod (Ty.int .i64)).list) L i = nF L i := rfl
def setFits4 (m : List (List Int)) (y : List Int) (s : List (List Int)) : List Fit := s.filterMap fun pix => if (fit4 m y pix).2 = true then some (fit4 m y pix).1 else none
def all4 (m : List (List Int)) (y : List Int) : List Fit := setFits4 m y (setsA (nL m 0).length)
structure All4Pre (m : List (List Int)) (y : List Int) : Prop where
  one : 0 < m.length
  pix : (nL m 0).length ≤ 7
  each : ∀ s ∈ setsA (nL m 0).length, S3Pre m s y
abbrev sAll4 : FSpec := tspec false none [tMask, tInts] [tFits] (fun x => All4Pre x.1 x.2.1) (fun x => (all4 x.1 x.2.1, ()))
def ivAll4 (m : List (List Int)) (y : List Int) (L : List (List Int)) : Nat → Option Inv
  | 0 => some (Inv.of [5, 16] 1 (fun k : Nat => [(5, .own 0), (16, .lit (.int .i64 k))]) (fun k => [.vec 30 tFit (setFits4 m y (L.take k))]) (fun k => k ≤ L.length) (fun k => L.length - k))
  | _ => none
theorem setFits4_snoc (m : List (List Int)) (y : List Int) {s : List (List Int)} {c : Nat} (h : c < s.length) : setFits4 m y (s.take (c + 1)) = setFits4 m y (s.take c) ++ if (fit4 m y (nL s c)).2 = true then [(fit4 m y (nL s c)).1] else [] := by
  rw [nL_eq s c h, List.take_add_one, List.getElem?_eq_getElem h]
  unfold setFits4
  rw [List.filterMap_append]
  congr 1
  simp only [Option.toList_some, List.filterMap_cons, List.filterMap_nil]
  by_cases hf : (fit4 m y s[c]).2 = true
  · rw [if_pos hf, if_pos hf]
  · rw [if_neg hf, if_neg hf]
theorem setFits4_len (m : List (List Int)) (y : List Int) (s : List (List Int)) : (setFits4 m y s).length ≤ s.length := List.length_filterMap_le _ s
theorem all4_meets : Meets Try.prog 55 sAll4 := by
  refine meets (snd (SpecsOk.cons setsR_meets (SpecsOk.cons fit4_meets (SpecsOk.nil _)))) Try.func55 rfl rfl (fun x => ivAll4 x.1 x.2.1 (setsA (nL x.1 0).length)) (fun _ => by kernel_rfl) (by decide) ?_
  rintro ⟨m, y, ⟨⟩⟩ h
  revert m y
  intro (m : List (List Int)) (y : List Int) (h : All4Pre m y)
  refine by_vc (B := ((0 : Int) <= (0 : Int) /\ (0 : Int) < (↑(List.length m) : Int)) /\ ((0 : Ty.den tInt) <= (↑(List.length (nthD (Ty.list (Ty.int .i64)) m (0 : Nat))) : Int) /\ (↑(List.length (nthD (Ty.list (Ty.int .i64)) m (0 : Nat))) : Int) <= (7 : Ty.den tInt)) /\ ∃ (v0 : Unit), ∃ (v1 : Nat), Nat.le v1 (List.length (setsA (List.length (nL m (0 : Nat))))) /\ ((True /\ (0 : Int) = (↑v1 : Int) /\ True) /\ setFits4 m y (List.take v1 (setsA (List.length (nL m (0 : Nat))))) = [] /\ True) /\ ∀ (v2 : Nat), Nat.le v2 (List.length (setsA (List.length (nL m (0 : Nat))))) -> (decide ((↑v2 : Int) < (↑(List.length (setsA (Int.toNat (↑(List.length (nthD (Ty.list (Ty.int .i64)) m (0 : Nat))) : Int)))) : Int)) = true -> ((0 : Int) <= (↑v2 : Int) /\ (↑v2 : Int) < (↑(List.length (setsA (Int.toNat (↑(List.length (nthD (Ty.list (Ty.int .i64)) m (0 : Nat))) : Int)))) : Int)) /\ S3Pre m (nthD (Ty.list (Ty.int .i64)) (setsA (Int.toNat (↑(List.length (nthD (Ty.list (Ty.int .i64)) m (0 : Nat))) : Int))) (Int.toNat (↑v2 : Int))) y /\ (Prod.snd (fit4 m y (nthD (Ty.list (Ty.int .i64)) (setsA (Int.toNat (↑(List.length (nthD (Ty.list (Ty.int .i64)) m (0 : Nat))) : Int))) (Int.toNat (↑v2 : Int)))) = true -> ((0 : Nat) < List.length [(Prod.fst (Prod.fst (fit4 m y (nthD (Ty.list (Ty.int .i64)) (setsA (Int.toNat (↑(List.length (nthD (Ty.list (Ty.int .i64)) m (0 : Nat))) : Int))) (Int.toNat (↑v2 : Int))))), Prod.snd (Prod.fst (fit4 m y (nthD (Ty.list (Ty.int .i64)) (setsA (Int.toNat (↑(List.length (nthD (Ty.list (Ty.int .i64)) m (0 : Nat))) : Int))) (Int.toNat (↑v2 : Int))))))] /\ Nat.le (List.length (setFits4 m y (List.take v2 (setsA (List.length (nL m (0 : Nat)))))) + List.length [(Prod.fst (Prod.fst (fit4 m y (nthD (Ty.list (Ty.int .i64)) (setsA (Int.toNat (↑(List.length (nthD (Ty.list (Ty.int .i64)) m (0 : Nat))) : Int))) (Int.toNat (↑v2 : Int))))), Prod.snd (Prod.fst (fit4 m y (nthD (Ty.list (Ty.int .i64)) (setsA (Int.toNat (↑(List.length (nthD (Ty.list (Ty.int .i64)) m (0 : Nat))) : Int))) (Int.toNat (↑v2 : Int))))))]) (1000000 : Nat)) /\ fits .i64 ((↑v2 : Int) + (1 : Int)) /\ ∃ (v6 : Nat), Nat.le v6 (List.length (setsA (List.length (nL m (0 : Nat))))) /\ List.length (setsA (List.length (nL m (0 : Nat)))) - v6 < List.length (setsA (List.length (nL m (0 : Nat)))) - v2 /\ (True /\ (↑v2 : Int) + (1 : Int) = (↑v6 : Int) /\ True) /\ setFits4 m y (List.take v2 (setsA (List.length (nL m (0 : Nat))))) ++ [(Prod.fst (Prod.fst (fit4 m y (nthD (Ty.list (Ty.int .i64)) (setsA (Int.toNat (↑(List.length (nthD (Ty.list (Ty.int .i64)) m (0 : Nat))) : Int))) (Int.toNat (↑v2 : Int))))), Prod.snd (Prod.fst (fit4 m y (nthD (Ty.list (Ty.int .i64)) (setsA (Int.toNat (↑(List.length (nthD (Ty.list (Ty.int .i64)) m (0 : Nat))) : Int))) (Int.toNat (↑v2 : Int))))))] = setFits4 m y (List.take v6 (setsA (List.length (nL m (0 : Nat))))) /\ True) /\ (Prod.snd (fit4 m y (nthD (Ty.list (Ty.int .i64)) (setsA (Int.toNat (↑(List.length (nthD (Ty.list (Ty.int .i64)) m (0 : Nat))) : Int))) (Int.toNat (↑v2 : Int)))) = false -> fits .i64 ((↑v2 : Int) + (1 : Int)) /\ ∃ (v6 : Nat), Nat.le v6 (List.length (setsA (List.length (nL m (0 : Nat))))) /\ List.length (setsA (List.length (nL m (0 : Nat)))) - v6 < List.length (setsA (List.length (nL m (0 : Nat)))) - v2 /\ (True /\ (↑v2 : Int) + (1 : Int) = (↑v6 : Int) /\ True) /\ setFits4 m y (List.take v2 (setsA (List.length (nL m (0 : Nat))))) = setFits4 m y (List.take v6 (setsA (List.length (nL m (0 : Nat))))) /\ True)) /\ (decide ((↑v2 : Int) < (↑(List.length (setsA (Int.toNat (↑(List.length (nthD (Ty.list (Ty.int .i64)) m (0 : Nat))) : Int)))) : Int)) = false -> setFits4 m y (List.take v2 (setsA (List.length (nL m (0 : Nat))))) = all4 m y)) (by kernel_rfl) ?_
  try simp only [z0, z1, z2, z3, z4, z5, z6, z7, z8, z9, z10, Int.reduceEq, z11, z12, z13, z14, z15, z16, z17, z18, z19, z20, z21, z22, z23, z24, z25, z26, z27, z28, z29, z30, Int.reduceLE, Int.reduceLT, z31, z32, z33, z34, nilEq_true]
  try simp only [nthD_nI, nthD_nL, nL_one, List.set_cons_zero, List.cons.injEq, and_true, true_and]
  have h1 := h.one
  have h2 := h.pix
  have hlen : (setsA (nL m 0).length).length ≤ 128 := (setsTo_at (n := (nL m 0).length) (k := 128) h2 (Nat.le_refl _)).1
  have hea := h.each
  have hR : all4 m y = setFits4 m y (setsA (nL m 0).length) := rfl
  rw [hR]
  generalize setsA (nL m 0).length = L at hlen hea ⊢
  refine ⟨by omega, by omega, (), 0, Nat.zero_le _, ⟨rfl, by simp [setFits4]⟩, fun c hc => ⟨fun hlt => ?_, fun hge => ?_⟩⟩
  · have hl := setFits4_len m y (L.take c)
    rw [List.length_take] at hl
    have hs := setFits4_snoc m y hlt
    refine ⟨hlt, hea _ (nL_mem L c hlt), fun hf => ⟨by omega, fits64 (by omega) (by omega), c + 1, hlt, by omega, by omega, ?_⟩, fun hf => ⟨fits64 (by omega) (by omega), c + 1, hlt, by omega, by omega, ?_⟩⟩
    · rw [hs, if_pos hf]
    · rw [hs, if_neg (by rw [hf]; decide), List.append_nil]
  · obtain rfl : c = L.length := by omega
    rw [List.take_length]
def filtL (k : Int) (L : List Fit) : List Fit := L.filter fun f => decide ((f.1.length : Int) ≤ k)
structure F4Pre (m : List (List Int)) (y : List Int) : Prop where
  fit : FitM m
  all : readE m y = 0 → All4Pre m y
theorem all4_len {m : List (List Int)} {y : List Int} (h : All4Pre m y) : (all4 m y).length ≤ 128 := by
  have h1 := setFits4_len m y (setsA (nL m 0).length)
  have h2 := (setsTo_at (n := (nL m 0).length) (k := 128) h.pix (Nat.le_refl _)).1
  have e : setsA (nL m 0).length = setsTo (nL m 0).length 128 := rfl
  rw [e] at h1
  unfold all4
  rw [e]
  omega
def eqL (L : List Fit) : List Fit := L.filter fun f => decide (f.1.length = (nF L 0).1.length)
def spar4 (m : List (List Int)) (y : List Int) : List Fit × Int := if readE m y ≠ 0 then ([], readE m y) else if all4 m y = [] then ([], 10) else (eqL (all4 m y), 0)
abbrev sSpar4 : FSpec := tspec false none [tMask, tInts] [tFits, tInt] (fun x => F4Pre x.1 x.2.1) (fun x => ((spar4 x.1 x.2.1).1, (spar4 x.1 x.2.1).2, ()))
def eqTo (L : List Fit) (k : Nat) : List Fit := (L.take k).filter fun f => decide (f.1.length = (nF L 0).1.length)
theorem eqTo_head {L : List Fit} {c : Nat} (hc : 0 < c) (hL : c ≤ L.length) : ∃ t, eqTo L c = nF L 0 :: t := by
  cases L with
  | nil => simp at hL; omega
  | cons f l =>
    obtain ⟨c, rfl⟩ : ∃ k, c = k + 1 := ⟨c - 1, by omega⟩
    have e : nF (f :: l) 0 = f := rfl
    unfold eqTo
    rw [e, List.take_succ_cons, List.filter_cons, if_pos (decide_eq_true rfl)]
    exact ⟨_, rfl⟩
theorem eqTo_pos {L : List Fit} {c : Nat} (hc : 0 < c) (hL : c ≤ L.length) : 0 < (eqTo L c).length := by
  obtain ⟨t, ht⟩ := eqTo_head hc hL
  rw [ht]; simp
theorem eqTo_first {L : List Fit} {c : Nat} (h : 0 < (eqTo L c).length) : (nF (eqTo L c) 0).1.length = (nF L 0).1.length := by
  have hm : nF (eqTo L c) 0 ∈ eqTo L c := by rw [nF_eq _ 0 h]; exact List.getElem_mem _
  have := (List.mem_filter.1 hm).2
  exact of_decide_eq_true this
def ivSpar4 (L : List Fit) : Nat → Option Inv
  | 0 => some (Inv.of [7, 20] 1 (fun i : Nat => [(7, .own 0), (20, .lit (.int .i64 i))]) (fun i => [.vec 30 tFit (eqTo L i)]) (fun i => i ≤ L.length) (fun i => L.length - i))
  | _ => none
theorem spar4_meets : Meets Try.prog 40 sSpar4 := by
  refine meets (snd (SpecsOk.cons read3_meets (SpecsOk.cons all4_meets (SpecsOk.nil _)))) Try.func40 rfl rfl (fun x => ivSpar4 (all4 x.1 x.2.1)) (fun _ => by kernel_rfl) (by decide) ?_
  rintro ⟨m, y, ⟨⟩⟩ h
  revert m y
  intro (m : List (List Int)) (y : List Int) (h : F4Pre m y)
  refine by_vc (B := FitM m /\ ((readE m y != (0 : Int)) = true -> Prod.fst (spar4 m y) = [] /\ readE m y = Prod.snd (spar4 m y) /\ True) /\ ((readE m y != (0 : Int)) = false -> All4Pre m y /\ ∃ (v1 : Unit), ∃ (v2 : Nat), Nat.le v2 (List.length (all4 m y)) /\ ((True /\ (0 : Int) = (↑v2 : Int) /\ True) /\ eqTo (all4 m y) v2 = [] /\ True) /\ ∀ (v3 : Nat), Nat.le v3 (List.length (all4 m y)) -> (decide ((↑v3 : Int) < (↑(List.length (all4 m y)) : Int)) = true -> ((0 : Int) <= (↑v3 : Int) /\ (↑v3 : Int) < (↑(List.length (all4 m y)) : Int)) /\ (((↑(List.length (eqTo (all4 m y) v3)) : Int) == (0 : Int)) = true -> ((0 : Nat) < List.length [(Prod.fst (nthD (Ty.prod (Ty.list (Ty.int .i64)) (Ty.list (Ty.prod (Ty.int .i64) (Ty.int .i64)))) (all4 m y) (Int.toNat (↑v3 : Int))), Prod.snd (nthD (Ty.prod (Ty.list (Ty.int .i64)) (Ty.list (Ty.prod (Ty.int .i64) (Ty.int .i64)))) (all4 m y) (Int.toNat (↑v3 : Int))))] /\ Nat.le (List.length (eqTo (all4 m y) v3) + List.length [(Prod.fst (nthD (Ty.prod (Ty.list (Ty.int .i64)) (Ty.list (Ty.prod (Ty.int .i64) (Ty.int .i64)))) (all4 m y) (Int.toNat (↑v3 : Int))), Prod.snd (nthD (Ty.prod (Ty.list (Ty.int .i64)) (Ty.list (Ty.prod (Ty.int .i64) (Ty.int .i64)))) (all4 m y) (Int.toNat (↑v3 : Int))))]) (1000000 : Nat)) /\ fits .i64 ((↑v3 : Int) + (1 : Int)) /\ ∃ (v7 : Nat), Nat.le v7 (List.length (all4 m y)) /\ List.length (all4 m y) - v7 < List.length (all4 m y) - v3 /\ (True /\ (↑v3 : Int) + (1 : Int) = (↑v7 : Int) /\ True) /\ eqTo (all4 m y) v3 ++ [(Prod.fst (nthD (Ty.prod (Ty.list (Ty.int .i64)) (Ty.list (Ty.prod (Ty.int .i64) (Ty.int .i64)))) (all4 m y) (Int.toNat (↑v3 : Int))), Prod.snd (nthD (Ty.prod (Ty.list (Ty.int .i64)) (Ty.list (Ty.prod (Ty.int .i64) (Ty.int .i64)))) (all4 m y) (Int.toNat (↑v3 : Int))))] = eqTo (all4 m y) v7 /\ True) /\ (((↑(List.length (eqTo (all4 m y) v3)) : Int) == (0 : Int)) = false -> ((0 : Int) <= (0 : Int) /\ (0 : Int) < (↑(List.length (eqTo (all4 m y) v3)) : Int)) /\ (0 : Nat) < List.length (eqTo (all4 m y) v3) /\ (((↑(List.length (Prod.fst (nthD (Ty.prod (Ty.list (Ty.int .i64)) (Ty.list (Ty.prod (Ty.int .i64) (Ty.int .i64)))) (all4 m y) (Int.toNat (↑v3 : Int))))) : Int) == (↑(List.length (Prod.fst (nthD tFit (eqTo (all4 m y) v3) (0 : Nat)))) : Int)) = true -> ((0 : Nat) < List.length [(Prod.fst (nthD (Ty.prod (Ty.list (Ty.int .i64)) (Ty.list (Ty.prod (Ty.int .i64) (Ty.int .i64)))) (all4 m y) (Int.toNat (↑v3 : Int))), Prod.snd (nthD (Ty.prod (Ty.list (Ty.int .i64)) (Ty.list (Ty.prod (Ty.int .i64) (Ty.int .i64)))) (all4 m y) (Int.toNat (↑v3 : Int))))] /\ Nat.le (List.length (eqTo (all4 m y) v3) + List.length [(Prod.fst (nthD (Ty.prod (Ty.list (Ty.int .i64)) (Ty.list (Ty.prod (Ty.int .i64) (Ty.int .i64)))) (all4 m y) (Int.toNat (↑v3 : Int))), Prod.snd (nthD (Ty.prod (Ty.list (Ty.int .i64)) (Ty.list (Ty.prod (Ty.int .i64) (Ty.int .i64)))) (all4 m y) (Int.toNat (↑v3 : Int))))]) (1000000 : Nat)) /\ fits .i64 ((↑v3 : Int) + (1 : Int)) /\ ∃ (v8 : Nat), Nat.le v8 (List.length (all4 m y)) /\ List.length (all4 m y) - v8 < List.length (all4 m y) - v3 /\ (True /\ (↑v3 : Int) + (1 : Int) = (↑v8 : Int) /\ True) /\ eqTo (all4 m y) v3 ++ [(Prod.fst (nthD (Ty.prod (Ty.list (Ty.int .i64)) (Ty.list (Ty.prod (Ty.int .i64) (Ty.int .i64)))) (all4 m y) (Int.toNat (↑v3 : Int))), Prod.snd (nthD (Ty.prod (Ty.list (Ty.int .i64)) (Ty.list (Ty.prod (Ty.int .i64) (Ty.int .i64)))) (all4 m y) (Int.toNat (↑v3 : Int))))] = eqTo (all4 m y) v8 /\ True) /\ (((↑(List.length (Prod.fst (nthD (Ty.prod (Ty.list (Ty.int .i64)) (Ty.list (Ty.prod (Ty.int .i64) (Ty.int .i64)))) (all4 m y) (Int.toNat (↑v3 : Int))))) : Int) == (↑(List.length (Prod.fst (nthD tFit (eqTo (all4 m y) v3) (0 : Nat)))) : Int)) = false -> fits .i64 ((↑v3 : Int) + (1 : Int)) /\ ∃ (v8 : Nat), Nat.le v8 (List.length (all4 m y)) /\ List.length (all4 m y) - v8 < List.length (all4 m y) - v3 /\ (True /\ (↑v3 : Int) + (1 : Int) = (↑v8 : Int) /\ True) /\ eqTo (all4 m y) v3 = eqTo (all4 m y) v8 /\ True))) /\ (decide ((↑v3 : Int) < (↑(List.length (all4 m y)) : Int)) = false -> (((↑(List.length (eqTo (all4 m y) v3)) : Int) == (0 : Int)) = true -> Prod.fst (spar4 m y) = [] /\ (10 : Int) = Prod.snd (spar4 m y) /\ True) /\ (((↑(List.length (eqTo (all4 m y) v3)) : Int) == (0 : Int)) = false -> eqTo (all4 m y) v3 = Prod.fst (spar4 m y) /\ (0 : Int) = Prod.snd (spar4 m y) /\ True)))) (by kernel_rfl) ?_
  try simp only [z0, z1, z2, z3, z4, z5, z6, z7, z8, z9, z10, Int.reduceEq, z11, z12, z13, z14, z15, z16, z17, z18, z19, z20, z21, z22, z23, z24, z25, z26, z27, z28, z29, z30, Int.reduceLE, Int.reduceLT, z31, z32, z33, z34, nilEq_true]
  try simp only [nthD_nI, nthD_nL, nL_one, List.set_cons_zero, List.cons.injEq, and_true, true_and]
  have hR : spar4 m y = if readE m y ≠ 0 then ([], readE m y) else if all4 m y = [] then ([], 10) else (eqL (all4 m y), 0) := rfl
  simp only [nthD_nF]
  refine ⟨h.fit, fun he => by rw [hR, if_pos he]; exact ⟨rfl, rfl⟩, fun he => ?_⟩
  have hA := h.all he
  have hlen := all4_len hA
  rw [hR, if_neg (fun q => q he)]
  generalize all4 m y = L at hlen ⊢
  refine ⟨hA, (), 0, Nat.zero_le _, ⟨rfl, rfl⟩, fun c hc => ⟨fun hlt => ?_, fun hge => ?_⟩⟩
  · have hl := List.length_filter_le (fun f : Fit => decide (f.1.length = (nF L 0).1.length)) (L.take c)
    rw [List.length_take] at hl
    have hl2 : (eqTo L c).length ≤ c := by unfold eqTo; omega
    have hs : eqTo L (c + 1) = eqTo L c ++ if (nF L c).1.length = (nF L 0).1.length then [nF L c] else [] := by
      rw [nF_eq L c hlt]
      unfold eqTo
      rw [List.take_add_one, List.getElem?_eq_getElem hlt, List.filter_append]
      congr 1
      by_cases hf : (L[c]).1.length = (nF L 0).1.length
      · rw [if_pos hf]; simp [hf]
      · rw [if_neg hf]; simp [hf]
    refine ⟨hlt, fun h0 => ?_, fun h0 => ⟨by omega, by omega, fun hf => ⟨by omega, fits64 (by omega) (by omega), c + 1, hlt, by omega, by omega, ?_⟩, fun hf => ⟨fits64 (by omega) (by omega), c + 1, hlt, by omega, by omega, ?_⟩⟩⟩
    · have hc0 : c = 0 := by
        rcases Nat.eq_zero_or_pos c with e | e
        · exact e
        · have := eqTo_pos (L := L) e (by omega)
          omega
      subst hc0
      exact ⟨by omega, fits64 (by omega) (by omega), 1, hlt, by omega, by omega, by rw [hs, if_pos rfl]⟩
    · have h1 := eqTo_first (L := L) (c := c) (by omega)
      rw [h1] at hf
      rw [hs, if_pos (by omega)]
    · have h1 := eqTo_first (L := L) (c := c) (by omega)
      rw [h1] at hf
      rw [hs, if_neg (by omega), List.append_nil]
  · obtain rfl : c = L.length := by omega
    refine ⟨fun h0 => ?_, fun h0 => ?_⟩
    · have : L = [] := by
        rcases Nat.eq_zero_or_pos L.length with e | e
        · exact List.eq_nil_of_length_eq_zero e
        · have := eqTo_pos (L := L) e (Nat.le_refl _)
          omega
      rw [if_pos this]
      exact ⟨rfl, rfl⟩
    · have : ¬ L = [] := fun e => by rw [e] at h0; exact h0 rfl
      rw [if_neg this]
      unfold eqTo
      rw [List.take_length]
      exact ⟨rfl, rfl⟩
end Go.Proofs.Ytdibdlelmkcccaa
