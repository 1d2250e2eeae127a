/- The program's solutions and fits are the reference's: plain mathematics. No condition. -/
import Derived.Test.YtdibdlelmkcccaaW6
set_option linter.unusedVariables false
namespace Go.Proofs.Ytdibdlelmkcccaa
open Go Go.RowKit Eng
theorem small_cho {m : List (List Int)} {y pix : List Int} (h : Asked m y pix) : Small m.length pix.length (pix.length + 1) (chosenY m pix y) := by
  have hM := h.msk
  have h6 := hM.rows6
  have hp10 := hM.pix10
  have hpl := h.nam.len
  have hat : ∀ i, i < m.length → nL (chosenY m pix y) i = pickL (nL m i) pix ++ [nI y i] := fun i hi => by
    rw [chosenY_at m pix y i hi, colsL_at m pix i hi]
  have hlo : ∀ i, i < m.length → ∀ c, c < pix.length → (nI (nL (chosenY m pix y) i) c).natAbs ≤ 1 := fun i hi c hc => by
    rw [hat i hi, nI_app_lt _ _ (by rw [pickL_len]; exact hc), pickL_at _ _ _ hc]
    have h1 := h.nam.at_ c hc
    have h2 := hM.small i hi (nI pix c).toNat (by omega)
    omega
  refine ⟨⟨chosenY_len m pix y, fun i hi => by rw [hat i hi, List.length_append, pickL_len]; rfl⟩, h6, by omega, by omega, fun a c ha hc => hlo a ha c hc, fun a c ha hc => ?_⟩
  rcases Nat.lt_or_ge c pix.length with q | q
  · have := hlo a ha c q; omega
  · have e : nI (nL (chosenY m pix y) a) c = nI y a := by
      rw [hat a ha, show c = (pickL (nL m a) pix).length by rw [pickL_len]; omega, nI_app_at]
    have := h.at_ a ha
    rw [e]
    omega
theorem slR3_eq (m : List (List Int)) (pix y : List Int) : slR3 m pix y = solL m pix y := by
  unfold slR3 solL
  split
  · rename_i h
    have hA := Asked.of h
    have hS := small_cho hA
    have hW : rdW (chosenY m pix y) = pix.length + 1 := hS.each 0 (by have := hA.msk.rows1; omega)
    unfold svT svR svP svD reducedL solR
    rw [hW]
    exact (sol_eq hS.toMat).symm
  · rfl
theorem fit4_eq (m : List (List Int)) (y pix : List Int) : fit4 m y pix = fitR m y pix := by
  unfold fit4 fitR fitG zeroN
  rw [slR3_eq]
theorem solPre {m : List (List Int)} {pix y : List Int} (hl : pix.length ≤ 100000) : SolPre m pix y := by
  refine ⟨by omega, fun h => ?_⟩
  have hA := Asked.of h
  have hS := small_cho hA
  refine ⟨small_red hS, ?_⟩
  have hst := redTo_st hS.toMat pix.length (by omega)
  have hpl := hst.pl
  have hlen := hst.len
  have hB : BIG = 4000000000000000000 := rfl
  refine ⟨fun k hk => ?_, fun k hk => ?_, fun k hk => ?_⟩
  · have := (hst.pos k hk).2.2.1
    show nI (nL (redTo (chosenY m pix y) pix.length).1 k) (nI (redTo (chosenY m pix y) pix.length).2 k).toNat ≠ 0
    omega
  · have hk : k < (redTo (chosenY m pix y) pix.length).2.length := hk
    have h1 := hst.pos k hk
    have := (hst.small hS (Nat.le_refl _) (i := k) (by omega)).2 (nI (redTo (chosenY m pix y) pix.length).2 k).toNat (by omega)
    show absLe BIG (nI (nL (redTo (chosenY m pix y) pix.length).1 k) (nI (redTo (chosenY m pix y) pix.length).2 k).toNat)
    constructor <;> omega
  · have hk : k < (redTo (chosenY m pix y) pix.length).2.length := hk
    have := (hst.small hS (Nat.le_refl _) (i := k) (by omega)).2 pix.length (by omega)
    show absLe BIG (nI (nL (redTo (chosenY m pix y) pix.length).1 k) pix.length)
    constructor <;> omega
theorem s3Pre {m : List (List Int)} {pix y : List Int} (hf : FitM m) (hl : pix.length ≤ 100000) : S3Pre m pix y := by
  refine ⟨hf, hl, fun h => ?_⟩
  have hA := Asked.of h
  have hS := small_cho hA
  have hM := hA.msk
  have h1 := hM.rows1
  have h6 := hM.rows6
  have hp10 := hM.pix10
  have hpl := hA.nam.len
  have hW : rdW (chosenY m pix y) = pix.length + 1 := hS.each 0 (by omega)
  obtain ⟨r1, r2⟩ := small_rd hS (by omega)
  have hrst := rdTo_rst hS.toMat (pix.length + 1) (Nat.le_refl _)
  have hB : BIG = 4000000000000000000 := rfl
  have e1 : svD m pix y = (rdTo (chosenY m pix y) (pix.length + 1)).done_ := by unfold svD reducedL; rw [hW]
  have e2 : svP m pix y = (rdTo (chosenY m pix y) (pix.length + 1)).piv := by unfold svP reducedL; rw [hW]
  refine ⟨by omega, ⟨by omega, by omega, fun i hi j hj => ?_⟩, by omega, hA.len, r1, ?_⟩
  · have := hA.nam.at_ j hj
    rw [hM.each i hi]; exact this
  · rw [e1, e2]
    obtain ⟨hst, hcnt, _⟩ := hrst
    have hlen := hst.len
    have hpl2 := hst.pl
    rw [List.length_append] at hlen
    have hD : ∀ i, i < (rdTo (chosenY m pix y) (pix.length + 1)).piv.length → nL ((rdTo (chosenY m pix y) (pix.length + 1)).done_ ++ (rdTo (chosenY m pix y) (pix.length + 1)).left) i = nL (rdTo (chosenY m pix y) (pix.length + 1)).done_ i := fun i hi => nL_app_lt _ _ (by omega)
    refine ⟨hcnt, by omega, fun k hk => ?_, fun k hk => ?_, fun k hk => ?_, fun k hk => ?_, fun k hk => ?_⟩
    · rw [← hD k (by omega)]; exact hst.each k (by omega)
    · have := hst.pos k hk; omega
    · have := (hst.pos k hk).2.2.1
      rw [hD k hk] at this
      omega
    · have := hst.pos k hk
      have := r2 k (by omega) (nI (rdTo (chosenY m pix y) (pix.length + 1)).piv k).toNat (by omega)
      constructor <;> omega
    · have := r2 k (by omega) pix.length (by omega)
      constructor <;> omega
structure FitIs (m : List (List Int)) (y pix : List Int) : Prop where
  chk : chkE m y pix = 0
  rows : pix.length ≤ m.length
  fst : (fitR m y pix).1.1 = pix
  len : (fitR m y pix).1.2.length = pix.length
theorem fit_is {m : List (List Int)} {y pix : List Int} (h : (fitR m y pix).2 = true) : FitIs m y pix := by
  unfold fitR at h
  split at h
  · cases h
  · rename_i hno
    have h0 : (solL m pix y).2 = 0 := Classical.byContradiction fun q => hno (.inl q)
    have ef : fitR m y pix = ((pix, (solL m pix y).1), true) := by unfold fitR; rw [if_neg hno]
    rw [show FitIs m y pix ↔ FitIs m y pix from Iff.rfl]
    have hc : chkE m y pix = 0 := Classical.byContradiction fun q => by
      unfold solL at h0
      rw [if_neg q] at h0
      exact q h0
    have hA := Asked.of hc
    have hS := small_cho hA
    have hst := redTo_st hS.toMat pix.length (by omega)
    have hpl := hst.pl
    have es : solL m pix y = solT (redTo (chosenY m pix y) pix.length).1 (redTo (chosenY m pix y) pix.length).2 pix.length := by unfold solL; rw [if_pos hc]; rfl
    have hle : (redTo (chosenY m pix y) pix.length).2.length ≤ pix.length := (⟨fun q hq => ⟨(hst.pos q hq).1, (hst.pos q hq).2.1⟩, hst.asc⟩ : Asc pix.length _).le
    rw [es] at h0
    unfold solT at h0
    split at h0
    · cases h0
    · rename_i hn
      split at h0
      · cases h0
      · rename_i hl
        refine ⟨hc, by omega, by rw [ef], ?_⟩
        rw [ef]
        show (solL m pix y).1.length = _
        rw [es]
        unfold solT
        rw [if_neg hn, if_neg hl]
        show (List.map _ (List.range _)).length = _
        rw [List.length_map, List.length_range]
        omega
theorem fitIn {m : List (List Int)} {y pix : List Int} (h : FitIs m y pix) : FitIn (nL m 0).length (fitR m y pix).1 := by
  have hA := Asked.of h.chk
  have h6 := hA.msk.rows6
  have hr := h.rows
  refine ⟨by rw [h.len, h.fst], by rw [h.fst]; omega, fun j hj => ?_⟩
  rw [h.fst] at hj ⊢
  exact hA.nam.at_ j hj
theorem sets_all : ((List.range 8).all fun n => decide (setsA n = (List.range (n + 1)).flatMap fun (k : Nat) => setsL (n : Nat) (k : Nat))) = true := by decide +kernel
theorem sets_eq {n : Nat} (h : n ≤ 7) : setsA n = (List.range (n + 1)).flatMap fun (k : Nat) => setsL (n : Nat) (k : Nat) := by
  have := List.all_eq_true.1 sets_all n (List.mem_range.2 (by omega))
  exact of_decide_eq_true this
theorem setsL_mem {n k : Nat} {s : List Int} (h : s ∈ setsL (n : Nat) (k : Nat)) : s.length = k ∧ k ≤ n := by
  unfold setsL at h
  split at h
  · have := combs_len h
    exact ⟨by omega, by omega⟩
  · cases h
theorem setFits_app (m : List (List Int)) (y : List Int) (s t : List (List Int)) : setFits m y (s ++ t) = setFits m y s ++ setFits m y t := List.filterMap_append
theorem setFits4_eq (m : List (List Int)) (y : List Int) (s : List (List Int)) : setFits4 m y s = setFits m y s := by
  unfold setFits4 setFits
  congr 1
  funext pix
  rw [fit4_eq]
theorem fitsTo_eq (m : List (List Int)) (y : List Int) : ∀ K, fitsTo m y K = setFits m y ((List.range K).flatMap fun (k : Nat) => setsL (nL m 0).length (k : Nat))
  | 0 => rfl
  | K + 1 => by
    rw [fitsTo, fitsTo_eq m y K, List.range_succ, List.flatMap_append, setFits_app]
    simp
theorem all4_eq {m : List (List Int)} (y : List Int) (h : (nL m 0).length ≤ 7) : all4 m y = fitsTo m y ((nL m 0).length + 1) := by
  unfold all4
  rw [setFits4_eq, sets_eq h, fitsTo_eq]
theorem setFits_mem {m : List (List Int)} {y : List Int} {s : List (List Int)} {f : Fit} (h : f ∈ setFits m y s) : ∃ pix ∈ s, FitIs m y pix ∧ f = (fitR m y pix).1 := by
  unfold setFits at h
  rw [List.mem_filterMap] at h
  obtain ⟨pix, h1, h2⟩ := h
  split at h2
  · rename_i h3
    exact ⟨pix, h1, fit_is h3, (Option.some.inj h2).symm⟩
  · cases h2
theorem setFits_len {m : List (List Int)} {y : List Int} {k : Nat} {f : Fit} (h : f ∈ setFits m y (setsL (nL m 0).length (k : Nat))) : f.1.length = k ∧ k ≤ m.length ∧ k ≤ (nL m 0).length := by
  obtain ⟨pix, h1, h2, rfl⟩ := setFits_mem h
  have h3 := setsL_mem h1
  have h4 := h2.rows
  rw [h2.fst]
  omega
theorem fitsTo_lt {m : List (List Int)} {y : List Int} : ∀ K, ∀ f ∈ fitsTo m y K, f.1.length < K
  | 0, f, h => by cases h
  | K + 1, f, h => by
    rcases List.mem_append.1 h with h | h
    · have := fitsTo_lt K f h; omega
    · have := setFits_len h; omega
theorem filt_to (m : List (List Int)) (y : List Int) {k : Int} (hk : 0 ≤ k) : ∀ K, filtL k (fitsTo m y K) = fitsTo m y (min K (fitsN m k))
  | 0 => by rw [Nat.zero_min]; rfl
  | K + 1 => by
    have hN : fitsN m k = (min (min k (nL m 0).length) m.length + 1).toNat := rfl
    rw [fitsTo]
    unfold filtL
    rw [List.filter_append]
    have ih := filt_to m y hk K
    unfold filtL at ih
    rw [ih]
    by_cases e : K < fitsN m k
    · rw [show min K (fitsN m k) = K by omega, show min (K + 1) (fitsN m k) = K + 1 by omega, fitsTo]
      congr 1
      rw [List.filter_eq_self]
      intro f hf
      have := setFits_len hf
      exact decide_eq_true (by omega)
    · rw [show min K (fitsN m k) = fitsN m k by omega, show min (K + 1) (fitsN m k) = fitsN m k by omega]
      rw [List.filter_eq_nil_iff.2 fun f hf => ?_, List.append_nil]
      have := setFits_len hf
      rw [decide_eq_true_eq]
      omega
theorem fitsL_eq {m : List (List Int)} (y : List Int) {k : Int} (hk : 0 ≤ k) (h7 : (nL m 0).length ≤ 7) : fitsL m y k = filtL k (all4 m y) := by
  rw [all4_eq y h7, filt_to m y hk]
  have hN : fitsN m k = (min (min k (nL m 0).length) m.length + 1).toNat := rfl
  unfold fitsL
  rw [show min ((nL m 0).length + 1) (fitsN m k) = fitsN m k by omega]
theorem all4Pre {m : List (List Int)} {y : List Int} (hf : FitM m) (hM : Mk m) (h7 : (nL m 0).length ≤ 7) : All4Pre m y := by
  have h1 := hM.rows1
  refine ⟨by omega, h7, fun s hs => s3Pre hf ?_⟩
  have := ((setsTo_at (n := (nL m 0).length) (k := 128) h7 (Nat.le_refl _)).2 s hs).1
  omega
theorem read_mk {m : List (List Int)} {y : List Int} (h : readE m y = 0) : Mk m := Mk.of (chk_read (pix := []) h).2
theorem f4Pre {m : List (List Int)} {y : List Int} (hf : FitM m) (hl : lightB m = true) : F4Pre m y :=
  ⟨hf, fun h => all4Pre hf (read_mk h) (light_n7 hl (read_mk h))⟩
theorem chk_nil (m : List (List Int)) (y : List Int) : chkE m y [] = readE m y := by
  by_cases h : readE m y = 0
  · rw [(chk_read h).1, h]; rfl
  · exact chk_bad h
theorem fitsPre2 {m : List (List Int)} {y : List Int} {k : Int} (hf : FitM m) (hM : Mk m) (h7 : (nL m 0).length ≤ 7) (h0 : 0 ≤ k) (h1 : k ≤ 10) : FitsPre2 m y k := by
  have r1 := hM.rows1
  have r6 := hM.rows6
  refine ⟨⟨h0, by omega, by omega, by omega, by omega, fun j hj s hs => ?_⟩, ?_⟩
  · have := setsL_mem hs
    exact ⟨solPre (by omega), by omega⟩
  · rw [fitsL_eq y h0 h7]
    have e1 := all4_len (all4Pre (y := y) hf hM h7)
    have e2 : (filtL k (all4 m y)).length ≤ (all4 m y).length := List.length_filter_le _ _
    omega
theorem sprPre {m : List (List Int)} {y : List Int} (hf : FitM m) (hl : lightB m = true) : SprPre m y := by
  refine ⟨fun h => ?_⟩
  rw [chk_nil] at h
  have hM := read_mk h
  exact fitsPre2 hf hM (light_n7 hl hM) (by decide) (by decide)
theorem fitsTo_asc (m : List (List Int)) (y : List Int) : ∀ K, (fitsTo m y K).Pairwise fun f g => f.1.length ≤ g.1.length
  | 0 => List.Pairwise.nil
  | K + 1 => by
    rw [fitsTo, List.pairwise_append]
    refine ⟨fitsTo_asc m y K, ?_, fun f hf g hg => ?_⟩
    · rw [List.pairwise_iff_getElem]
      intro i j hi hj _
      have h1 := setFits_len (List.getElem_mem hi)
      have h2 := setFits_len (List.getElem_mem hj)
      omega
    · have h1 := fitsTo_lt K f hf
      have h2 := setFits_len hg
      omega
theorem tw_filter : ∀ (L : List Fit) (n : Nat), (∀ f ∈ L, n ≤ f.1.length) → (L.Pairwise fun f g => f.1.length ≤ g.1.length) → L.takeWhile (fun f => decide (f.1.length ≤ n)) = L.filter fun f => decide (f.1.length = n)
  | [], n, _, _ => rfl
  | f :: L, n, h1, h2 => by
    have hf := h1 f (by simp)
    rw [List.pairwise_cons] at h2
    by_cases e : f.1.length = n
    · rw [List.takeWhile_cons_of_pos (by simp; omega), List.filter_cons_of_pos (by simp [e]), tw_filter L n (fun g hg => h1 g (by simp [hg])) h2.2]
    · rw [List.takeWhile_cons_of_neg (by simp; omega), List.filter_cons_of_neg (by simp [e])]
      symm
      rw [List.filter_eq_nil_iff]
      intro g hg
      have := h2.1 g hg
      simp; omega
theorem spL_eq {L : List Fit} (h : L.Pairwise fun f g => f.1.length ≤ g.1.length) : spL L = eqL L := by
  unfold spL eqL
  cases L with
  | nil => rfl
  | cons f L =>
    refine tw_filter _ _ (fun g hg => ?_) h
    rw [nF_eq _ 0 (by simp)]
    rcases List.mem_cons.1 hg with rfl | hg
    · exact Nat.le_refl _
    · exact (List.pairwise_cons.1 h).1 g hg
theorem spar_eq {m : List (List Int)} (y : List Int) (hl : lightB m = true) : sparR m y = spar4 m y := by
  unfold sparR spar4
  rw [chk_nil]
  by_cases h : readE m y = 0
  · have hM := read_mk h
    have h7 := light_n7 hl hM
    have e : fitsL m y 10 = all4 m y := by
      rw [fitsL_eq y (by decide) h7, all4_eq y h7]
      unfold filtL
      rw [List.filter_eq_self]
      intro f hf
      have := fitsTo_lt _ f hf
      exact decide_eq_true (by omega)
    have hh : ¬ (readE m y ≠ 0) := fun q => q h
    rw [if_pos h, if_neg hh, e, spL_eq (by rw [all4_eq y h7]; exact fitsTo_asc _ _ _)]
  · rw [if_neg h, if_pos h]
theorem sps_eq {m : List (List Int)} (y : List Int) (hl : lightB m = true) : spsR m y = sps4 m y := by unfold spsR sps4; rw [spar_eq y hl]
theorem siz_eq {m : List (List Int)} (y : List Int) (hl : lightB m = true) : sizR m y = siz4 m y := by unfold sizR siz4; rw [sps_eq y hl]
theorem onl_eq {m : List (List Int)} (y : List Int) (hl : lightB m = true) : onlR m y = onl4 m y := by unfold onlR onl4; rw [spar_eq y hl]
theorem cnt_eq {m : List (List Int)} (y : List Int) (hl : lightB m = true) : cntR m y = cnt4 m y := by unfold cntR cnt4; rw [spar_eq y hl]
end Go.Proofs.Ytdibdlelmkcccaa
