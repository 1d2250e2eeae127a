/- The program's solutions and fits are the reference's: plain mathematics. No condition. -/
import Derived.Test.YtdibdlelmkcccaaW6
set_option linter.unusedVariables false
namespace Go.Proofs.Ytdibdlelmkcccaa
open Go Go.RowKit Eng
theorem qm9 {m : List (List Int)} {y pix : List Int} (h : Asked m y pix) : Small m.length pix.length (pix.length + 1) (qa7 m pix y) := by
  have hM := h.msk
  have h6 := hM.rows6
  have hp10 := hM.pix10
  have hpl := h.nam.len
  have hat : ∀ i, i < m.length → nL (qa7 m pix y) i = qf4 (nL m i) pix ++ [nI y i] := fun i hi => by
    rw [qu3 m pix y i hi, qo9 m pix i hi]
  have hlo : ∀ i, i < m.length → ∀ c, c < pix.length → (nI (nL (qa7 m pix y) i) c).natAbs ≤ 1 := fun i hi c hc => by
    rw [hat i hi, qi5 _ _ (by rw [qe7]; exact hc), qo5 _ _ _ hc]
    have h1 := h.nam.at_ c hc
    have h2 := hM.small i hi (nI pix c).toNat (by omega)
    omega
  refine ⟨⟨ql3 m pix y, fun i hi => by rw [hat i hi, List.length_append, qe7]; rfl⟩, h6, by omega, by omega, fun a c ha hc => hlo a ha c hc, fun a c ha hc => ?_⟩
  rcases Nat.lt_or_ge c pix.length with q | q
  · have := hlo a ha c q; omega
  · have e : nI (nL (qa7 m pix y) a) c = nI y a := by
      rw [hat a ha, show c = (qf4 (nL m a) pix).length by rw [qe7]; omega, qm6]
    have := h.at_ a ha
    rw [e]
    omega
theorem slR3_eq (m : List (List Int)) (pix y : List Int) : slR3 m pix y = solL m pix y := by
  unfold slR3 solL
  split
  · rename_i h
    have hA := Asked.of h
    have hS := qm9 hA
    have hW : rdW (qa7 m pix y) = pix.length + 1 := hS.each 0 (by have := hA.msk.rows1; omega)
    unfold svT svR svP svD qa9 solR
    rw [hW]
    exact (sol_eq hS.toMat).symm
  · rfl
theorem fit4_eq (m : List (List Int)) (y pix : List Int) : fit4 m y pix = fitR m y pix := by
  unfold fit4 fitR fitG q2u
  rw [slR3_eq]
theorem solPre {m : List (List Int)} {pix y : List Int} (hl : pix.length ≤ 100000) : qm2 m pix y := by
  refine ⟨by omega, fun h => ?_⟩
  have hA := Asked.of h
  have hS := qm9 hA
  refine ⟨qs2 hS, ?_⟩
  have hst := qm7 hS.toMat pix.length (by omega)
  have hpl := hst.pl
  have hlen := hst.len
  have hB : BIG = 4000000000000000000 := rfl
  refine ⟨fun k hk => ?_, fun k hk => ?_, fun k hk => ?_⟩
  · have := (hst.pos k hk).2.2.1
    show nI (nL (qb4 (qa7 m pix y) pix.length).1 k) (nI (qb4 (qa7 m pix y) pix.length).2 k).toNat ≠ 0
    omega
  · have hk : k < (qb4 (qa7 m pix y) pix.length).2.length := hk
    have h1 := hst.pos k hk
    have := (hst.small hS (Nat.le_refl _) (i := k) (by omega)).2 (nI (qb4 (qa7 m pix y) pix.length).2 k).toNat (by omega)
    show qd1 BIG (nI (nL (qb4 (qa7 m pix y) pix.length).1 k) (nI (qb4 (qa7 m pix y) pix.length).2 k).toNat)
    constructor <;> omega
  · have hk : k < (qb4 (qa7 m pix y) pix.length).2.length := hk
    have := (hst.small hS (Nat.le_refl _) (i := k) (by omega)).2 pix.length (by omega)
    show qd1 BIG (nI (nL (qb4 (qa7 m pix y) pix.length).1 k) pix.length)
    constructor <;> omega
theorem s3Pre {m : List (List Int)} {pix y : List Int} (hf : FitM m) (hl : pix.length ≤ 100000) : qw4 m pix y := by
  refine ⟨hf, hl, fun h => ?_⟩
  have hA := Asked.of h
  have hS := qm9 hA
  have hM := hA.msk
  have h1 := hM.rows1
  have h6 := hM.rows6
  have hp10 := hM.pix10
  have hpl := hA.nam.len
  have hW : rdW (qa7 m pix y) = pix.length + 1 := hS.each 0 (by omega)
  obtain ⟨r1, r2⟩ := q51 hS (by omega)
  have hrst := qm8 hS.toMat (pix.length + 1) (Nat.le_refl _)
  have hB : BIG = 4000000000000000000 := rfl
  have e1 : svD m pix y = (rdTo (qa7 m pix y) (pix.length + 1)).done_ := by unfold svD qa9; rw [hW]
  have e2 : svP m pix y = (rdTo (qa7 m pix y) (pix.length + 1)).piv := by unfold svP qa9; rw [hW]
  refine ⟨by omega, ⟨by omega, by omega, fun i hi j hj => ?_⟩, by omega, hA.len, r1, ?_⟩
  · have := hA.nam.at_ j hj
    rw [hM.each i hi]; exact this
  · rw [e1, e2]
    obtain ⟨hst, hcnt, _⟩ := hrst
    have hlen := hst.len
    have hpl2 := hst.pl
    rw [List.length_append] at hlen
    have hD : ∀ i, i < (rdTo (qa7 m pix y) (pix.length + 1)).piv.length → nL ((rdTo (qa7 m pix y) (pix.length + 1)).done_ ++ (rdTo (qa7 m pix y) (pix.length + 1)).left) i = nL (rdTo (qa7 m pix y) (pix.length + 1)).done_ i := fun i hi => qf0 _ _ (by omega)
    refine ⟨hcnt, by omega, fun k hk => ?_, fun k hk => ?_, fun k hk => ?_, fun k hk => ?_, fun k hk => ?_⟩
    · rw [← hD k (by omega)]; exact hst.each k (by omega)
    · have := hst.pos k hk; omega
    · have := (hst.pos k hk).2.2.1
      rw [hD k hk] at this
      omega
    · have := hst.pos k hk
      have := r2 k (by omega) (nI (rdTo (qa7 m pix y) (pix.length + 1)).piv k).toNat (by omega)
      constructor <;> omega
    · have := r2 k (by omega) pix.length (by omega)
      constructor <;> omega
structure q2x (m : List (List Int)) (y pix : List Int) : Prop where
  chk : chkE m y pix = 0
  rows : pix.length ≤ m.length
  fst : (fitR m y pix).1.1 = pix
  len : (fitR m y pix).1.2.length = pix.length
theorem fit_is {m : List (List Int)} {y pix : List Int} (h : (fitR m y pix).2 = true) : q2x m y pix := by
  unfold fitR at h
  split at h
  · cases h
  · rename_i hno
    have h0 : (solL m pix y).2 = 0 := Classical.byContradiction fun q => hno (.inl q)
    have ef : fitR m y pix = ((pix, (solL m pix y).1), true) := by unfold fitR; rw [if_neg hno]
    rw [show q2x m y pix ↔ q2x m y pix from Iff.rfl]
    have hc : chkE m y pix = 0 := Classical.byContradiction fun q => by
      unfold solL at h0
      rw [if_neg q] at h0
      exact q h0
    have hA := Asked.of hc
    have hS := qm9 hA
    have hst := qm7 hS.toMat pix.length (by omega)
    have hpl := hst.pl
    have es : solL m pix y = solT (qb4 (qa7 m pix y) pix.length).1 (qb4 (qa7 m pix y) pix.length).2 pix.length := by unfold solL; rw [if_pos hc]; rfl
    have hle : (qb4 (qa7 m pix y) pix.length).2.length ≤ pix.length := (⟨fun q hq => ⟨(hst.pos q hq).1, (hst.pos q hq).2.1⟩, hst.asc⟩ : Asc pix.length _).le
    rw [es] at h0
    unfold solT at h0
    split at h0
    · cases h0
    · rename_i hn
      split at h0
      · cases h0
      · rename_i hl
        refine ⟨hc, by omega, by rw [ef], ?_⟩
        rw [ef]
        show (solL m pix y).1.length = _
        rw [es]
        unfold solT
        rw [if_neg hn, if_neg hl]
        show (List.map _ (List.range _)).length = _
        rw [List.length_map, List.length_range]
        omega
theorem fitIn {m : List (List Int)} {y pix : List Int} (h : q2x m y pix) : q5q (nL m 0).length (fitR m y pix).1 := by
  have hA := Asked.of h.chk
  have h6 := hA.msk.rows6
  have hr := h.rows
  refine ⟨by rw [h.len, h.fst], by rw [h.fst]; omega, fun j hj => ?_⟩
  rw [h.fst] at hj ⊢
  exact hA.nam.at_ j hj
theorem q52 : ((List.range 8).all fun n => decide (qe2 n = (List.range (n + 1)).flatMap fun (k : Nat) => qb9 (n : Nat) (k : Nat))) = true := by decide +kernel
theorem sets_eq {n : Nat} (h : n ≤ 7) : qe2 n = (List.range (n + 1)).flatMap fun (k : Nat) => qb9 (n : Nat) (k : Nat) := by
  have := List.all_eq_true.1 q52 n (List.mem_range.2 (by omega))
  exact of_decide_eq_true this
theorem qz7 {n k : Nat} {s : List Int} (h : s ∈ qb9 (n : Nat) (k : Nat)) : s.length = k ∧ k ≤ n := by
  unfold qb9 at h
  split at h
  · have := qy1 h
    exact ⟨by omega, by omega⟩
  · cases h
theorem q0v (m : List (List Int)) (y : List Int) (s t : List (List Int)) : qd0 m y (s ++ t) = qd0 m y s ++ qd0 m y t := List.filterMap_append
theorem q0w (m : List (List Int)) (y : List Int) (s : List (List Int)) : qd9 m y s = qd0 m y s := by
  unfold qd9 qd0
  congr 1
  funext pix
  rw [fit4_eq]
theorem qz8 (m : List (List Int)) (y : List Int) : ∀ K, qd5 m y K = qd0 m y ((List.range K).flatMap fun (k : Nat) => qb9 (nL m 0).length (k : Nat))
  | 0 => rfl
  | K + 1 => by
    rw [qd5, qz8 m y K, List.range_succ, List.flatMap_append, q0v]
    simp
theorem all4_eq {m : List (List Int)} (y : List Int) (h : (nL m 0).length ≤ 7) : all4 m y = qd5 m y ((nL m 0).length + 1) := by
  unfold all4
  rw [q0w, sets_eq h, qz8]
theorem qs4 {m : List (List Int)} {y : List Int} {s : List (List Int)} {f : Fit} (h : f ∈ qd0 m y s) : ∃ pix ∈ s, q2x m y pix ∧ f = (fitR m y pix).1 := by
  unfold qd0 at h
  rw [List.mem_filterMap] at h
  obtain ⟨pix, h1, h2⟩ := h
  split at h2
  · rename_i h3
    exact ⟨pix, h1, fit_is h3, (Option.some.inj h2).symm⟩
  · cases h2
theorem qs5 {m : List (List Int)} {y : List Int} {k : Nat} {f : Fit} (h : f ∈ qd0 m y (qb9 (nL m 0).length (k : Nat))) : f.1.length = k ∧ k ≤ m.length ∧ k ≤ (nL m 0).length := by
  obtain ⟨pix, h1, h2, rfl⟩ := qs4 h
  have h3 := qz7 h1
  have h4 := h2.rows
  rw [h2.fst]
  omega
theorem q4w (m : List (List Int)) (y : List Int) {k : Int} (hk : 0 ≤ k) : ∀ K, qi1 k (qd5 m y K) = qd5 m y (min K (fitsN m k))
  | 0 => by rw [Nat.zero_min]; rfl
  | K + 1 => by
    have hN : fitsN m k = (min (min k (nL m 0).length) m.length + 1).toNat := rfl
    rw [qd5]
    unfold qi1
    rw [List.filter_append]
    have ih := q4w m y hk K
    unfold qi1 at ih
    rw [ih]
    by_cases e : K < fitsN m k
    · rw [show min K (fitsN m k) = K by omega, show min (K + 1) (fitsN m k) = K + 1 by omega, qd5]
      congr 1
      rw [List.filter_eq_self]
      intro f hf
      have := qs5 hf
      exact decide_eq_true (by omega)
    · rw [show min K (fitsN m k) = fitsN m k by omega, show min (K + 1) (fitsN m k) = fitsN m k by omega]
      rw [List.filter_eq_nil_iff.2 fun f hf => ?_, List.append_nil]
      have := qs5 hf
      rw [decide_eq_true_eq]
      omega
theorem qw9 {m : List (List Int)} (y : List Int) {k : Int} (hk : 0 ≤ k) (h7 : (nL m 0).length ≤ 7) : qc7 m y k = qi1 k (all4 m y) := by
  rw [all4_eq y h7, q4w m y hk]
  have hN : fitsN m k = (min (min k (nL m 0).length) m.length + 1).toNat := rfl
  unfold qc7
  rw [show min ((nL m 0).length + 1) (fitsN m k) = fitsN m k by omega]
theorem q0x {m : List (List Int)} {y : List Int} (hf : FitM m) (hM : Mk m) (h7 : (nL m 0).length ≤ 7) : qn4 m y := by
  have h1 := hM.rows1
  refine ⟨by omega, h7, fun s hs => s3Pre hf ?_⟩
  have := ((qm3 (n := (nL m 0).length) (k := 128) h7 (Nat.le_refl _)).2 s hs).1
  omega
theorem qj8 {m : List (List Int)} {y : List Int} (h : qg6 m y = 0) : Mk m := Mk.of (qw5 (pix := []) h).2
theorem f4Pre {m : List (List Int)} {y : List Int} (hf : FitM m) (hl : qg0 m = true) : q4m m y :=
  ⟨hf, fun h => q0x hf (qj8 h) (qk7 hl (qj8 h))⟩
theorem q0y (m : List (List Int)) (y : List Int) : chkE m y [] = qg6 m y := by
  by_cases h : qg6 m y = 0
  · rw [(qw5 h).1, h]; rfl
  · exact chk_bad h
theorem qx0 {m : List (List Int)} {y : List Int} {k : Int} (hf : FitM m) (hM : Mk m) (h7 : (nL m 0).length ≤ 7) (h0 : 0 ≤ k) (h1 : k ≤ 10) : qw3 m y k := by
  have r1 := hM.rows1
  have r6 := hM.rows6
  refine ⟨⟨h0, by omega, by omega, by omega, by omega, fun j hj s hs => ?_⟩, ?_⟩
  · have := qz7 hs
    exact ⟨solPre (by omega), by omega⟩
  · rw [qw9 y h0 h7]
    have e1 := qw7 (q0x (y := y) hf hM h7)
    have e2 : (qi1 k (all4 m y)).length ≤ (all4 m y).length := List.length_filter_le _ _
    omega
theorem sprPre {m : List (List Int)} {y : List Int} (hf : FitM m) (hl : qg0 m = true) : qr6 m y := by
  refine ⟨fun h => ?_⟩
  rw [q0y] at h
  have hM := qj8 h
  exact qx0 hf hM (qk7 hl hM) (by decide) (by decide)
theorem q00 {m : List (List Int)} (y : List Int) (k : Int) (hl : qg0 m = true) : q4c m y k = qb3 m y k := by
  unfold q4c qb3 cntE
  rw [q0y]
  by_cases h : qg6 m y = 0
  · have hh : ¬ (qg6 m y ≠ 0) := fun q => q h
    rw [if_neg hh, if_pos h]
    by_cases hk : inB k 0 10 = true
    · have h7 := qk7 hl (qj8 h)
      rw [if_pos hk, if_pos rfl, if_neg (by rw [hk]; decide), qw9 y (qh8.1 hk).1 h7]
    · have hk2 : inB k 0 10 = false := by simpa using hk
      rw [if_neg hk, if_pos hk2]
      rfl
  · rw [if_neg h, if_pos h, if_neg h]
end Go.Proofs.Ytdibdlelmkcccaa
