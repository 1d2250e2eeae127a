/- The program's solutions and fits are the reference's: plain mathematics. No condition. -/
import Derived.Test.YtdibdlelmkcccaaW6
set_option linter.unusedVariables false
namespace Go.Proofs.Ytdibdlelmkcccaa
open Go Go.RowKit Eng
theorem q0a {m : List (List Int)} {y pix : List Int} (h : Asked m y pix) : Small m.length pix.length (pix.length + 1) (qc8 m pix y) := by
  have hM := h.msk
  have h6 := hM.rows6
  have hp10 := hM.pix10
  have hpl := h.nam.len
  have hat : ∀ i, i < m.length -> nL (qc8 m pix y) i = qn8 (nL m i) pix ++ [nI y i] := fun i hi => by
    rw [q7w m pix y i hi, q4m m pix i hi]
  have hlo : ∀ i, i < m.length -> ∀ c, c < pix.length -> (nI (nL (qc8 m pix y) i) c).natAbs <= 1 := fun i hi c hc => by
    rw [hat i hi, qv1 _ _ (by rw [ql7]; exact hc), q4h _ _ _ hc]
    have h1 := h.nam.at_ c hc
    have h2 := hM.small i hi (nI pix c).toNat (by omega)
    omega
  refine ⟨⟨q1o m pix y, fun i hi => by rw [hat i hi, List.length_append, ql7]; rfl⟩, h6, by omega, by omega, fun a c ha hc => hlo a ha c hc, fun a c ha hc => ?_⟩
  rcases Nat.lt_or_ge c pix.length with q | q
  · have := hlo a ha c q; omega
  · have e : nI (nL (qc8 m pix y) a) c = nI y a := by
      rw [hat a ha, show c = (qn8 (nL m a) pix).length by rw [ql7]; omega, q2x]
    have := h.at_ a ha
    rw [e]
    omega
theorem w99 (m : List (List Int)) (pix y : List Int) : qx4 m pix y = qt9 m pix y := by
  unfold qx4 qt9
  split
  · rename_i h
    have hA := Asked.of h
    have hS := q0a hA
    have hW : rdW (qc8 m pix y) = pix.length + 1 := hS.each 0 (by have := hA.msk.rows1; omega)
    unfold svT svR svP svD qd2 qn6
    rw [hW]
    exact (xk1 hS.toMat).symm
  · rfl
theorem wk7 (m : List (List Int)) (y pix : List Int) : qx5 m y pix = qq3 m y pix := by
  unfold qx5 qq3 xc5 w0q
  rw [w99]
theorem w42 {m : List (List Int)} {pix y : List Int} (hl : pix.length <= 100000) : qp9 m pix y := by
  refine ⟨by omega, fun h => ?_⟩
  have hA := Asked.of h
  have hS := q0a hA
  refine ⟨q6j hS, ?_⟩
  have hst := q0x hS.toMat pix.length (by omega)
  have hpl := hst.pl
  have hlen := hst.len
  have hB : BIG = 4000000000000000000 := rfl
  refine ⟨fun k hk => ?_, fun k hk => ?_, fun k hk => ?_⟩
  · have := (hst.pos k hk).2.2.1
    show nI (nL (qd3 (qc8 m pix y) pix.length).1 k) (nI (qd3 (qc8 m pix y) pix.length).2 k).toNat ≠ 0
    omega
  · have hk : k < (qd3 (qc8 m pix y) pix.length).2.length := hk
    have h1 := hst.pos k hk
    have := (hst.small hS (Nat.le_refl _) (i := k) (by omega)).2 (nI (qd3 (qc8 m pix y) pix.length).2 k).toNat (by omega)
    show qh4 BIG (nI (nL (qd3 (qc8 m pix y) pix.length).1 k) (nI (qd3 (qc8 m pix y) pix.length).2 k).toNat)
    constructor <;> omega
  · have hk : k < (qd3 (qc8 m pix y) pix.length).2.length := hk
    have := (hst.small hS (Nat.le_refl _) (i := k) (by omega)).2 pix.length (by omega)
    show qh4 BIG (nI (nL (qd3 (qc8 m pix y) pix.length).1 k) pix.length)
    constructor <;> omega
theorem xa1 {m : List (List Int)} {pix y : List Int} (hf : q3v m) (hl : pix.length <= 100000) : q1p m pix y := by
  refine ⟨hf, hl, fun h => ?_⟩
  have hA := Asked.of h
  have hS := q0a hA
  have hM := hA.msk
  have h1 := hM.rows1
  have h6 := hM.rows6
  have hp10 := hM.pix10
  have hpl := hA.nam.len
  have hW : rdW (qc8 m pix y) = pix.length + 1 := hS.each 0 (by omega)
  obtain ⟨r1, r2⟩ := w7m hS (by omega)
  have hrst := q2y hS.toMat (pix.length + 1) (Nat.le_refl _)
  have hB : BIG = 4000000000000000000 := rfl
  have e1 : svD m pix y = (ql1 (qc8 m pix y) (pix.length + 1)).done_ := by unfold svD qd2; rw [hW]
  have e2 : svP m pix y = (ql1 (qc8 m pix y) (pix.length + 1)).piv := by unfold svP qd2; rw [hW]
  refine ⟨by omega, ⟨by omega, by omega, fun i hi j hj => ?_⟩, by omega, hA.len, r1, ?_⟩
  · have := hA.nam.at_ j hj
    rw [hM.each i hi]; exact this
  · rw [e1, e2]
    obtain ⟨hst, hcnt, _⟩ := hrst
    have hlen := hst.len
    have hpl2 := hst.pl
    rw [List.length_append] at hlen
    have hD : ∀ i, i < (ql1 (qc8 m pix y) (pix.length + 1)).piv.length -> nL ((ql1 (qc8 m pix y) (pix.length + 1)).done_ ++ (ql1 (qc8 m pix y) (pix.length + 1)).left) i = nL (ql1 (qc8 m pix y) (pix.length + 1)).done_ i := fun i hi => qm0 _ _ (by omega)
    refine ⟨hcnt, by omega, fun k hk => ?_, fun k hk => ?_, fun k hk => ?_, fun k hk => ?_, fun k hk => ?_⟩
    · rw [<- hD k (by omega)]; exact hst.each k (by omega)
    · have := hst.pos k hk; omega
    · have := (hst.pos k hk).2.2.1
      rw [hD k hk] at this
      omega
    · have := hst.pos k hk
      have := r2 k (by omega) (nI (ql1 (qc8 m pix y) (pix.length + 1)).piv k).toNat (by omega)
      constructor <;> omega
    · have := r2 k (by omega) pix.length (by omega)
      constructor <;> omega
structure w0t (m : List (List Int)) (y pix : List Int) : Prop where
  chk : qm8 m y pix = 0
  rows : pix.length <= m.length
  fst : (qq3 m y pix).1.1 = pix
  len : (qq3 m y pix).1.2.length = pix.length
theorem wt4 {m : List (List Int)} {y pix : List Int} (h : (qq3 m y pix).2 = true) : w0t m y pix := by
  unfold qq3 at h
  split at h
  · cases h
  · rename_i hno
    have h0 : (qt9 m pix y).2 = 0 := Classical.byContradiction fun q => hno (.inl q)
    have ef : qq3 m y pix = ((pix, (qt9 m pix y).1), true) := by unfold qq3; rw [if_neg hno]
    rw [show w0t m y pix ↔ w0t m y pix from Iff.rfl]
    have hc : qm8 m y pix = 0 := Classical.byContradiction fun q => by
      unfold qt9 at h0
      rw [if_neg q] at h0
      exact q h0
    have hA := Asked.of hc
    have hS := q0a hA
    have hst := q0x hS.toMat pix.length (by omega)
    have hpl := hst.pl
    have es : qt9 m pix y = wz7 (qd3 (qc8 m pix y) pix.length).1 (qd3 (qc8 m pix y) pix.length).2 pix.length := by unfold qt9; rw [if_pos hc]; rfl
    have hle : (qd3 (qc8 m pix y) pix.length).2.length <= pix.length := (⟨fun q hq => ⟨(hst.pos q hq).1, (hst.pos q hq).2.1⟩, hst.asc⟩ : Asc pix.length _).le
    rw [es] at h0
    unfold wz7 at h0
    split at h0
    · cases h0
    · rename_i hn
      split at h0
      · cases h0
      · rename_i hl
        refine ⟨hc, by omega, by rw [ef], ?_⟩
        rw [ef]
        show (qt9 m pix y).1.length = _
        rw [es]
        unfold wz7
        rw [if_neg hn, if_neg hl]
        show (List.map _ (List.range _)).length = _
        rw [List.length_map, List.length_range]
        omega
theorem xs8 {m : List (List Int)} {y pix : List Int} (h : w0t m y pix) : xj1 (nL m 0).length (qq3 m y pix).1 := by
  have hA := Asked.of h.chk
  have h6 := hA.msk.rows6
  have hr := h.rows
  refine ⟨by rw [h.len, h.fst], by rw [h.fst]; omega, fun j hj => ?_⟩
  rw [h.fst] at hj ⊢
  exact hA.nam.at_ j hj
theorem w7n : ((List.range 8).all fun n => decide (qj3 n = (List.range (n + 1)).flatMap fun (k : Nat) => qe8 (n : Nat) (k : Nat))) = true := by decide +kernel
theorem xa2 {n : Nat} (h : n <= 7) : qj3 n = (List.range (n + 1)).flatMap fun (k : Nat) => qe8 (n : Nat) (k : Nat) := by
  have := List.all_eq_true.1 w7n n (List.mem_range.2 (by omega))
  exact of_decide_eq_true this
theorem wf4 {n k : Nat} {s : List Int} (h : s ∈ qe8 (n : Nat) (k : Nat)) : s.length = k /\ k <= n := by
  unfold qe8 at h
  split at h
  · have := wc5 h
    exact ⟨by omega, by omega⟩
  · cases h
theorem wk8 (m : List (List Int)) (y : List Int) (s t : List (List Int)) : qg4 m y (s ++ t) = qg4 m y s ++ qg4 m y t := List.filterMap_append
theorem wk9 (m : List (List Int)) (y : List Int) (s : List (List Int)) : qi6 m y s = qg4 m y s := by
  unfold qi6 qg4
  congr 1
  funext pix
  rw [wk7]
theorem wf5 (m : List (List Int)) (y : List Int) : ∀ K, qi0 m y K = qg4 m y ((List.range K).flatMap fun (k : Nat) => qe8 (nL m 0).length (k : Nat))
  | 0 => rfl
  | K + 1 => by
    rw [qi0, wf5 m y K, List.range_succ, List.flatMap_append, wk8]
    simp
theorem xa3 {m : List (List Int)} (y : List Int) (h : (nL m 0).length <= 7) : qv4 m y = qi0 m y ((nL m 0).length + 1) := by
  unfold qv4
  rw [wk9, xa2 h, wf5]
theorem q6l {m : List (List Int)} {y : List Int} {s : List (List Int)} {f : Fit} (h : f ∈ qg4 m y s) : ∃ pix ∈ s, w0t m y pix /\ f = (qq3 m y pix).1 := by
  unfold qg4 at h
  rw [List.mem_filterMap] at h
  obtain ⟨pix, h1, h2⟩ := h
  split at h2
  · rename_i h3
    exact ⟨pix, h1, wt4 h3, (Option.some.inj h2).symm⟩
  · cases h2
theorem q6m {m : List (List Int)} {y : List Int} {k : Nat} {f : Fit} (h : f ∈ qg4 m y (qe8 (nL m 0).length (k : Nat))) : f.1.length = k /\ k <= m.length /\ k <= (nL m 0).length := by
  obtain ⟨pix, h1, h2, rfl⟩ := q6l h
  have h3 := wf4 h1
  have h4 := h2.rows
  rw [h2.fst]
  omega
theorem w43 (m : List (List Int)) (y : List Int) {k : Int} (hk : 0 <= k) : ∀ K, qv0 k (qi0 m y K) = qi0 m y (min K (fitsN m k))
  | 0 => by rw [Nat.zero_min]; rfl
  | K + 1 => by
    have hN : fitsN m k = (min (min k (nL m 0).length) m.length + 1).toNat := rfl
    rw [qi0]
    unfold qv0
    rw [List.filter_append]
    have ih := w43 m y hk K
    unfold qv0 at ih
    rw [ih]
    by_cases e : K < fitsN m k
    · rw [show min K (fitsN m k) = K by omega, show min (K + 1) (fitsN m k) = K + 1 by omega, qi0]
      congr 1
      rw [List.filter_eq_self]
      intro f hf
      have := q6m hf
      exact decide_eq_true (by omega)
    · rw [show min K (fitsN m k) = fitsN m k by omega, show min (K + 1) (fitsN m k) = fitsN m k by omega]
      rw [List.filter_eq_nil_iff.2 fun f hf => ?_, List.append_nil]
      have := q6m hf
      rw [decide_eq_true_eq]
      omega
theorem wt5 {m : List (List Int)} (y : List Int) {k : Int} (hk : 0 <= k) (h7 : (nL m 0).length <= 7) : qg7 m y k = qv0 k (qv4 m y) := by
  rw [xa3 y h7, w43 m y hk]
  have hN : fitsN m k = (min (min k (nL m 0).length) m.length + 1).toNat := rfl
  unfold qg7
  rw [show min ((nL m 0).length + 1) (fitsN m k) = fitsN m k by omega]
theorem w44 {m : List (List Int)} {y : List Int} (hf : q3v m) (hM : Mk m) (h7 : (nL m 0).length <= 7) : q3k m y := by
  have h1 := hM.rows1
  refine ⟨by omega, h7, fun s hs => xa1 hf ?_⟩
  have := ((q2u (n := (nL m 0).length) (k := 128) h7 (Nat.le_refl _)).2 s hs).1
  omega
theorem q3l {m : List (List Int)} {y : List Int} (h : ql6 m y = 0) : Mk m := Mk.of (q4n (pix := []) h).2
theorem xs9 {m : List (List Int)} {y : List Int} (hf : q3v m) (hl : qs4 m = true) : w7i m y :=
  ⟨hf, fun h => w44 hf (q3l h) (q2v hl (q3l h))⟩
theorem wl0 (m : List (List Int)) (y : List Int) : qm8 m y [] = ql6 m y := by
  by_cases h : ql6 m y = 0
  · rw [(q4n h).1, h]; rfl
  · exact wk4 h
theorem q9h {m : List (List Int)} {y : List Int} {k : Int} (hf : q3v m) (hM : Mk m) (h7 : (nL m 0).length <= 7) (h0 : 0 <= k) (h1 : k <= 10) : qn5 m y k := by
  have r1 := hM.rows1
  have r6 := hM.rows6
  refine ⟨⟨h0, by omega, by omega, by omega, by omega, fun j hj s hs => ?_⟩, ?_⟩
  · have := wf4 hs
    exact ⟨w42 (by omega), by omega⟩
  · rw [wt5 y h0 h7]
    have e1 := ws5 (w44 (y := y) hf hM h7)
    have e2 : (qv0 k (qv4 m y)).length <= (qv4 m y).length := List.length_filter_le _ _
    omega
theorem xk2 {m : List (List Int)} {y : List Int} (hf : q3v m) (hl : qs4 m = true) : q6f m y := by
  refine ⟨fun h => ?_⟩
  rw [wl0] at h
  have hM := q3l h
  exact q9h hf hM (q2v hl hM) (by decide) (by decide)
theorem xa4 {m : List (List Int)} (y : List Int) (k : Int) (hl : qs4 m = true) : q00 m y k = q1q m y k := by
  unfold q00 q1q q9q
  rw [wl0]
  by_cases h : ql6 m y = 0
  · have hh : ¬ (ql6 m y ≠ 0) := fun q => q h
    rw [if_neg hh, if_pos h]
    by_cases hk : inB k 0 10 = true
    · have h7 := q2v hl (q3l h)
      rw [if_pos hk, if_pos rfl, if_neg (by rw [hk]; decide), wt5 y (qt6.1 hk).1 h7]
    · have hk2 : inB k 0 10 = false := by simpa using hk
      rw [if_neg hk, if_pos hk2]
      rfl
  · rw [if_neg h, if_pos h, if_neg h]
theorem xk3 (m : List (List Int)) (y pix : List Int) : wr6 m y pix = wk5 m y pix := by
  unfold wr6 wk5
  rw [wk7]
end Go.Proofs.Ytdibdlelmkcccaa
