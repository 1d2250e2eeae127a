/- Both eliminations, and what they need: plain mathematics. No condition. -/
import Derived.Test.YtdibdlelmkcccaaW3
set_option linter.unusedVariables false
namespace Go.Proofs.Ytdibdlelmkcccaa
open Go Go.RowKit Eng
theorem q6g (l : List Int) {c : Nat} (h : l.length <= c) : nI l c = 0 := by
  unfold nI qa1
  simp [List.getElem?_eq_none h]
  rfl
theorem w4t {l : List Int} {f : Int -> Int} {c : Nat} (h : c < l.length) : nI (l.map f) c = f (nI l c) := by
  rw [qi1 _ _ (by simpa using h), qi1 _ _ h, List.getElem_map]
theorem w4u {l : List Int} {c : Nat} (h : c < l.length) : nI l c ∈ l := by rw [qi1 _ _ h]; exact List.getElem_mem h
theorem ws8 {l : List Int} {x : Int} (h : x ∈ l) : ∃ c, c < l.length /\ x = nI l c := by
  obtain ⟨c, hc, rfl⟩ := List.mem_iff_getElem.1 h
  exact ⟨c, hc, (qi1 l c hc).symm⟩
theorem w4v (a b : Int) : (qf4 a b).natAbs = Nat.gcd a.natAbs b.natAbs := rfl
theorem xl5 : ∀ (l : List Int) (a : Int), (l.foldl qf4 a).natAbs ∣ a.natAbs /\ (∀ x ∈ l, (l.foldl qf4 a).natAbs ∣ x.natAbs) /\ ∀ d : Nat, d ∣ a.natAbs -> (∀ x ∈ l, d ∣ x.natAbs) -> d ∣ (l.foldl qf4 a).natAbs
  | [], a => ⟨Nat.dvd_refl _, fun x hx => (by cases hx), fun d h _ => h⟩
  | y :: l, a => by
    obtain ⟨h1, h2, h3⟩ := xl5 l (qf4 a y)
    rw [List.foldl_cons]
    rw [w4v] at h1 h3
    refine ⟨Nat.dvd_trans h1 (Nat.gcd_dvd_left _ _), fun x hx => ?_, fun d ha hx => h3 d (Nat.dvd_gcd ha (hx y (by simp))) fun x hx' => hx x (by simp [hx'])⟩
    rcases List.mem_cons.1 hx with rfl | hx
    · exact Nat.dvd_trans h1 (Nat.gcd_dvd_right _ _)
    · exact h2 x hx
theorem q6h : ∀ (l : List Int) (a : Int), 0 <= a -> 0 <= l.foldl qf4 a
  | [], a, h => h
  | y :: l, a, _ => q6h l _ (q5k _ _)
theorem q1s (l : List Int) : 0 <= gcdL l := q6h l 0 (by decide)
theorem we6 (l : List Int) : qe2 l = qj1 l := by
  have h0 := q1s l
  unfold qe2 qj1
  split
  · rename_i h
    rw [show max (gcdL l) 1 = gcdL l by omega]
  · rename_i h
    rw [show max (gcdL l) 1 = 1 by omega]
    simp
theorem qz9 (l : List Int) {c : Nat} (hc : c < l.length) : max (gcdL l) 1 * nI (qj1 l) c = nI l c := by
  have h0 := q1s l
  unfold qj1
  rw [w4t hc]
  apply Int.mul_tdiv_cancel'
  rcases Int.lt_or_le 0 (gcdL l) with h | h
  · rw [show max (gcdL l) 1 = gcdL l by omega]
    exact Int.natAbs_dvd_natAbs.1 ((xl5 l 0).2.1 _ (w4u hc))
  · rw [show max (gcdL l) 1 = 1 by omega]
    exact Int.one_dvd _
def Prim (l : List Int) : Prop := (∀ c, c < l.length -> nI l c = 0) \/ ∀ d : Nat, (∀ c, c < l.length -> d ∣ (nI l c).natAbs) -> d = 1
theorem q0w (l : List Int) : Prim (qj1 l) := by
  have h0 := q1s l
  unfold Prim
  rw [qs3]
  rcases Int.lt_or_le 0 (gcdL l) with h | h
  · refine .inr fun d hd => ?_
    have hm : max (gcdL l) 1 = gcdL l := by omega
    have h1 : (gcdL l).natAbs * d ∣ (gcdL l).natAbs := (xl5 l 0).2.2 _ (Nat.dvd_zero _) fun x hx => by
      obtain ⟨c, hc, rfl⟩ := ws8 hx
      rw [<- qz9 l hc, hm, Int.natAbs_mul]
      exact Nat.mul_dvd_mul_left _ (hd c hc)
    have h2 : (gcdL l).natAbs * d ∣ (gcdL l).natAbs * 1 := by rw [Nat.mul_one]; exact h1
    exact Nat.dvd_one.1 (Nat.dvd_of_mul_dvd_mul_left (by omega) h2)
  · refine .inl fun c hc => ?_
    have h1 : nI l c = 0 := by
      have := (xl5 l 0).2.1 _ (w4u hc)
      have e : (l.foldl qf4 0).natAbs = 0 := by
        have : gcdL l = 0 := by omega
        unfold gcdL at this; rw [this]; rfl
      rw [e] at this
      have := Nat.eq_zero_of_zero_dvd this
      omega
    have := qz9 l hc
    rw [h1, show max (gcdL l) 1 = 1 by omega, Int.one_mul] at this
    exact this
theorem Prim.nice {l : List Int} {W : Nat} (h : Prim l) (hl : l.length = W) (f : Nat -> Int) : xj9 W f (nI l) := by
  subst hl
  exact .inr (h.imp id id)
theorem w7j (l : List Int) (c : Nat) : (nI (qj1 l) c).natAbs <= (nI l c).natAbs := by
  rcases Nat.lt_or_ge c l.length with h | h
  · unfold qj1
    rw [w4t h, Int.natAbs_tdiv]; exact Nat.div_le_self _ _
  · rw [q6g _ (by rw [qs3]; exact h)]; simp
theorem w8e {W j : Nat} {u r p : List Int} {β γ : Int} (hj : j < W) (hu : u.length = W) (h0 : nI u j = 0) (hβ : 0 < β) (h : ∀ c, c < W -> nI u c = β * nI r c - γ * nI p c) : Elm W j (qj1 u) r p := by
  subst hu
  have hG : 0 < max (gcdL u) 1 := by omega
  refine ⟨?_, ⟨max (gcdL u) 1, β, γ, hG, hβ, fun c hc => by rw [qz9 u hc]; exact h c hc⟩, fun f _ => (q0w u).nice (qs3 u) f⟩
  have := qz9 u hj
  rw [h0] at this
  exact qf2 this (by omega)
theorem w7k {W j : Nat} {r p : List Int} (h0 : nI r j = 0) : Elm W j r r p := ⟨h0, ⟨1, 1, 0, by decide, by decide, fun c _ => by simp⟩, fun _ h => h⟩
theorem we7 (r b : List Int) (j : Nat) {c : Nat} (hc : c < r.length) : nI (q3u r b j) c = w9l r b j c := by
  rw [qi1 _ _ (by rw [q0m]; exact hc)]
  simp [q3u]
theorem w4w {W j : Nat} {r p : List Int} (hj : j < W) (hr : r.length = W) (hp : 0 < nI p j) : Elm W j (qu6 r p j) r p := by
  have hg : 0 < qf4 (nI r j) (nI p j) := qq9 (.inr (by omega))
  have e1 : qf4 (nI r j) (nI p j) * q1 r p j = nI p j := Int.mul_tdiv_cancel' (Int.natAbs_dvd_natAbs.1 (Nat.gcd_dvd_right _ _))
  have e2 : qf4 (nI r j) (nI p j) * q2 r p j = nI r j := Int.mul_tdiv_cancel' (Int.natAbs_dvd_natAbs.1 (Nat.gcd_dvd_left _ _))
  unfold qu6
  rw [we6]
  refine w8e (β := q1 r p j) (γ := q2 r p j) hj (by rw [q0m]; exact hr) ?_ (we5 hg (by omega)) fun c hc => ?_
  · rw [we7 r p j (by omega)]
    unfold w9l
    have h3 : nI r j * q1 r p j = nI p j * q2 r p j := by
      generalize qf4 (nI r j) (nI p j) = g at e1 e2
      rw [<- e1, <- e2]
      grind
    omega
  · rw [we7 r p j (by omega)]
    unfold w9l
    grind
theorem q9g (r p : List Int) (j : Nat) {c : Nat} (hc : c < r.length) : nI (qx2 r p j) c = nI r c * nI p j - nI p c * nI r j := by
  rw [qi1 _ _ (by simp [qx2]; exact hc)]
  simp [qx2]
theorem w4x (r p : List Int) (j : Nat) : (qx2 r p j).length = r.length := by simp [qx2]
theorem q6i {W j : Nat} {r p : List Int} (hj : j < W) (hr : r.length = W) (hp : 0 < nI p j) : Elm W j (qd8 r p j) r p := by
  unfold qd8
  refine w8e (β := nI p j) (γ := nI r j) hj (by rw [w4x]; exact hr) ?_ hp fun c hc => ?_
  · rw [q9g r p j (by omega)]; grind
  · rw [q9g r p j (by omega)]; grind
structure Mat (n W : Nat) (M : List (List Int)) : Prop where
  len : M.length = n
  each : ∀ i, i < n -> (nL M i).length = W
def rowOf (M : List (List Int)) : Nat -> Nat -> Int := fun a c => nI (nL M a) c
theorem we8 (r : List Int) (c : Nat) : nI (w78 r) c = - nI r c := by
  rcases Nat.lt_or_ge c r.length with h | h
  · rw [qi1 _ _ (by rw [q85]; exact h)]
    simp [w78]
  · rw [q6g _ h, q6g _ (by rw [q85]; exact h)]; rfl
theorem w4y (r : List (List Int)) (k i : Nat) : nL (r.drop k) i = nL r (k + i) := by
  unfold nL qa1
  rw [List.getD_eq_getElem?_getD, List.getD_eq_getElem?_getD, List.getElem?_drop]
theorem w4z {r : List (List Int)} {k j : Nat} (h : qr1 r k j < 0) : ∀ i, k <= i -> i < r.length -> nI (nL r i) j = 0 := fun i h1 h2 => by
  unfold qr1 ixT at h
  split at h
  · omega
  · rename_i hn
    have := List.any_eq_false.1 (Bool.eq_false_iff.2 hn) (nL r i) (by
      have := w4y r k (i - k)
      rw [show k + (i - k) = i by omega] at this
      rw [<- this]
      exact qu9 _ _ (by rw [List.length_drop]; omega))
    simpa using this
theorem ws9 {r : List (List Int)} {k j : Nat} (h : 0 <= qr1 r k j) : nI (nL r (k + (qr1 r k j).toNat)) j ≠ 0 := by
  unfold qr1 ixT at h ⊢
  split at h
  · rename_i ha
    rw [if_pos ha]
    have h1 := List.findIdx_getElem (xs := r.drop k) (p := fun r => nI r j != 0) (w := List.findIdx_lt_length.2 (by simpa using ha))
    have h2 : (r.drop k).findIdx (fun r => nI r j != 0) < (r.drop k).length := List.findIdx_lt_length.2 (by simpa using ha)
    rw [<- qj9 _ _ h2, w4y] at h1
    simpa using h1
  · omega
theorem St.zero_ {n W : Nat} {M : List (List Int)} (h : Mat n W M) : St n W (rowOf M) 0 M [] := by
  refine ⟨h.len, h.each, ⟨rowOf M, fun _ => none, id, El.start fun a _ => ⟨1, by decide, fun j _ => Int.one_mul _⟩, fun i hi => hi, fun i k _ _ e => e, fun a ha => ⟨a, ha, rfl⟩, fun i _ c _ => rfl, fun q _ => by simp, fun i _ => .inl ⟨1, .inl rfl, fun c _ => (Int.one_mul _).symm⟩⟩, fun z => Iff.rfl, Nat.zero_le _, fun i _ _ c hc => absurd hc (Nat.not_lt_zero _), fun q hq => absurd hq (Nat.not_lt_zero _), fun q k _ hk => absurd hk (Nat.not_lt_zero _)⟩
theorem q7x {n W j : Nat} {R : Nat -> Nat -> Int} {s : List (List Int) × List Int} (hj : j < W) (h : St n W R j s.1 s.2) : St n W R (j + 1) (qt7 s j).1 (qt7 s j).2 := by
  obtain ⟨r, P⟩ := s
  have h : St n W R j r P := h
  unfold qt7
  split
  · rename_i hn
    exact h.skip fun i h1 h2 => w4z hn i h1 (by rw [h.len]; exact h2)
  · rename_i hn
    have hn : 0 <= qr1 r P.length j := Int.not_lt.1 hn
    have hlen := h.len
    have hpl := h.pl
    have hb := q0q r P.length j (by omega) hn
    have hk : P.length < n := by omega
    have hne := ws9 hn
    show St n W R (j + 1) (w5e (qi2 r P.length j) P.length j) (P ++ [(j : Int)])
    obtain ⟨b, hbd⟩ : ∃ b, b = P.length + (qr1 r P.length j).toNat := ⟨_, rfl⟩
    rw [<- hbd] at hb hne
    have hsw : ∀ i, i < n -> nL (q0p r P.length j) i = nL r (if i = P.length then b else if i = b then P.length else i) := fun i hi => by
      unfold q0p
      rw [<- hbd, q2q _ _ _ (by omega) hb i (by omega)]
      by_cases e1 : i = b
      · rw [if_pos e1]
        by_cases e2 : i = P.length
        · rw [if_pos e2, <- e1, e2]
        · rw [if_neg e2, if_pos e1]
      · rw [if_neg e1]
        by_cases e2 : i = P.length
        · rw [if_pos e2, if_pos e2]
        · rw [if_neg e2, if_neg e2, if_neg e1]
    have hpr : ∀ i, i < n -> i ≠ P.length -> nL (qi2 r P.length j) i = nL (q0p r P.length j) i := fun i hi hne => by
      rw [q2r _ _ _ _ (by omega), if_neg fun q => hne q.1]
    have hpk : ∃ s : Int, (s = 1 \/ s = -1) /\ (∀ c, nI (nL (qi2 r P.length j) P.length) c = s * nI (nL r b) c) /\ 0 < nI (nL (qi2 r P.length j) P.length) j := by
      have e := hsw P.length hk
      rw [if_pos rfl] at e
      rw [q2r _ _ _ _ (by omega), e]
      by_cases q : nI (nL r b) j < 0
      · rw [if_pos ⟨rfl, q⟩]
        refine ⟨-1, .inr rfl, fun c => by rw [we8]; omega, by rw [we8]; omega⟩
      · rw [if_neg fun k => q k.2]
        exact ⟨1, .inl rfl, fun c => by omega, by omega⟩
    obtain ⟨s, hs, hsx, hpos⟩ := hpk
    have hcl : w5e (qi2 r P.length j) P.length j = w5e (qi2 r P.length j) P.length j := rfl
    have hat : ∀ i, i < n -> nL (w5e (qi2 r P.length j) P.length j) i = q9p (qi2 r P.length j) P.length j i := fun i hi => w3m _ _ _ _ (by rw [qh9]; omega)
    have heach := q0r (r := r) (k := P.length) (j := j) (W := W) (by omega) hn fun i hi => h.each i (by omega)
    have hatk : nL (w5e (qi2 r P.length j) P.length j) P.length = nL (qi2 r P.length j) P.length := by
      rw [hat _ hk]; unfold q9p; rw [if_neg fun q => q.1 rfl]
    refine h.step hj hk (by rw [q87, qh9]; exact hlen) (fun i hi => ?_) (fun i => if i = P.length then b else if i = b then P.length else i) (fun i hi => ?_) (fun i k hi hk2 e => ?_) (fun i hi => ?_) (fun i hi => ?_) ⟨s, hs, fun c hc => ?_⟩ ?_ fun i hi hne2 => ?_
    · rw [hat i hi]; unfold q9p
      split
      · rw [q7k]; exact heach i (by omega)
      · exact heach i (by omega)
    · (try dsimp only); split
      · omega
      · split <;> omega
    · try dsimp only at e
      split at e <;> split at e <;> (try split at e) <;> (try split at e) <;> omega
    · refine ⟨if i = P.length then b else if i = b then P.length else i, ?_, ?_⟩
      · split
        · omega
        · split <;> omega
      · try dsimp only
        by_cases e1 : i = P.length
        · rw [if_pos e1]
          by_cases e3 : b = P.length
          · rw [if_pos e3]; omega
          · rw [if_neg e3, if_pos rfl]; omega
        · rw [if_neg e1]
          by_cases e2 : i = b
          · rw [if_pos e2, if_pos rfl]; omega
          · rw [if_neg e2, if_neg e1, if_neg e2]
    · try dsimp only
      rw [if_neg (by omega), if_neg (by omega)]
    · rw [hatk, if_pos rfl]; exact hsx c
    · rw [hatk]; exact hpos
    · rw [hatk, hat i hi]
      try dsimp only
      rw [<- hsw i hi, <- hpr i hi hne2]
      unfold q9p
      by_cases q : nI (nL (qi2 r P.length j) i) j = 0
      · rw [if_neg fun k => k.2 q]
        exact w7k q
      · rw [if_pos ⟨hne2, q⟩]
        exact w4w hj (heach i (by omega)) hpos
theorem q0x {n W : Nat} {M : List (List Int)} (h : Mat n W M) : ∀ j, j <= W -> St n W (rowOf M) j (qd3 M j).1 (qd3 M j).2
  | 0, _ => St.zero_ h
  | j + 1, hj => q7x (by omega) (q0x h j (by omega))
structure Small (n C W : Nat) (M : List (List Int)) : Prop extends Mat n W M where
  n6 : n <= 6
  cw : C <= W
  w : W <= 1000
  one : ∀ a c, a < n -> c < C -> (nI (nL M a) c).natAbs <= 1
  read : ∀ a c, a < n -> c < W -> (nI (nL M a) c).natAbs <= 1000000
theorem x1j {n : Nat} (h : n <= 6) : n ^ n <= 46656 := by
  have : ∀ k : Fin 7, k.val ^ k.val <= 46656 := by decide
  exact this ⟨n, by omega⟩
theorem St.small {n C W j : Nat} {M rows : List (List Int)} {P : List Int} (hM : Small n C W M) (h : St n W (rowOf M) j rows P) (hj : j <= C) {i : Nat} (hi : i < n) : (∀ c, c < C -> (nI (nL rows i) c).natAbs <= 46656) /\ ∀ c, c < W -> (nI (nL rows i) c).natAbs <= 46656000000 := by
  have h6 := x1j hM.n6
  have hcw := hM.cw
  refine ⟨fun c hc => ?_, fun c hc => ?_⟩
  · have := h.bound (fun a c ha hc => hM.one a c ha (by omega)) hi (show c < W by omega) (B := 1) fun b hb => hM.one b c hb hc
    omega
  · have := h.bound (fun a c ha hc => hM.one a c ha (by omega)) hi hc (B := 1000000) fun b hb => hM.read b c hb hc
    omega
theorem q1t {a b : Int} {A B : Nat} (ha : a.natAbs <= A) (hb : b.natAbs <= B) : (a * b).natAbs <= A * B := by
  rw [Int.natAbs_mul]; exact Nat.mul_le_mul ha hb
theorem wt0 (a b : Int) : (a.tdiv b).natAbs <= a.natAbs := by rw [Int.natAbs_tdiv]; exact Nat.div_le_self _ _
theorem q6j {n C W : Nat} {M : List (List Int)} (hM : Small n C W M) : q5t M C W := by
  have hn := hM.n6
  have hl := hM.len
  have hw := hM.w
  have hcw := hM.cw
  refine ⟨by omega, hw, hM.cw, fun i hi => hM.each i (by omega), fun j hj hp => ?_⟩
  have hst := q0x hM.toMat j (by omega)
  have hsm := fun {i} (hi : i < n) => hst.small hM (by omega) hi
  have hlen := hst.len
  have hpl := hst.pl
  generalize qd3 M j = s at hp hst hsm hlen hpl ⊢
  obtain ⟨r, P⟩ := s
  simp only [] at hp hst hsm hlen hpl ⊢
  have hb := q0q r P.length j (by omega) hp
  have heachS := q5w (r := r) (k := P.length) (j := j) (W := W) (by omega) hp fun i hi => hst.each i (by omega)
  have heach := q0r (r := r) (k := P.length) (j := j) (W := W) (by omega) hp fun i hi => hst.each i (by omega)
  have hsw : ∀ i, i < n -> (∀ c, c < C -> (nI (nL (q0p r P.length j) i) c).natAbs <= 46656) /\ ∀ c, c < W -> (nI (nL (q0p r P.length j) i) c).natAbs <= 46656000000 := fun i hi => by
    unfold q0p
    rw [q2q _ _ _ (by omega) hb i (by omega)]
    split
    · exact hsm (by omega)
    · split
      · exact hsm (by omega)
      · exact hsm hi
  have hpr : ∀ i, i < n -> (∀ c, c < C -> (nI (nL (qi2 r P.length j) i) c).natAbs <= 46656) /\ ∀ c, c < W -> (nI (nL (qi2 r P.length j) i) c).natAbs <= 46656000000 := fun i hi => by
    rw [q2r _ _ _ _ (by omega)]
    split
    · refine ⟨fun c hc => ?_, fun c hc => ?_⟩
      · rw [we8, Int.natAbs_neg]; exact (hsw _ (by omega)).1 c hc
      · rw [we8, Int.natAbs_neg]; exact (hsw _ (by omega)).2 c hc
    · exact hsw i hi
  have hst2 := q7x (j := j) (by omega) (show St n W (rowOf M) j (r, P).1 (r, P).2 from hst)
  have hpk : nI (nL (qi2 r P.length j) P.length) j ≠ 0 := by
    have e := ws9 hp
    have hs : nL (q0p r P.length j) P.length = nL r (P.length + (qr1 r P.length j).toNat) := by
      unfold q0p
      rw [q2q _ _ _ (by omega) hb _ (by omega)]
      split
      · rename_i q; rw [<- q]
      · rw [if_pos rfl]
    rw [q2r _ _ _ _ (by omega)]
    split
    · rw [we8, hs]; omega
    · rw [hs]; exact e
  have hB : BIG = 4000000000000000000 := rfl
  have hB2 : xf7 = 2000000000000000000 := rfl
  refine ⟨fun x hx => ?_, fun i hi hne hz => ⟨?_, ?_, ?_, hpk, ?_, ?_, fun c hc => ?_, fun c hc => ?_⟩⟩
  · obtain ⟨c, hc, rfl⟩ := ws8 hx
    have h1 := heachS P.length (by omega)
    have := (hsw P.length (by omega)).2 c (by omega)
    constructor <;> omega
  · rw [heach i (by omega)]; omega
  · rw [heach i (by omega), heach P.length (by omega)]
  · rw [heach i (by omega)]; exact hw
  · have := (hpr i (by omega)).1 j hj
    constructor <;> omega
  · have := (hpr P.length (by omega)).1 j hj
    constructor <;> omega
  · rw [heach i (by omega)] at hc
    have h1 := (hpr i (by omega)).2 c hc
    have h2 := (hpr P.length (by omega)).1 j hj
    have h3 : (q1 (nL (qi2 r P.length j) i) (nL (qi2 r P.length j) P.length) j).natAbs <= 46656 := Nat.le_trans (wt0 _ _) h2
    have := q1t h1 h3
    constructor <;> omega
  · rw [heach i (by omega)] at hc
    have h1 := (hpr P.length (by omega)).2 c hc
    have h2 := (hpr i (by omega)).1 j hj
    have h3 : (q2 (nL (qi2 r P.length j) i) (nL (qi2 r P.length j) P.length) j).natAbs <= 46656 := Nat.le_trans (wt0 _ _) h2
    have := q1t h1 h3
    constructor <;> omega
end Go.Proofs.Ytdibdlelmkcccaa
