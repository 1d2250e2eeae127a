/- Contracts of slices.Index, slices.Contains and mask's Signed. No condition. -/
import Derived.Test.YtkkmlcengneomaaD5
namespace Go.Proofs.Ytkkmlcengneomaa
open Go.RowKit Ls

/-- Where an integer first lies in a list: its index, or -1. -/
def idxOf (x : Int) : List Int → Nat → Int
  | [], _ => -1
  | a :: l, k => if a = x then k else idxOf x l (k + 1)
theorem idxOf_none (x : Int) (l : List Int) (k : Nat) (h : x ∉ l) : idxOf x l k = -1 := by
  induction l generalizing k with
  | nil => rfl
  | cons a l ih =>
    rw [List.mem_cons, not_or] at h
    unfold idxOf; rw [if_neg (fun e => h.1 e.symm)]; exact ih _ h.2
theorem idxOf_at (x : Int) (l : List Int) (k p : Nat) (hp : p < l.length) (hx : nth l p = x) (hn : ∀ a, a < p → nth l a ≠ x) : idxOf x l k = (k + p : Nat) := by
  induction l generalizing k p with
  | nil => simp at hp
  | cons a l ih =>
    unfold idxOf
    cases p with
    | zero => rw [if_pos (by simpa [nth] using hx)]; rfl
    | succ p =>
      rw [if_neg (by simpa [nth] using hn 0 (by omega)), ih (k + 1) p (by simpa using hp) (by simpa [nth] using hx) (fun b hb => by simpa [nth] using hn (b + 1) (by omega))]
      congr 1; omega

set_option maxHeartbeats 400000 in
theorem index_any (X : Option Addr) (k d : Nat) (x : Int) (l : List Int) (w : World) (hl : SI w X k d l) :
    Calls Try.prog 118 #[.slice X k d, .int .i64 x] w fun e w' => e = .returned (.int .i64 (idxOf x l 0)) ∧ w = w' := by
  have hmx := hl.nmax
  have hlen := hidx hl.len
  go_enter Try.func118, Try.ntmps118
  go_wp2
  go_loop [5, 8] (fun _ i => ∃ q : Nat, q ≤ k ∧ i = .int .i64 q ∧ Hid (∀ a, a < q → nth l a ≠ x)) (fun _ i => k - (intOf i).toNat)
  case atStart => exact ⟨0, Nat.zero_le _, rfl, fun a ha => absurd ha (Nat.not_lt_zero _)⟩
  case round =>
    obtain ⟨q, hqk, rfl, hno⟩ := hrel
    by_cases hlt : q < k
    · obtain ⟨ad, rfl, hca⟩ := hl.at_ (by omega)
      have h1 := hca q hlt
      clear hca hl
      by_cases he : x = nth l q
      · have hb1 : (x == nth l q) = true := by simp [he]
        have He := hidx he
        clear he
        go_wp2
        go_ret
        exact ⟨ret_i64 (by rw [idxOf_at x l 0 q (by rw [hlen.out]; exact hlt) He.out.symm hno.out, Nat.zero_add]), rfl⟩
      · have hb1 : (x == nth l q) = false := by simp [he]
        have He := hidx he
        clear he
        go_wp2
        go_round
        case rel =>
          refine ⟨q + 1, by omega, by go_num, fun a ha => ?_⟩
          by_cases e : a = q
          · subst e; exact fun h => He.out h.symm
          · exact hno.out a (by omega)
        case measure => simp [intOf]; omega
    · have hqq : q = k := by omega
      subst hqq
      go_wp2
      go_ret
      exact ⟨ret_i64 (by
        rw [idxOf_none x l 0 (fun hx => by
          obtain ⟨a, ha, hh⟩ := List.getElem_of_mem hx
          exact hno.out a (by rw [hlen.out] at ha; exact ha) (by rw [nth_eq l a ha]; exact hh))]), rfl⟩

theorem idxOf_mem (x : Int) (l : List Int) (k : Nat) : decide (x ∈ l) = decide (0 ≤ idxOf x l k) := by
  induction l generalizing k with
  | nil => simp [idxOf]
  | cons a l ih =>
    unfold idxOf
    by_cases h : a = x
    · rw [if_pos h]; subst h; simp
    · rw [if_neg h, ← ih (k + 1)]
      simp [show x ≠ a from fun e => h e.symm]

set_option maxHeartbeats 400000 in
theorem contains_any (X : Option Addr) (k d : Nat) (x : Int) (l : List Int) (w : World) (hl : SI w X k d l) :
    Calls Try.prog 97 #[.slice X k d, .int .i64 x] w fun e w' => e = .returned (.bool (decide (x ∈ l))) ∧ w = w' := by
  rw [idxOf_mem x l 0]
  go_enter Try.func97, Try.ntmps97
  go_wp2_with fail
  refine (index_any X k d x l w hl).mono ?_
  rintro e w1 ⟨rfl, rfl⟩
  go_wp2
  go_ret
  exact ⟨rfl, rfl⟩

def signF (m : List (List Int)) (l : List Int) (i j : Nat) : Int := if (j : Int) ∈ l then - nth (nthL m i) j else nth (nthL m i) j
theorem rowsF_sign (m : List (List Int)) (l : List Int) (p : Nat) (h : ∀ k, k < m.length → (nthL m k).length = p) : rowsF (signF m l) p m.length = m.map (fun r => signRow r l) := by
  apply List.ext_getElem (by simp [rowsF])
  intro i h1 h2
  have hi : i < m.length := by simpa [rowsF] using h1
  have hl := h i hi
  simp only [rowsF, List.getElem_map, List.getElem_range, rowF, signRow]
  rw [nthL_eq m i hi] at hl
  rw [hl]
  apply List.ext_getElem (by simp)
  intro j h3 h4
  simp only [List.getElem_map, List.getElem_range, signF]
  rw [nthL_eq m i hi]

theorem signed1_ok (B C : Nat) (A X : Option Addr) (n c k d : Nat) (m : List (List Int)) (l : List Int) (w : World) (hB : w.cell? ⟨B, 0, none⟩ = some (.slice A n c)) (hC : w.cell? ⟨C, 0, none⟩ = some (.slice X k d)) (hm : SM w A n c m) (hl : SI w X k d l)
    (hM : IsMask m) : FokT Try.prog 96 #[.pointer (some ⟨C, 0, none⟩), .pointer (some ⟨B, 0, none⟩)] n (nthL m 0).length (signF m l) w := by
  refine ⟨(enters_of Try.func96 (by kernel_rfl) rfl), fun i j W hi hj hW => ?_⟩
  have hc := Below.cell_of hW hB
  have hd := Below.cell_of hW hC
  have hmx := hm.nmax
  have hlW := hl.below hW
  have hlr := hM.each i (by rw [hm.len]; exact hi)
  have hsm := hM.small i (by rw [hm.len]; exact hi) j hj
  obtain ⟨ad, rfl, hca⟩ := (hm.below hW).at_ (by omega)
  obtain ⟨A2, c2, h1, h2⟩ := hca i hi
  obtain ⟨ad2, rfl, hcb⟩ := h2.at_ (by omega)
  have h3 := hcb j (by omega)
  have hm2 := h2.nmax
  have hj2 : j < (nthL m i).length := by omega
  clear hca hcb h2 hm hl hB hC hM hlr
  by_cases hin : (j : Int) ∈ l
  · have hv : signF m l i j = - nth (nthL m i) j := by unfold signF; rw [if_pos hin]
    rw [hv]
    have con := contains_any X k d (j : Int) l W hlW
    rw [decide_eq_true hin] at con
    have Con := hidx con
    clear hin hv con hlW
    have hw : IntKind.i64.wrap (- nth (nthL m i) j) = - nth (nthL m i) j := by rw [IntKind.wrap_i64]; omega
    go_enter Try.func96, Try.ntmps96
    go_wp2_with fail
    refine Con.out.mono ?_
    rintro e w1 ⟨rfl, rfl⟩
    go_wp2
    go_ret
    exact ⟨rfl, Below.refl _ _⟩
  · have hv : signF m l i j = nth (nthL m i) j := by unfold signF; rw [if_neg hin]
    rw [hv]
    have con := contains_any X k d (j : Int) l W hlW
    rw [decide_eq_false hin] at con
    have Con := hidx con
    clear hin hv con hlW
    go_enter Try.func96, Try.ntmps96
    go_wp2_with fail
    refine Con.out.mono ?_
    rintro e w1 ⟨rfl, rfl⟩
    go_wp2
    go_ret
    exact ⟨rfl, Below.refl _ _⟩

set_option maxRecDepth 100000 in
set_option maxHeartbeats 4000000 in
theorem signed_new (A X : Option Addr) (n c k d : Nat) (m : List (List Int)) (l : List Int) (w : World) (hm : SM w A n c m) (hl : SI w X k d l) :
    Calls Try.prog 51 #[.slice A n c, .slice X k d] w fun e w' => ∃ A' c', e = .returned (.tuple #[.slice A' (signedR m l).length c', .int .i64 (signedE m l)]) ∧ SMF w' w.heap.size A' (signedR m l).length c' (signedR m l) ∧ Below w.heap.size w w' := by
  have hz1 := fun o o' => step_trans (below_alloc w o) (below_alloc (w.alloc o) o')
  have hmn := hm.nmax
  have hln := hl.nmax
  have hml := hidx hm.len
  have hll := hidx hl.len
  have hR : signedE m l ≠ 0 → signedR m l = [] := fun h => by unfold signedR; rw [if_neg h]
  cases hv : validB m with
  | false =>
    have e1 : signedE m l = 1 := by unfold signedE; rw [hv]; rfl
    rw [hR (by omega), e1]
    clear e1 hR
    go_enter Try.func51, Try.ntmps51
    go_wp2_with fail
    refine (valid_any A n c m _ (hm.below (hz1 _ _))).mono ?_
    rintro e w1 ⟨rfl, hb1⟩
    have hc1 : w1.cell? ⟨w.heap.size, 0, none⟩ = some (.slice A n c) := Below.cell_of hb1 (by simp)
    have hc2 : w1.cell? ⟨w.heap.size + 1, 0, none⟩ = some (.slice X k d) := Below.cell_of hb1 (by simp)
    go_wp2
    go_ret2
    exact ⟨none, 0, rfl, SMF.nil _ _, step_trans (hz1 _ _) hb1⟩
  | true =>
    have hv' : ∀ W, SM W A n c m → Calls Try.prog 32 #[.slice A n c] W fun e W' => e = .returned (.bool true) ∧ Below W.heap.size W W' := fun W h => by
      have := valid_any A n c m W h
      rwa [hv] at this
    have Hv := hidx hv'
    have hmw := hm.below (hz1 (.cells #[.slice A n c] 23) (.cells #[.slice X k d] 24))
    have hlw := hl.below (hz1 (.cells #[.slice A n c] 23) (.cells #[.slice X k d] 24))
    have hbw := hz1 (.cells #[.slice A n c] 23) (.cells #[.slice X k d] 24)
    clear hm hl hz1 hv'
    cases ha : ascB l with
    | false =>
      have e1 : signedE m l = 7 := by unfold signedE; rw [hv, ha]; rfl
      rw [hR (by omega), e1]
      have asc : ∀ W, SI W X k d l → Calls Try.prog 87 #[.slice X k d] W fun e W' => e = .returned (.bool false) ∧ W = W' := fun W h => by
        have := ascending_any X k d l W h
        rwa [ha] at this
      have As := hidx asc
      clear e1 hR hv ha asc
      go_enter Try.func51, Try.ntmps51
      go_wp2_with fail
      refine (Hv.out _ hmw).mono ?_
      rintro e w1 ⟨rfl, hb1⟩
      have hc1 : w1.cell? ⟨w.heap.size, 0, none⟩ = some (.slice A n c) := Below.cell_of hb1 (by simp)
      have hc2 : w1.cell? ⟨w.heap.size + 1, 0, none⟩ = some (.slice X k d) := Below.cell_of hb1 (by simp)
      go_wp2_with fail
      refine (As.out _ (hlw.below hb1)).mono ?_
      rintro e w2 ⟨rfl, rfl⟩
      go_wp2
      go_ret2
      exact ⟨none, 0, rfl, SMF.nil _ _, step_trans hbw hb1⟩
    | true =>
      have asc : ∀ W, SI W X k d l → Calls Try.prog 87 #[.slice X k d] W fun e W' => e = .returned (.bool true) ∧ W = W' := fun W h => by
        have := ascending_any X k d l W h
        rwa [ha] at this
      have As := hidx asc
      clear asc
      have eE : signedE m l = namedE m l := by unfold signedE; rw [hv, ha]; rfl
      have nam : ∀ W, SM W A n c m → SI W X k d l → Calls Try.prog 69 #[.slice A n c, .slice X k d] W fun e W' => e = .returned (.int .i64 (namedE m l)) ∧ Below W.heap.size W W' := fun W h h' => named_any A X n c k d m l W h h'
      rcases named_01 hv l with he | he
      · rw [he] at nam eE
        have hRR : signedR m l = m.map (fun r => signRow r l) := by unfold signedR; rw [if_pos eE]
        rw [hRR, eE, List.length_map, hml.out]
        have hM := IsMask.of hv
        have hn6 : n ≤ 6 := by have := hM.rows6; have := hml.out; omega
        have hn1 : 0 < n := by have := hM.rows1; have := hml.out; omega
        have hp10 := hM.pix10
        have fin : ∀ B C W, W.cell? ⟨B, 0, none⟩ = some (.slice A n c) → W.cell? ⟨C, 0, none⟩ = some (.slice X k d) → SM W A n c m → SI W X k d l →
            Calls Try.prog 79 #[.slice A n c, .int .i64 (nthL m 0).length, .func (.func 96) #[] #[.pointer (some ⟨C, 0, none⟩), .pointer (some ⟨B, 0, none⟩)]] W fun e W' => ∃ A' c', e = .returned (.slice A' n c') ∧ SMF W' W.heap.size A' n c' (m.map (fun r => signRow r l)) ∧ Below W.heap.size W W' := fun B C W h1 h2 h3 h4 => by
          have := copied_new A n c (nthL m 0).length _ _ m _ W h3 (by omega) (by omega) (signed1_ok B C A X n c k d m l W h1 h2 h3 h4 hM)
          rw [← hml.out, rowsF_sign m l _ (fun i hi => hM.each i hi), hml.out] at this
          exact this
        have Fin := hidx fin
        have Nam := hidx nam
        have hm0 : ∀ W, SM W A n c m → ∃ ad A0 c0, A = some ad ∧ W.cell? ad = some (.slice A0 (nthL m 0).length c0) := fun W hm => by
          obtain ⟨ad, rfl, hca⟩ := hm.at_ (by omega)
          obtain ⟨A0, c0, h0, _⟩ := hca 0 (by omega)
          rw [add_zero] at h0
          exact ⟨ad, A0, c0, rfl, h0⟩
        have Hm0 := hidx hm0
        have i0 : (0:Int) < n := by omega
        clear eE hRR hR hv ha nam fin hM he hm0
        go_enter Try.func51, Try.ntmps51
        go_wp2_with fail
        refine (Hv.out _ hmw).mono ?_
        rintro e w1 ⟨rfl, hb1⟩
        have hc1 : w1.cell? ⟨w.heap.size, 0, none⟩ = some (.slice A n c) := Below.cell_of hb1 (by simp)
        have hc2 : w1.cell? ⟨w.heap.size + 1, 0, none⟩ = some (.slice X k d) := Below.cell_of hb1 (by simp)
        go_wp2_with fail
        refine (As.out _ (hlw.below hb1)).mono ?_
        rintro e w2 ⟨rfl, rfl⟩
        go_wp2_with fail
        refine (Nam.out _ (hmw.below hb1) (hlw.below hb1)).mono ?_
        rintro e w2 ⟨rfl, hb2⟩
        have hd1 := Below.cell_of hb2 hc1
        have hd2 := Below.cell_of hb2 hc2
        have hm2 := (hmw.below hb1).below hb2
        have hl2 := (hlw.below hb1).below hb2
        have hbw2 := step_trans (step_trans hbw hb1) hb2
        obtain ⟨ad, A0, c0, rfl, h0⟩ := Hm0.out _ hm2
        clear hmw hlw hc1 hc2 hb1 hb2 hbw
        have hcop := Fin.out _ _ w2.drew hd1 hd2 (hm2.below (Below.refl _ _).drew) (hl2.below (Below.refl _ _).drew)
        have Hcop := hidx hcop
        clear hcop hm2 hl2
        go_wp2_with fail
        go_region_held3 (fun w' => w'.cell? ⟨w.heap.size, 0, none⟩ = some (.slice (some ad) n c) ∧ w'.cell? ad = some (.slice A0 (nthL m 0).length c0)) (first | go_keep | exact ⟨hd1, h0⟩ | exact ⟨Below.cell_of (undrew hb3) hd1, Below.cell_of (undrew hb3) h0⟩)
          (first | (go_at_call 79; refine Hcop.out.mono ?_; rintro e w3 ⟨A3, c3, rfl, hs3, hb3⟩))
        go_wp2
        go_ret2
        exact ⟨A3, c3, rfl, hs3.base hbw2.size, step_trans hbw2 (undrew hb3)⟩
      · rw [he] at nam eE
        rw [hR (by omega), eE]
        have Nam := hidx nam
        clear eE hR hv ha nam he
        go_enter Try.func51, Try.ntmps51
        go_wp2_with fail
        refine (Hv.out _ hmw).mono ?_
        rintro e w1 ⟨rfl, hb1⟩
        have hc1 : w1.cell? ⟨w.heap.size, 0, none⟩ = some (.slice A n c) := Below.cell_of hb1 (by simp)
        have hc2 : w1.cell? ⟨w.heap.size + 1, 0, none⟩ = some (.slice X k d) := Below.cell_of hb1 (by simp)
        go_wp2_with fail
        refine (As.out _ (hlw.below hb1)).mono ?_
        rintro e w2 ⟨rfl, rfl⟩
        go_wp2_with fail
        refine (Nam.out _ (hmw.below hb1) (hlw.below hb1)).mono ?_
        rintro e w2 ⟨rfl, hb2⟩
        go_wp2
        go_ret2
        exact ⟨none, 0, rfl, SMF.nil _ _, step_trans (step_trans hbw hb1) hb2⟩

theorem signed_any (A X : Option Addr) (n c k d : Nat) (m : List (List Int)) (l : List Int) (w : World) (hm : SM w A n c m) (hl : SI w X k d l) :
    Calls Try.prog 51 #[.slice A n c, .slice X k d] w fun e w' => ∃ A' c', e = .returned (.tuple #[.slice A' (signedR m l).length c', .int .i64 (signedE m l)]) ∧ SM w' A' (signedR m l).length c' (signedR m l) ∧ Below w.heap.size w w' :=
  (signed_new A X n c k d m l w hm hl).mono fun _ _ ⟨A', c', h1, h2, h3⟩ => ⟨A', c', h1, h2.sm, h3⟩

end Go.Proofs.Ytkkmlcengneomaa
