/- Contracts of mask's Chosen and lightsieveref02's Chosen. No condition. -/
import Derived.Test.YtkkmlcengneomaaD1
import Derived.Test.YtkkmlcengneomaaC1
import Derived.Test.YtkkmlcengneomaaR2
namespace Go.Proofs.Ytkkmlcengneomaa
open Go.RowKit Ls

def pickF (m : List (List Int)) (l : List Int) (i j : Nat) : Int := nth (nthL m i) (nth l j).toNat
theorem rowsF_pick (m : List (List Int)) (l : List Int) : rowsF (pickF m l) l.length m.length = pickL m l := by
  apply List.ext_getElem (by simp [rowsF, pickL])
  intro i h1 h2
  have hi : i < m.length := by simpa [rowsF] using h1
  simp only [rowsF, List.getElem_map, List.getElem_range, rowF, pickL]
  apply List.ext_getElem (by simp)
  intro j h3 h4
  have hj : j < l.length := by simpa using h3
  simp only [List.getElem_map, List.getElem_range, pickF]
  rw [nthL_eq m i hi, nth_eq l j hj]

set_option maxRecDepth 100000 in
set_option maxHeartbeats 400000 in
theorem chosen1_ok (B C : Nat) (A X : Option Addr) (n c k d : Nat) (m : List (List Int)) (l : List Int) (w : World) (hB : w.cell? ⟨B, 0, none⟩ = some (.slice A n c)) (hC : w.cell? ⟨C, 0, none⟩ = some (.slice X k d)) (hm : SM w A n c m) (hl : SI w X k d l)
    (hin : ∀ i j, i < n → j < k → 0 ≤ nth l j ∧ nth l j < (nthL m i).length) :
    FokT Try.prog 92 #[.pointer (some ⟨B, 0, none⟩), .pointer (some ⟨C, 0, none⟩)] n k (pickF m l) w := by
  refine ⟨(enters_of Try.func92 (by kernel_rfl) rfl), fun i j W hi hj hW => ?_⟩
  have hc := Below.cell_of hW hB
  have hd := Below.cell_of hW hC
  have hmx := hm.nmax
  have hlx := hl.nmax
  obtain ⟨g1, g2⟩ := hin i j hi hj
  obtain ⟨u, hu⟩ := Int.eq_ofNat_of_zero_le g1
  have g2' : u < (nthL m i).length := by omega
  obtain ⟨ad, rfl, hca⟩ := (hm.below hW).at_ (by omega)
  obtain ⟨A2, c2, h1, h2⟩ := hca i hi
  obtain ⟨ad2, rfl, hcb⟩ := h2.at_ (by omega)
  obtain ⟨xd, rfl, hcx⟩ := (hl.below hW).at_ (by omega)
  have h3 := hcb u g2'
  have h4 := hcx j hj
  have hm2 := h2.nmax
  have hv : pickF m l i j = nth (nthL m i) u := by unfold pickF; rw [hu, Int.toNat_natCast]
  rw [hv]
  rw [hu] at h4
  have i1 : (0:Int) ≤ i := by omega
  have i2 : (i:Int) < n := by omega
  have i3 : (0:Int) ≤ j := by omega
  have i4 : (j:Int) < k := by omega
  have i5 : (0:Int) ≤ u := by omega
  have i6 : (u:Int) < (nthL m i).length := by omega
  clear hca hcb hcx h2 hm hl hB hC hin g1 g2 hu hv
  go_enter Try.func92, Try.ntmps92
  go_wp2
  go_quiet (fail)
  go_wp2
  go_ret
  exact ⟨rfl, below_drewN (Below.refl _ _) _⟩

set_option maxRecDepth 100000 in
set_option maxHeartbeats 400000 in
theorem permuted1_ok (B C : Nat) (A X : Option Addr) (n c k d : Nat) (m : List (List Int)) (l : List Int) (w : World) (hB : w.cell? ⟨B, 0, none⟩ = some (.slice A n c)) (hC : w.cell? ⟨C, 0, none⟩ = some (.slice X k d)) (hm : SM w A n c m) (hl : SI w X k d l)
    (hin : ∀ i j, i < n → j < k → 0 ≤ nth l j ∧ nth l j < (nthL m i).length) :
    FokT Try.prog 95 #[.pointer (some ⟨B, 0, none⟩), .pointer (some ⟨C, 0, none⟩)] n k (pickF m l) w := by
  refine ⟨(enters_of Try.func95 (by kernel_rfl) rfl), fun i j W hi hj hW => ?_⟩
  have hc := Below.cell_of hW hB
  have hd := Below.cell_of hW hC
  have hmx := hm.nmax
  have hlx := hl.nmax
  obtain ⟨g1, g2⟩ := hin i j hi hj
  obtain ⟨u, hu⟩ := Int.eq_ofNat_of_zero_le g1
  have g2' : u < (nthL m i).length := by omega
  obtain ⟨ad, rfl, hca⟩ := (hm.below hW).at_ (by omega)
  obtain ⟨A2, c2, h1, h2⟩ := hca i hi
  obtain ⟨ad2, rfl, hcb⟩ := h2.at_ (by omega)
  obtain ⟨xd, rfl, hcx⟩ := (hl.below hW).at_ (by omega)
  have h3 := hcb u g2'
  have h4 := hcx j hj
  have hm2 := h2.nmax
  have hv : pickF m l i j = nth (nthL m i) u := by unfold pickF; rw [hu, Int.toNat_natCast]
  rw [hv]
  rw [hu] at h4
  have i1 : (0:Int) ≤ i := by omega
  have i2 : (i:Int) < n := by omega
  have i3 : (0:Int) ≤ j := by omega
  have i4 : (j:Int) < k := by omega
  have i5 : (0:Int) ≤ u := by omega
  have i6 : (u:Int) < (nthL m i).length := by omega
  clear hca hcb hcx h2 hm hl hB hC hin g1 g2 hu hv
  go_enter Try.func95, Try.ntmps95
  go_wp2
  go_quiet (fail)
  go_wp2
  go_ret
  exact ⟨rfl, below_drewN (Below.refl _ _) _⟩

theorem chosen_in {m : List (List Int)} {l : List Int} {n k : Nat} (he : namedE m l = 0) (hn : m.length = n) (hk : l.length = k) : ∀ i j, i < n → j < k → 0 ≤ nth l j ∧ nth l j < (nthL m i).length := by
  obtain ⟨hM, h⟩ := named_mask he
  intro i j hi hj
  have := h j (by omega)
  rw [hM.each i (by omega)]
  exact this

set_option maxRecDepth 100000 in
set_option maxHeartbeats 2000000 in
theorem chosen_any (A X : Option Addr) (n c k d : Nat) (m : List (List Int)) (l : List Int) (w : World) (hm : SM w A n c m) (hl : SI w X k d l) :
    Calls Try.prog 47 #[.slice A n c, .slice X k d] w fun e w' => ∃ A' c', e = .returned (.tuple #[.slice A' (chosenR m l).length c', .int .i64 (chosenE m l)]) ∧ SM w' A' (chosenR m l).length c' (chosenR m l) ∧ Below w.heap.size w w' := by
  have hz1 := fun o o' => step_trans (below_alloc w o) (below_alloc (w.alloc o) o')
  have hmn := hm.nmax
  have hln := hl.nmax
  have hml := hidx hm.len
  have hll := hidx hl.len
  have hR : chosenE m l ≠ 0 → chosenR m l = [] := fun h => by unfold chosenR; rw [if_neg h]
  cases hv : validB m with
  | false =>
    have e1 : chosenE m l = 1 := by unfold chosenE; rw [hv]; rfl
    rw [hR (by omega), e1]
    clear e1 hR
    go_enter Try.func47, Try.ntmps47
    go_wp2_with fail
    refine (valid_any A n c m _ (hm.below (hz1 _ _))).mono ?_
    rintro e w1 ⟨rfl, hb1⟩
    have hc1 : w1.cell? ⟨w.heap.size, 0, none⟩ = some (.slice A n c) := Below.cell_of hb1 (by simp)
    have hc2 : w1.cell? ⟨w.heap.size + 1, 0, none⟩ = some (.slice X k d) := Below.cell_of hb1 (by simp)
    go_wp2
    go_ret2
    exact ⟨none, 0, rfl, SM.nil _, step_trans (hz1 _ _) hb1⟩
  | true =>
    have hv' : ∀ W, SM W A n c m → Calls Try.prog 32 #[.slice A n c] W fun e W' => e = .returned (.bool true) ∧ Below W.heap.size W W' := fun W h => by
      have := valid_any A n c m W h
      rwa [hv] at this
    have Hv := hidx hv'
    have hmw := hm.below (hz1 (.cells #[.slice A n c] 23) (.cells #[.slice X k d] 24))
    have hlw := hl.below (hz1 (.cells #[.slice A n c] 23) (.cells #[.slice X k d] 24))
    have hbw := hz1 (.cells #[.slice A n c] 23) (.cells #[.slice X k d] 24)
    clear hm hl hz1 hv'
    by_cases hk0 : k = 0
    · have e1 : chosenE m l = 7 := by unfold chosenE; rw [hv, hll.out, hk0]; rfl
      rw [hR (by omega), e1]
      subst hk0
      clear e1 hR hv
      go_enter Try.func47, Try.ntmps47
      go_wp2_with fail
      refine (Hv.out _ hmw).mono ?_
      rintro e w1 ⟨rfl, hb1⟩
      have hc1 : w1.cell? ⟨w.heap.size, 0, none⟩ = some (.slice A n c) := Below.cell_of hb1 (by simp)
      have hc2 : w1.cell? ⟨w.heap.size + 1, 0, none⟩ = some (.slice X 0 d) := Below.cell_of hb1 (by simp)
      go_wp2
      go_ret2
      exact ⟨none, 0, rfl, SM.nil _, step_trans hbw hb1⟩
    · have hk1 : ((k : Int) == 0) = false := by simp; omega
      cases ha : ascB l with
      | false =>
        have e1 : chosenE m l = 7 := by unfold chosenE; rw [hv, ha, hll.out]; simp
        rw [hR (by omega), e1]
        have asc : ∀ W, SI W X k d l → Calls Try.prog 87 #[.slice X k d] W fun e W' => e = .returned (.bool false) ∧ W = W' := fun W h => by
          have := ascending_any X k d l W h
          rwa [ha] at this
        have As := hidx asc
        clear e1 hR hv ha asc hk0
        go_enter Try.func47, Try.ntmps47
        go_wp2_with fail
        refine (Hv.out _ hmw).mono ?_
        rintro e w1 ⟨rfl, hb1⟩
        have hc1 : w1.cell? ⟨w.heap.size, 0, none⟩ = some (.slice A n c) := Below.cell_of hb1 (by simp)
        have hc2 : w1.cell? ⟨w.heap.size + 1, 0, none⟩ = some (.slice X k d) := Below.cell_of hb1 (by simp)
        go_wp2_with fail
        refine (As.out _ (hlw.below hb1)).mono ?_
        rintro e w2 ⟨rfl, rfl⟩
        go_wp2
        go_ret2
        exact ⟨none, 0, rfl, SM.nil _, step_trans hbw hb1⟩
      | true =>
        have asc : ∀ W, SI W X k d l → Calls Try.prog 87 #[.slice X k d] W fun e W' => e = .returned (.bool true) ∧ W = W' := fun W h => by
          have := ascending_any X k d l W h
          rwa [ha] at this
        have As := hidx asc
        clear asc
        have eE : chosenE m l = namedE m l := by unfold chosenE; rw [hv, ha, hll.out]; simp [hk0]
        have nam : ∀ W, SM W A n c m → SI W X k d l → Calls Try.prog 69 #[.slice A n c, .slice X k d] W fun e W' => e = .returned (.int .i64 (namedE m l)) ∧ Below W.heap.size W W' := fun W h h' => named_any A X n c k d m l W h h'
        rcases named_01 hv l with he | he
        · rw [he] at nam eE
          have hRR : chosenR m l = pickL m l := by unfold chosenR; rw [if_pos eE]
          rw [hRR, eE, pickL_len, hml.out]
          have hin := chosen_in he hml.out hll.out
          have hM := IsMask.of hv
          have hkk : k ≤ 10 := by
            have h1 := asc_len (p := (nthL m 0).length) ha (fun j hj => by have := hin 0 j (by have := hM.rows1; have := hml.out; omega) (by rw [hll.out] at hj; exact hj); exact this)
            have := hM.pix10
            have := hll.out
            omega
          have hn6 : n ≤ 6 := by have := hM.rows6; have := hml.out; omega
          have fin : ∀ B C W, W.cell? ⟨B, 0, none⟩ = some (.slice A n c) → W.cell? ⟨C, 0, none⟩ = some (.slice X k d) → SM W A n c m → SI W X k d l →
              Calls Try.prog 79 #[.slice A n c, .int .i64 k, .func (.func 92) #[] #[.pointer (some ⟨B, 0, none⟩), .pointer (some ⟨C, 0, none⟩)]] W fun e W' => ∃ A' c', e = .returned (.slice A' n c') ∧ SM W' A' n c' (pickL m l) ∧ Below W.heap.size W W' := fun B C W h1 h2 h3 h4 => by
            have := copied_any A n c k _ _ m _ W h3 (by omega) (by omega) (chosen1_ok B C A X n c k d m l W h1 h2 h3 h4 hin)
            rw [← hml.out, ← hll.out, rowsF_pick, hml.out, hll.out] at this
            exact this
          have Fin := hidx fin
          have Nam := hidx nam
          clear eE hRR hR hv ha hk0 nam fin hin hM he
          go_enter Try.func47, Try.ntmps47
          go_wp2_with fail
          refine (Hv.out _ hmw).mono ?_
          rintro e w1 ⟨rfl, hb1⟩
          have hc1 : w1.cell? ⟨w.heap.size, 0, none⟩ = some (.slice A n c) := Below.cell_of hb1 (by simp)
          have hc2 : w1.cell? ⟨w.heap.size + 1, 0, none⟩ = some (.slice X k d) := Below.cell_of hb1 (by simp)
          go_wp2_with fail
          refine (As.out _ (hlw.below hb1)).mono ?_
          rintro e w2 ⟨rfl, rfl⟩
          go_wp2_with fail
          refine (Nam.out _ (hmw.below hb1) (hlw.below hb1)).mono ?_
          rintro e w2 ⟨rfl, hb2⟩
          have hd1 := Below.cell_of hb2 hc1
          have hd2 := Below.cell_of hb2 hc2
          go_wp2_with fail
          refine (Fin.out _ _ _ hd1 hd2 ((hmw.below hb1).below hb2) ((hlw.below hb1).below hb2)).mono ?_
          rintro e w3 ⟨A3, c3, rfl, hs3, hb3⟩
          go_wp2
          go_ret2
          exact ⟨A3, c3, rfl, hs3, step_trans (step_trans (step_trans hbw hb1) hb2) hb3⟩
        · rw [he] at nam eE
          rw [hR (by omega), eE]
          have Nam := hidx nam
          clear eE hR hv ha hk0 nam he
          go_enter Try.func47, Try.ntmps47
          go_wp2_with fail
          refine (Hv.out _ hmw).mono ?_
          rintro e w1 ⟨rfl, hb1⟩
          have hc1 : w1.cell? ⟨w.heap.size, 0, none⟩ = some (.slice A n c) := Below.cell_of hb1 (by simp)
          have hc2 : w1.cell? ⟨w.heap.size + 1, 0, none⟩ = some (.slice X k d) := Below.cell_of hb1 (by simp)
          go_wp2_with fail
          refine (As.out _ (hlw.below hb1)).mono ?_
          rintro e w2 ⟨rfl, rfl⟩
          go_wp2_with fail
          refine (Nam.out _ (hmw.below hb1) (hlw.below hb1)).mono ?_
          rintro e w2 ⟨rfl, hb2⟩
          go_wp2
          go_ret2
          exact ⟨none, 0, rfl, SM.nil _, step_trans (step_trans hbw hb1) hb2⟩

end Go.Proofs.Ytkkmlcengneomaa
