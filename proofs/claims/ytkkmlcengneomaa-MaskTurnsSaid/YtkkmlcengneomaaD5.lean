/- The contract of lightsieveref02's Permuted. No condition. -/
import Derived.Test.YtkkmlcengneomaaD4
namespace Go.Proofs.Ytkkmlcengneomaa
open Go.RowKit Ls

theorem nodup_of {l : List Int} (h : ∀ b, b < l.length → ∀ a, a < b → nth l a ≠ nth l b) : l.Nodup := by
  unfold List.Nodup
  rw [List.pairwise_iff_getElem]
  intro i j hi hj hij
  have := h j hj i hij
  rwa [nth_eq l i hi, nth_eq l j hj] at this
theorem not_nodup {l : List Int} (a b : Nat) (hab : a < b) (hb : b < l.length) (h : nth l a = nth l b) : ¬ l.Nodup := by
  intro hn
  unfold List.Nodup at hn
  rw [List.pairwise_iff_getElem] at hn
  have := hn a b (by omega) hb hab
  rw [nth_eq l a (by omega), nth_eq l b hb] at h
  exact this h

set_option maxRecDepth 100000 in
set_option maxHeartbeats 4000000 in
theorem rpermuted_any (A X : Option Addr) (n c k d : Nat) (m : List (List Int)) (l : List Int) (w : World) (hm : SM w A n c m) (hl : SI w X k d l) :
    Calls Try.prog 50 #[.slice A n c, .slice X k d] w fun e w' => ∃ A' c', e = .returned (.tuple #[.slice A' (permutedR m l).length c', .int .i64 (permutedE m l)]) ∧ SM w' A' (permutedR m l).length c' (permutedR m l) ∧ Below w.heap.size w w' := by
  have hmn := hm.nmax
  have hln := hl.nmax
  have hml := hidx hm.len
  have hll := hidx hl.len
  have hcp := hl.cap
  have hcpm := hl.max
  have hR : permutedE m l ≠ 0 → permutedR m l = [] := fun h => by unfold permutedR; rw [if_neg h]
  have hv' : ∀ W, SM W A n c m → Calls Try.prog 13 #[.slice A n c] W fun e W' => e = .returned (.bool (validB m)) ∧ W = W' := fun W h => rvalid_any _ n c m W h
  cases hv : validB m with
  | false =>
    have e1 : permutedE m l = 1 := by unfold permutedE; rw [hv]; rfl
    rw [hR (by omega), e1]
    rw [hv] at hv'
    have Hv := hidx hv'
    clear e1 hR hv hv'
    go_enter Try.func50, Try.ntmps50
    go_wp2_with fail
    refine (Hv.out _ hm).mono ?_
    rintro e w1 ⟨rfl, rfl⟩
    go_wp2
    go_ret2
    exact ⟨none, 0, rfl, SM.nil _, Below.refl _ _⟩
  | true =>
    rw [hv] at hv'
    have Hv := hidx hv'
    have hM := IsMask.of hv
    have hM0 := hidx hM
    have hn1 : 0 < n := by have := hM.rows1; have := hml.out; omega
    have hn6 : n ≤ 6 := by have := hM.rows6; have := hml.out; omega
    have hp10 := hM.pix10
    obtain ⟨ad, A0, c0, rfl, h0⟩ : ∃ ad A0 c0, A = some ad ∧ w.cell? ad = some (.slice A0 (nthL m 0).length c0) := by
      obtain ⟨ad, rfl, hca⟩ := hm.at_ (by omega)
      obtain ⟨A0, c0, h0, _⟩ := hca 0 (by omega)
      rw [add_zero] at h0
      exact ⟨ad, A0, c0, rfl, h0⟩
    clear hv' hM
    by_cases hp : k = (nthL m 0).length
    case neg =>
      have e1 : permutedE m l = 9 := by unfold permutedE; rw [hv, hll.out]; simp [hp]
      rw [hR (by omega), e1]
      have hq : ((k : Int) != ((nthL m 0).length : Int)) = true := by simp; omega
      clear e1 hR hv hp
      go_enter Try.func50, Try.ntmps50
      go_wp2_with fail
      refine (Hv.out _ hm).mono ?_
      rintro e w1 ⟨rfl, rfl⟩
      go_wp2
      go_ret2
      exact ⟨none, 0, rfl, SM.nil _, Below.refl _ _⟩
    case pos =>
      have hq : ((k : Int) != ((nthL m 0).length : Int)) = false := by simp; omega
      have nam : ∀ W, SM W (some ad) n c m → SI W X k d l → Calls Try.prog 70 #[.slice (some ad) n c, .slice X k d] W fun e W' => e = .returned (.int .i64 (namedE m l)) ∧ W = W' := fun W h h' => rnamed_any _ X n c k d m l W h h'
      rcases named_01 hv l with he | he
      case inr =>
        have e1 : permutedE m l = 5 := by unfold permutedE; rw [hv, hll.out, he]; simp [hp]
        rw [hR (by omega), e1]
        rw [he] at nam
        have Nam := hidx nam
        clear e1 hR hv hp nam he
        go_enter Try.func50, Try.ntmps50
        go_wp2_with fail
        refine (Hv.out _ hm).mono ?_
        rintro e w1 ⟨rfl, rfl⟩
        go_wp2_with fail
        refine (Nam.out _ hm hl).mono ?_
        rintro e w2 ⟨rfl, rfl⟩
        go_wp2
        go_ret2
        exact ⟨none, 0, rfl, SM.nil _, Below.refl _ _⟩
      case inl =>
        rw [he] at nam
        have Nam := hidx nam
        have hin := hidx (chosen_in he hml.out hll.out)
        have hk10 : k ≤ 10 := by omega
        have fin : ∀ W, SM W (some ad) n c m → SI W X k d l → Calls Try.prog 94 #[.slice (some ad) n c, .slice X k d] W fun e W' => ∃ A' c', e = .returned (.slice A' n c') ∧ SM W' A' n c' (pickL m l) ∧ Below W.heap.size W W' := fun W h3 h4 =>
          rpicked_any _ X n c k d m l W h3 h4 (by omega) (by omega) hin.out
        have Fin := hidx fin
        have HE : permutedE m l = if l.Nodup then 0 else 7 := by unfold permutedE; rw [hv, hll.out, he]; simp [hp]
        have hRR : l.Nodup → permutedR m l = pickL m l := fun h => by unfold permutedR; rw [HE, if_pos h]; rfl
        have HE' := hidx HE
        have HR' := hidx hRR
        have HR0 := hidx hR
        clear hR hv hp nam he fin HE hRR
        go_enter Try.func50, Try.ntmps50
        go_wp2_with fail
        refine (Hv.out _ hm).mono ?_
        rintro e w1 ⟨rfl, rfl⟩
        go_wp2_with fail
        refine (Nam.out _ hm hl).mono ?_
        rintro e w2 ⟨rfl, rfl⟩
        go_wp2
        go_loop [7, 8, 10, 29, 36, 37, 38] (fun _ _ _ i _ _ _ => ∃ q : Nat, q ≤ k ∧ i = .int .i64 q ∧ Hid (∀ b, b < q → ∀ a, a < b → nth l a ≠ nth l b)) (fun _ _ _ i _ _ _ => k - (intOf i).toNat)
        case atStart => exact ⟨0, Nat.zero_le _, rfl, fun b hb => absurd hb (Nat.not_lt_zero _)⟩
        case round =>
          obtain ⟨q, hqk, rfl, hall⟩ := hrel
          by_cases hlt : q < k
          · obtain ⟨xd, rfl, hcx⟩ := hl.at_ (by omega)
            have h3 := hcx q hlt
            have i1 : (0:Int) ≤ q := by omega
            have i2 : (q:Int) ≤ d := by omega
            go_wp2
            go_loop [10, 38] (fun _ j => ∃ p : Nat, p ≤ q ∧ j = .int .i64 p ∧ Hid (∀ a, a < p → nth l a ≠ nth l q)) (fun _ j => q - (intOf j).toNat)
            case atStart => exact ⟨0, Nat.zero_le _, rfl, fun a ha => absurd ha (Nat.not_lt_zero _)⟩
            case round =>
              obtain ⟨p, hpq, rfl, hall2⟩ := hrel
              by_cases hlt2 : p < q
              · have h4 := hcx p (by omega)
                by_cases hee : nth l q = nth l p
                · have hb1 : (nth l q == nth l p) = true := by simp [hee]
                  have hnd : ¬ l.Nodup := not_nodup p q hlt2 (by rw [hll.out]; exact hlt) hee.symm
                  have HEE := hidx (show permutedE m l = 7 by rw [HE'.out, if_neg hnd])
                  have HRR := hidx (HR0.out (by rw [HEE.out]; decide))
                  clear hee hnd hcx
                  go_wp2
                  go_ret2
                  rw [HRR.out, HEE.out]
                  exact ⟨none, 0, rfl, SM.nil _, Below.refl _ _⟩
                · have hb1 : (nth l q == nth l p) = false := by simp [hee]
                  have Hee := hidx hee
                  clear hee hcx
                  go_wp2
                  go_round
                  case rel =>
                    refine ⟨p + 1, by omega, by go_num, fun a ha => ?_⟩
                    by_cases e : a = p
                    · subst e; exact fun h => Hee.out h.symm
                    · exact hall2.out a (by omega)
                  case measure => simp [intOf]; omega
              · have hpp : p = q := by omega
                subst hpp
                go_wp2
                go_round
                case rel =>
                  refine ⟨p + 1, by omega, by go_num, fun b hb a ha => ?_⟩
                  by_cases e : b = p
                  · subst e; exact hall2.out a ha
                  · exact hall.out b (by omega) a ha
                case measure => simp [intOf]; omega
          · have hqq : q = k := by omega
            subst hqq
            have hnd : l.Nodup := nodup_of fun b hb a ha => hall.out b (by rw [hll.out] at hb; exact hb) a ha
            have HEE := hidx (show permutedE m l = 0 by rw [HE'.out, if_pos hnd])
            have HRR := hidx (HR'.out hnd)
            clear hnd
            go_wp2_with fail
            refine (Fin.out _ hm hl).mono ?_
            rintro e w3 ⟨A3, c3, rfl, hs3, hb3⟩
            go_wp2
            go_ret2
            rw [HRR.out, HEE.out, pickL_len, hml.out]
            exact ⟨A3, c3, rfl, hs3, hb3⟩

end Go.Proofs.Ytkkmlcengneomaa
