/- The walk of the law PicEnergy: it returns true, and writes nothing that was there. No condition. -/
import Derived.Test.YtahccnljckgjmaaP7
import Derived.Test.YtahccnljckgjmaaPSq
namespace Go.Proofs.Ytahccnljckgjmaa
open Go.RowKit Ls

set_option maxRecDepth 100000 in
set_option maxHeartbeats 4000000 in
theorem picEnergy_walk {X : Option Addr} {k d : Nat} {l : List Int} (w : World) (hx : SI w X k d l) :
    Calls Try.prog 3 #[.slice X k d] w fun e w' => e = .returned (.bool true) ∧ Below w.heap.size w w' := by
  have hmx := hx.nmax
  have hl1 := SM.new1 22 hx
  have hB0 := below_alloc w (.cells #[.slice X k d] 22)
  have hx0 := hx.below hB0
  have hlen := hidx hx.len
  clear hx
  go_enter Try.func3, Try.ntmps3
  go_wp2_with fail
  refine (long_any _ 1 1 [l] _ hl1).mono ?_
  rintro e w0 ⟨b, rfl, rfl⟩
  clear hl1
  cases b
  case true =>
    go_wp2_with fail
    refine (awake_any _).mono ?_
    rintro e w1 ⟨rfl, hb1⟩
    go_wp2
    go_ret
    exact ⟨rfl, step_trans hB0 hb1⟩
  case false =>
    go_wp2_with fail
    have pw := rPower_any X k d l _ hx0
    cases hp : powerB l with
    | false =>
      rw [hp] at pw
      have Pw := hidx pw
      clear pw hp
      refine Pw.out.mono ?_
      rintro e w0 ⟨rfl, rfl⟩
      go_wp2_with fail
      refine (awake_any _).mono ?_
      rintro e w1 ⟨rfl, hb1⟩
      go_wp2
      go_ret
      exact ⟨rfl, step_trans hB0 hb1⟩
    | true =>
      rw [hp] at pw
      have Pw := hidx pw
      have hpp := hp
      unfold powerB at hpp
      rw [Bool.and_eq_true, vlist_iff] at hpp
      obtain ⟨M, hM, hkM⟩ := powB_of hpp.2
      have hk : k ≤ 256 := by have := hpp.1.2.1; rw [hlen.out] at this; exact this
      have HB := hidx (fun i (hi : i < k) => bnd_nth hpp.1.2.2 i (by rw [hlen.out]; exact hi))
      have HP := hidx hp
      have HPP := hidx hpp.2
      have HM := hidx hkM
      clear pw hp hpp hkM
      refine Pw.out.mono ?_
      rintro e w0 ⟨rfl, rfl⟩
      clear Pw
      go_wp2
      go_loop [3, 4, 27] (fun s t i => ∃ (j : Nat) (m : Int), j ≤ k ∧ i = .int .i64 j ∧ s = .int .i64 (sqTo l j) ∧ t = .int .i64 m ∧ 0 ≤ m ∧ m ≤ 1000000 ∧ Hid (∀ t, t < j → -m ≤ nth l t ∧ nth l t ≤ m)) (fun _ _ i => k - (intOf i).toNat)
      case atStart => exact ⟨0, 0, Nat.zero_le _, rfl, rfl, rfl, by omega, by omega, fun t ht => absurd ht (Nat.not_lt_zero _)⟩
      case round =>
        obtain ⟨j, m, hj, rfl, rfl, rfl, hm0, hm1, hall⟩ := hrel
        by_cases hlt : j < k
        · obtain ⟨ad, rfl, hc⟩ := hx0.at_ (by omega)
          have h1 := hc j hlt
          obtain ⟨h2, h3⟩ := HB.out j hlt
          clear hc
          obtain ⟨m', hm'⟩ : ∃ m', m' = (if (if m < nth l j then nth l j else m) < -nth l j then -nth l j else if m < nth l j then nth l j else m) := ⟨_, rfl⟩
          have q1 : m ≤ m' ∧ nth l j ≤ m' ∧ -nth l j ≤ m' ∧ m' ≤ 1000000 := by
            rw [hm']
            repeat' split
            all_goals omega
          obtain ⟨q1, q2, q3, q4⟩ := q1
          have HM' := hidx hm'
          have Hall : Hid (∀ t, t < j + 1 → -m' ≤ nth l t ∧ nth l t ≤ m') := by
            refine hidx fun t ht => ?_
            by_cases e : t = j
            · subst e; omega
            · have := hall.out t (by omega); omega
          clear hm'
          go_wp2
          go_round
          case rel =>
            exact ⟨j + 1, m', by omega, by go_num, rfl, by rw [HM'.out], by omega, q4, Hall⟩
          case measure => simp [intOf]; omega
        · have hjk : j = k := by omega
          subst hjk
          have e1 : walE l = 0 := by unfold walE; rw [HP.out]; rfl
          have e2 : walR l = walS l := by unfold walR; rw [HP.out]; rfl
          have wc := Walsh_any X j d l _ hx0
          rw [e1, e2, walS_len, hlen.out] at wc
          have Wc := hidx wc
          clear wc e1 e2
          go_wp2_with fail
          refine Wc.out.mono ?_
          rintro e w1 ⟨A1, c1, rfl, r1, hb1⟩
          have hx1 := hx0.below hb1
          have hB1 := step_trans hB0 hb1
          clear hx0 hB0 hb1 Wc
          obtain ⟨S, hS⟩ : ∃ S, S = walS l := ⟨_, rfl⟩
          have hSl : S.length = j := by rw [hS, walS_len]; exact hlen.out
          rw [← hS] at r1
          have HS := hidx hS
          have HSl := hidx hSl
          clear hS hSl
          go_wp2
          go_loop [9, 58] (fun s i => ∃ q : Nat, q ≤ j ∧ i = .int .i64 q ∧ s = .int .i64 (sqTo S q)) (fun _ i => j - (intOf i).toNat)
          case atStart => exact ⟨0, Nat.zero_le _, rfl, rfl⟩
          case round =>
            obtain ⟨q, hq, rfl, rfl⟩ := hrel
            by_cases hlt2 : q < j
            · obtain ⟨ad, rfl, hc⟩ := r1.at_ (by omega)
              have h1 := hc q hlt2
              clear hc
              go_wp2
              go_round
              case rel => exact ⟨q + 1, by omega, by go_num, rfl⟩
              case measure => simp [intOf]; omega
            · have hqj : q = j := by omega
              subst hqj
              have hsq : m ≤ 100000 → (sqTo S q != wrap64 ((q : Int) * sqTo l q)) = false := fun hm => by
                have := wal_sq hM HM.out (fun t ht => by have := hall.out t (by rw [hlen.out] at ht; exact ht); omega)
                rw [hlen.out, ← HS.out] at this
                rw [this]; simp
              have wv := fun V h => rvalidList_any A1 q c1 S V h
              have wc := Walsh_any A1 q c1 S _ r1
              have wp : powB (S.length : Int) = true := by rw [HSl.out]; have := HPP.out; rw [hlen.out] at this; exact this
              cases hv : vlistB S with
              | false =>
                have e1 : walE S = 1 := by unfold walE powerB; rw [hv]; rfl
                rw [e1] at wc
                rw [hv] at wv
                have Wc := hidx wc
                have Wv := hidx wv
                clear wc wv hv e1 wp
                by_cases hm : m ≤ 100000
                · have d1 := hsq hm
                  clear hsq
                  go_wp2_with fail
                  refine Wc.out.mono ?_
                  rintro e w2 ⟨A2, c2, rfl, r2, hb2⟩
                  have hB2 := step_trans hB1 hb2
                  go_wp2_with fail
                  refine (Wv.out _ (r1.below hb2)).mono ?_
                  rintro e w3 ⟨rfl, rfl⟩
                  go_wp2_with fail
                  refine (awake_any _).mono ?_
                  rintro e w3 ⟨rfl, hb3⟩
                  go_wp2
                  go_ret
                  exact ⟨rfl, step_trans hB2 hb3⟩
                · clear hsq
                  go_wp2_with fail
                  refine Wc.out.mono ?_
                  rintro e w2 ⟨A2, c2, rfl, r2, hb2⟩
                  have hB2 := step_trans hB1 hb2
                  go_wp2_with fail
                  refine (Wv.out _ (r1.below hb2)).mono ?_
                  rintro e w3 ⟨rfl, rfl⟩
                  go_wp2_with fail
                  refine (awake_any _).mono ?_
                  rintro e w3 ⟨rfl, hb3⟩
                  go_wp2
                  go_ret
                  exact ⟨rfl, step_trans hB2 hb3⟩
              | true =>
                have e0 : powerB S = true := by unfold powerB; rw [hv, wp]; rfl
                have e1 : walE S = 0 := by unfold walE; rw [e0]; rfl
                have e2 : walR S = walS S := by unfold walR; rw [e0]; rfl
                rw [e1, e2, walS_len, HSl.out] at wc
                rw [hv] at wv
                have Wc := hidx wc
                have Wv := hidx wv
                have H2 := hidx (fun i (hi : i < q) => wal_twice hM HM.out (fun t ht => HB.out t (by rw [hlen.out] at ht; exact ht)) i (by rw [hlen.out]; exact hi))
                have hSS : Hid (walS S = walS (walS l)) := hidx (by rw [HS.out])
                obtain ⟨T, hT⟩ : ∃ T, T = walS S := ⟨_, rfl⟩
                have HT := hidx hT
                clear wc wv hv e1 e2 e0 wp hT
                by_cases hm : m ≤ 100000
                · have d1 := hsq hm
                  clear hsq
                  go_wp2_with fail
                  refine Wc.out.mono ?_
                  rintro e w2 ⟨A2, c2, rfl, r2, hb2⟩
                  have hB2 := step_trans hB1 hb2
                  have hx2 := hx1.below hb2
                  rw [← HT.out] at r2
                  go_wp2_with fail
                  refine (Wv.out _ (r1.below hb2)).mono ?_
                  rintro e w3 ⟨rfl, rfl⟩
                  clear r1 hx1 hB1 hb2
                  go_wp2
                  go_loop [102] (fun i => ∃ p : Nat, p ≤ q ∧ i = .int .i64 p) (fun i => q - (intOf i).toNat)
                  case atStart => exact ⟨0, Nat.zero_le _, rfl⟩
                  case round =>
                    obtain ⟨p, hp, rfl⟩ := hrel
                    by_cases hlt3 : p < q
                    · obtain ⟨ad, rfl, hc⟩ := r2.at_ (by omega)
                      obtain ⟨bd, rfl, hd⟩ := hx2.at_ (by omega)
                      have h1 := hc p hlt3
                      have h2 := hd p hlt3
                      obtain ⟨t1, t2⟩ := H2.out p hlt3
                      rw [← hSS.out, ← HT.out, hlen.out] at t1
                      rw [hlen.out] at t2
                      have d2 : (nth T p != wrap64 ((q : Int) * nth l p)) = false := by rw [t2, t1]; simp
                      clear hc hd t1 t2
                      go_wp2
                      go_round
                      case rel => exact ⟨p + 1, by omega, by go_num⟩
                      case measure => simp [intOf]; omega
                    · go_wp2_with fail
                      refine (awake_any _).mono ?_
                      rintro e w3 ⟨rfl, hb3⟩
                      go_wp2
                      go_ret
                      exact ⟨rfl, step_trans hB2 hb3⟩
                · clear hsq
                  go_wp2_with fail
                  refine Wc.out.mono ?_
                  rintro e w2 ⟨A2, c2, rfl, r2, hb2⟩
                  have hB2 := step_trans hB1 hb2
                  have hx2 := hx1.below hb2
                  rw [← HT.out] at r2
                  go_wp2_with fail
                  refine (Wv.out _ (r1.below hb2)).mono ?_
                  rintro e w3 ⟨rfl, rfl⟩
                  clear r1 hx1 hB1 hb2
                  go_wp2
                  go_loop [102] (fun i => ∃ p : Nat, p ≤ q ∧ i = .int .i64 p) (fun i => q - (intOf i).toNat)
                  case atStart => exact ⟨0, Nat.zero_le _, rfl⟩
                  case round =>
                    obtain ⟨p, hp, rfl⟩ := hrel
                    by_cases hlt3 : p < q
                    · obtain ⟨ad, rfl, hc⟩ := r2.at_ (by omega)
                      obtain ⟨bd, rfl, hd⟩ := hx2.at_ (by omega)
                      have h1 := hc p hlt3
                      have h2 := hd p hlt3
                      obtain ⟨t1, t2⟩ := H2.out p hlt3
                      rw [← hSS.out, ← HT.out, hlen.out] at t1
                      rw [hlen.out] at t2
                      have d2 : (nth T p != wrap64 ((q : Int) * nth l p)) = false := by rw [t2, t1]; simp
                      clear hc hd t1 t2
                      go_wp2
                      go_round
                      case rel => exact ⟨p + 1, by omega, by go_num⟩
                      case measure => simp [intOf]; omega
                    · go_wp2_with fail
                      refine (awake_any _).mono ?_
                      rintro e w3 ⟨rfl, hb3⟩
                      go_wp2
                      go_ret
                      exact ⟨rfl, step_trans hB2 hb3⟩

end Go.Proofs.Ytahccnljckgjmaa
