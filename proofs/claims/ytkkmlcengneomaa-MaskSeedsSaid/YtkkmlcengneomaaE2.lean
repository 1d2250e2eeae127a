/- The contract of lightsieveref02's Rolled. No condition. -/
import Derived.Test.YtkkmlcengneomaaE1
namespace Go.Proofs.Ytkkmlcengneomaa
open Go.RowKit Ls

theorem takeV {w : World} {A : Option Addr} {n c : Nat} {zs : List Int} (h : SI w A n c zs) (k : Nat) (hk : k ≤ n) : SV w A k (ints (zs.take k)) := by
  refine ⟨by rw [ints_len]; have := h.len; simp; omega, fun h0 => ?_⟩
  obtain ⟨ad, e, hc⟩ := h.at_ (by omega)
  refine ⟨ad, e, fun j u hu => ?_⟩
  have hj : j < (zs.take k).length := by
    rcases Nat.lt_or_ge j (zs.take k).length with hlt | hge
    · exact hlt
    · rw [List.getElem?_eq_none (by rw [ints_len]; exact hge)] at hu; cases hu
  rw [ints_get _ j hj] at hu
  cases hu
  have hj2 : j < k := by simp at hj; omega
  have e2 : nth (zs.take k) j = nth zs j := by simp [nth, hj2]
  rw [e2]
  exact hc j (by omega)
theorem dropV {w : World} {A : Option Addr} {n c : Nat} {zs : List Int} (h : SI w A n c zs) (k : Nat) (hk : k ≤ n) : SV w (if c = k then A else A.map (·.add k)) (n - k) (ints (zs.drop k)) := by
  refine ⟨by rw [ints_len]; have := h.len; simp; omega, fun h0 => ?_⟩
  obtain ⟨ad, rfl, hc⟩ := h.at_ (by omega)
  have hck : ¬ c = k := by have := h.cap; omega
  rw [if_neg hck]
  refine ⟨ad.add k, rfl, fun j u hu => ?_⟩
  have hj : j < (zs.drop k).length := by
    rcases Nat.lt_or_ge j (zs.drop k).length with hlt | hge
    · exact hlt
    · rw [List.getElem?_eq_none (by rw [ints_len]; exact hge)] at hu; cases hu
  rw [ints_get _ j hj] at hu
  cases hu
  have hl := h.len
  have hj2 : k + j < n := by simp at hj; omega
  have e2 : nth (zs.drop k) j = nth zs (k + j) := by simp [nth]
  rw [e2, add_add]
  exact hc (k + j) hj2

theorem own_empty2 (w : World) (t : TypeId) : (w.alloc (.cells #[] t)).drew.ownsRow w.heap.size t 1 (.slice (some ⟨w.heap.size, 0, none⟩) 0 0) 0 [] ∧ Below w.heap.size w (w.alloc (.cells #[] t)).drew ∧ True :=
  ⟨World.ownsRow_made w #[] 0 (Nat.le_refl _) (by unfold maxLen; omega) rfl, (below_alloc _ _).drew, trivial⟩

set_option maxRecDepth 100000 in
set_option maxHeartbeats 2000000 in
theorem rrolled_ok (X : Option Addr) (k d n : Nat) (l : List Int) (w : World) (hl : SI w X k d l) (hE : rolledE l n = 0) :
    Calls Try.prog 54 #[.slice X k d, .int .i64 n] w fun e w' => ∃ A' c', e = .returned (.tuple #[.slice A' n c', .int .i64 0]) ∧ SM w' A' n c' (rollL l n) ∧ Below w.heap.size w w' := by
  have hln := hl.nmax
  have hcap := hl.cap
  have hcm := hl.max
  have hll := hidx hl.len
  obtain ⟨hr, n1, n6, l1, l10⟩ := rolled_in hE
  have hn : inB n 1 6 = true := by rw [inB_iff]; omega
  have hk1 : 1 ≤ k := by have := hll.out; omega
  have hk10 : k ≤ 10 := by have := hll.out; omega
  have rw' : ∀ W, SI W X k d l → Calls Try.prog 61 #[.slice X k d] W fun e W' => e = .returned (.bool true) ∧ W = W' := fun W h => by
    have := rrow_any X k d l W h; rwa [hr] at this
  have wi : ∀ W, Calls Try.prog 62 #[.int .i64 n, .int .i64 1, .int .i64 6] W fun e W' => e = .returned (.bool true) ∧ W = W' := fun W => by
    have := rwithin_any n 1 6 W; rwa [hn] at this
  have Rw := hidx rw'
  have Wi := hidx wi
  clear hE hr hn rw' wi
  go_enter Try.func54, Try.ntmps54
  go_wp2_with fail
  refine (Rw.out _ hl).mono ?_
  rintro e w1 ⟨rfl, rfl⟩
  go_wp2_with fail
  refine (Wi.out _).mono ?_
  rintro e w1 ⟨rfl, rfl⟩
  go_wp2
  go_loopw [6, 7, 8, 16] (fun s _ _ i wr => ∃ (q : Nat) (A' : Option Addr) (c' : Nat) (vs : List Value), q ≤ n ∧ i = .int .i64 q ∧ s = .slice A' q c' ∧ wr.ownsRow w.heap.size 24 1 (.slice A' q c') q vs ∧ RowsOwn wr w.heap.size 3 vs (rollL l q) ∧ Below w.heap.size w wr) (fun _ _ _ i _ => n - (intOf i).toNat)
  case atStart => exact ⟨0, none, 0, [], Nat.zero_le _, rfl, rfl, World.ownsRow_nil _ _ _ _, RowsOwn.nil _ _ _, Below.refl _ _⟩
  case round =>
    obtain ⟨q, A', c', vs, hq, rfl, rfl, hown, hrows, hb⟩ := hrel
    by_cases hlt : q < n
    · have hlr := hl.below hb
      obtain ⟨ad, rfl, _⟩ := hlr.at_ (by omega)
      obtain ⟨t, ht⟩ : ∃ t, t = q % k := ⟨_, rfl⟩
      have htk : t < k := by rw [ht]; exact Nat.mod_lt _ hk1
      obtain ⟨cut, hcut⟩ : ∃ cut, cut = k - t := ⟨_, rfl⟩
      have m4 : (q:Int) % k = t := by rw [ht]; push_cast; rfl
      have m5 : (k:Int) - t = cut := by omega
      have HS := hidx (rollL_snoc l q)
      have hrow : rollRow l q = l.drop cut ++ l.take cut := by unfold rollRow; rw [hll.out, ← ht, ← hcut]
      have Hrow := hidx hrow
      have dv := dropV hlr cut (by omega)
      have tv := takeV hlr cut (by omega)
      have od := ints_one (l.drop cut)
      have ot := ints_one (l.take cut)
      have u0 : (0:Int) ≤ cut := by omega
      have u1 : (cut:Int) ≤ k := by omega
      have u2 : (cut:Int) ≤ d := by omega
      have u3 : cut ≤ k := by omega
      have u4 : cut ≤ d := by omega
      have k0 : (0:Int) < k := by omega
      clear hrow hlr hcut ht
      go_wp2
      go_region_law (first
        | (refine step_appN _ eltI rfl (by rfl) (.tmp 27) (.tmp 30) (by rfl) (by rfl) (by rfl) (own_empty2 wr _).1 (own_empty2 wr _).2.1 (Nat.le_refl _) (dv.below (own_empty2 wr _).2.1) od (by omega) (by omega) ?_; intro A2 c2 w2 hown2 hb2 _; rw [Nat.zero_add] at hown2; have tv2 := tv.below hb2)
        | (refine step_appN _ eltI rfl (by rfl) (.tmp 31) (.tmp 34) (by rfl) (by rfl) (by rfl) hown2 hb2 (Nat.le_refl _) tv2 ot (by omega) (by omega) ?_; intro A3 c3 w3 hown3 hb3 _; have hownq := own_below hown hb3; have hb4 := step_trans hb hb3)
        | (refine step_app1n eltM rfl (by rfl) (.tmp 26) (.tmp 36) (by rfl) (by rfl) (by rfl) hownq hb4 (Nat.le_refl _) (by rfl) (by omega) (by omega) ?_; intro A4 c4 w4 hown4 hb5 hg5 _ _))
      go_wp2
      go_roundw
      case rel =>
        have hk5 : KeepsT 3 w3 w4 := KeepsT.grown (by decide) hownq hg5
        have hrow3 : w3.ownsRow wr.heap.size 3 1 (.slice A3 (k - cut + cut) c3) (k - cut + cut) (ints (rollRow l q)) := by
          rw [Hrow.out, show ints (l.drop cut ++ l.take cut) = ints (l.drop cut) ++ ints (l.take cut) by simp [ints]]; exact hown3
        rw [show k - cut + cut = k by omega] at hrow3
        refine ⟨q + 1, A4, c4, _, by omega, by go_num, rfl, hown4, ?_, hb5⟩
        rw [HS.out]
        exact ((hrows.keep (KeepsT.of_below hb3)).keep hk5).snoc (by rw [rollRow_len, hll.out]) (own_keeps (own_base hrow3 hb.size) hk5)
      case measure => simp [intOf]; omega
    · have hqq : q = n := by omega
      subst hqq
      go_wp2
      go_ret2
      exact ⟨A', c', rfl, own_SM hown hrows, hb⟩

set_option maxHeartbeats 1000000 in
theorem rrolled_any (X : Option Addr) (k d : Nat) (n : Int) (l : List Int) (w : World) (hl : SI w X k d l) :
    Calls Try.prog 54 #[.slice X k d, .int .i64 n] w fun e w' => ∃ A' c', e = .returned (.tuple #[.slice A' (rolledR l n).length c', .int .i64 (rolledE l n)]) ∧ SM w' A' (rolledR l n).length c' (rolledR l n) ∧ Below w.heap.size w w' := by
  by_cases hE : rolledE l n = 0
  · obtain ⟨_, n1, n6, _, _⟩ := rolled_in hE
    obtain ⟨N, rfl⟩ := Int.eq_ofNat_of_zero_le (show 0 ≤ n by omega)
    have hRR : rolledR l N = rollL l N := by unfold rolledR; rw [if_pos hE, Int.toNat_natCast]
    rw [hRR, hE, rollL_len]
    exact rrolled_ok X k d N l w hl hE
  · have hR : rolledR l n = [] := by unfold rolledR; rw [if_neg hE]
    rw [hR]
    have hln := hl.nmax
    cases hr : rowB l with
    | false =>
      have e1 : rolledE l n = 1 := by unfold rolledE; rw [hr]; rfl
      rw [e1]
      have rw' := rrow_any X k d l w hl
      rw [hr] at rw'
      have Rw := hidx rw'
      clear e1 hE hR hr rw'
      go_enter Try.func54, Try.ntmps54
      go_wp2_with fail
      refine Rw.out.mono ?_
      rintro e w1 ⟨rfl, rfl⟩
      go_wp2
      go_ret2
      exact ⟨none, 0, rfl, SM.nil _, Below.refl _ _⟩
    | true =>
      have hn : inB n 1 6 = false := by
        cases hn : inB n 1 6 with
        | false => rfl
        | true => exact absurd (by unfold rolledE; rw [hr, hn]; rfl) hE
      have e1 : rolledE l n = 7 := by unfold rolledE; rw [hr, hn]; rfl
      rw [e1]
      have rw' := rrow_any X k d l w hl
      rw [hr] at rw'
      have wi := rwithin_any n 1 6 w
      rw [hn] at wi
      have Rw := hidx rw'
      have Wi := hidx wi
      clear e1 hE hR hr hn rw' wi
      go_enter Try.func54, Try.ntmps54
      go_wp2_with fail
      refine Rw.out.mono ?_
      rintro e w1 ⟨rfl, rfl⟩
      go_wp2_with fail
      refine Wi.out.mono ?_
      rintro e w1 ⟨rfl, rfl⟩
      go_wp2
      go_ret2
      exact ⟨none, 0, rfl, SM.nil _, Below.refl _ _⟩

end Go.Proofs.Ytkkmlcengneomaa
