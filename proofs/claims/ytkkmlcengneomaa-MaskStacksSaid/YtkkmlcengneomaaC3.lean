/- Contracts of lightsieveref02's Stacked, Without. No condition. -/
import Derived.Test.YtkkmlcengneomaaC2
import Derived.Test.YtkkmlcengneomaaMSpec2
namespace Go.Proofs.Ytkkmlcengneomaa
open Go.RowKit Ls

theorem rcopied_mask (A : Option Addr) (n c : Nat) (m : List (List Int)) (w : World) (hm : SM w A n c m) (hn : n ≤ 6) (hl : ∀ k, k < n → (nthL m k).length ≤ 10) :
    Calls Try.prog 81 #[.slice A n c] w fun e w' => ∃ A' c' vs, e = .returned (.slice A' n c') ∧ w'.ownsRow w.heap.size 24 1 (.slice A' n c') n vs ∧ RowsOwn w' w.heap.size 3 vs m ∧ Below w.heap.size w w' :=
  rcopied_any A n c m w hm (by omega) (fun k hk => Nat.le_trans (hl k hk) (by omega))

set_option maxHeartbeats 2000000 in
theorem rstacked_any (A B : Option Addr) (n c k d : Nat) (a b : List (List Int)) (w : World) (ha : SM w A n c a) (hb : SM w B k d b) :
    Calls Try.prog 37 #[.slice A n c, .slice B k d] w fun e w' => ∃ A' c', e = .returned (.tuple #[.slice A' (stackR a b).length c', .int .i64 (stackE a b)]) ∧ SM w' A' (stackR a b).length c' (stackR a b) ∧ Below w.heap.size w w' := by
  have hnm := ha.nmax
  have hkm := hb.nmax
  by_cases hE : stackE a b = 0
  · obtain ⟨hA, hB, hp, hs⟩ := stack_ok hE
    have hva : validB a = true := by unfold stackE at hE; split at hE <;> first | assumption | omega
    have hvb : validB b = true := by unfold stackE at hE; rw [hva] at hE; simp at hE; split at hE <;> first | assumption | omega
    have hR : stackR a b = a ++ b := by unfold stackR; rw [if_pos hE]
    have hR2 := hidx hR
    have hla := ha.len
    have hlb := hb.len
    have ha1 := hA.rows1
    have hb1 := hB.rows1
    have ca := fun W h => rcopied_mask A n c a W h (by omega) (fun i hi => by rw [hA.each i (by omega)]; exact hA.pix10)
    have cb := fun W h => rcopied_mask B k d b W h (by omega) (fun i hi => by rw [hB.each i (by omega)]; exact hB.pix10)
    have Ca := hidx ca
    have Cb := hidx cb
    have ha' := ha
    have hb' := hb
    obtain ⟨ad, rfl, hca⟩ := ha.at_ (by omega)
    obtain ⟨A0, c0, h0, _⟩ := hca 0 (by omega)
    rw [add_zero] at h0
    obtain ⟨bd, rfl, hcb⟩ := hb.at_ (by omega)
    obtain ⟨B0, d0, h1, _⟩ := hcb 0 (by omega)
    rw [add_zero] at h1
    have hq : (((nthL a 0).length : Int) != ((nthL b 0).length : Int)) = false := by rw [hp]; simp
    have hsum : n + k ≤ 6 := by omega
    have hna : 1 ≤ n := by omega
    have hkb : 1 ≤ k := by omega
    have Hla := hidx hla
    have Hlb := hidx hlb
    clear hca hcb hR ca cb hp hla hlb ha1 hb1 hs
    go_enter Try.func37, Try.ntmps37
    go_wp2_with fail
    refine (rvalid_any _ n c a _ ha').mono ?_
    rintro e w1 ⟨rfl, rfl⟩
    go_wp2_with fail
    refine (rvalid_any _ k d b _ hb').mono ?_
    rintro e w1 ⟨rfl, rfl⟩
    go_wp2_with fail
    go_quiet (fail)
    have ha2 := ha'.below (below_drewN (Below.refl _ w) nq)
    have hb2 := hb'.below (below_drewN (Below.refl _ w) nq)
    have hw2 := below_drewN (Below.refl w.heap.size w) nq
    generalize w.drewN nq = w2 at ha2 hb2 hw2 ⊢
    clear ha' hb' ha hb h0 h1
    go_wp2_with fail
    refine (Ca.out _ ha2).mono ?_
    rintro e w3 ⟨A3, c3, vs3, rfl, hown3, hrows3, hb3⟩
    go_wp2_with fail
    refine (Cb.out _ (hb2.below hb3)).mono ?_
    rintro e w4 ⟨A4, c4, vs4, rfl, hown4, hrows4, hb4⟩
    have hown3' := own_below hown3 hb4
    have hrows3' := hrows3.keep (KeepsT.of_below hb4)
    have sv4 := own_SV hown4
    have one4 := rows_one hrows4.read
    have hb24 := step_trans hb3 hb4
    clear hown3 hrows3 ha2 hb2
    go_wp2_with (at_builtin; refine appN _ eltM rfl rfl _ _ rfl rfl rfl hown3' hb24 (Nat.le_refl _) sv4 one4 (by omega) (by omega) ?_; intro A5 c5 w5 hown5 hb5 hg5)
    go_ret2
    have hk5 : KeepsT 3 w4 w5 := KeepsT.grown (by decide) hown3' hg5
    have hall := (hrows3'.keep hk5).append ((hrows4.base hb3.size).keep hk5)
    have hlen : (stackR a b).length = n + k := by rw [hR2.out, List.length_append, Hla.out, Hlb.out]
    rw [hlen, hR2.out]
    exact ⟨A5, c5, ret2_i64 hE.symm, own_SM hown5 hall, step_trans hw2 hb5⟩
  · have hR : stackR a b = [] := by unfold stackR; rw [if_neg hE]
    rw [hR]
    clear hR
    cases hva : validB a with
    | false =>
      have e1 : stackE a b = 1 := by unfold stackE; rw [hva]; rfl
      rw [e1]
      clear hE e1
      go_enter Try.func37, Try.ntmps37
      go_wp2_with (go_at_call 13; refine (rvalid_any _ n c a _ ha).mono ?_; rintro e w1 ⟨rfl, rfl⟩)
      go_ret2
      exact ⟨none, 0, rfl, SM.nil _, Below.refl _ _⟩
    | true =>
      cases hvb : validB b with
      | false =>
        have e1 : stackE a b = 1 := by unfold stackE; rw [hva, hvb]; rfl
        rw [e1]
        clear hE e1
        go_enter Try.func37, Try.ntmps37
        go_wp2_with fail
        refine (rvalid_any _ n c a _ ha).mono ?_
        rintro e w1 ⟨rfl, rfl⟩
        go_wp2_with fail
        refine (rvalid_any _ k d b _ hb).mono ?_
        rintro e w1 ⟨rfl, rfl⟩
        go_wp2
        go_ret2
        exact ⟨none, 0, rfl, SM.nil _, Below.refl _ _⟩
      | true =>
        have hA := IsMask.of hva
        have hB := IsMask.of hvb
        have hla := ha.len
        have hlb := hb.len
        have ha1 := hA.rows1
        have hb1 := hB.rows1
        have ha' := ha
        have hb' := hb
        obtain ⟨ad, rfl, hca⟩ := ha.at_ (by omega)
        obtain ⟨A0, c0, h0, _⟩ := hca 0 (by omega)
        rw [add_zero] at h0
        obtain ⟨bd, rfl, hcb⟩ := hb.at_ (by omega)
        obtain ⟨B0, d0, h1, _⟩ := hcb 0 (by omega)
        rw [add_zero] at h1
        have hna : 1 ≤ n := by omega
        have hkb : 1 ≤ k := by omega
        clear hca hcb
        by_cases hp : (nthL a 0).length = (nthL b 0).length
        · have e1 : stackE a b = 4 := by unfold stackE at hE ⊢; rw [hva, hvb] at hE ⊢; simp [hp] at hE ⊢; exact hE
          rw [e1]
          have hs : ¬ n + k ≤ 6 := by
            intro hs
            unfold stackE at hE; rw [hva, hvb] at hE; simp [hp] at hE; omega
          have hq : (((nthL a 0).length : Int) != ((nthL b 0).length : Int)) = false := by rw [hp]; simp
          have hs2 : (6:Int) < (n:Int) + (k:Int) := by omega
          have hn6 : n ≤ 6 := by have := hA.rows6; omega
          have hk6 : k ≤ 6 := by have := hB.rows6; omega
          clear hE e1 hp hla hlb ha1 hb1 hA hB hs
          go_enter Try.func37, Try.ntmps37
          go_wp2_with fail
          refine (rvalid_any _ n c a _ ha').mono ?_
          rintro e w1 ⟨rfl, rfl⟩
          go_wp2_with fail
          refine (rvalid_any _ k d b _ hb').mono ?_
          rintro e w1 ⟨rfl, rfl⟩
          go_wp2_with fail
          go_quiet (fail)
          go_wp2
          go_ret2
          exact ⟨none, 0, rfl, SM.nil _, below_drewN (Below.refl _ w) _⟩
        · have e1 : stackE a b = 9 := by unfold stackE; rw [hva, hvb]; simp [hp]
          rw [e1]
          have hq : (((nthL a 0).length : Int) != ((nthL b 0).length : Int)) = true := by simp; omega
          clear hE e1 hp hla hlb ha1 hb1 hA hB
          go_enter Try.func37, Try.ntmps37
          go_wp2_with fail
          refine (rvalid_any _ n c a _ ha').mono ?_
          rintro e w1 ⟨rfl, rfl⟩
          go_wp2_with fail
          refine (rvalid_any _ k d b _ hb').mono ?_
          rintro e w1 ⟨rfl, rfl⟩
          go_wp2_with fail
          go_quiet (fail)
          go_wp2
          go_ret2
          exact ⟨none, 0, rfl, SM.nil _, below_drewN (Below.refl _ w) _⟩

end Go.Proofs.Ytkkmlcengneomaa
