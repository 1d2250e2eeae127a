/- The contract of mask's Walsh. No condition. -/
import Derived.Test.YtkkmlcengneomaaMSpec5
import Derived.Test.YtkkmlcengneomaaE1
import Derived.Test.YtkkmlcengneomaaD1
namespace Go.Proofs.Ytkkmlcengneomaa
open Go.RowKit Ls

theorem walsh1_ok (B : Nat) (p : Int) (w : World) (hB : w.cell? ⟨B, 0, none⟩ = some (.int .i64 p)) (h1 : 1 ≤ p) (h8 : p ≤ 8) :
    FokI Try.prog 89 #[.pointer (some ⟨B, 0, none⟩)] (fun i => inB i 0 (p - 1)) w := by
  refine ⟨(enters_of Try.func89 (by kernel_rfl) rfl), fun x W hW => ?_⟩
  have hc := Below.cell_of hW hB
  have hw : IntKind.i64.wrap (p - 1) = p - 1 := by rw [IntKind.wrap_i64]; omega
  clear hB
  go_enter Try.func89, Try.ntmps89
  go_wp2_with (go_at_call 74; refine (within_any _ _ _ _).mono ?_; rintro e w1 ⟨rfl, rfl⟩)
  go_ret
  exact ⟨rfl, Below.refl _ _⟩

set_option maxRecDepth 100000 in
theorem walsh2_ok (B : Nat) (X : Option Addr) (k d p : Nat) (l : List Int) (w : World) (hB : w.cell? ⟨B, 0, none⟩ = some (.slice X k d)) (hl : SI w X k d l) (hp : p ≤ 8) (hin : ∀ i, i < k → 0 ≤ nth l i ∧ nth l i < p) :
    FokT Try.prog 90 #[.pointer (some ⟨B, 0, none⟩)] k p (walF l) w := by
  refine ⟨(enters_of Try.func90 (by kernel_rfl) rfl), fun i j W hi hj hW => ?_⟩
  have hc := Below.cell_of hW hB
  have hmx := hl.nmax
  obtain ⟨g1, g2⟩ := hin i hi
  obtain ⟨u, hu⟩ := Int.eq_ofNat_of_zero_le g1
  obtain ⟨xd, rfl, hcx⟩ := (hl.below hW).at_ (by omega)
  have h4 := hcx i hi
  have hv : walF l i j = 1 - 2 * ((popc 9 (u &&& j) % 2 : Nat) : Int) := by unfold walF walV; rw [hu, Int.toNat_natCast]
  rw [hv]
  rw [hu] at h4
  have ha := and_small u (by omega) j (by omega)
  have hon := fun W => ones_any (u &&& j) W (and_lt (by omega))
  obtain ⟨v, hv2⟩ : ∃ v, v = u &&& j := ⟨_, rfl⟩
  obtain ⟨o, ho⟩ : ∃ o, o = popc 9 v := ⟨_, rfl⟩
  rw [← hv2] at ha hon ⊢
  rw [← ho] at hon ⊢
  have hv8 : v ≤ 8 := by rw [hv2]; exact Nat.le_trans Nat.and_le_right (by omega)
  have Hon := hidx hon
  have e1 : IntKind.u64.wrap (v : Int) = v := by rw [IntKind.wrap_u64]; omega
  clear hcx hl hB hin g1 g2 hu hv hv2 ho hon
  go_enter Try.func90, Try.ntmps90
  go_wp2_with (go_at_call 86; refine (Hon.out _).mono ?_; rintro e w1 ⟨rfl, rfl⟩)
  go_ret
  exact ⟨ret_i64 (by simp), Below.refl _ _⟩

set_option maxRecDepth 100000 in
set_option maxHeartbeats 4000000 in
theorem walsh_any (X : Option Addr) (k d : Nat) (p : Int) (l : List Int) (w : World) (hl : SI w X k d l) :
    Calls Try.prog 45 #[.int .i64 p, .slice X k d] w fun e w' => ∃ A' c', e = .returned (.tuple #[.slice A' (walshR p l).length c', .int .i64 (walshE p l)]) ∧ SM w' A' (walshR p l).length c' (walshR p l) ∧ Below w.heap.size w w' := by
  have hz1 := fun o o' => step_trans (below_alloc w o) (below_alloc (w.alloc o) o')
  have hln := hl.nmax
  have hll := hidx hl.len
  have hR : walshE p l = 7 → walshR p l = [] := fun h => by unfold walshR; rw [if_neg (by omega)]
  have hlw := hl.below (hz1 (.cells #[.int .i64 p] 3) (.cells #[.slice X k d] 24))
  have hbw := hz1 (.cells #[.int .i64 p] 3) (.cells #[.slice X k d] 24)
  have hc1 : ((w.alloc (.cells #[.int .i64 p] 3)).alloc (.cells #[.slice X k d] 24)).cell? ⟨w.heap.size, 0, none⟩ = some (.int .i64 p) := by simp
  have hc2 : ((w.alloc (.cells #[.int .i64 p] 3)).alloc (.cells #[.slice X k d] 24)).cell? ⟨w.heap.size + 1, 0, none⟩ = some (.slice X k d) := by simp
  have wi : ∀ W, Calls Try.prog 74 #[.int .i64 p, .int .i64 1, .int .i64 8] W fun e W' => e = .returned (.bool (inB p 1 8)) ∧ W = W' := fun W => within_any p 1 8 W
  have wk : ∀ W, Calls Try.prog 74 #[.int .i64 k, .int .i64 1, .int .i64 6] W fun e W' => e = .returned (.bool (inB k 1 6)) ∧ W = W' := fun W => within_any k 1 6 W
  have asc : ∀ W, SI W X k d l → Calls Try.prog 87 #[.slice X k d] W fun e W' => e = .returned (.bool (ascB l)) ∧ W = W' := fun W h => ascending_any X k d l W h
  clear hl hz1
  cases hp : inB p 1 8 with
  | false =>
    have e1 : walshE p l = 7 := by unfold walshE; rw [side_not hp]; rfl
    rw [hR e1, e1]
    rw [hp] at wi
    have Wi := hidx wi
    clear e1 hR hp wi wk asc
    go_enter Try.func45, Try.ntmps45
    go_wp2_with fail
    refine (Wi.out _).mono ?_
    rintro e w1 ⟨rfl, rfl⟩
    go_wp2
    go_ret2
    exact ⟨none, 0, rfl, SM.nil _, hbw⟩
  | true =>
    have hp' := hp
    rw [inB_iff] at hp'
    obtain ⟨P, rfl⟩ := Int.eq_ofNat_of_zero_le (show 0 ≤ p by omega)
    have hP1 : 1 ≤ P := by omega
    have hP8 : P ≤ 8 := by omega
    have hside := side_small hp'.1 hp'.2
    rw [Int.toNat_natCast] at hside
    have hon := fun W => ones_any P W (by omega)
    have eo : IntKind.u64.wrap (P : Int) = P := by rw [IntKind.wrap_u64]; omega
    rw [hp] at wi
    have Wi := hidx wi
    clear hp hp' wi
    by_cases ho : popc 9 P = 1
    case neg =>
      have e1 : walshE P l = 7 := by unfold walshE; rw [hside, decide_eq_false ho]; rfl
      rw [hR e1, e1]
      have ho2 : (((popc 9 P : Nat) : Int) == 1) = false := by rw [beq_eq_false_iff_ne]; omega
      obtain ⟨o, hoo⟩ : ∃ o, o = popc 9 P := ⟨_, rfl⟩
      rw [← hoo] at hon ho2
      have Hon := hidx hon
      clear e1 hR wk asc ho hoo hside hon
      go_enter Try.func45, Try.ntmps45
      go_wp2_with fail
      refine (Wi.out _).mono ?_
      rintro e w1 ⟨rfl, rfl⟩
      go_wp2_with fail
      refine (Hon.out _).mono ?_
      rintro e w1 ⟨rfl, rfl⟩
      go_wp2
      go_ret2
      exact ⟨none, 0, rfl, SM.nil _, hbw⟩
    case pos =>
      rw [ho] at hon
      rw [decide_eq_true ho] at hside
      have Hon := hidx hon
      clear hon ho
      cases hk : inB k 1 6 with
      | false =>
        have e1 : walshE P l = 7 := by unfold walshE; rw [hside, hll.out, hk]; rfl
        rw [hR e1, e1]
        rw [hk] at wk
        have Wk := hidx wk
        clear e1 hR wk asc hside hk
        go_enter Try.func45, Try.ntmps45
        go_wp2_with fail
        refine (Wi.out _).mono ?_
        rintro e w1 ⟨rfl, rfl⟩
        go_wp2_with fail
        refine (Hon.out _).mono ?_
        rintro e w1 ⟨rfl, rfl⟩
        go_wp2_with fail
        refine (Wk.out _).mono ?_
        rintro e w1 ⟨rfl, rfl⟩
        go_wp2
        go_ret2
        exact ⟨none, 0, rfl, SM.nil _, hbw⟩
      | true =>
        rw [hk] at wk
        have Wk := hidx wk
        have hk' := hk
        rw [inB_iff] at hk'
        have hk6 : k ≤ 6 := by omega
        clear wk hk'
        cases ha : ascB l with
        | false =>
          have e1 : walshE P l = 7 := by unfold walshE; rw [hside, hll.out, hk, ha]; rfl
          rw [hR e1, e1]
          rw [ha] at asc
          have As := hidx asc
          clear e1 hR asc hside hk ha
          go_enter Try.func45, Try.ntmps45
          go_wp2_with fail
          refine (Wi.out _).mono ?_
          rintro e w1 ⟨rfl, rfl⟩
          go_wp2_with fail
          refine (Hon.out _).mono ?_
          rintro e w1 ⟨rfl, rfl⟩
          go_wp2_with fail
          refine (Wk.out _).mono ?_
          rintro e w1 ⟨rfl, rfl⟩
          go_wp2_with fail
          refine (As.out _ hlw).mono ?_
          rintro e w1 ⟨rfl, rfl⟩
          go_wp2
          go_ret2
          exact ⟨none, 0, rfl, SM.nil _, hbw⟩
        | true =>
          rw [ha] at asc
          have As := hidx asc
          have alc : ∀ B W, W.cell? ⟨B, 0, none⟩ = some (.int .i64 P) → SI W X k d l → Calls Try.prog 88 #[.slice X k d, .func (.func 89) #[] #[.pointer (some ⟨B, 0, none⟩)]] W fun e W' => e = .returned (.bool (l.all (fun i => inB i 0 ((P:Int) - 1)))) ∧ Below W.heap.size W W' := fun B W hB h =>
            allI X k d _ _ _ l W h (walsh1_ok B P W hB (by omega) (by omega))
          clear asc
          have e0 : walshE P l = if l.all (fun i => inB i 0 ((P:Int) - 1)) then 0 else 7 := by unfold walshE; rw [hside, hll.out, hk, ha]; rfl
          cases hq : l.all (fun i => inB i 0 ((P:Int) - 1)) with
          | false =>
            rw [hq] at e0 alc
            have e1 : walshE P l = 7 := e0
            rw [hR e1, e1]
            have Alc := hidx alc
            clear e0 e1 hR hside hk ha alc hq
            go_enter Try.func45, Try.ntmps45
            go_wp2_with fail
            refine (Wi.out _).mono ?_
            rintro e w1 ⟨rfl, rfl⟩
            go_wp2_with fail
            refine (Hon.out _).mono ?_
            rintro e w1 ⟨rfl, rfl⟩
            go_wp2_with fail
            refine (Wk.out _).mono ?_
            rintro e w1 ⟨rfl, rfl⟩
            go_wp2_with fail
            refine (As.out _ hlw).mono ?_
            rintro e w1 ⟨rfl, rfl⟩
            go_wp2_with fail
            refine (Alc.out _ _ hc1 hlw).mono ?_
            rintro e w2 ⟨rfl, hb2⟩
            go_wp2
            go_ret2
            exact ⟨none, 0, rfl, SM.nil _, step_trans hbw hb2⟩
          | true =>
            have hin : ∀ i, i < k → 0 ≤ nth l i ∧ nth l i < P := fun i hi => by
              have := all_nth hq i (by rw [hll.out]; exact hi)
              rw [inB_iff] at this
              omega
            rw [hq] at e0 alc
            have e1 : walshE P l = 0 := e0
            have hRR : walshR P l = walL l P := by unfold walshR; rw [if_pos e1, Int.toNat_natCast]
            rw [hRR, e1, walL_len, hll.out]
            have Alc := hidx alc
            have fin : ∀ B Y c W, W.cell? ⟨B, 0, none⟩ = some (.slice X k d) → SM W Y k c (List.replicate k []) → SI W X k d l →
                Calls Try.prog 79 #[.slice Y k c, .int .i64 P, .func (.func 90) #[] #[.pointer (some ⟨B, 0, none⟩)]] W fun e W' => ∃ A' c', e = .returned (.slice A' k c') ∧ SM W' A' k c' (walL l P) ∧ Below W.heap.size W W' := fun B Y c W h1 h3 h4 => by
              have := copied_any Y k c P _ _ (List.replicate k []) _ W h3 (by omega) (by omega) (walsh2_ok B X k d P l W h1 h4 hP8 hin)
              rw [← hll.out, rowsF_wal l P] at this
              rw [← hll.out]
              exact this
            have Fin := hidx fin
            clear e0 e1 hRR hR hside hk ha alc hq fin hin
            go_enter Try.func45, Try.ntmps45
            go_wp2_with fail
            refine (Wi.out _).mono ?_
            rintro e w1 ⟨rfl, rfl⟩
            go_wp2_with fail
            refine (Hon.out _).mono ?_
            rintro e w1 ⟨rfl, rfl⟩
            go_wp2_with fail
            refine (Wk.out _).mono ?_
            rintro e w1 ⟨rfl, rfl⟩
            go_wp2_with fail
            refine (As.out _ hlw).mono ?_
            rintro e w1 ⟨rfl, rfl⟩
            go_wp2_with fail
            refine (Alc.out _ _ hc1 hlw).mono ?_
            rintro e w2 ⟨rfl, hb2⟩
            have hd1 := Below.cell_of hb2 hc1
            have hd2 := Below.cell_of hb2 hc2
            have hl2 := hlw.below hb2
            have hbw2 := step_trans hbw hb2
            clear hlw hbw hc1 hc2 hb2
            go_wp2_with fail
            obtain ⟨w3, hmk, hown3, hb3', hlt3⟩ := make_run w2.drew eltM rfl k (by omega) (by omega)
            have hb3 := undrew hb3'
            have f1 := Below.cell_of hb3 hd1
            have f2 := Below.cell_of hb3 hd2
            have hcall := Fin.out _ _ _ _ f2 (nil_mask hown3) (hl2.below hb3)
            have Hcall := hidx hcall
            clear hcall hb3'
            go_region_held3 (fun w' => w'.cell? ⟨w.heap.size, 0, none⟩ = some (.int .i64 P) ∧ w'.cell? ⟨w.heap.size + 1, 0, none⟩ = some (.slice X k d)) (first | go_keep | exact ⟨hd1, hd2⟩ | exact ⟨f1, f2⟩ | exact ⟨Below.cell_of hb4 f1, Below.cell_of hb4 f2⟩)
              (first | (go_at_call 79; refine Hcall.out.mono ?_; rintro e w4 ⟨A4, c4, rfl, hs4, hb4⟩))
            all_goals go_wp2
            all_goals
              go_ret2
              exact ⟨A4, c4, rfl, hs4, step_trans (step_trans hbw2 hb3) hb4⟩

end Go.Proofs.Ytkkmlcengneomaa
