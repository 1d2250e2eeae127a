/- The walk of the law MaskStacks: it returns true, and writes nothing that was there. No condition. -/
import Derived.Test.YtkkmlcengneomaaC8
import Derived.Test.YtkkmlcengneomaaAppG
import Derived.Test.YtkkmlcengneomaaC4
import Derived.Test.YtkkmlcengneomaaLReadsW
namespace Go.Proofs.Ytkkmlcengneomaa
open Go.RowKit Ls

theorem stack_law {a b : List (List Int)} {x : List Int} (h : stackE a b = 0) (hx : shownE a x = 0) : shownE b x = 0 ∧ stackR a b = a ++ b ∧ shownE (a ++ b) x = 0 ∧ readR (a ++ b) x = readR a x ++ readR b x := by
  obtain ⟨hA, hB, hl, hn⟩ := stack_ok h
  have hva : validB a = true := by unfold stackE at h; split at h <;> first | assumption | omega
  have hvb : validB b = true := by unfold stackE at h; rw [if_pos hva] at h; split at h <;> first | assumption | omega
  have hxl : listedE (nthL a 0).length 1000000 x = 0 := by unfold shownE listE at hx; rw [if_pos hva] at hx; exact hx
  have h1 : nthL (a ++ b) 0 = nthL a 0 := nthL_left a b 0 (by have := hA.rows1; omega)
  have hv : validB (a ++ b) = true := by
    unfold validB at hva hvb ⊢
    rw [Bool.and_eq_true, inB_iff] at hva hvb ⊢
    refine ⟨by rw [List.length_append]; have := hva.1; omega, ?_⟩
    rw [List.all_append, Bool.and_eq_true]
    have e1 : fitB (a ++ b) = fitB a := by funext l; unfold fitB; rw [h1]
    have e2 : fitB (a ++ b) = fitB b := by funext l; unfold fitB; rw [h1, hl]
    exact ⟨by rw [e1]; exact hva.2, by rw [e2]; exact hvb.2⟩
  have s1 : shownE b x = 0 := by unfold shownE listE; rw [if_pos hvb, ← hl]; exact hxl
  have s2 : shownE (a ++ b) x = 0 := by unfold shownE listE; rw [if_pos hv, h1]; exact hxl
  refine ⟨s1, by unfold stackR; rw [if_pos h], s2, ?_⟩
  unfold readR
  rw [if_pos s1, if_pos s2, if_pos hx]
  simp [readL]

theorem read_six {m : List (List Int)} {x : List Int} (h : shownE m x = 0) : (readR m x).length ≤ 6 := by
  unfold readR; rw [if_pos h, readL_len]; exact (shown_mask h).1.rows6
theorem own_empty (w : World) (t : TypeId) : (w.alloc (.cells #[] t)).ownsRow w.heap.size t 1 (.slice (some ⟨w.heap.size, 0, none⟩) 0 0) 0 [] :=
  ⟨rfl, .inr ⟨w.heap.size, 0, #[], rfl, Nat.le_refl _, heap_alloc_new w _, Nat.le_refl _, by unfold maxLen; omega, rfl, rfl⟩⟩

/-- The three ways through the law. -/
theorem stack_cases (a b : List (List Int)) (x : List Int) :
    (stackE a b != 0) = true ∨ (stackE a b != 0) = false ∧ (shownE a x == 0) = false ∨
    (stackE a b != 0) = false ∧ (shownE a x == 0) = true ∧ shownE a x = 0 ∧ shownE b x = 0 ∧ shownE (stackR a b) x = 0 ∧ Hid (readR (stackR a b) x = readR a x ++ readR b x) ∧ (readR a x).length ≤ 6 ∧ (readR b x).length ≤ 6 := by
  by_cases h : stackE a b = 0
  · by_cases hx : shownE a x = 0
    · obtain ⟨h1, h2, h3, h4⟩ := stack_law h hx
      exact .inr (.inr ⟨by simp [h], by simp [hx], hx, h1, by rw [h2]; exact h3, by rw [h2]; exact h4, read_six hx, read_six h1⟩)
    · exact .inr (.inl ⟨by simp [h], by simp [hx]⟩)
  · exact .inl (by simp [h])

set_option maxRecDepth 100000 in
set_option maxHeartbeats 4000000 in
theorem stacks_walk {A B X : Option Addr} {n c k d j f : Nat} {a b : List (List Int)} {i : Int} {x : List Int} (w : World) (ha : SM w A n c a) (hb : SM w B k d b) (_hi : (Lit.int .i64 i).wf = true) (hx : SI w X j f x) :
    Calls Try.prog 6 #[.slice A n c, .slice B k d, .int .i64 i, .slice X j f] w fun e w' => e = .returned (.bool true) ∧ Below w.heap.size w w' := by
  have hself := same_self
  have hz0 := below_alloc w
  have hz1 := fun o o' => step_trans (below_alloc w o) (below_alloc (w.alloc o) o')
  have hl2 : ∀ o t, SM ((w.alloc o).alloc (.cells #[.slice X j f] t)) (some ⟨w.heap.size + 1, 0, none⟩) 1 1 [x] := fun o t => by
    have := SM.new1 t (hx.below (below_alloc w o))
    rwa [World.size_alloc] at this
  go_enter Try.func6, Try.ntmps6
  go_wp2_with fail
  refine (small_any _ 2 2 [a, b] _ (S3.new2 _ ha hb)).mono ?_
  rintro e w0 ⟨g, rfl, rfl⟩
  cases g
  · go_wp2_with fail
    refine (awake_any _).mono ?_
    rintro e w1 ⟨rfl, hb1⟩
    go_wp2
    go_ret
    exact ⟨rfl, step_trans (hz0 _) hb1⟩
  · go_wp2_with fail
    refine (long_any _ 1 1 [x] _ (hl2 _ _)).mono ?_
    rintro e w0 ⟨rfl, rfl⟩
    cases longB [x]
    · have ha0 := ha.below (hz1 (.cells #[.slice A n c, .slice B k d] 23) (.cells #[.slice X j f] 24))
      have hb0 := hb.below (hz1 (.cells #[.slice A n c, .slice B k d] 23) (.cells #[.slice X j f] 24))
      have hx0 := hx.below (hz1 (.cells #[.slice A n c, .slice B k d] 23) (.cells #[.slice X j f] 24))
      have hB0 := hz1 (.cells #[.slice A n c, .slice B k d] 23) (.cells #[.slice X j f] 24)
      clear ha hb hx hz1 hl2 hz0
      go_wp2_with fail
      refine (stacked_any _ _ _ _ _ _ _ _ _ ha0 hb0).mono ?_
      rintro e w1 ⟨A1, c1, rfl, hp, hb1⟩
      have ha_1 := ha0.below hb1
      have hb_1 := hb0.below hb1
      have hx_1 := hx0.below hb1
      have hB1 := step_trans hB0 hb1
      have p_1 := hp
      clear ha0 hb0 hx0 hB0 hb1
      go_wp2_with fail
      refine (rstacked_any _ _ _ _ _ _ _ _ _ ha_1 hb_1).mono ?_
      rintro e w2 ⟨A2, c2, rfl, hq, hb2⟩
      have ha_2 := ha_1.below hb2
      have hb_2 := hb_1.below hb2
      have hx_2 := hx_1.below hb2
      have p_2 := p_1.below hb2
      have hB2 := step_trans hB1 hb2
      have q_2 := hq
      clear ha_1 hb_1 hx_1 p_1 hB1 hb2
      go_wp2_with fail
      refine (without_any _ _ _ _ _ _ ha_2).mono ?_
      rintro e w3 ⟨A3, c3, rfl, hr, hb3⟩
      have ha_3 := ha_2.below hb3
      have hb_3 := hb_2.below hb3
      have hx_3 := hx_2.below hb3
      have p_3 := p_2.below hb3
      have q_3 := q_2.below hb3
      have hB3 := step_trans hB2 hb3
      have r_3 := hr
      clear ha_2 hb_2 hx_2 p_2 q_2 hB2 hb3
      go_wp2_with fail
      refine (rwithout_any _ _ _ _ _ _ ha_3).mono ?_
      rintro e w4 ⟨A4, c4, rfl, hs, hb4⟩
      have ha_4 := ha_3.below hb4
      have hb_4 := hb_3.below hb4
      have hx_4 := hx_3.below hb4
      have p_4 := p_3.below hb4
      have q_4 := q_3.below hb4
      have r_4 := r_3.below hb4
      have hB4 := step_trans hB3 hb4
      have s_4 := hs
      clear ha_3 hb_3 hx_3 p_3 q_3 r_3 hB3 hb4
      go_wp2_with fail
      refine (sameM_self _ _ _ _ _ _ _ p_4 q_4).mono ?_
      rintro e w5 ⟨rfl, hb5⟩
      have ha_5 := ha_4.below hb5
      have hb_5 := hb_4.below hb5
      have hx_5 := hx_4.below hb5
      have p_5 := p_4.below hb5
      have q_5 := q_4.below hb5
      have r_5 := r_4.below hb5
      have s_5 := s_4.below hb5
      have hB5 := step_trans hB4 hb5
      clear ha_4 hb_4 hx_4 p_4 q_4 r_4 s_4 hB4 hb5
      go_wp2_with fail
      refine (sameM_self _ _ _ _ _ _ _ r_5 s_5).mono ?_
      rintro e w6 ⟨rfl, hb6⟩
      have ha_6 := ha_5.below hb6
      have hb_6 := hb_5.below hb6
      have hx_6 := hx_5.below hb6
      have p_6 := p_5.below hb6
      have q_6 := q_5.below hb6
      have r_6 := r_5.below hb6
      have s_6 := s_5.below hb6
      have hB6 := step_trans hB5 hb6
      clear ha_5 hb_5 hx_5 p_5 q_5 r_5 s_5 hB5 hb6
      rcases stack_cases a b x with h1 | ⟨h1, h2⟩ | ⟨h1, h2, h3, h4, h6, h7, h8, h9⟩
      · go_wp2_with (go_at_call 16; refine (awake_any _).mono ?_; rintro e wz ⟨rfl, hbz⟩)
        go_ret
        exact ⟨rfl, step_trans hB6 hbz⟩
      · go_wp2_with fail
        refine (rshown_any _ _ _ _ _ _ _ _ _ ha_6 hx_6).mono ?_
        rintro e w7 ⟨rfl, rfl⟩
        go_wp2_with (go_at_call 16; refine (awake_any _).mono ?_; rintro e wz ⟨rfl, hbz⟩)
        go_ret
        exact ⟨rfl, step_trans hB6 hbz⟩
      · go_wp2_with fail
        refine (rshown_any _ _ _ _ _ _ _ _ _ ha_6 hx_6).mono ?_
        rintro e w7 ⟨rfl, rfl⟩
        go_wp2_with fail
        refine (read_any _ _ _ _ _ _ _ _ _ p_6 hx_6).mono ?_
        rintro e w8 ⟨A5, c5, rfl, hown5, hb8⟩
        have ha_8 := ha_6.below hb8
        have hb_8 := hb_6.below hb8
        have hx_8 := hx_6.below hb8
        have p_8 := p_6.below hb8
        have q_8 := q_6.below hb8
        have r_8 := r_6.below hb8
        have s_8 := s_6.below hb8
        have hB8 := step_trans hB6 hb8
        have u_8 := own_SI hown5
        clear ha_6 hb_6 hx_6 p_6 q_6 r_6 s_6 hB6 hb8
        go_wp2_with fail
        refine (read_any _ _ _ _ _ _ _ _ _ ha_8 hx_8).mono ?_
        rintro e w9 ⟨A6, c6, rfl, hown6, hb9⟩
        have ha_9 := ha_8.below hb9
        have hb_9 := hb_8.below hb9
        have hx_9 := hx_8.below hb9
        have p_9 := p_8.below hb9
        have q_9 := q_8.below hb9
        have r_9 := r_8.below hb9
        have s_9 := s_8.below hb9
        have u_9 := u_8.below hb9
        have hB9 := step_trans hB8 hb9
        have v_9 := own_SI hown6
        clear ha_8 hb_8 hx_8 p_8 q_8 r_8 s_8 u_8 hB8 hb9
        go_wp2_with fail
        refine (read_any _ _ _ _ _ _ _ _ _ hb_9 hx_9).mono ?_
        rintro e w10 ⟨A7, c7, rfl, hown7, hb10⟩
        have ha_10 := ha_9.below hb10
        have hb_10 := hb_9.below hb10
        have hx_10 := hx_9.below hb10
        have p_10 := p_9.below hb10
        have q_10 := q_9.below hb10
        have r_10 := r_9.below hb10
        have s_10 := s_9.below hb10
        have u_10 := u_9.below hb10
        have v_10 := v_9.below hb10
        have hB10 := step_trans hB9 hb10
        have z_10 := own_SI hown7
        clear ha_9 hb_9 hx_9 p_9 q_9 r_9 s_9 u_9 v_9 hB9 hb10
        have sv := v_10.values
        have sz := z_10.values
        have u1 := ints_one (readR a x)
        have u2 := ints_one (readR b x)
        have zlen : ∀ q : Nat, 0 + q = q := Nat.zero_add
        go_wp2_with (at_builtin; first
          | (refine appNg _ eltI rfl rfl _ _ rfl rfl rfl (own_empty _ _) (below_alloc _ _) (Nat.le_refl _) (sv.below (below_alloc _ _)) u1 (by omega) (by omega) ?_; intro A8 c8 w11 hown8 hb11 _; rw [Nat.zero_add] at hown8)
          | (refine appNg _ eltI rfl rfl _ _ rfl rfl rfl hown8 hb11 (Nat.le_refl _) (sz.below hb11) u2 (by omega) (by omega) ?_; intro A9 c9 w12 hown9 hb12 _))
        have sq : SI w12 A9 ((readR a x).length + (readR b x).length) c9 (readR a x ++ readR b x) := own_SI (by rw [show ∀ l r, ints (l ++ r) = ints l ++ ints r from fun l r => by simp [ints], ← List.nil_append (ints (readR a x))]; exact hown9)
        have su := u_10.below hb12
        rw [h7.out] at su
        rw [h7.out]
        refine (same_any _ _ _ _ _ _ _ _ _ su sq).mono ?_
        rintro e w13 ⟨rfl, hb13⟩
        go_wp2_with fail
        refine (awake_any _).mono ?_
        rintro e w14 ⟨rfl, hb14⟩
        go_wp2
        go_ret
        exact ⟨rfl, step_trans (step_trans (step_trans hB10 hb12) hb13) hb14⟩
    · go_wp2_with fail
      refine (awake_any _).mono ?_
      rintro e w1 ⟨rfl, hb1⟩
      go_wp2
      go_ret
      exact ⟨rfl, step_trans (hz1 _ _) hb1⟩

end Go.Proofs.Ytkkmlcengneomaa
