/- The contract of lightsieveref02's Signed. No condition. -/
import Derived.Test.YtkkmlcengneomaaD7
namespace Go.Proofs.Ytkkmlcengneomaa
open Go.RowKit Ls

/-- The rows while they are being signed: q rows are done, and of the next one t pixels. -/
def partS (m : List (List Int)) (l : List Int) (q t i : Nat) : List Int := if i < q then signRow (nthL m i) l else if i = q then signRow (nthL m i) (l.take t) else nthL m i
theorem signRow_nil (r : List Int) : signRow r [] = r := by
  unfold signRow
  apply List.ext_getElem (by simp)
  intro j h1 h2
  simp [nth_eq r j h2]
theorem signRow_len (r l : List Int) : (signRow r l).length = r.length := by simp [signRow]
theorem signRow_nth (r l : List Int) (j : Nat) (h : j < r.length) : nth (signRow r l) j = if (j : Int) ∈ l then - nth r j else nth r j := by
  rw [nth_eq _ j (by rw [signRow_len]; exact h)]
  simp [signRow]
theorem signRow_snoc (r l : List Int) (u : Nat) : signRow r (l ++ [(u : Int)]) = (signRow r l).set u (- nth r u) := by
  apply List.ext_getElem (by simp [signRow])
  intro j h1 h2
  have hj : j < r.length := by simpa [signRow] using h1
  rw [List.getElem_set]
  simp only [signRow, List.getElem_map, List.getElem_range]
  by_cases e : u = j
  · subst e; simp
  · rw [if_neg e]
    have : ((j : Int) ∈ l ++ [(u : Int)]) ↔ (j : Int) ∈ l := by
      rw [List.mem_append, List.mem_singleton]
      constructor
      · rintro (h | h)
        · exact h
        · omega
      · exact Or.inl
    simp only [this]
theorem partS_zero (m : List (List Int)) (l : List Int) : (List.range m.length).map (partS m l 0 0) = m := by
  apply List.ext_getElem (by simp)
  intro i h1 h2
  simp only [List.getElem_map, List.getElem_range, partS]
  rw [if_neg (by omega), List.take_zero, signRow_nil]
  split <;> exact nthL_eq m i h2
theorem partS_next (m : List (List Int)) (l : List Int) (q : Nat) : partS m l q l.length = partS m l (q + 1) 0 := by
  funext i
  unfold partS
  rw [List.take_length, List.take_zero, signRow_nil]
  by_cases h1 : i < q
  · rw [if_pos h1, if_pos (by omega)]
  · by_cases h2 : i = q
    · rw [if_neg h1, if_pos h2, if_pos (by omega)]
    · rw [if_neg h1, if_neg h2, if_neg (by omega)]
      split <;> rfl
theorem partS_end (m : List (List Int)) (l : List Int) : (List.range m.length).map (partS m l m.length 0) = m.map (fun r => signRow r l) := by
  apply List.ext_getElem (by simp)
  intro i h1 h2
  have hi : i < m.length := by simpa using h1
  simp only [List.getElem_map, List.getElem_range, partS]
  rw [if_pos hi, nthL_eq m i hi]
theorem partS_len (m : List (List Int)) (l : List Int) (q t i : Nat) : (partS m l q t i).length = (nthL m i).length := by
  unfold partS; split
  · exact signRow_len _ _
  · split
    · exact signRow_len _ _
    · rfl
theorem asc_lt {l : List Int} (h : ascB l = true) (b : Nat) (hb : b < l.length) : ∀ a, a < b → nth l a < nth l b := by
  induction b with
  | zero => intro a ha; omega
  | succ b ih =>
    intro a ha
    have h1 := ascB_iff.1 h (b + 1) hb (by omega)
    simp only [Nat.add_sub_cancel] at h1
    by_cases e : a = b
    · subst e; exact h1
    · have := ih (by omega) a (by omega); omega
theorem asc_new {l : List Int} (h : ascB l = true) (t : Nat) (ht : t < l.length) : nth l t ∉ l.take t := by
  intro hm
  obtain ⟨a, ha, he⟩ := List.getElem_of_mem hm
  have ha' : a < t := by simp at ha; omega
  have := asc_lt h t ht a ha'
  rw [nth_eq l a (by omega)] at this
  rw [List.getElem_take] at he
  omega

set_option maxRecDepth 100000 in
set_option maxHeartbeats 4000000 in
theorem rsigned_any (A X : Option Addr) (n c k d : Nat) (m : List (List Int)) (l : List Int) (w : World) (hm : SM w A n c m) (hl : SI w X k d l) :
    Calls Try.prog 52 #[.slice A n c, .slice X k d] w fun e w' => ∃ A' c', e = .returned (.tuple #[.slice A' (signedR m l).length c', .int .i64 (signedE m l)]) ∧ SM w' A' (signedR m l).length c' (signedR m l) ∧ Below w.heap.size w w' := by
  have hmn := hm.nmax
  have hln := hl.nmax
  have hml := hidx hm.len
  have hll := hidx hl.len
  have hR : signedE m l ≠ 0 → signedR m l = [] := fun h => by unfold signedR; rw [if_neg h]
  have hv' : ∀ W, SM W A n c m → Calls Try.prog 13 #[.slice A n c] W fun e W' => e = .returned (.bool (validB m)) ∧ W = W' := fun W h => rvalid_any _ n c m W h
  have asc : ∀ W, SI W X k d l → Calls Try.prog 93 #[.slice X k d] W fun e W' => e = .returned (.bool (ascB l)) ∧ Below W.heap.size W W' := fun W h => rAscending_any X k d l W h
  have nam : ∀ W, SM W A n c m → SI W X k d l → Calls Try.prog 70 #[.slice A n c, .slice X k d] W fun e W' => e = .returned (.int .i64 (namedE m l)) ∧ W = W' := fun W h h' => rnamed_any A X n c k d m l W h h'
  cases hv : validB m with
  | false =>
    have e1 : signedE m l = 1 := by unfold signedE; rw [hv]; rfl
    rw [hR (by omega), e1]
    rw [hv] at hv'
    have Hv := hidx hv'
    clear e1 hR hv hv' asc nam
    go_enter Try.func52, Try.ntmps52
    go_wp2_with fail
    refine (Hv.out _ hm).mono ?_
    rintro e w1 ⟨rfl, rfl⟩
    go_wp2
    go_ret2
    exact ⟨none, 0, rfl, SM.nil _, Below.refl _ _⟩
  | true =>
    rw [hv] at hv'
    have Hv := hidx hv'
    clear hv'
    cases ha : ascB l with
    | false =>
      have e1 : signedE m l = 7 := by unfold signedE; rw [hv, ha]; rfl
      rw [hR (by omega), e1]
      rw [ha] at asc
      have As := hidx asc
      clear e1 hR hv ha asc nam
      go_enter Try.func52, Try.ntmps52
      go_wp2_with fail
      refine (Hv.out _ hm).mono ?_
      rintro e w1 ⟨rfl, rfl⟩
      go_wp2_with fail
      refine (As.out _ hl).mono ?_
      rintro e w2 ⟨rfl, hb2⟩
      go_wp2
      go_ret2
      exact ⟨none, 0, rfl, SM.nil _, hb2⟩
    | true =>
      rw [ha] at asc
      have As := hidx asc
      have eE : signedE m l = namedE m l := by unfold signedE; rw [hv, ha]; rfl
      clear asc
      rcases named_01 hv l with he | he
      · rw [he] at nam eE
        have hRR : signedR m l = m.map (fun r => signRow r l) := by unfold signedR; rw [if_pos eE]
        have hin := chosen_in he hml.out hll.out
        have Hin := hidx hin
        have Has := hidx ha
        have HM := hidx (IsMask.of hv)
        have hM := IsMask.of hv
        have hn6 : n ≤ 6 := by have := hM.rows6; have := hml.out; omega
        have hn1 : 0 < n := by have := hM.rows1; have := hml.out; omega
        have hp10 := hM.pix10
        have hkk : k ≤ 10 := by
          have h1 := asc_len (p := (nthL m 0).length) ha (fun j hj => by have := hin 0 j hn1 (by rw [hll.out] at hj; exact hj); exact this)
          have := hll.out
          omega
        have fin : ∀ W, SM W A n c m → Calls Try.prog 81 #[.slice A n c] W fun e W' => ∃ A' c' vs, e = .returned (.slice A' n c') ∧ W'.ownsRow W.heap.size 24 1 (.slice A' n c') n vs ∧ RowsOwn W' W.heap.size 3 vs m ∧ Below W.heap.size W W' ∧ Apart vs := fun W h =>
          rcopied2_any A n c m W h (by omega) (fun i hi => by rw [hM.each i (by rw [hml.out]; exact hi)]; omega)
        have Fin := hidx fin
        have Nam := hidx nam
        have HRR := hidx hRR
        have HEE := hidx eE
        clear eE hRR hR hv ha nam fin hin hM he
        go_enter Try.func52, Try.ntmps52
        go_wp2_with fail
        refine (Hv.out _ hm).mono ?_
        rintro e w1 ⟨rfl, rfl⟩
        go_wp2_with fail
        refine (As.out _ hl).mono ?_
        rintro e w2 ⟨rfl, hb2⟩
        go_wp2_with fail
        refine (Nam.out _ (hm.below hb2) (hl.below hb2)).mono ?_
        rintro e w3 ⟨rfl, rfl⟩
        go_wp2_with fail
        refine (Fin.out _ (hm.below hb2)).mono ?_
        rintro e w4 ⟨A4, c4, vs, rfl, hown4, hrows4, hb4, hap⟩
        have Hap := hidx hap
        have hl4 := (hl.below hb2).below hb4
        have hsz2 := hb2.size
        obtain ⟨A', c', hv, h1, h2, h3⟩ := own_form hown4
        injection hv with e1 e2 e3
        subst e1; subst e3
        obtain ⟨G, rfl, hG, hGlt⟩ := h3 hn1
        rw [← partS_zero m l, hml.out] at hrows4
        have hb24 := step_trans hb2 hb4
        have hb4' := hb4
        have hl2 := hl.below hb2
        clear hm hl hap h3 hb4 hl4
        go_wp2
        go_loopw [9, 11, 28, 32, 33, 34] (fun _ _ i _ _ _ wr => ∃ q : Nat, q ≤ n ∧ i = .int .i64 q ∧ wr.ownsRow w2.heap.size 24 1 (.slice (some ⟨G, 0, none⟩) n c4) n vs ∧ RowsOwn wr w2.heap.size 3 vs ((List.range n).map (partS m l q 0)) ∧ Below w2.heap.size w2 wr) (fun _ _ i _ _ _ _ => n - (intOf i).toNat)
        case atStart => exact ⟨0, Nat.zero_le _, rfl, hown4, hrows4, hb4'⟩
        case round =>
          obtain ⟨q, hqn, rfl, hown, hrows, hbr⟩ := hrel
          clear hown4 hrows4 hb4' hb24
          by_cases hlt : q < n
          · obtain ⟨Aq, cq, hvq, hoq⟩ := hrows.2 q (by simpa using hlt)
            have hnq : nthL ((List.range n).map (partS m l q 0)) q = partS m l q 0 q := by simp [nthL, hlt]
            rw [hnq, partS_len] at hvq hoq
            have hpq := HM.out.each q (by rw [hml.out]; exact hlt)
            have hp1 := HM.out.pix1
            rw [hpq] at hvq hoq
            obtain ⟨A', c', hv, g1, g2, g3⟩ := own_form hoq
            injection hv with e1 _ e3
            subst e1; subst e3
            obtain ⟨g, rfl, hg, hglt⟩ := g3 (by omega)
            have hcq := own_get hown q hlt _ hvq
            rw [add_zero_lit] at hcq
            have Hvq := hidx hvq
            have i1 : (0:Int) ≤ q := by omega
            have i2 : (q:Int) < n := by omega
            clear hnq g3 hoq hglt hvq
            go_wp2
            go_loopw [11, 34] (fun _ j wx => ∃ t : Nat, t ≤ k ∧ j = .int .i64 t ∧ wx.ownsRow w2.heap.size 24 1 (.slice (some ⟨G, 0, none⟩) n c4) n vs ∧ RowsOwn wx w2.heap.size 3 vs ((List.range n).map (partS m l q t)) ∧ Below w2.heap.size w2 wx) (fun _ j _ => k - (intOf j).toNat)
            case atStart => exact ⟨0, Nat.zero_le _, rfl, hown, hrows, hbr⟩
            case round =>
              obtain ⟨t, htk, rfl, hown, hrows, hbr⟩ := hrel
              by_cases htlt : t < k
              · obtain ⟨xd, rfl, hcx⟩ := (hl2.below hbr).at_ (by omega)
                have h3 := hcx t htlt
                obtain ⟨b1, b2⟩ := Hin.out q t hlt htlt
                obtain ⟨u, hu⟩ := Int.eq_ofNat_of_zero_le b1
                rw [hu] at h3
                have hul : u < (nthL m q).length := by omega
                have hnew := asc_new Has.out t (by rw [hll.out]; exact htlt)
                rw [hu] at hnew
                have hrow : partS m l q t q = signRow (nthL m q) (l.take t) := by unfold partS; rw [if_neg (by omega), if_pos rfl]
                have hnth : nth (partS m l q t q) u = nth (nthL m q) u := by rw [hrow, signRow_nth _ _ _ hul, if_neg hnew]
                have hset : partS m l q (t + 1) q = (partS m l q t q).set u (- nth (nthL m q) u) := by
                  rw [hrow]
                  unfold partS
                  rw [if_neg (by omega), if_pos rfl, take_snoc l t (by rw [hll.out]; exact htlt), hu, signRow_snoc]
                have hoth : ∀ i, i ≠ q → partS m l q (t + 1) i = partS m l q t i := fun i hi => by
                  unfold partS; rw [if_neg hi, if_neg hi]
                obtain ⟨g', c2, k1, k2, k3, k4, k5, k6, k7⟩ := rows_write hrows Hap.out q u hlt (by rw [partS_len]; exact hul) (- nth (nthL m q) u) hoth hset
                rw [Hvq.out] at k1
                simp only [Option.some.injEq, Value.slice.injEq, Addr.mk.injEq, and_true] at k1
                obtain ⟨rfl, _, rfl⟩ := k1
                rw [hnth] at k3
                have hsm := HM.out.small q (by rw [hml.out]; exact hlt) u (by rw [← hpq]; exact hul)
                have hw : IntKind.i64.wrap (- nth (nthL m q) u) = - nth (nthL m q) u := by rw [IntKind.wrap_i64]; omega
                have hown' := own_keeps hown (k7 24 (by decide))
                have hbr' := hbr.grown k6 hbr.size (fun j hj => by cases hj; exact k2)
                have u1 : (0:Int) ≤ u := by omega
                have u2 : (u:Int) < (nthL m 0).length := by omega
                clear hcx k6 k7 hset hoth hnth hrow hnew hsm hown hrows hbr hu b1 b2
                go_wp2
                go_roundw
                case rel => exact ⟨t + 1, by omega, by go_num, hown', k5, hbr'⟩
                case measure => simp [intOf]; omega
              · have htt : t = k := by omega
                subst htt
                go_wp2
                go_roundw
                case rel =>
                  rw [← hll.out, partS_next] at hrows
                  exact ⟨q + 1, by omega, by go_num, hown, hrows, hbr⟩
                case measure => simp [intOf]; omega
          · have hqq : q = n := by omega
            subst hqq
            rw [← hml.out, partS_end] at hrows
            go_wp2
            go_ret2
            rw [HRR.out, HEE.out, List.length_map, hml.out]
            exact ⟨_, c4, rfl, own_SM hown hrows, step_trans hb2 hbr⟩
      · rw [he] at nam eE
        rw [hR (by omega), eE]
        have Nam := hidx nam
        clear eE hR hv ha nam he
        go_enter Try.func52, Try.ntmps52
        go_wp2_with fail
        refine (Hv.out _ hm).mono ?_
        rintro e w1 ⟨rfl, rfl⟩
        go_wp2_with fail
        refine (As.out _ hl).mono ?_
        rintro e w2 ⟨rfl, hb2⟩
        go_wp2_with fail
        refine (Nam.out _ (hm.below hb2) (hl.below hb2)).mono ?_
        rintro e w3 ⟨rfl, rfl⟩
        go_wp2
        go_ret2
        exact ⟨none, 0, rfl, SM.nil _, hb2⟩

end Go.Proofs.Ytkkmlcengneomaa
