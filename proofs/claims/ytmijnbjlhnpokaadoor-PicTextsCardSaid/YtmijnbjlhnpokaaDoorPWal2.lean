/- The walk of pic's walsh. No condition. -/
import Derived.Test.YtmijnbjlhnpokaaDoorPWalSpec
import Derived.Test.YtmijnbjlhnpokaaDoorPClone
import Derived.Test.YtmijnbjlhnpokaaDoorPMarks
import Derived.Test.YtmijnbjlhnpokaaDoorRnd
namespace Go.Proofs.YtmijnbjlhnpokaaDoor
open Go.RowKit Go.Shelf Ls
attribute [local go_sem] Oper.semAt_some
set_option maxRecDepth 100000 in
set_option maxHeartbeats 4000000 in
theorem walsh_any (X : Option Addr) (k d M : Nat) (l : List Int) (w : World) (hl : SI w X k d l) (hk : k = 2 ^ M) (hM : M <= 8) (hk2 : k <= 256) :
    Calls Tryd.prog 27 #[.slice X k d] w fun e w' => ∃ A' c', e = .returned (.slice A' k c') /\ w'.ownsRow w.heap.size 3 1 (.slice A' k c') k (ints (walTo l M)) /\ Below w.heap.size w w' := by
  have hcl := fun W h => clone_any X k d l W h (by omega)
  have Hcl := hidx hcl
  have Hk := hidx hk
  have Hpos : Hid (0 < k) := hidx (by rw [hk]; exact Nat.pow_pos (by omega))
  have hpw : ∀ e D : Nat, e < M -> 2 ^ e = D -> Pow D := fun e D h1 h2 => by
    unfold Pow; rw [<- h2]
    have : e = 0 \/ e = 1 \/ e = 2 \/ e = 3 \/ e = 4 \/ e = 5 \/ e = 6 \/ e = 7 := by omega
    rcases this with rfl | rfl | rfl | rfl | rfl | rfl | rfl | rfl <;> simp
  have Hpw := hidx hpw
  have hor : ∀ e D : Nat, e < M -> 2 ^ e = D -> ∀ i, i < k -> i ||| D < k := fun e D h1 h2 i hi => by
    rw [hk] at hi ⊢
    exact Nat.or_lt_two_pow hi (by rw [<- h2]; exact Nat.pow_lt_pow_right (by omega) h1)
  have Hor := hidx hor
  have hlk := hidx hl.len
  clear hcl hk hpw hor
  refine (callsIn_wide (n := 3)).1 ?_
  refine callsIn_of_wp_marks Tryd.func27 rfl trivial ?_ rfl
  simp only [Tryd.ntmps27, List.size_toArray, List.length_cons, List.length_nil, Nat.reduceAdd, Nat.reduceSub, Array.replicate_succ, Array.replicate_zero, List.push_toArray, List.append_toArray, List.nil_append, List.cons_append]
  gi_wp2_with (refine ⟨trivial, ?_⟩; gi_at_call 28; refine (callsIn_wide.2 (Hcl.out _ hl)).mono ?_; rintro e w1 ⟨A1, c1, rfl, hown1, hb1⟩; obtain ⟨A2, c2, hv, _, _, hg⟩ := own_form hown1; injection hv with e1 _ e2; subst e1; subst e2; obtain ⟨g, rfl, hg1, hg2⟩ := hg Hpos.out; clear hg)
  refine wpIn_loop (fun a wr => ∃ (e : Nat) (u5 u6 u9 u10 u11 u12 u13 u14 u15 u16 u17 u18 u19 u20 u21 u22 u23 u24 u25 u26 u27 u28 u29 u30 u31 u32 u33 u34 u35 u36 u37 u38 u39 u40 u41 u42 u43 u44 : Value) (ds : List Deferred), a = { tmps := #[.slice X k d, undef, .slice none 0 0, .pointer (some ⟨w1.heap.size, 0, none⟩), .int .i64 ((2 ^ e : Nat) : Int), u5, u6, .slice X k d, .slice (some ⟨g, 0, none⟩) k c1, u9, u10, u11, u12, u13, u14, u15, u16, u17, u18, u19, u20, u21, u22, u23, u24, u25, u26, u27, u28, u29, u30, u31, u32, u33, u34, u35, u36, u37, u38, u39, u40, u41, u42, u43, u44, undef], defers := ds } /\ e <= M /\ Marks w.heap.size wr ds /\ Below w.heap.size w wr /\ wr.cell? ⟨w1.heap.size, 0, none⟩ = some (.slice (some ⟨g, 0, none⟩) k c1) /\ wr.ownsRow w.heap.size 3 1 (.slice (some ⟨g, 0, none⟩) k c1) k (ints (walTo l e))) (fun a _ => 256 - (intOf (a.tmps.getD 4 undef)).toNat) ?start ?round
  case start =>
    refine ⟨0, _, _, _, _, _, _, _, _, _, _, _, _, _, _, _, _, _, _, _, _, _, _, _, _, _, _, _, _, _, _, _, _, _, _, _, _, _, _, [], rfl, Nat.zero_le _, trivial, ?_, ?_, ?_⟩
    · exact hb1.alloc hb1.size _
    · simp
    · exact hown1.alloc _
  case round =>
    rintro a wr ⟨e, u5, u6, u9, u10, u11, u12, u13, u14, u15, u16, u17, u18, u19, u20, u21, u22, u23, u24, u25, u26, u27, u28, u29, u30, u31, u32, u33, u34, u35, u36, u37, u38, u39, u40, u41, u42, u43, u44, ds, rfl, heM, hmk, hbw, hbx, hown⟩
    by_cases hlt : e < M
    · have h2 : ((2 ^ e : Nat) : Int) < k := by
        have := Nat.pow_lt_pow_right (show 1 < 2 by omega) hlt
        have := Hk.out
        omega
      generalize hD : 2 ^ e = D at *
      gi_wp2_with (refine ⟨trivial, ?_⟩; gi_at_call 42; refine (pairs_in _ _ trivial rfl _ _ _).mono ?_; rintro e2 w2 ⟨rfl, rfl⟩)
      obtain ⟨hgB, hgw⟩ := hown.lt g rfl
      have hbxl : w1.heap.size < wr.heap.size := cell_lt hbx
      have hcn : ((wr.alloc (.cells #[.int .i64 k] 3)).alloc (.cells #[.int .i64 D] 3)).cell? ⟨wr.heap.size, 0, none⟩ = some (.int .i64 k) := by simp
      have hcd : ((wr.alloc (.cells #[.int .i64 k] 3)).alloc (.cells #[.int .i64 D] 3)).cell? ⟨wr.heap.size + 1, 0, none⟩ = some (.int .i64 D) := by simp
      refine wpIn_rangeFunc_ownG rfl (by omega) (gf := 59) (lb := #[.pointer (some ⟨wr.heap.size, 0, none⟩), .pointer (some ⟨wr.heap.size + 1, 0, none⟩)]) rfl trivial (enters_of Tryd.func59 (by kernel_rfl) rfl)
        (pairs_stops Fence.wide _ trivial rfl (by omega) wr.heap.size (wr.heap.size + 1) k D hk2 (Hpw.out e D hlt hD) (Hor.out e D hlt hD) _ hcn hcd) kpB_t (kpB_b (by simp; omega) (by simp)) (Below.refl _ _) (fun _ => rfl)
        (fun pre W => (W.cell? ⟨w1.heap.size, 0, none⟩ = some (.slice (some ⟨g, 0, none⟩) k c1) /\ W.ownsRow w.heap.size 3 1 (.slice (some ⟨g, 0, none⟩) k c1) k (ints (bflies (pre.map (·.1)) (walTo l e)))) /\ Below w.heap.size w W /\ Marks w.heap.size W ds)
        (fun _ _ _ => False) ?hI (fun _ _ _ _ _ hs _ _ => hs) ?h0
        (fun x => { tmps := #[.slice X k d, undef, .slice none 0 0, .pointer (some ⟨w1.heap.size, 0, none⟩), .int .i64 D, .int .i64 (x.1.1 : Int), .int .i64 (x.1.2 : Int), .slice X k d, .slice (some ⟨g, 0, none⟩) k c1, .int .i64 D, .slice (some ⟨g, 0, none⟩) k c1, .int .i64 k, .bool true, u13, u14, .slice (some ⟨g, 0, none⟩) k c1, .int .i64 k, .int .i64 D, .func (.func 59) #[] #[.pointer (some ⟨wr.heap.size, 0, none⟩), .pointer (some ⟨wr.heap.size + 1, 0, none⟩)], .int .i64 (x.1.1 : Int), .int .i64 (x.1.2 : Int), u21, u22, u23, u24, u25, u26, u27, u28, u29, u30, u31, u32, u33, u34, u35, u36, u37, u38, u39, u40, u41, u42, u43, u44, undef], defers := [] }) ?assign ?body ?done (fun _ _ _ _ _ _ h _ => h.elim)
      case hI =>
        rintro s A B row ⟨⟨h1, h2⟩, h3, h4⟩ hg hr
        have hrow : ∀ r, row = some r -> wr.heap.size + 1 < r := fun r er => by
          have := (hr r er).1
          simp at this
          omega
        refine ⟨⟨cell_kept h1 hg (fun r er => (hr r er).2), h2.kept hg (.inr fun er => ?_)⟩, h3.grown hg h3.size (fun r er => ?_), h4.turn fun D' hD' hd => ?_⟩
        · have := hrow g er.symm
          omega
        · have := hrow r er
          have := hbw.size
          omega
        · exact (hg.block D' (Array.getElem?_eq_some_iff.1 hd).1 fun er => by
            have := hrow D' er.symm
            have := hmk.lt D' hD'
            omega).trans hd
      case h0 =>
        refine ⟨⟨?_, by simpa [bflies] using (hown.alloc _).alloc _⟩, (hbw.alloc hbw.size _).alloc (by simp; have := hbw.size; omega) _, hmk.turn fun D' hD' hd => ?_⟩
        · simp [World.cell?_alloc_some, hbx]
        · exact (Below.heap_alloc _ _ _ (by simp; have := hmk.lt D' hD'; omega)).trans ((Below.heap_alloc _ _ _ (hmk.lt D' hD')).trans hd)
      case assign =>
        intro l0 x W K hK
        gi_wp2
        exact hK
      case body =>
        rintro l0 pre ⟨⟨i, j⟩, hi, hj⟩ W ⟨⟨q1, q2⟩, q3, q4⟩ hlen
        dsimp only at hi hj ⊢
        obtain ⟨L, hL⟩ : ∃ L, L = bflies (pre.map (·.1)) (walTo l e) := ⟨_, rfl⟩
        rw [<- hL] at q2
        have hlL : L.length = k := by have := q2.1; rw [ints_len] at this; omega
        have ci := q2.cellAt i (by omega)
        have cj := q2.cellAt j (by omega)
        rw [ints_get L i (by omega)] at ci
        rw [ints_get L j (by omega)] at cj
        have fi := q2.frozenAt i
        have fj := q2.frozenAt j
        have hmx : k <= 256 := hk2
        gi_wp2
        have hfin : ∀ a0 : Act, ownPostG ((wr.alloc (Obj.cells #[Value.int IntKind.i64 ↑k] 3)).alloc (Obj.cells #[Value.int IntKind.i64 ↑D] 3)).heap.size (KpB wr.heap.size (wr.heap.size + 1)) (fun pre W => (W.cell? ⟨w1.heap.size, 0, none⟩ = some (.slice (some ⟨g, 0, none⟩) k c1) /\ W.ownsRow w.heap.size 3 1 (.slice (some ⟨g, 0, none⟩) k c1) k (ints (bflies (pre.map (·.1)) (walTo l e)))) /\ Below w.heap.size w W /\ Marks w.heap.size W ds) (fun _ _ _ => False) (pre ++ [(⟨⟨i, j⟩, hi, hj⟩ : P2 k)]) W .normal a0 (wd2 W ⟨g, i, none⟩ (.int .i64 (IntKind.i64.wrap (nth L i + nth L j))) ⟨g, j, none⟩ (.int .i64 (IntKind.i64.wrap (nth L i - nth L j))) true true) := by
          intro a0
          have hgl : g < wr.heap.size := hgw
          have ne1 : ∀ b, b ≠ g -> ∀ o, (⟨g, o, none⟩ : Addr) ≠ ⟨b, 0, none⟩ := fun b hb o e => hb (by injection e with e; exact e.symm)
          have st := (q2.drew.stored i (.int .i64 (IntKind.i64.wrap (nth L i + nth L j)))).1.stored j (.int .i64 (IntKind.i64.wrap (nth L i - nth L j)))
          refine ⟨((KeepsOthers.drew _).trans ((KeepsOthers.setCell _ _ _).trans (KeepsOthers.setCell _ _ _))).from _, ⟨wd2_cell (ne1 _ (by omega) _) (ne1 _ (by omega) _) _ _, wd2_cell (ne1 _ (by omega) _) (ne1 _ (by omega) _) _ _⟩, ⟨(wd2_cell (ne1 _ (by omega) _) (ne1 _ (by omega) _) _ _).trans q1, ?_⟩, (q3.drew.setCell hgB _).setCell hgB _, q4.turn fun D' _ hd => ?_⟩
          · rw [List.map_append, List.map_singleton, bflies_snoc, <- hL, ints_bfly]
            exact st.1
          · refine (wd2_block _ _ _ _ _ _ _ _ ?_ ?_).trans hd
            · rintro rfl
              obtain ⟨o, ho, hc⟩ := cells_of_cell ci
              rw [hd] at ho; cases ho; cases hc
            · rintro rfl
              obtain ⟨o, ho, hc⟩ := cells_of_cell ci
              rw [hd] at ho; cases ho; cases hc
        have hgb : w1.heap.size ≠ g := by omega
        have hbox : ∀ b c, (wd2 W ⟨g, i, none⟩ (.int .i64 (IntKind.i64.wrap (nth L i + nth L j))) ⟨g, j, none⟩ (.int .i64 (IntKind.i64.wrap (nth L i - nth L j))) b c).cell? ⟨w1.heap.size, 0, none⟩ = some (.slice (some ⟨g, 0, none⟩) k c1) := by
          intro b c
          exact (wd2_cell (by intro e; injection e with e; exact hgb e.symm) (by intro e; injection e with e; exact hgb e.symm) _ _).trans q1
        have fz : ∀ b c o, (wd2 W ⟨g, i, none⟩ (.int .i64 (IntKind.i64.wrap (nth L i + nth L j))) ⟨g, j, none⟩ (.int .i64 (IntKind.i64.wrap (nth L i - nth L j))) b c).frozen? ⟨g, o, none⟩ = false := by
          intro b c o
          exact (wd2_frozen _ _ _ _ _ _ _ _).trans (q2.frozenAt o)
        have hci : (wd2 W ⟨g, i, none⟩ (.int .i64 (IntKind.i64.wrap (nth L i + nth L j))) ⟨g, j, none⟩ (.int .i64 (IntKind.i64.wrap (nth L i - nth L j))) false false).cell? ⟨g, i, none⟩ = some (.int .i64 (nth L i)) := ci
        have hcj : (wd2 W ⟨g, i, none⟩ (.int .i64 (IntKind.i64.wrap (nth L i + nth L j))) ⟨g, j, none⟩ (.int .i64 (IntKind.i64.wrap (nth L i - nth L j))) false false).cell? ⟨g, j, none⟩ = some (.int .i64 (nth L j)) := cj
        obtain ⟨vj, hvj⟩ : ∃ v, (wd2 W ⟨g, i, none⟩ (.int .i64 (IntKind.i64.wrap (nth L i + nth L j))) ⟨g, j, none⟩ (.int .i64 (IntKind.i64.wrap (nth L i - nth L j))) true false).cell? ⟨g, j, none⟩ = some v := cell?_setCell_some (w := W.drew) (p := ⟨g, i, none⟩) (x := .int .i64 (IntKind.i64.wrap (nth L i + nth L j))) (q := ⟨g, j, none⟩) (v := .int .i64 (nth L j)) (by simpa using cj)
        clear hL q2 q1 q3 q4 hlen ci cj fi fj
        refine wpIn_region_any (by kernel_rfl) (wpAnyIn_inv (fun lst a w0 => ∃ b0 b1 b2 b3 b4 b5 b6 b7 b8 b9 b10 b11 b12 b13 b14 b15 b16 b17 b18 b19 b20 b21 b22 b23 b24 b25 : Bool, lst = #[b0, b1, b2, b3, b4, b5, b6, b7, b8, b9, b10, b11, b12, b13, b14, b15, b16, b17, b18, b19, b20, b21, b22, b23, b24, b25] /\ a = { tmps := #[.slice X k d, undef, .slice none 0 0, .pointer (some ⟨w1.heap.size, 0, none⟩), .int .i64 D, .int .i64 (i : Int), .int .i64 (j : Int), .slice X k d, .slice (some ⟨g, 0, none⟩) k c1, .int .i64 D, .slice (some ⟨g, 0, none⟩) k c1, .int .i64 k, .bool true, u13, u14, .slice (some ⟨g, 0, none⟩) k c1, .int .i64 k, .int .i64 D, .func (.func 59) #[] #[.pointer (some ⟨wr.heap.size, 0, none⟩), .pointer (some ⟨wr.heap.size + 1, 0, none⟩)], .int .i64 (i : Int), .int .i64 (j : Int), (bif b0 then .slice (some ⟨g, 0, none⟩) k c1 else u21), (bif b1 then .int .i64 (i : Int) else u22), (bif b2 then .slice (some ⟨g, 0, none⟩) k c1 else u23), (bif b3 then .int .i64 (j : Int) else u24), (bif b4 then .slice (some ⟨g, 0, none⟩) k c1 else u25), (bif b5 then .int .i64 (i : Int) else u26), (bif b6 then .pointer (some ⟨g, i, none⟩) else u27), (bif b7 then .int .i64 (nth L i) else u28), (bif b8 then .slice (some ⟨g, 0, none⟩) k c1 else u29), (bif b9 then .int .i64 (j : Int) else u30), (bif b10 then .pointer (some ⟨g, j, none⟩) else u31), (bif b11 then .int .i64 (nth L j) else u32), (bif b12 then .int .i64 (IntKind.i64.wrap (nth L i + nth L j)) else u33), (bif b13 then .slice (some ⟨g, 0, none⟩) k c1 else u34), (bif b14 then .int .i64 (i : Int) else u35), (bif b15 then .pointer (some ⟨g, i, none⟩) else u36), (bif b16 then .int .i64 (nth L i) else u37), (bif b17 then .slice (some ⟨g, 0, none⟩) k c1 else u38), (bif b18 then .int .i64 (j : Int) else u39), (bif b19 then .pointer (some ⟨g, j, none⟩) else u40), (bif b20 then .int .i64 (nth L j) else u41), (bif b21 then .int .i64 (IntKind.i64.wrap (nth L i - nth L j)) else u42), (bif b22 then .pointer (some ⟨g, i, none⟩) else u43), (bif b24 then .pointer (some ⟨g, j, none⟩) else u44), undef], defers := [] } /\ w0 = wd2 W ⟨g, i, none⟩ (.int .i64 (IntKind.i64.wrap (nth L i + nth L j))) ⟨g, j, none⟩ (.int .i64 (IntKind.i64.wrap (nth L i - nth L j))) b23 b25 /\ (b23 = true -> b7 = true /\ b11 = true /\ b16 = true /\ b20 = true) /\ (b25 = true -> b23 = true)) ?hs ?he _ _ _ _ (by rfl) (by decide) ?hz)
        case hz => exact ⟨false, false, false, false, false, false, false, false, false, false, false, false, false, false, false, false, false, false, false, false, false, false, false, false, false, false, rfl, rfl, rfl, by simp, by simp⟩
        case he =>
          rintro lst a w0 hsz ⟨b0, b1, b2, b3, b4, b5, b6, b7, b8, b9, b10, b11, b12, b13, b14, b15, b16, b17, b18, b19, b20, b21, b22, b23, b24, b25, rfl, rfl, rfl, g1, g2⟩ hr
          have hall := all_up (by kernel_rfl) hsz hr
          obtain rfl : b23 = true := hall 23 (by simp)
          obtain rfl : b25 = true := hall 25 (by simp)
          exact hfin { tmps := #[], defers := [] }
        case hs =>
          rintro lst a w0 ix hsz ⟨b0, b1, b2, b3, b4, b5, b6, b7, b8, b9, b10, b11, b12, b13, b14, b15, b16, b17, b18, b19, b20, b21, b22, b23, b24, b25, rfl, rfl, rfl, g1, g2⟩ hm
          have hix : ix = 0 \/ ix = 1 \/ ix = 2 \/ ix = 3 \/ ix = 4 \/ ix = 5 \/ ix = 6 \/ ix = 7 \/ ix = 8 \/ ix = 9 \/ ix = 10 \/ ix = 11 \/ ix = 12 \/ ix = 13 \/ ix = 14 \/ ix = 15 \/ ix = 16 \/ ix = 17 \/ ix = 18 \/ ix = 19 \/ ix = 20 \/ ix = 21 \/ ix = 22 \/ ix = 23 \/ ix = 24 \/ ix = 25 := by have m1 := (ready_of hm).1; simp at m1; omega
          rcases hix with rfl | rfl | rfl | rfl | rfl | rfl | rfl | rfl | rfl | rfl | rfl | rfl | rfl | rfl | rfl | rfl | rfl | rfl | rfl | rfl | rfl | rfl | rfl | rfl | rfl | rfl
          · obtain ⟨m1, m2, m3⟩ := ready_of hm
            obtain rfl : b0 = false := m2
            refine wpOpIn_step rfl (fun K hK => ?_)
            clear m1 m3 hm hsz
            go_simp
            exact hK _ _ ⟨true, b1, b2, b3, b4, b5, b6, b7, b8, b9, b10, b11, b12, b13, b14, b15, b16, b17, b18, b19, b20, b21, b22, b23, b24, b25, rfl, rfl, rfl, g1, g2⟩
          · obtain ⟨m1, m2, m3⟩ := ready_of hm
            obtain rfl : b1 = false := m2
            refine wpOpIn_step rfl (fun K hK => ?_)
            clear m1 m3 hm hsz
            go_simp
            exact hK _ _ ⟨b0, true, b2, b3, b4, b5, b6, b7, b8, b9, b10, b11, b12, b13, b14, b15, b16, b17, b18, b19, b20, b21, b22, b23, b24, b25, rfl, rfl, rfl, g1, g2⟩
          · obtain ⟨m1, m2, m3⟩ := ready_of hm
            obtain rfl : b2 = false := m2
            refine wpOpIn_step rfl (fun K hK => ?_)
            clear m1 m3 hm hsz
            go_simp
            exact hK _ _ ⟨b0, b1, true, b3, b4, b5, b6, b7, b8, b9, b10, b11, b12, b13, b14, b15, b16, b17, b18, b19, b20, b21, b22, b23, b24, b25, rfl, rfl, rfl, g1, g2⟩
          · obtain ⟨m1, m2, m3⟩ := ready_of hm
            obtain rfl : b3 = false := m2
            refine wpOpIn_step rfl (fun K hK => ?_)
            clear m1 m3 hm hsz
            go_simp
            exact hK _ _ ⟨b0, b1, b2, true, b4, b5, b6, b7, b8, b9, b10, b11, b12, b13, b14, b15, b16, b17, b18, b19, b20, b21, b22, b23, b24, b25, rfl, rfl, rfl, g1, g2⟩
          · obtain ⟨m1, m2, m3⟩ := ready_of hm
            obtain rfl : b4 = false := m2
            refine wpOpIn_step rfl (fun K hK => ?_)
            clear m1 m3 hm hsz
            go_simp
            exact hK _ _ ⟨b0, b1, b2, b3, true, b5, b6, b7, b8, b9, b10, b11, b12, b13, b14, b15, b16, b17, b18, b19, b20, b21, b22, b23, b24, b25, rfl, rfl, rfl, g1, g2⟩
          · obtain ⟨m1, m2, m3⟩ := ready_of hm
            obtain rfl : b5 = false := m2
            refine wpOpIn_step rfl (fun K hK => ?_)
            clear m1 m3 hm hsz
            go_simp
            exact hK _ _ ⟨b0, b1, b2, b3, b4, true, b6, b7, b8, b9, b10, b11, b12, b13, b14, b15, b16, b17, b18, b19, b20, b21, b22, b23, b24, b25, rfl, rfl, rfl, g1, g2⟩
          · obtain ⟨m1, m2, m3⟩ := ready_of hm
            obtain rfl : b6 = false := m2
            obtain rfl : b4 = true := m3 _ rfl ⟨4, .data⟩ (by simp) rfl
            obtain rfl : b5 = true := m3 _ rfl ⟨5, .data⟩ (by simp) rfl
            refine wpOpIn_step rfl (fun K hK => ?_)
            clear m1 m3 hm hsz
            go_simp
            exact hK _ _ ⟨b0, b1, b2, b3, true, true, true, b7, b8, b9, b10, b11, b12, b13, b14, b15, b16, b17, b18, b19, b20, b21, b22, b23, b24, b25, rfl, rfl, rfl, g1, g2⟩
          · obtain ⟨m1, m2, m3⟩ := ready_of hm
            obtain rfl : b7 = false := m2
            obtain rfl : b6 = true := m3 _ rfl ⟨6, .data⟩ (by simp) rfl
            obtain rfl : b23 = false := by cases b23 <;> simp at g1 ⊢
            obtain rfl : b25 = false := by cases b25 <;> simp at g2 ⊢
            refine wpOpIn_step rfl (fun K hK => ?_)
            clear m1 m3 hm hsz
            go_simp
            exact hK _ _ ⟨b0, b1, b2, b3, b4, b5, true, true, b8, b9, b10, b11, b12, b13, b14, b15, b16, b17, b18, b19, b20, b21, b22, false, b24, false, rfl, rfl, rfl, (by simp), (by simp)⟩
          · obtain ⟨m1, m2, m3⟩ := ready_of hm
            obtain rfl : b8 = false := m2
            refine wpOpIn_step rfl (fun K hK => ?_)
            clear m1 m3 hm hsz
            go_simp
            exact hK _ _ ⟨b0, b1, b2, b3, b4, b5, b6, b7, true, b9, b10, b11, b12, b13, b14, b15, b16, b17, b18, b19, b20, b21, b22, b23, b24, b25, rfl, rfl, rfl, g1, g2⟩
          · obtain ⟨m1, m2, m3⟩ := ready_of hm
            obtain rfl : b9 = false := m2
            refine wpOpIn_step rfl (fun K hK => ?_)
            clear m1 m3 hm hsz
            go_simp
            exact hK _ _ ⟨b0, b1, b2, b3, b4, b5, b6, b7, b8, true, b10, b11, b12, b13, b14, b15, b16, b17, b18, b19, b20, b21, b22, b23, b24, b25, rfl, rfl, rfl, g1, g2⟩
          · obtain ⟨m1, m2, m3⟩ := ready_of hm
            obtain rfl : b10 = false := m2
            obtain rfl : b8 = true := m3 _ rfl ⟨8, .data⟩ (by simp) rfl
            obtain rfl : b9 = true := m3 _ rfl ⟨9, .data⟩ (by simp) rfl
            refine wpOpIn_step rfl (fun K hK => ?_)
            clear m1 m3 hm hsz
            go_simp
            exact hK _ _ ⟨b0, b1, b2, b3, b4, b5, b6, b7, true, true, true, b11, b12, b13, b14, b15, b16, b17, b18, b19, b20, b21, b22, b23, b24, b25, rfl, rfl, rfl, g1, g2⟩
          · obtain ⟨m1, m2, m3⟩ := ready_of hm
            obtain rfl : b11 = false := m2
            obtain rfl : b10 = true := m3 _ rfl ⟨10, .data⟩ (by simp) rfl
            obtain rfl : b23 = false := by cases b23 <;> simp at g1 ⊢
            obtain rfl : b25 = false := by cases b25 <;> simp at g2 ⊢
            refine wpOpIn_step rfl (fun K hK => ?_)
            clear m1 m3 hm hsz
            go_simp
            exact hK _ _ ⟨b0, b1, b2, b3, b4, b5, b6, b7, b8, b9, true, true, b12, b13, b14, b15, b16, b17, b18, b19, b20, b21, b22, false, b24, false, rfl, rfl, rfl, (by simp), (by simp)⟩
          · obtain ⟨m1, m2, m3⟩ := ready_of hm
            obtain rfl : b12 = false := m2
            obtain rfl : b7 = true := m3 _ rfl ⟨7, .data⟩ (by simp) rfl
            obtain rfl : b11 = true := m3 _ rfl ⟨11, .data⟩ (by simp) rfl
            refine wpOpIn_step rfl (fun K hK => ?_)
            clear m1 m3 hm hsz
            go_simp
            exact hK _ _ ⟨b0, b1, b2, b3, b4, b5, b6, true, b8, b9, b10, true, true, b13, b14, b15, b16, b17, b18, b19, b20, b21, b22, b23, b24, b25, rfl, rfl, rfl, g1, g2⟩
          · obtain ⟨m1, m2, m3⟩ := ready_of hm
            obtain rfl : b13 = false := m2
            refine wpOpIn_step rfl (fun K hK => ?_)
            clear m1 m3 hm hsz
            go_simp
            exact hK _ _ ⟨b0, b1, b2, b3, b4, b5, b6, b7, b8, b9, b10, b11, b12, true, b14, b15, b16, b17, b18, b19, b20, b21, b22, b23, b24, b25, rfl, rfl, rfl, g1, g2⟩
          · obtain ⟨m1, m2, m3⟩ := ready_of hm
            obtain rfl : b14 = false := m2
            refine wpOpIn_step rfl (fun K hK => ?_)
            clear m1 m3 hm hsz
            go_simp
            exact hK _ _ ⟨b0, b1, b2, b3, b4, b5, b6, b7, b8, b9, b10, b11, b12, b13, true, b15, b16, b17, b18, b19, b20, b21, b22, b23, b24, b25, rfl, rfl, rfl, g1, g2⟩
          · obtain ⟨m1, m2, m3⟩ := ready_of hm
            obtain rfl : b15 = false := m2
            obtain rfl : b13 = true := m3 _ rfl ⟨13, .data⟩ (by simp) rfl
            obtain rfl : b14 = true := m3 _ rfl ⟨14, .data⟩ (by simp) rfl
            refine wpOpIn_step rfl (fun K hK => ?_)
            clear m1 m3 hm hsz
            go_simp
            exact hK _ _ ⟨b0, b1, b2, b3, b4, b5, b6, b7, b8, b9, b10, b11, b12, true, true, true, b16, b17, b18, b19, b20, b21, b22, b23, b24, b25, rfl, rfl, rfl, g1, g2⟩
          · obtain ⟨m1, m2, m3⟩ := ready_of hm
            obtain rfl : b16 = false := m2
            obtain rfl : b15 = true := m3 _ rfl ⟨15, .data⟩ (by simp) rfl
            obtain rfl : b23 = false := by cases b23 <;> simp at g1 ⊢
            obtain rfl : b25 = false := by cases b25 <;> simp at g2 ⊢
            refine wpOpIn_step rfl (fun K hK => ?_)
            clear m1 m3 hm hsz
            go_simp
            exact hK _ _ ⟨b0, b1, b2, b3, b4, b5, b6, b7, b8, b9, b10, b11, b12, b13, b14, true, true, b17, b18, b19, b20, b21, b22, false, b24, false, rfl, rfl, rfl, (by simp), (by simp)⟩
          · obtain ⟨m1, m2, m3⟩ := ready_of hm
            obtain rfl : b17 = false := m2
            refine wpOpIn_step rfl (fun K hK => ?_)
            clear m1 m3 hm hsz
            go_simp
            exact hK _ _ ⟨b0, b1, b2, b3, b4, b5, b6, b7, b8, b9, b10, b11, b12, b13, b14, b15, b16, true, b18, b19, b20, b21, b22, b23, b24, b25, rfl, rfl, rfl, g1, g2⟩
          · obtain ⟨m1, m2, m3⟩ := ready_of hm
            obtain rfl : b18 = false := m2
            refine wpOpIn_step rfl (fun K hK => ?_)
            clear m1 m3 hm hsz
            go_simp
            exact hK _ _ ⟨b0, b1, b2, b3, b4, b5, b6, b7, b8, b9, b10, b11, b12, b13, b14, b15, b16, b17, true, b19, b20, b21, b22, b23, b24, b25, rfl, rfl, rfl, g1, g2⟩
          · obtain ⟨m1, m2, m3⟩ := ready_of hm
            obtain rfl : b19 = false := m2
            obtain rfl : b17 = true := m3 _ rfl ⟨17, .data⟩ (by simp) rfl
            obtain rfl : b18 = true := m3 _ rfl ⟨18, .data⟩ (by simp) rfl
            refine wpOpIn_step rfl (fun K hK => ?_)
            clear m1 m3 hm hsz
            go_simp
            exact hK _ _ ⟨b0, b1, b2, b3, b4, b5, b6, b7, b8, b9, b10, b11, b12, b13, b14, b15, b16, true, true, true, b20, b21, b22, b23, b24, b25, rfl, rfl, rfl, g1, g2⟩
          · obtain ⟨m1, m2, m3⟩ := ready_of hm
            obtain rfl : b20 = false := m2
            obtain rfl : b19 = true := m3 _ rfl ⟨19, .data⟩ (by simp) rfl
            obtain rfl : b23 = false := by cases b23 <;> simp at g1 ⊢
            obtain rfl : b25 = false := by cases b25 <;> simp at g2 ⊢
            refine wpOpIn_step rfl (fun K hK => ?_)
            clear m1 m3 hm hsz
            go_simp
            exact hK _ _ ⟨b0, b1, b2, b3, b4, b5, b6, b7, b8, b9, b10, b11, b12, b13, b14, b15, b16, b17, b18, true, true, b21, b22, false, b24, false, rfl, rfl, rfl, (by simp), (by simp)⟩
          · obtain ⟨m1, m2, m3⟩ := ready_of hm
            obtain rfl : b21 = false := m2
            obtain rfl : b16 = true := m3 _ rfl ⟨16, .data⟩ (by simp) rfl
            obtain rfl : b20 = true := m3 _ rfl ⟨20, .data⟩ (by simp) rfl
            refine wpOpIn_step rfl (fun K hK => ?_)
            clear m1 m3 hm hsz
            go_simp
            exact hK _ _ ⟨b0, b1, b2, b3, b4, b5, b6, b7, b8, b9, b10, b11, b12, b13, b14, b15, true, b17, b18, b19, true, true, b22, b23, b24, b25, rfl, rfl, rfl, g1, g2⟩
          · obtain ⟨m1, m2, m3⟩ := ready_of hm
            obtain rfl : b22 = false := m2
            obtain rfl : b0 = true := m3 _ rfl ⟨0, .data⟩ (by simp) rfl
            obtain rfl : b1 = true := m3 _ rfl ⟨1, .data⟩ (by simp) rfl
            refine wpOpIn_step rfl (fun K hK => ?_)
            clear m1 m3 hm hsz
            go_simp
            exact hK _ _ ⟨true, true, b2, b3, b4, b5, b6, b7, b8, b9, b10, b11, b12, b13, b14, b15, b16, b17, b18, b19, b20, b21, true, b23, b24, b25, rfl, rfl, rfl, g1, g2⟩
          · obtain ⟨m1, m2, m3⟩ := ready_of hm
            obtain rfl : b23 = false := m2
            obtain rfl : b22 = true := m3 _ rfl ⟨22, .data⟩ (by simp) rfl
            obtain rfl : b12 = true := m3 _ rfl ⟨12, .data⟩ (by simp) rfl
            obtain rfl : b7 = true := m3 _ rfl ⟨7, .phase⟩ (by simp) rfl
            obtain rfl : b11 = true := m3 _ rfl ⟨11, .phase⟩ (by simp) rfl
            obtain rfl : b16 = true := m3 _ rfl ⟨16, .phase⟩ (by simp) rfl
            obtain rfl : b20 = true := m3 _ rfl ⟨20, .phase⟩ (by simp) rfl
            obtain rfl : b25 = false := by cases b25 <;> simp at g2 ⊢
            refine wpOpIn_step rfl (fun K hK => ?_)
            clear m1 m3 hm hsz
            go_simp
            exact hK _ _ ⟨b0, b1, b2, b3, b4, b5, b6, true, b8, b9, b10, true, true, b13, b14, b15, true, b17, b18, b19, true, b21, true, true, b24, false, rfl, rfl, rfl, (by simp), (by simp)⟩
          · obtain ⟨m1, m2, m3⟩ := ready_of hm
            obtain rfl : b24 = false := m2
            obtain rfl : b2 = true := m3 _ rfl ⟨2, .data⟩ (by simp) rfl
            obtain rfl : b3 = true := m3 _ rfl ⟨3, .data⟩ (by simp) rfl
            refine wpOpIn_step rfl (fun K hK => ?_)
            clear m1 m3 hm hsz
            go_simp
            exact hK _ _ ⟨b0, b1, true, true, b4, b5, b6, b7, b8, b9, b10, b11, b12, b13, b14, b15, b16, b17, b18, b19, b20, b21, b22, b23, true, b25, rfl, rfl, rfl, g1, g2⟩
          · obtain ⟨m1, m2, m3⟩ := ready_of hm
            obtain rfl : b25 = false := m2
            obtain rfl : b24 = true := m3 _ rfl ⟨24, .data⟩ (by simp) rfl
            obtain rfl : b21 = true := m3 _ rfl ⟨21, .data⟩ (by simp) rfl
            obtain rfl : b23 = true := m3 _ rfl ⟨23, .chain⟩ (by simp) rfl
            obtain ⟨rfl, rfl, rfl, rfl⟩ := g1 rfl
            refine wpOpIn_step rfl (fun K hK => ?_)
            clear m1 m3 hm hsz
            go_simp
            exact hK _ _ ⟨b0, b1, b2, b3, b4, b5, b6, true, b8, b9, b10, true, b12, b13, b14, b15, true, b17, b18, b19, true, true, b22, true, true, true, rfl, rfl, rfl, (by simp), (by simp)⟩
      case done =>
        rintro D0 ys W hD0 hys ⟨⟨q1, q2⟩, q3, q4⟩ hK
        rw [hys] at q2
        have hD2 : ((D : Int) * 2) = ((2 ^ (e + 1) : Nat) : Int) := by rw [Nat.pow_succ, hD]; simp
        have HD2 := hidx hD2
        have hDp : 0 < D := by rw [<- hD]; exact Nat.pow_pos (by omega)
        have HwS : Hid (walTo l (e + 1) = bflies (pairsTo D k) (walTo l e)) := hidx (by rw [walTo, hD, hlk.out])
        clear hD2 hys
        gi_wp2
        rw [HD2.out]
        refine ⟨⟨e + 1, _, _, _, _, _, _, _, _, _, _, _, _, _, _, _, _, _, _, _, _, _, _, _, _, _, _, _, _, _, _, _, _, _, _, _, _, _, _, { target := .collected D0, args := #[] } :: ds, rfl, by omega, ⟨⟨D0, rfl, ?_, hK, ?_⟩, q4⟩, q3, q1, ?_⟩, ?_⟩
        · have := hbw.size
          simp at hD0
          omega
        · rintro e' he' ht
          have := hmk.lt D0 ⟨e', he', ht⟩
          simp at hD0
          omega
        · rw [HwS.out]; exact q2
        · show 256 - (((2 ^ (e + 1) : Nat) : Int)).toNat < 256 - ((D : Nat) : Int).toNat
          rw [<- HD2.out]; omega
    · have heq : e = M := by omega
      subst heq
      have h2 : ((2 ^ e : Nat) : Int) = k := by rw [Hk.out]
      have h3 : ¬ ((2 ^ e : Nat) : Int) < k := by omega
      generalize hD : 2 ^ e = D at *
      gi_wp2
      refine leaves_marks (B := w.heap.size) (fun W => W.ownsRow w.heap.size 3 1 (.slice (some ⟨g, 0, none⟩) k c1) k (ints (walTo l e)) /\ Below w.heap.size w W) ?_ ?_ ds wr hmk ⟨hown, hbw⟩
      · rintro W D' ⟨g1, g2⟩ hD1 hD2
        exact ⟨ownsRow_putObj g1 _ hD2 rfl, g2.grown (grownBy_putObj' W D' _) g2.size (fun j hj => by cases hj; exact hD1)⟩
      · rintro W ⟨g1, g2⟩
        exact ⟨_, results_tmp rfl _ _ _, _, c1, rfl, g1, g2⟩
end Go.Proofs.YtmijnbjlhnpokaaDoor
