/- The contract of mask's copied where the function that tells the numbers keeps a seed in a box. No condition. -/
import Derived.Test.YtkkmlcengneomaaMSpec6
import Derived.Test.YtkkmlcengneomaaE1
namespace Go.Proofs.Ytkkmlcengneomaa
open Go.RowKit Ls

def Box (W : World) (b : Nat) (v : Nat) : Prop := W.cell? ⟨b, 0, none⟩ = some (.int .i64 v) ∧ W.frozen? ⟨b, 0, none⟩ = false
def FokS (P : Program) (g : Nat) (lb : Array Value) (b s : Nat) : Prop :=
  (∀ args W, (callFunc g args).run P W = .ok (.enter g args) W) ∧
  ∀ (i j k : Nat) (W : World), Box W b (seedAt s k) → Calls P g (#[.int .i64 i, .int .i64 j] ++ lb) W fun e W' => e = .returned (.int .i64 (seedV s k)) ∧ W.grownBy W' (some b) ∧ W'.heap.size = W.heap.size ∧ Box W' b (seedAt s (k + 1))

def KeepsB (B : Nat) (e : TypeId) (w w' : World) : Prop := ∀ (g : Nat) (cur : Array Value), B ≤ g → w.heap[g]? = some (Obj.cells cur e (0, 0)) → w'.heap[g]? = some (Obj.cells cur e (0, 0))
theorem KeepsB.refl (B : Nat) (e : TypeId) (w : World) : KeepsB B e w w := fun _ _ _ h => h
theorem KeepsB.trans {B : Nat} {e : TypeId} {a b c : World} (h : KeepsB B e a b) (k : KeepsB B e b c) : KeepsB B e a c := fun g cur hB hh => k g cur hB (h g cur hB hh)
theorem keeps_low {B : Nat} {e : TypeId} {w w' : World} (h : KeepsT e w w') : KeepsB B e w w' := fun g cur _ hh => h g cur hh
theorem own_keepsB {w w' : World} {B e size n : Nat} {v : Value} {xs : List Value} (h : w.ownsRow B e size v n xs) (hk : KeepsB B e w w') : w'.ownsRow B e size v n xs := by
  refine ⟨h.1, ?_⟩
  rcases h.2 with h0 | ⟨g, cap, cur, hv, hB, hg, r⟩
  · exact .inl h0
  · exact .inr ⟨g, cap, cur, hv, hB, hk g cur hB hg, r⟩
theorem rows_keepB {w w' : World} {B e : Nat} {vs : List Value} {rs : List (List Int)} (h : RowsOwn w B e vs rs) (hk : KeepsB B e w w') : RowsOwn w' B e vs rs :=
  ⟨h.1, fun r hr => by
    obtain ⟨A, c, h1, h2⟩ := h.2 r hr
    exact ⟨A, c, h1, own_keepsB h2 hk⟩⟩
theorem KeepsB.grown {w w' : World} {B b e : Nat} (hg : w.grownBy w' (some b)) (hb : b < B) : KeepsB B e w w' := fun g cur hB hh =>
  (hg.block g (Array.getElem?_eq_some_iff.1 hh).1 (by intro e; cases e; omega)).trans hh
theorem own_grown {w w' : World} {B b e size n : Nat} {v : Value} {xs : List Value} (h : w.ownsRow B e size v n xs) (hg : w.grownBy w' (some b)) (hb : b < B) : w'.ownsRow B e size v n xs :=
  own_keepsB h (KeepsB.grown hg hb)
theorem KeepsB.under {B : Nat} {e : TypeId} {a b c : World} (h : KeepsB B e a b) (hb : Below a.heap.size b c) : KeepsB B e a c := fun g cur hB hh =>
  (hb.block g (Array.getElem?_eq_some_iff.1 hh).1).trans (h g cur hB hh)
theorem Box.below {w w' : World} {N b v : Nat} (h : Box w b v) (hb : Below N w w') (hN : b < N) : Box w' b v :=
  ⟨(hb.cell hN).trans h.1, (hb.frozen hN).trans h.2⟩
theorem Box.set {w : World} {b v : Nat} (h : Box w b v) (a : Addr) (ha : a.block ≠ b) (u : Value) : Box (w.setCell a u) b v :=
  ⟨(World.cell?_setCell_other _ _ _ _ (by rintro rfl; exact ha rfl)).trans h.1, (World.frozen?_setCell _ _ _ _).trans h.2⟩

set_option maxRecDepth 100000 in
set_option maxHeartbeats 2000000 in
theorem copiedS_any (A : Option Addr) (n c pix g b s B0 : Nat) (lb : Array Value) (w : World) (hmn : n ≤ 9223372036854775807) (hn : n ≤ 10) (hp : pix ≤ 20) (hB0 : B0 ≤ b) (hbw : b < w.heap.size)
    (hf : FokS Try.prog g lb b s) (hbox : Box w b (seedAt s 0)) :
    Calls Try.prog 79 #[.slice A n c, .int .i64 pix, .func (.func g) #[] lb] w fun e w' => ∃ A' c', e = .returned (.slice A' n c') ∧ SM w' A' n c' (seedL s pix n) ∧ Below B0 w w' := by
  have eg := hf.1
  have Hf := hidx hf.2
  clear hf
  go_enter Try.func79, Try.ntmps79
  go_wp2_with (at_make; refine make1 eltM rfl rfl _ _ rfl n rfl rfl (by omega) (by omega) ?_; intro w1 hown1 hb1 hlt1)
  have hbox1 := hbox.below hb1 hbw
  have hbB1 : Below B0 w w1 := hb1.mono (by omega)
  go_loopw [8, 9, 15] (fun _ _ i wr => ∃ (k : Nat) (vs : List Value), k ≤ n ∧ i = .int .i64 k ∧ vs.length = k ∧ RowsOwn wr w.heap.size 3 vs (seedL s pix k) ∧
      wr.ownsRow w.heap.size 24 1 (.slice (some ⟨w.heap.size, 0, none⟩) n n) n (vs ++ nils (n - k)) ∧ Below B0 w wr ∧ w.heap.size < wr.heap.size ∧ Box wr b (seedAt s (k * pix))) (fun _ _ i _ => n - (intOf i).toNat)
  case atStart => exact ⟨0, [], Nat.zero_le _, rfl, rfl, RowsOwn.nil _ _ _, hown1, hbB1, hlt1, by rw [Nat.zero_mul]; exact hbox1⟩
  case round =>
    obtain ⟨k, vs, hk, rfl, hvs, hrows, hout, hb, hlt, hbx⟩ := hrel
    have Hvs := hidx hvs
    clear hvs hown1 hb1 hlt1 hbox1 hbox hbB1
    by_cases hkn : k < n
    · go_wp2
      obtain ⟨wo, rfl⟩ : ∃ wo : World, wo = wr := ⟨_, rfl⟩
      have hlto := hlt
      go_loopw [9, 19] (fun _ j wr => ∃ (q : Nat) (A' : Option Addr) (c' : Nat), q ≤ pix ∧ j = .int .i64 q ∧ wr.ownsRow wo.heap.size 3 1 (.slice A' q c') q (ints (seedRow s pix k q)) ∧
          wr.ownsRow w.heap.size 24 1 (.slice (some ⟨w.heap.size, 0, none⟩) n n) n (vs ++ .slice A' q c' :: nils (n - k - 1)) ∧ Below B0 w wr ∧ w.heap.size < wr.heap.size ∧ KeepsB w.heap.size 3 wo wr ∧ wo.heap.size ≤ wr.heap.size ∧ Box wr b (seedAt s (k * pix + q))) (fun _ j _ => pix - (intOf j).toNat)
      case atStart =>
        have e1 : nils (n - k) = .slice none 0 0 :: nils (n - k - 1) := by
          unfold nils; rw [show n - k = (n - k - 1) + 1 by omega, List.replicate_succ]; simp
        rw [e1] at hout
        exact ⟨0, none, 0, Nat.zero_le _, rfl, World.ownsRow_nil _ _ _ _, hout, hb, hlt, KeepsB.refl _ _ _, Nat.le_refl _, hbx⟩
      case round =>
        obtain ⟨q, A', c', hq, rfl, hv, hout, hb, hlt, hkeep, hsz, hbx⟩ := hrel
        by_cases hqp : q < pix
        · have hcell := own_get hout k hkn (.slice A' q c') (by rw [← Hvs.out]; simp)
          rw [add_zero_lit] at hcell
          have hcall := Hf.out k q (k * pix + q) wr.drew hbx
          have HS := hidx (seedRow_snoc s pix k q)
          have i1 : (0:Int) ≤ k := by omega
          have i2 : (k:Int) < n := by omega
          go_wp2
          have harm : ∀ w2, wr.drew.grownBy w2 (some b) → w2.heap.size = wr.drew.heap.size → Box w2 b (seedAt s (k * pix + q + 1)) → wr.grownBy w2 (some b) ∧ w2.cell? ⟨w.heap.size, k, none⟩ = some (.slice A' q c') ∧ (∀ o, (w2.alloc o).cell? ⟨w.heap.size, k, none⟩ = some (.slice A' q c')) ∧ w.heap.size < w2.heap.size ∧
              w2.ownsRow w.heap.size 24 1 (.slice (some ⟨w.heap.size, 0, none⟩) n n) n (vs ++ .slice A' q c' :: nils (n - k - 1)) ∧ w2.ownsRow wo.heap.size 3 1 (.slice A' q c') q (ints (seedRow s pix k q)) ∧ wo.heap.size ≤ w2.heap.size := fun w2 hg hs2 hbx2 => by
            have hg2 : wr.grownBy w2 (some b) := ⟨hg.os, hg.tape, hg.output, hg.size, hg.block⟩
            have hs3 : w2.heap.size = wr.heap.size := hs2
            have ho2 := own_grown hout hg2 hbw
            have hc2 := own_get ho2 k hkn (.slice A' q c') (by rw [← Hvs.out]; simp)
            rw [add_zero_lit] at hc2
            exact ⟨hg2, hc2, fun o => Below.cell_of (below_alloc w2 o) hc2, by omega, ho2, own_grown hv hg2 (by omega), by omega⟩
          have harm3 : ∀ w2 w3 : World, w2.ownsRow w.heap.size 24 1 (.slice (some ⟨w.heap.size, 0, none⟩) n n) n (vs ++ .slice A' q c' :: nils (n - k - 1)) → Below wo.heap.size w2 w3 →
              w3.ownsRow w.heap.size 24 1 (.slice (some ⟨w.heap.size, 0, none⟩) n n) n (vs ++ .slice A' q c' :: nils (n - k - 1)) ∧ w3.cell? ⟨w.heap.size, k, none⟩ = some (.slice A' q c') ∧ w3.frozen? ⟨w.heap.size, k, none⟩ = false := fun w2 w3 ho hb3 => by
            have hout3 := own_under ho hb3 hlto
            have hg3 := own_get hout3 k hkn (.slice A' q c') (by rw [← Hvs.out]; simp)
            rw [add_zero_lit] at hg3
            exact ⟨hout3, hg3, hout3.frozenAt k⟩
          have Harm := hidx harm
          have Harm3 := hidx harm3
          clear harm harm3 hbx
          go_region_law (first
              | (go_simp; go_at_fn g; refine hcall.mono ?_; rintro e w2 ⟨rfl, hg2', hs2, hbx2⟩; obtain ⟨hg2, hcell2, hcell3, hlt2, hout2, hv2, hsz2⟩ := Harm.out _ hg2' hs2 hbx2; clear hs2 hg2')
              | (refine step_app1n eltI rfl (by rfl) _ _ (by rfl) (by rfl) (by rfl) hv2 (Below.refl wo.heap.size w2) hsz2 (by rfl) (by omega) (by omega) ?_; intro A2 c2 w3 hv3 hb3 _ hc2 hc2'; obtain ⟨hout3, hg3, hz3⟩ := Harm3.out _ _ hout2 hb3))
          all_goals
            go_wp2
            go_roundw
            case rel =>
              have hst := hout3.stored k (.slice A2 (q + 1) c2)
              have hset : (vs ++ Value.slice A' q c' :: nils (n - k - 1)).set k (.slice A2 (q + 1) c2) = vs ++ Value.slice A2 (q + 1) c2 :: nils (n - k - 1) := by
                rw [← Hvs.out]; simp
              rw [hset] at hst
              have hk3 : KeepsB w.heap.size 3 wo w3 := (hkeep.trans (KeepsB.grown hg2 hbw)).under hb3
              have hbx3 : Box w3 b (seedAt s (k * pix + q + 1)) := hbx2.below hb3 (by omega)
              refine ⟨q + 1, A2, c2, by omega, by go_num, ownsRow_setCell_below (by rw [HS.out, ← ints_snoc]; exact hv3) hlto _, hst.1, ?_, ?_, hk3.trans (keeps_low (KeepsT.stored (e := 3) (by decide) hout3 hst.2)), ?_, hbx3.set _ (by simp; omega) _⟩
              · exact ((hb.grown hg2 (by have := hb.size; omega) (fun j hj => by cases hj; exact hB0)).trans (hb3.mono (by omega))).setCell (by simp; omega) _
              · have := hb3.size; simp at *; omega
              · have := hb3.size; simp at *; omega
            case measure => simp [intOf]; omega
        · have hqq : q = pix := by omega
          subst hqq
          go_wp2
          go_roundw
          case rel =>
            refine ⟨k + 1, vs ++ [.slice A' q c'], by omega, by go_num, by simp [Hvs.out], ?_, by rw [show n - (k + 1) = n - k - 1 by omega]; simpa using hout, hb, hlt, by rw [Nat.succ_mul]; exact hbx⟩
            rw [seedL_snoc]
            exact (rows_keepB hrows hkeep).snoc (seedRow_len _ _ _ _) (own_base hv (Nat.le_of_lt hlto))
          case measure => simp [intOf]; omega
    · have hkk : k = n := by omega
      subst hkk
      go_wp2
      go_ret
      refine ⟨_, _, rfl, own_SM (by simpa [nils] using hout) hrows, hb⟩

end Go.Proofs.Ytkkmlcengneomaa
