/- Contracts of mask's listed, shown, Read, Back, named, Column, Product. No condition. -/
import Derived.Test.YtkkmlcengneomaaM3
namespace Go.Proofs.Ytkkmlcengneomaa
open Go.RowKit Ls

/-- What is asked of a function of no parameters that tells a length. -/
def FokL (P : Program) (g : Nat) (lb : Array Value) (n : Int) (w : World) : Prop :=
  (∀ args W, (callFunc g args).run P W = .ok (.enter g args) W) ∧
  ∀ (W : World), Below w.heap.size w W → Calls P g lb W fun e W' => e = .returned (.int .i64 n) ∧ W = W'

theorem listed1_ok (B : Nat) (most : Int) (w : World) (h1 : -9223372036854775807 ≤ most) (h2 : most ≤ 9223372036854775807) (hB : w.cell? ⟨B, 0, none⟩ = some (.int .i64 most)) :
    FokI Try.prog 105 #[.pointer (some ⟨B, 0, none⟩)] (fun n => inB n (-most) most) w := by
  refine ⟨(enters_of Try.func105 (by kernel_rfl) rfl), fun x W hW => ?_⟩
  have hc := Below.cell_of hW hB
  clear hB
  go_enter Try.func105, Try.ntmps105
  go_wp2_with (go_at_call 74; refine (within_any _ _ _ _).mono ?_; rintro e w1 ⟨rfl, rfl⟩)
  go_ret
  exact ⟨rfl, Below.refl _ _⟩

set_option maxHeartbeats 400000 in
theorem listed_any (A X : Option Addr) (n c k d g : Nat) (lb : Array Value) (m : List (List Int)) (x : List Int) (len most : Int) (w : World)
    (hm : SM w A n c m) (hx : SI w X k d x) (h1 : -9223372036854775807 ≤ most) (h2 : most ≤ 9223372036854775807) (hg : validB m = true → FokL Try.prog g lb len w) :
    Calls Try.prog 66 #[.slice A n c, .slice X k d, .func (.func g) #[] lb, .int .i64 most] w
      fun e w' => e = .returned (.int .i64 (listE m len most x)) ∧ Below w.heap.size w w' := by
  unfold listE
  have hb0 := below_alloc w
  have hkm := hx.nmax
  cases hv : validB m with
  | false =>
    go_enter Try.func66, Try.ntmps66
    go_wp2_with (go_at_call 32; refine (valid_any A n c m _ (hm.below (hb0 _))).mono ?_; rintro e w1 ⟨rfl, hb1⟩)
    go_ret
    exact ⟨ret_i64 (by simp), step_trans (hb0 _) hb1⟩
  | true =>
    have hgg := hg hv
    have eg := hgg.1
    have hl := hidx hx.len
    by_cases hq : (k : Int) = len
    · have Hq := hidx hq
      have hq' : ((k : Int) == len) = true := by simp [hq]
      have hq2 : ((k : Int) != len) = false := by simp [hq]
      clear hq
      cases ha : x.all (fun n => inB n (-most) most) with
      | true =>
        go_enter Try.func66, Try.ntmps66
        go_wp2_with (first
          | (go_at_call 32; refine (valid_any A n c m _ (hm.below (hb0 _))).mono ?_; rintro e w1 ⟨rfl, hb1⟩; have hcB := Below.cell_of hb1 (v := .int .i64 most) (a := ⟨w.heap.size, 0, none⟩) (by simp))
          | (go_at_fn g; refine (hgg.2 _ (step_trans (hb0 _) hb1)).mono ?_; rintro e w2 ⟨rfl, rfl⟩)
          | (go_at_call 88; refine (allI X k d _ _ _ x _ (hx.below (step_trans (hb0 _) hb1)) (listed1_ok w.heap.size most _ h1 h2 hcB)).mono ?_; rintro e w3 ⟨rfl, hb3⟩))
        go_ret
        exact ⟨ret_i64 (by unfold listedE; rw [hl.out, if_neg (by have := Hq.out; omega), ha]; simp), step_trans (step_trans (hb0 _) hb1) hb3⟩
      | false =>
        go_enter Try.func66, Try.ntmps66
        go_wp2_with (first
          | (go_at_call 32; refine (valid_any A n c m _ (hm.below (hb0 _))).mono ?_; rintro e w1 ⟨rfl, hb1⟩; have hcB := Below.cell_of hb1 (v := .int .i64 most) (a := ⟨w.heap.size, 0, none⟩) (by simp))
          | (go_at_fn g; refine (hgg.2 _ (step_trans (hb0 _) hb1)).mono ?_; rintro e w2 ⟨rfl, rfl⟩)
          | (go_at_call 88; refine (allI X k d _ _ _ x _ (hx.below (step_trans (hb0 _) hb1)) (listed1_ok w.heap.size most _ h1 h2 hcB)).mono ?_; rintro e w3 ⟨rfl, hb3⟩))
        go_ret
        exact ⟨ret_i64 (by unfold listedE; rw [hl.out, if_neg (by have := Hq.out; omega), ha]; simp), step_trans (step_trans (hb0 _) hb1) hb3⟩
    · have Hq := hidx hq
      have hq' : ((k : Int) == len) = false := by simp [hq]
      have hq2 : ((k : Int) != len) = true := by simp [hq]
      clear hq
      go_enter Try.func66, Try.ntmps66
      go_wp2_with (first
          | (go_at_call 32; refine (valid_any A n c m _ (hm.below (hb0 _))).mono ?_; rintro e w1 ⟨rfl, hb1⟩)
          | (go_at_fn g; refine (hgg.2 _ (step_trans (hb0 _) hb1)).mono ?_; rintro e w2 ⟨rfl, rfl⟩))
      go_ret
      exact ⟨ret_i64 (by unfold listedE; rw [hl.out, if_pos (by have := Hq.out; omega)]), step_trans (hb0 _) hb1⟩

/-! ### shown -/
theorem shown1_ok (B : Nat) (A : Option Addr) (n c : Nat) (m : List (List Int)) (w : World) (hB : w.cell? ⟨B, 0, none⟩ = some (.slice A n c)) (hm : SM w A n c m) (hn : 0 < n) :
    FokL Try.prog 104 #[.pointer (some ⟨B, 0, none⟩)] ((nthL m 0).length) w := by
  refine ⟨(enters_of Try.func104 (by kernel_rfl) rfl), fun W hW => ?_⟩
  have hc := Below.cell_of hW hB
  obtain ⟨ad, rfl, hca⟩ := (hm.below hW).at_ hn
  obtain ⟨A2, c2, h1, h2⟩ := hca 0 hn
  rw [add_zero] at h1
  clear hca h2 hm hB
  go_enter Try.func104, Try.ntmps104
  go_wp2
  go_ret
  exact ⟨rfl, rfl⟩

set_option maxHeartbeats 400000 in
theorem shown_any (A X : Option Addr) (n c k d : Nat) (m : List (List Int)) (x : List Int) (w : World) (hm : SM w A n c m) (hx : SI w X k d x) :
    Calls Try.prog 64 #[.slice A n c, .slice X k d] w fun e w' => e = .returned (.int .i64 (shownE m x)) ∧ Below w.heap.size w w' := by
  have hb0 := below_alloc w
  have hgg := fun o hc => fun (hv : validB m = true) => shown1_ok w.heap.size A n c m (w.alloc o) hc (hm.below (hb0 o)) (by have := (IsMask.of hv).rows1; have := hm.len; omega)
  go_enter Try.func64, Try.ntmps64
  go_wp2_with (go_at_call 66; refine (listed_any A X n c k d _ _ m x _ _ _ (hm.below (hb0 _)) (hx.below (hb0 _)) (by omega) (by omega) (hgg _ (by simp))).mono ?_; rintro e w1 ⟨rfl, hb1⟩)
  go_ret
  exact ⟨rfl, step_trans (hb0 _) hb1⟩

set_option maxHeartbeats 400000 in
theorem Shown_any (A X : Option Addr) (n c k d : Nat) (m : List (List Int)) (x : List Int) (w : World) (hm : SM w A n c m) (hx : SI w X k d x) :
    Calls Try.prog 33 #[.slice A n c, .slice X k d] w fun e w' => e = .returned (.bool (shownE m x == 0)) ∧ Below w.heap.size w w' := by
  go_enter Try.func33, Try.ntmps33
  go_wp2_with (go_at_call 64; refine (shown_any A X n c k d m x _ hm hx).mono ?_; rintro e w1 ⟨rfl, hb1⟩)
  go_ret
  exact ⟨rfl, hb1⟩

/-! ### Read -/
set_option maxHeartbeats 400000 in
theorem read_any (A X : Option Addr) (n c k d : Nat) (m : List (List Int)) (x : List Int) (w : World) (hm : SM w A n c m) (hx : SI w X k d x) :
    Calls Try.prog 17 #[.slice A n c, .slice X k d] w fun e w' => ∃ A' c', e = .returned (.tuple #[.slice A' (readR m x).length c', .int .i64 (shownE m x)]) ∧
      w'.ownsRow w.heap.size 3 1 (.slice A' (readR m x).length c') (readR m x).length (ints (readR m x)) ∧ Below w.heap.size w w' := by
  by_cases hE : shownE m x = 0
  · obtain ⟨hM, hlen, hbd⟩ := shown_mask hE
    have hR : readR m x = readL m x := by unfold readR; rw [if_pos hE]
    rw [hR]
    rw [readL_len]
    obtain rfl := hm.len
    have hr6 := hM.rows6
    have hxk := hx.len
    have hl := hidx hlen
    have hxk2 := hidx hxk
    have hR2 := hidx hR
    clear hR hlen hxk hbd
    go_enter Try.func17, Try.ntmps17
    go_wp2_with (go_at_call 64; refine (shown_any A X _ c k d m x _ hm hx).mono ?_; rintro e w1 ⟨rfl, hb1⟩)
    go_loopw [7, 9, 18] (fun s _ i wr => ∃ (j : Nat) (A' : Option Addr) (c' : Nat), j ≤ m.length ∧ i = .int .i64 j ∧ s = .slice A' j c' ∧ wr.ownsRow w.heap.size 3 1 (.slice A' j c') j (ints (readL (m.take j) x)) ∧ Below w.heap.size w wr) (fun _ _ i _ => m.length - (intOf i).toNat)
    case atStart => exact ⟨0, none, 0, Nat.zero_le _, rfl, rfl, World.ownsRow_nil _ _ _ _, hb1⟩
    case round =>
      obtain ⟨j, A', c', hj, rfl, rfl, hown, hb⟩ := hrel
      by_cases hlt : j < m.length
      · obtain ⟨ad, rfl, hca⟩ := (hm.below hb).at_ (by omega)
        obtain ⟨A1, c1, h1, h2⟩ := hca j hlt
        have hx' := hx.below hb
        have HS := hidx (readL_snoc m x j hlt)
        have hle : (nthL m j).length ≤ k := by rw [hM.each j hlt, ← hl.out, hxk2.out]; omega
        clear hca hm hx
        go_wp2_with (first
          | (go_at_call 65; refine (times_any A1 X _ _ c1 d (nthL m j) x _ h2 hx' hle).mono ?_; rintro e w2 ⟨rfl, rfl⟩)
          | (at_builtin; refine app1 eltI rfl rfl _ _ rfl rfl rfl hown hb (Nat.le_refl _) rfl (by omega) (by omega) ?_; intro A2 c2 w2 hown2 hb2 _ hc2 hc2'; clear hown hb h1))
        go_roundw
        case rel => exact ⟨j + 1, _, _, by omega, by go_num, rfl, by rw [HS.out, ← ints_snoc]; exact hown2, hb2⟩
        case measure => simp [intOf]; omega
      · have hjj : j = m.length := by omega
        subst hjj
        go_wp2
        go_ret2
        exact ⟨_, _, ret2_i64 hE.symm, by simpa using hown, hb⟩
  · have hR : readR m x = [] := by unfold readR; rw [if_neg hE]
    have hR2 := hidx hR
    clear hR
    have he : (shownE m x != 0) = true := by simp [hE]
    have he2 : (shownE m x == 0) = false := by simp [hE]
    go_enter Try.func17, Try.ntmps17
    go_wp2_with (go_at_call 64; refine (shown_any A X _ c k d m x _ hm hx).mono ?_; rintro e w1 ⟨rfl, hb1⟩)
    go_ret2
    rw [hR2.out]
    exact ⟨none, 0, rfl, World.ownsRow_nil _ _ _ _, hb1⟩

end Go.Proofs.Ytkkmlcengneomaa
