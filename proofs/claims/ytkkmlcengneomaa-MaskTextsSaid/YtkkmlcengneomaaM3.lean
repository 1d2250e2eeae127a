/- Contracts of mask's all, row, Valid, listed, shown, named. No condition. -/
import Derived.Test.YtkkmlcengneomaaM2
namespace Go.Proofs.Ytkkmlcengneomaa
open Go.RowKit Ls

theorem any_not {α : Type} (p : α → Bool) (l : List α) : (!l.any fun x => !p x) = l.all p := by
  induction l with
  | nil => rfl
  | cons a l ih => simp only [List.any_cons, List.all_cons, Bool.not_or, Bool.not_not, ← ih]

/-! ### all over integers -/
set_option maxHeartbeats 400000 in
theorem allI_clo (B g : Nat) (lb : Array Value) (p : Int → Bool) (w : World) (hB : w.cell? ⟨B, 0, none⟩ = some (.func (.func g) #[] lb)) (hf : FokI Try.prog g lb p w) :
    FokI Try.prog 117 #[.pointer (some ⟨B, 0, none⟩)] (fun x => !p x) w := by
  refine ⟨(enters_of Try.func117 (by kernel_rfl) rfl), fun x W hW => ?_⟩
  have hc := Below.cell_of hW hB
  have hcall := hf.2 x W hW
  have eg := hf.1
  clear hB hf
  go_enter Try.func117, Try.ntmps117
  go_wp2_with (go_at_fn g; refine hcall.mono ?_; rintro e w1 ⟨rfl, hb1⟩)
  go_ret
  exact ⟨rfl, hb1⟩

set_option maxHeartbeats 400000 in
theorem allI (A : Option Addr) (n c g : Nat) (lb : Array Value) (p : Int → Bool) (zs : List Int) (w : World)
    (h : SI w A n c zs) (hf : FokI Try.prog g lb p w) :
    Calls Try.prog 88 #[.slice A n c, .func (.func g) #[] lb] w fun e w' => e = .returned (.bool (zs.all p)) ∧ Below w.heap.size w w' := by
  rw [← any_not]
  have hb0 : ∀ o, Below w.heap.size w (w.alloc o) := fun o => (Below.refl _ w).alloc (Nat.le_refl _) o
  have hcl := fun o hc => allI_clo w.heap.size g lb p (w.alloc o) hc (hf.later (hb0 o))
  go_enter Try.func88, Try.ntmps88
  go_wp2_with (go_at_call 116; refine (containsFuncI A n c _ _ _ zs _ (h.below (hb0 _)) (hcl _ (by simp))).mono ?_; rintro e w1 ⟨rfl, hb1⟩)
  go_ret
  exact ⟨rfl, step_trans (hb0 _) hb1⟩

/-! ### all over rows -/
set_option maxHeartbeats 400000 in
theorem allR_clo (B g : Nat) (lb : Array Value) (ok : List Int → Prop) (p : List Int → Bool) (w : World) (hB : w.cell? ⟨B, 0, none⟩ = some (.func (.func g) #[] lb)) (hf : FokR Try.prog g lb ok p w) :
    FokR Try.prog 109 #[.pointer (some ⟨B, 0, none⟩)] ok (fun x => !p x) w := by
  refine ⟨(enters_of Try.func109 (by kernel_rfl) rfl), fun A n c zs W hok hW hs => ?_⟩
  have hc := Below.cell_of hW hB
  have hcall := hf.2 A n c zs W hok hW hs
  have eg := hf.1
  clear hB hf hok
  go_enter Try.func109, Try.ntmps109
  go_wp2_with (go_at_fn g; refine hcall.mono ?_; rintro e w1 ⟨rfl, hb1⟩)
  go_ret
  exact ⟨rfl, hb1⟩

set_option maxHeartbeats 400000 in
theorem allR (A : Option Addr) (n c g : Nat) (lb : Array Value) (ok : List Int → Prop) (p : List Int → Bool) (zs : List (List Int)) (w : World)
    (h : SM w A n c zs) (hok : ∀ l ∈ zs, ok l) (hf : FokR Try.prog g lb ok p w) :
    Calls Try.prog 75 #[.slice A n c, .func (.func g) #[] lb] w fun e w' => e = .returned (.bool (zs.all p)) ∧ Below w.heap.size w w' := by
  rw [← any_not]
  have hok' := hidx hok
  clear hok
  have hb0 : ∀ o, Below w.heap.size w (w.alloc o) := fun o => (Below.refl _ w).alloc (Nat.le_refl _) o
  have hcl := fun o hc => allR_clo w.heap.size g lb ok p (w.alloc o) hc (hf.later (hb0 o))
  go_enter Try.func75, Try.ntmps75
  go_wp2_with (go_at_call 108; refine (containsFuncR A n c _ _ ok _ zs _ (h.below (hb0 _)) hok'.out (hcl _ (by simp))).mono ?_; rintro e w1 ⟨rfl, hb1⟩)
  go_ret
  exact ⟨rfl, step_trans (hb0 _) hb1⟩

/-! ### row -/
theorem row1_ok (w : World) : FokI Try.prog 110 #[] (fun n => inB n (-1) 1) w := by
  refine ⟨(enters_of Try.func110 (by kernel_rfl) rfl), fun x W _ => ?_⟩
  go_enter Try.func110, Try.ntmps110
  go_wp2_with (go_at_call 74; refine (within_any _ _ _ _).mono ?_; rintro e w1 ⟨rfl, rfl⟩)
  go_ret
  exact ⟨rfl, Below.refl _ _⟩

set_option maxHeartbeats 400000 in
theorem row_any (A : Option Addr) (n c : Nat) (zs : List Int) (w : World) (h : SI w A n c zs) :
    Calls Try.prog 77 #[.slice A n c] w fun e w' => e = .returned (.bool (rowB zs)) ∧ Below w.heap.size w w' := by
  have hl := hidx h.len
  unfold rowB
  rw [hl.out]
  cases hq : inB n 1 10 with
  | true =>
    go_enter Try.func77, Try.ntmps77
    go_wp2_with (first | (go_at_call 74; refine (within_any _ _ _ _).mono ?_; rintro e w1 ⟨rfl, rfl⟩) | (go_at_call 88; refine (allI A n c _ _ _ zs _ h (row1_ok _)).mono ?_; rintro e w1 ⟨rfl, hb1⟩))
    go_ret
    exact ⟨by simp, hb1⟩
  | false =>
    go_enter Try.func77, Try.ntmps77
    go_wp2_with (first | (go_at_call 74; refine (within_any _ _ _ _).mono ?_; rintro e w1 ⟨rfl, rfl⟩))
    go_ret
    exact ⟨by simp, Below.refl _ _⟩

/-! ### Valid -/
set_option maxHeartbeats 400000 in
theorem valid1_ok (B : Nat) (A : Option Addr) (n c : Nat) (m : List (List Int)) (w : World) (hB : w.cell? ⟨B, 0, none⟩ = some (.slice A n c)) (hm : SM w A n c m) (hn : 0 < n) :
    FokR Try.prog 76 #[.pointer (some ⟨B, 0, none⟩)] (fun _ => True) (fitB m) w := by
  refine ⟨(enters_of Try.func76 (by kernel_rfl) rfl), fun A1 n1 c1 zs W _ hW hs => ?_⟩
  have hc := Below.cell_of hW hB
  obtain ⟨ad, rfl, hca⟩ := (hm.below hW).at_ hn
  obtain ⟨A2, c2, h1, h2⟩ := hca 0 hn
  rw [add_zero] at h1
  have hl := hidx hs.len
  unfold fitB
  rw [hl.out]
  have hmx := h2.nmax
  have hmx1 := hs.nmax
  clear hca h2 hm hB
  by_cases hq : (n1 : Int) = ((nthL m 0).length : Int)
  · have hq1 : n1 = (nthL m 0).length := by omega
    have hq2 := hidx hq1
    clear hq1
    go_enter Try.func76, Try.ntmps76
    go_wp2_with (go_at_call 77; refine (row_any _ _ _ _ _ hs).mono ?_; rintro e w1 ⟨rfl, hb1⟩)
    go_ret
    exact ⟨by simp [hq2.out], hb1⟩
  · have hq2 : (decide (n1 = (nthL m 0).length)) = false := by simp; omega
    have hq3 := hidx hq2
    clear hq2
    go_enter Try.func76, Try.ntmps76
    go_wp2
    go_ret
    exact ⟨by simp [hq3.out], Below.refl _ _⟩

set_option maxHeartbeats 400000 in
theorem valid_any (A : Option Addr) (n c : Nat) (m : List (List Int)) (w : World) (h : SM w A n c m) :
    Calls Try.prog 32 #[.slice A n c] w fun e w' => e = .returned (.bool (validB m)) ∧ Below w.heap.size w w' := by
  have hl := hidx h.len
  unfold validB
  rw [hl.out]
  have hb0 : ∀ o, Below w.heap.size w (w.alloc o) := fun o => (Below.refl _ w).alloc (Nat.le_refl _) o
  cases hq : inB n 1 6 with
  | true =>
    have hn : 0 < n := by simp [inB] at hq; omega
    have hcl := fun o hc => valid1_ok w.heap.size A n c m (w.alloc o) hc (h.below (hb0 o)) hn
    go_enter Try.func32, Try.ntmps32
    go_wp2_with (first | (go_at_call 74; refine (within_any _ _ _ _).mono ?_; rintro e w1 ⟨rfl, rfl⟩) | (go_at_call 75; refine (allR A n c _ _ (fun _ => True) _ m _ (h.below (hb0 _)) (fun _ _ => trivial) (hcl _ (by simp))).mono ?_; rintro e w1 ⟨rfl, hb1⟩))
    go_ret
    exact ⟨by simp, step_trans (hb0 _) hb1⟩
  | false =>
    go_enter Try.func32, Try.ntmps32
    go_wp2_with (first | (go_at_call 74; refine (within_any _ _ _ _).mono ?_; rintro e w1 ⟨rfl, rfl⟩))
    go_ret
    exact ⟨by simp, hb0 _⟩

end Go.Proofs.Ytkkmlcengneomaa
