/- The law's own helpers Small and awake of lightsievelaw02. No condition. -/
import Derived.Test.YtkkmlcengneomaaR3
namespace Go.Proofs.Ytkkmlcengneomaa
open Go.RowKit Ls

/-- Some bool, and the world as it was. -/
def SomeB (w : World) (e : Ending) (w' : World) : Prop := ∃ b, e = .returned (.bool b) ∧ w = w'
theorem SomeB.mk {w : World} {e : Ending} {w' : World} (b : Bool) (h : e = .returned (.bool b)) (hw : w = w') : SomeB w e w' := ⟨b, h, hw⟩

set_option maxHeartbeats 1000000 in
theorem small_any (A : Option Addr) (n c : Nat) (l : List (List (List Int))) (w : World) (h : S3 w A n c l) :
    Calls Try.prog 20 #[.slice A n c] w (SomeB w) := by
  obtain rfl := h.len
  have hmx := h.nmax
  go_enter Try.func20, Try.ntmps20
  go_wp2
  go_loop [4, 5, 7, 10] (fun _ _ _ i => ∃ k : Nat, k ≤ l.length ∧ i = .int .i64 k) (fun _ _ _ i => l.length - (intOf i).toNat)
  case atStart => exact ⟨0, Nat.zero_le _, rfl⟩
  case round =>
    obtain ⟨k, hk, rfl⟩ := hrel
    by_cases hlt : k < l.length
    · obtain ⟨ad, rfl, hca⟩ := h.at_ (by omega)
      obtain ⟨A1, c1, h1, h2⟩ := hca k hlt
      have hm1 := h2.nmax
      clear hca h
      go_wp2
      go_loop [5, 7, 18] (fun s _ i => ∃ (j : Nat) (z : Int), j ≤ (nthM l k).length ∧ i = .int .i64 j ∧ s = .int .i64 z) (fun _ _ i => (nthM l k).length - (intOf i).toNat)
      case atStart => exact ⟨0, _, Nat.zero_le _, rfl, rfl⟩
      case round =>
        obtain ⟨j, z, hj, rfl, rfl⟩ := hrel
        by_cases hlt2 : j < (nthM l k).length
        · obtain ⟨ad2, rfl, hcb⟩ := h2.at_ (by omega)
          obtain ⟨A2, c2, h3, h4⟩ := hcb j hlt2
          have hm2 := h4.nmax
          clear hcb h2 h4 h1
          go_wp2
          go_round
          case rel => exact ⟨j + 1, _, by omega, by go_num, rfl⟩
          case measure => simp [intOf]; omega
        · go_wp2
          · go_ret
            exact ⟨_, rfl, rfl⟩
          · go_round
            case rel => exact ⟨k + 1, by omega, by go_num⟩
            case measure => simp [intOf]; omega
    · go_wp2
      go_ret
      exact ⟨_, rfl, rfl⟩

theorem aw_shown : shownE [[1, -1, 0]] [5, 2, 9] = 0 := by decide +kernel
theorem aw_read : readR [[1, -1, 0]] [5, 2, 9] = [3] := by decide +kernel
theorem aw_likE : likenessE [[1, 1], [1, 0]] 0 1 = 0 := by decide +kernel
theorem aw_likN : likN [[1, 1], [1, 0]] 0 1 = 1 := by decide +kernel
theorem aw_likD : likDn [[1, 1], [1, 0]] 0 1 = 2 := by decide +kernel
theorem aw_same : sameB [3] [3] = true := by decide +kernel

theorem SI.new3 (w : World) (t : TypeId) (x y z : Int) : SI (w.alloc (.cells #[.int .i64 x, .int .i64 y, .int .i64 z] t)) (some ⟨w.heap.size, 0, none⟩) 3 3 [x, y, z] := SI.new w t [x, y, z] 3 rfl (by omega)

theorem aw_mem1 (W : World) (t t2 t3 : TypeId) :
    SM (((W.alloc (.cells #[.int .i64 1, .int .i64 (-1), .int .i64 0] t)).alloc (.cells #[.slice (some ⟨W.heap.size, 0, none⟩) 3 3] t2)).alloc (.cells #[.int .i64 5, .int .i64 2, .int .i64 9] t3)) (some ⟨W.heap.size + 1, 0, none⟩) 1 1 [[1, -1, 0]] ∧
    SI (((W.alloc (.cells #[.int .i64 1, .int .i64 (-1), .int .i64 0] t)).alloc (.cells #[.slice (some ⟨W.heap.size, 0, none⟩) 3 3] t2)).alloc (.cells #[.int .i64 5, .int .i64 2, .int .i64 9] t3)) (some ⟨W.heap.size + 1 + 1, 0, none⟩) 3 3 [5, 2, 9] ∧
    Below W.heap.size W (((W.alloc (.cells #[.int .i64 1, .int .i64 (-1), .int .i64 0] t)).alloc (.cells #[.slice (some ⟨W.heap.size, 0, none⟩) 3 3] t2)).alloc (.cells #[.int .i64 5, .int .i64 2, .int .i64 9] t3)) := by
  have h1 := SI.new3 W t 1 (-1) 0
  have h2 := (SM.new1 t2 h1).below (below_alloc _ (.cells #[.int .i64 5, .int .i64 2, .int .i64 9] t3))
  have h3 := SI.new3 ((W.alloc (.cells #[.int .i64 1, .int .i64 (-1), .int .i64 0] t)).alloc (.cells #[.slice (some ⟨W.heap.size, 0, none⟩) 3 3] t2)) t3 5 2 9
  rw [World.size_alloc] at h2
  rw [World.size_alloc, World.size_alloc] at h3
  exact ⟨h2, h3, step_trans (step_trans (below_alloc _ _) (below_alloc _ _)) (below_alloc _ _)⟩
theorem aw_mem2 (W : World) (t t2 t3 : TypeId) :
    SM (((W.alloc (.cells #[.int .i64 1, .int .i64 1] t)).alloc (.cells #[.int .i64 1, .int .i64 0] t2)).alloc (.cells #[.slice (some ⟨W.heap.size, 0, none⟩) 2 2, .slice (some ⟨W.heap.size + 1, 0, none⟩) 2 2] t3)) (some ⟨W.heap.size + 1 + 1, 0, none⟩) 2 2 [[1, 1], [1, 0]] ∧
    Below W.heap.size W (((W.alloc (.cells #[.int .i64 1, .int .i64 1] t)).alloc (.cells #[.int .i64 1, .int .i64 0] t2)).alloc (.cells #[.slice (some ⟨W.heap.size, 0, none⟩) 2 2, .slice (some ⟨W.heap.size + 1, 0, none⟩) 2 2] t3)) := by
  have h1 := (SI.new2 W t 1 1).below (below_alloc _ (.cells #[.int .i64 1, .int .i64 0] t2))
  have h2 := SI.new2 (W.alloc (.cells #[.int .i64 1, .int .i64 1] t)) t2 1 0
  rw [World.size_alloc] at h2
  have h3 := SM.new2 t3 h1 h2
  rw [World.size_alloc, World.size_alloc] at h3
  exact ⟨h3, step_trans (step_trans (below_alloc _ _) (below_alloc _ _)) (below_alloc _ _)⟩

set_option maxHeartbeats 1000000 in
theorem awake_any (w : World) :
    Calls Try.prog 16 #[] w fun e w' => e = .returned (.bool true) ∧ Below w.heap.size w w' := by
  have c1 := fun A X W hm hx => read_any A X 1 1 3 3 [[1, -1, 0]] [5, 2, 9] W hm hx
  simp only [aw_shown, aw_read, List.length_cons, List.length_nil, Nat.zero_add] at c1
  have c2 := fun A W hm => Likeness_any A 2 2 [[1, 1], [1, 0]] 0 1 W hm
  simp only [aw_likE, aw_likN, aw_likD] at c2
  have c3 := fun A B c d W h1 h2 => same_any A B 1 1 c d [3] [3] W h1 h2
  simp only [aw_same] at c3
  have C1 := hidx c1
  have C2 := hidx c2
  have C3 := hidx c3
  clear c1 c2 c3
  go_enter Try.func16, Try.ntmps16
  go_wp2_with fail
  obtain ⟨m1, m2, m3⟩ := aw_mem1 w 3 24 3
  refine (C1.out _ _ _ m1 m2).mono ?_
  rintro e w1 ⟨A1, d1, rfl, hown1, hb1⟩
  have hbw1 := step_trans m3 hb1
  clear m1 m2 m3
  go_wp2_with fail
  obtain ⟨m4, m5⟩ := aw_mem2 w1 3 3 24
  refine (C2.out _ _ m4).mono ?_
  rintro e w2 ⟨rfl, hb2⟩
  have hb12 := step_trans m5 hb2
  have hbw2 := step_trans hbw1 hb12
  clear m4 m5 hb2
  have hs1 := (own_SI hown1).below hb12
  go_wp2_with fail
  refine (C3.out _ _ _ _ _ (hs1.below (step_trans (below_alloc _ _) (below_alloc _ _))) ?_).mono ?_
  · have := SI.new1 (w2.alloc (.cells #[.int .i64 1, .int .i64 2] 39)) 3 3
    rwa [World.size_alloc] at this
  rintro e w3 ⟨rfl, hb3⟩
  have hx0 : w3.cell? ⟨w2.heap.size, 0, none⟩ = some (.int .i64 1) := Below.cell_of hb3 (by simp)
  have hx1 : w3.cell? ⟨w2.heap.size, 1, none⟩ = some (.int .i64 2) := Below.cell_of hb3 (by simp)
  go_wp2
  go_ret
  exact ⟨rfl, step_trans hbw2 (step_trans (step_trans (below_alloc _ _) (below_alloc _ _)) hb3)⟩

end Go.Proofs.Ytkkmlcengneomaa
