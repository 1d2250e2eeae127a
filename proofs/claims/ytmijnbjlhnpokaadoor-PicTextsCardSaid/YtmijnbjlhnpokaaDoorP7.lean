/- Contracts of lightsieveref01.SameInts and Same, and of the laws' own helpers long and awake. No condition. -/
import Derived.Test.YtmijnbjlhnpokaaDoorP6
namespace Go.Proofs.YtmijnbjlhnpokaaDoor
open Go.RowKit Ls
set_option maxHeartbeats 400000 in
theorem same_any (A B : Option Addr) (n m c d : Nat) (xs ys : List Int) (w : World) (ha : SI w A n c xs) (hb : SI w B m d ys) :
    Calls Tryd.prog 14 #[.slice A n c, .slice B m d] w fun e w' => e = .returned (.bool (sameB xs ys)) /\ Below w.heap.size w w' := by
  have hn := ha.nmax; have hm := hb.nmax
  obtain rfl := ha.len; obtain rfl := hb.len
  by_cases hq : (xs.length : Int) = (ys.length : Int)
  · have hq1 : ((xs.length : Int) != (ys.length : Int)) = false := by simp; omega
    have Hq := hidx hq
    have hle : xs.length <= ys.length := by omega
    clear hq
    go_enter Tryd.func14, Tryd.ntmps14
    go_wp2
    go_loopw [5, 13] (fun _ i wr => ∃ k : Nat, k <= xs.length /\ i = .int .i64 k /\ Hid (∀ j, j < k -> nth xs j = nth ys j) /\ Below w.heap.size w wr) (fun _ i _ => xs.length - (intOf i).toNat)
    case atStart => exact ⟨0, Nat.zero_le _, rfl, fun j hj => absurd hj (Nat.not_lt_zero _), Below.refl _ _⟩
    case round =>
      obtain ⟨k, hk, rfl, hall, hbw⟩ := hrel
      by_cases hlt : k < xs.length
      · obtain ⟨ad, rfl, hca⟩ := (ha.below hbw).at_ (by omega)
        obtain ⟨bd, rfl, hcb⟩ := (hb.below hbw).at_ (by omega)
        have h1 := hca k hlt
        have h2 := hcb k (by omega)
        clear hca hcb ha hb
        have h3 : (0:Int) <= k := by omega
        have h4 : (k:Int) < xs.length := by omega
        have h5 : (k:Int) < ys.length := by omega
        by_cases he : nth xs k = nth ys k
        · have he1 : (nth xs k != nth ys k) = false := by simp [he]
          have He := hidx he
          clear he
          go_wp2
          go_quiet (fail)
          go_wp2
          go_roundw
          case rel =>
            refine ⟨k + 1, by omega, by go_num, ?_, below_drewN hbw _⟩
            intro j hj
            by_cases e : j = k
            · subst e; exact He.out
            · exact hall.out j (by omega)
          case measure => simp [intOf]; omega
        · have he1 : (nth xs k != nth ys k) = true := by simp [he]
          have He := hidx he
          clear he
          go_wp2
          go_quiet (fail)
          go_wp2
          go_ret
          exact ⟨ret_bool (by unfold sameB; exact (decide_eq_false (fun e => He.out (by rw [e]))).symm), below_drewN hbw _⟩
      · have hkk : k = xs.length := by omega
        subst hkk
        go_wp2
        go_ret
        exact ⟨ret_bool (by unfold sameB; exact (decide_eq_true (same_of (by have := Hq.out; omega) hall.out)).symm), hbw⟩
  · have hq1 : ((xs.length : Int) != (ys.length : Int)) = true := by simp; omega
    have Hq := hidx hq
    clear hq
    go_enter Tryd.func14, Tryd.ntmps14
    go_wp2
    go_ret
    exact ⟨ret_bool (by unfold sameB; exact (decide_eq_false (fun e => Hq.out (by rw [e]))).symm), Below.refl _ _⟩
theorem same_self : ∀ l : List Int, sameB l l = true := fun l => by unfold sameB; exact decide_eq_true rfl
def samePB (W H : Int) (l : List Int) (W' H' : Int) (l' : List Int) : Bool := decide (W = W') && decide (H = H') && sameB l l'
theorem samePB_self (W H : Int) (l : List Int) : samePB W H l W H l = true := by simp [samePB, same_self]
def SomeB (w : World) (e : Ending) (w' : World) : Prop := ∃ b, e = .returned (.bool b) /\ w = w'
theorem SomeB.mk {w : World} {e : Ending} {w' : World} (b : Bool) (h : e = .returned (.bool b)) (hw : w = w') : SomeB w e w' := ⟨b, h, hw⟩
theorem SI.new4 (w : World) (t : TypeId) (x y z u : Int) : SI (w.alloc (.cells #[.int .i64 x, .int .i64 y, .int .i64 z, .int .i64 u] t)) (some ⟨w.heap.size, 0, none⟩) 4 4 [x, y, z, u] := SI.new w t [x, y, z, u] 4 rfl (by omega)
theorem aw_walE : walE [1, 2, 3, 4] = 0 := by decide +kernel
theorem aw_walR : walR [1, 2, 3, 4] = [10, -2, -4, 0] := by decide +kernel
theorem aw_liftE : liftE [5, 2, 7, 7] = 0 := by decide +kernel
theorem aw_liftR : liftR [5, 2, 7, 7] = [5, -4, 3, 0] := by decide +kernel
set_option maxHeartbeats 1000000 in
theorem awake_any (w : World) :
    Calls Tryd.prog 5 #[] w fun e w' => e = .returned (.bool true) /\ Below w.heap.size w w' := by
  have c1 := fun A c W h => Walsh_any A 4 c [1, 2, 3, 4] W h
  simp only [aw_walE, aw_walR, List.length_cons, List.length_nil, Nat.zero_add] at c1
  have c2 := fun A c W h => Lift_any A 4 c [5, 2, 7, 7] W h
  simp only [aw_liftE, aw_liftR, List.length_cons, List.length_nil, Nat.zero_add] at c2
  have c3 := fun A B c d W h1 h2 => same_any A B 4 4 c d [10, -2, -4, 0] [10, -2, -4, 0] W h1 h2
  have c4 := fun A B c d W h1 h2 => same_any A B 4 4 c d [5, -4, 3, 0] [5, -4, 3, 0] W h1 h2
  simp only [same_self] at c3 c4
  have C1 := hidx c1
  have C2 := hidx c2
  have C3 := hidx c3
  have C4 := hidx c4
  clear c1 c2 c3 c4
  go_enter Tryd.func5, Tryd.ntmps5
  go_wp2_with fail
  refine (C1.out _ _ _ (SI.new4 w _ 1 2 3 4)).mono ?_
  rintro e w1 ⟨A1, d1, rfl, s1, hb1⟩
  have hbw1 := step_trans (below_alloc w _) hb1
  clear hb1
  go_wp2_with fail
  refine (C2.out _ _ _ (SI.new4 w1 _ 5 2 7 7)).mono ?_
  rintro e w2 ⟨A2, d2, rfl, s2, hb2⟩
  have hb12 := step_trans (below_alloc w1 _) hb2
  have hbw2 := step_trans hbw1 hb12
  have s1' := s1.below hb12
  clear s1 hb2 hb12 hbw1
  go_wp2_with fail
  refine (C3.out _ _ _ _ _ (s1'.below (below_alloc _ _)) (SI.new4 w2 _ 10 (-2) (-4) 0)).mono ?_
  rintro e w3 ⟨rfl, hb3⟩
  have hb23 := step_trans (below_alloc w2 _) hb3
  have hbw3 := step_trans hbw2 hb23
  have s2' := s2.below hb23
  clear s1' s2 hb3 hb23 hbw2
  go_wp2_with fail
  refine (C4.out _ _ _ _ _ (s2'.below (below_alloc _ _)) (SI.new4 w3 _ 5 (-4) 3 0)).mono ?_
  rintro e w4 ⟨rfl, hb4⟩
  go_wp2
  go_ret
  exact ⟨rfl, step_trans hbw3 (step_trans (below_alloc w3 _) hb4)⟩
end Go.Proofs.YtmijnbjlhnpokaaDoor
