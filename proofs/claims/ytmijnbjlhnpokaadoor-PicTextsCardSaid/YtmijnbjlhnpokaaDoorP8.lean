/- Contracts of the functions of pic and lightsieveref01 that take two pictures: Same, pair, both, Differ. No condition. -/
import Derived.Test.YtmijnbjlhnpokaaDoorP7
namespace Go.Proofs.YtmijnbjlhnpokaaDoor
open Go.RowKit Ls
set_option maxHeartbeats 1000000 in
theorem Same_any (A B : Option Addr) (n m c d : Nat) (W H W' H' : Int) (l l' : List Int) (w : World) (ha : SI w A n c l) (hb : SI w B m d l') :
    Calls Tryd.prog 10 #[.agg #[.int .i64 W, .int .i64 H, .slice A n c], .agg #[.int .i64 W', .int .i64 H', .slice B m d]] w fun e w' => e = .returned (.bool (samePB W H l W' H' l')) /\ Below w.heap.size w w' := by
  have hb0 := step_trans (below_alloc w (.cells #[.int .i64 W, .int .i64 H, .slice A n c] 24)) (below_alloc _ (.cells #[.int .i64 W', .int .i64 H', .slice B m d] 24))
  have sa := same_any A B n m c d l l' _ (ha.below hb0) (hb.below hb0)
  have Sa := hidx sa
  clear sa ha hb
  unfold samePB
  by_cases h1 : W = W'
  · subst h1
    by_cases h2 : H = H'
    · subst h2
      go_enter Tryd.func10, Tryd.ntmps10
      go_wp2_with fail
      refine Sa.out.mono ?_
      rintro e w1 ⟨rfl, hb1⟩
      go_wp2
      go_ret
      exact ⟨ret_bool (by simp), step_trans hb0 hb1⟩
    · have d2 : (H == H') = false := by rw [beq_eq_false_iff_ne]; exact h2
      have D2 := hidx h2
      clear h2
      go_enter Tryd.func10, Tryd.ntmps10
      go_wp2_with fail
      go_ret
      exact ⟨ret_bool (by simp [D2.out]), hb0⟩
  · have d1 : (W == W') = false := by rw [beq_eq_false_iff_ne]; exact h1
    have D1 := hidx h1
    clear h1
    go_enter Tryd.func10, Tryd.ntmps10
    go_wp2_with fail
    go_ret
    exact ⟨ret_bool (by simp [D1.out]), hb0⟩
end Go.Proofs.YtmijnbjlhnpokaaDoor
