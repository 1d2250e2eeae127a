/- Contracts of Walsh of pic and lightsieveref01. No condition. -/
import Derived.Test.YtmijnbjlhnpokaaDoorP2
import Derived.Test.YtmijnbjlhnpokaaDoorPWal2
import Derived.Test.YtmijnbjlhnpokaaDoorPWalLaw
namespace Go.Proofs.YtmijnbjlhnpokaaDoor
open Go.RowKit Ls
theorem walsh_pow (X : Option Addr) (k d : Nat) (l : List Int) (w : World) (hl : SI w X k d l) (hp : powB k = true) (hb : ∀ i, i < k -> -1000000000 <= nth l i /\ nth l i <= 1000000000) :
    Calls Tryd.prog 27 #[.slice X k d] w fun e w' => ∃ A' c', e = .returned (.slice A' k c') /\ w'.ownsRow w.heap.size 3 1 (.slice A' k c') k (ints (walS l)) /\ Below w.heap.size w w' := by
  have hll := hl.len
  obtain ⟨M, hM, hk⟩ := powB_of hp
  have h8 : 2 ^ M <= 256 := Nat.pow_le_pow_right (n := 2) (by omega) hM
  have := walsh_any X k d M l w hl hk hM (by omega)
  rw [walTo_eq l M hM (by omega) (by rw [hll]; exact hb)] at this
  exact this
theorem Walsh_any (X : Option Addr) (k d : Nat) (l : List Int) (w : World) (hl : SI w X k d l) :
    Calls Tryd.prog 12 #[.slice X k d] w fun e w' => ∃ A' c', e = .returned (.tuple #[.slice A' (walR l).length c', .int .i64 (walE l)]) /\ SI w' A' (walR l).length c' (walR l) /\ Below w.heap.size w w' := by
  have pw := Power_any X k d l w hl
  have hll := hl.len
  unfold walR walE
  cases hp : powerB l with
  | false =>
    rw [hp] at pw
    have Pw := hidx pw
    clear pw hp hll
    go_enter Tryd.func12, Tryd.ntmps12
    go_wp2_with (go_at_call 26; refine Pw.out.mono ?_; rintro e w1 ⟨rfl, hb1⟩)
    go_ret2
    exact ⟨none, 0, rfl, SI.nil _, hb1⟩
  | true =>
    rw [hp] at pw
    have Pw := hidx pw
    simp only [if_true]
    rw [walS_len, hll]
    unfold powerB at hp
    rw [Bool.and_eq_true, vlist_iff] at hp
    have HB := hidx (fun i (hi : i < k) => by
      have := bnd_nth hp.1.2.2 i (by omega)
      show -1000000000 <= nth l i /\ nth l i <= 1000000000
      omega)
    rw [hll] at hp
    have hk : k <= 256 := hp.1.2.1
    have hpp := hidx hp.2
    clear pw hp hll
    go_enter Tryd.func12, Tryd.ntmps12
    go_wp2_with fail
    refine Pw.out.mono ?_
    rintro e w1 ⟨rfl, hb1⟩
    go_wp2_with fail
    refine (walsh_pow X k d l _ (hl.below hb1) hpp.out HB.out).mono ?_
    rintro e w2 ⟨A2, c2, rfl, hown, hb2⟩
    go_wp2
    go_ret2
    exact ⟨A2, c2, rfl, own_SI hown, step_trans hb1 hb2⟩
end Go.Proofs.YtmijnbjlhnpokaaDoor
