/- Contracts of slices.Grow and slices.Concat at masks. No condition. -/
import Derived.Test.YtkkmlcengneomaaM7
import Derived.Test.YtkkmlcengneomaaApp
namespace Go.Proofs.Ytkkmlcengneomaa
open Go.RowKit Ls

set_option maxHeartbeats 1000000 in
theorem grow_any (n : Nat) (w : World) (h0 : 0 < n) (hn : n ≤ 1000) :
    Calls Try.prog 111 #[.slice none 0 0, .int .i64 n] w fun e w' => ∃ A' c', e = .returned (.slice A' 0 c') ∧ w'.ownsRow w.heap.size 24 1 (.slice A' 0 c') 0 [] ∧ Below w.heap.size w w' := by
  obtain ⟨i, hi, hz0, hz1, hz2⟩ := info_parts eltM.info
  have hrun := fun ty => Lib.run_append_nil_zeros (P := Try.prog) w 23 3 ty 24 i (.slice none 0 0) .i64 .i64 eltM.under Try.underlying3 hi hz0 n h0 (by omega) (by omega) (by rw [hz2]; omega)
  have hrow := grown_row w (e := 24) (z := .slice none 0 0) (n := n) rfl (by omega)
  have hge := grownCap_ge w n 0 24
  have Hrun := hidx hrun
  have Hrow := hidx hrow
  clear hrun hrow hi hz0 hz1 hz2
  have h1 : (0:Int) < n := by omega
  go_enter Try.func111, Try.ntmps111
  go_wp2_with (at_builtin; refine Lib.wpList_append_run _ rfl _ _ _ _ rfl _ _ rfl rfl _ _ (Hrun.out _) ?_)
  go_ret
  refine ⟨_, _, rfl, Hrow.out, ?_⟩
  exact ((Below.refl _ w).drew.alloc (Nat.le_refl _) _)

/-- The masks of a slice of masks, one behind the other. -/
def sumLen : List (List (List Int)) → Nat
  | [] => 0
  | a :: l => a.length + sumLen l
theorem sumLen_snoc (l : List (List (List Int))) (a : List (List Int)) : sumLen (l ++ [a]) = sumLen l + a.length := by
  induction l with
  | nil => simp [sumLen]
  | cons b l ih => simp only [List.cons_append, sumLen, ih]; omega
theorem nthM_take (l : List (List (List Int))) (k : Nat) (h : k < l.length) : l.take (k + 1) = l.take k ++ [nthM l k] := by
  rw [List.take_succ_eq_append_getElem h]; simp [nthM, h]
theorem sumLen_take (l : List (List (List Int))) (k : Nat) : sumLen (l.take k) ≤ sumLen l := by
  induction l generalizing k with
  | nil => simp [sumLen]
  | cons a l ih => cases k with
    | zero => simp [sumLen]
    | succ k => simp only [List.take_succ_cons, sumLen]; have := ih k; omega
theorem sumLen_len (l : List (List (List Int))) : l.flatten.length = sumLen l := by
  induction l with
  | nil => rfl
  | cons a l ih => simp [sumLen, ih]

set_option maxRecDepth 100000 in
set_option maxHeartbeats 2000000 in
theorem concat_any (A : Option Addr) (n c : Nat) (l : List (List (List Int))) (w : World) (h : S3 w A n c l) (h0 : 0 < sumLen l) (h1 : sumLen l ≤ 1000) :
    Calls Try.prog 78 #[.slice A n c] w fun e w' => ∃ A' c', e = .returned (.slice A' (sumLen l) c') ∧ SM w' A' (sumLen l) c' l.flatten ∧ Below w.heap.size w w' := by
  have hmn := h.nmax
  have hl := hidx h.len
  have hg := fun W => grow_any (sumLen l) W h0 h1
  have Hg := hidx hg
  clear hg
  go_enter Try.func78, Try.ntmps78
  go_wp2_with fail
  go_loop [3, 5, 11] (fun s _ i => ∃ k : Nat, k ≤ n ∧ i = .int .i64 k ∧ s = .int .i64 (sumLen (l.take k))) (fun _ _ i => n - (intOf i).toNat)
  case atStart => exact ⟨0, Nat.zero_le _, rfl, rfl⟩
  case round =>
    obtain ⟨k, hk, rfl, rfl⟩ := hrel
    by_cases hlt : k < n
    · obtain ⟨ad, rfl, hca⟩ := h.at_ (by omega)
      obtain ⟨A1, c1, h2, h3⟩ := hca k hlt
      have hst : sumLen (l.take (k + 1)) = sumLen (l.take k) + (nthM l k).length := by rw [nthM_take l k (by have := hl.out; omega), sumLen_snoc]
      have hle := sumLen_take l (k + 1)
      have hm3 := h3.nmax
      have b1 : sumLen (l.take k) + (nthM l k).length ≤ 1000 := by omega
      have Hst := hidx hst
      clear hca h h3 hst hle
      go_wp2
      go_round
      case rel => exact ⟨k + 1, by omega, by go_num, val_i64 (by rw [Hst.out]; omega)⟩
      case measure => simp [intOf]; omega
    · have hkk : k = n := by omega
      subst hkk
      have hall : sumLen (l.take k) = sumLen l := by rw [List.take_of_length_le (by have := hl.out; omega)]
      rw [hall]
      clear hall
      go_wp2_with (go_at_call 111; refine (Hg.out _).mono ?_; rintro e w1 ⟨A1, c1, rfl, hown1, hb1⟩)
      go_loopw [6, 8, 27] (fun s _ i wr => ∃ (q : Nat) (A' : Option Addr) (c' : Nat) (us : List Value), q ≤ k ∧ i = .int .i64 q ∧ s = .slice A' (sumLen (l.take q)) c' ∧ wr.ownsRow w.heap.size 24 1 (.slice A' (sumLen (l.take q)) c') (sumLen (l.take q)) us ∧ RowsRead w us (l.take q).flatten ∧ Below w.heap.size w wr) (fun _ _ i _ => k - (intOf i).toNat)
      case atStart => exact ⟨0, A1, c1, [], Nat.zero_le _, rfl, rfl, hown1, ⟨rfl, fun r hr => absurd hr (by simp)⟩, hb1⟩
      case round =>
        obtain ⟨q, A', c', us, hq, rfl, rfl, hown, hread, hb⟩ := hrel
        by_cases hlt2 : q < k
        · obtain ⟨ad, rfl, hca⟩ := h.at_ (by omega)
          obtain ⟨A2, c2, h2w, h3⟩ := hca q hlt2
          obtain ⟨vs, svw, rr⟩ := h3.values
          have h2 := Below.cell_of hb h2w
          have sv := svw.below hb
          clear h2w svw
          have hst : sumLen (l.take (q + 1)) = sumLen (l.take q) + (nthM l q).length := by rw [nthM_take l q (by have := hl.out; omega), sumLen_snoc]
          have hfl : (l.take (q + 1)).flatten = (l.take q).flatten ++ nthM l q := by rw [nthM_take l q (by have := hl.out; omega)]; simp
          have hle := sumLen_take l (q + 1)
          have b1 : sumLen (l.take q) + (nthM l q).length < 1000000 := by omega
          have Hst := hidx hst
          have Hfl := hidx hfl
          have o1 := rows_one rr
          clear hca h h3 hst hle hfl hown1 hb1
          go_wp2_with (at_builtin; refine appN _ eltM rfl rfl _ _ rfl rfl rfl hown hb (Nat.le_refl _) sv o1 b1 (by omega) ?_; intro A3 c3 w3 hown3 hb3 hg3)
          go_roundw
          case rel => exact ⟨q + 1, A3, c3, us ++ vs, by omega, by go_num, by rw [Hst.out], by rw [Hst.out]; exact hown3, by rw [Hfl.out]; exact hread.append rr, hb3⟩
          case measure => simp [intOf]; omega
        · have hqq : q = k := by omega
          subst hqq
          have hall : sumLen (l.take q) = sumLen l := by rw [List.take_of_length_le (by have := hl.out; omega)]
          have hall2 : l.take q = l := List.take_of_length_le (by have := hl.out; omega)
          rw [hall] at hown
          rw [hall2] at hread
          have Hall := hidx hall
          clear hall hall2
          go_wp2
          go_ret
          rw [Hall.out]
          exact ⟨_, _, rfl, read_SM hown (hread.below hb), hb⟩

end Go.Proofs.Ytkkmlcengneomaa
