/- Contracts of Walsh of pic and lightsieveref01. No condition. -/
import Derived.Test.YtahccnljckgjmaaP2
import Derived.Test.YtahccnljckgjmaaPWal2
import Derived.Test.YtahccnljckgjmaaPWalLaw
namespace Go.Proofs.Ytahccnljckgjmaa
open Go.RowKit Ls

theorem walsh_pow (X : Option Addr) (k d : Nat) (l : List Int) (w : World) (hl : SI w X k d l) (hp : powB k = true) (hb : ∀ i, i < k → -1000000000 ≤ nth l i ∧ nth l i ≤ 1000000000) :
    Calls Try.prog 52 #[.slice X k d] w fun e w' => ∃ A' c', e = .returned (.slice A' k c') ∧ w'.ownsRow w.heap.size 3 1 (.slice A' k c') k (ints (walS l)) ∧ Below w.heap.size w w' := by
  have hll := hl.len
  obtain ⟨M, hM, hk⟩ := powB_of hp
  have h8 : 2 ^ M ≤ 256 := Nat.pow_le_pow_right (n := 2) (by omega) hM
  have := walsh_any X k d M l w hl hk hM (by omega)
  rw [walTo_eq l M hM (by omega) (by rw [hll]; exact hb)] at this
  exact this

theorem odd_any (i j : Nat) (w : World) (hi : i < 256) (hj : j < 256) :
    Calls Try.prog 77 #[.int .i64 i, .int .i64 j] w fun e w' => e = .returned (.bool (oddB i j)) ∧ w = w' := by
  have ha := i64_and_nat i j (by omega) (by omega)
  unfold oddB
  have hle : i &&& j ≤ i := Nat.and_le_left
  obtain ⟨v, hv⟩ : ∃ v, v = i &&& j := ⟨_, rfl⟩
  rw [← hv] at ha hle ⊢
  have hon := fun W => ones_any v W (by omega)
  obtain ⟨o, ho⟩ : ∃ o, o = popc 9 v := ⟨_, rfl⟩
  rw [← ho] at hon ⊢
  have Hon := hidx hon
  have e1 : IntKind.u64.wrap (v : Int) = v := by rw [IntKind.wrap_u64]; omega
  clear hv ho hon
  go_enter Try.func77, Try.ntmps77
  go_wp2_with (go_at_call 76; refine (Hon.out _).mono ?_; rintro e w1 ⟨rfl, rfl⟩)
  go_ret
  exact ⟨ret_bool (by rw [Bool.eq_iff_iff]; simp; omega), rfl⟩

set_option maxRecDepth 100000 in
set_option maxHeartbeats 1000000 in
theorem rwalsh_any (X : Option Addr) (k d : Nat) (l : List Int) (w : World) (hl : SI w X k d l) (hk : k ≤ 256) (hb : ∀ i, i < k → -1000000000 ≤ nth l i ∧ nth l i ≤ 1000000000) :
    Calls Try.prog 58 #[.slice X k d] w fun e w' => ∃ A' c', e = .returned (.slice A' k c') ∧ w'.ownsRow w.heap.size 3 1 (.slice A' k c') k (ints (walS l)) ∧ Below w.heap.size w w' := by
  have hmx := hl.nmax
  obtain rfl := hl.len
  have HB := hidx hb
  clear hb
  go_enter Try.func58, Try.ntmps58
  go_wp2
  go_loopw [3, 10] (fun s i wr => ∃ (q : Nat) (A' : Option Addr) (c' : Nat), q ≤ l.length ∧ i = .int .i64 q ∧ s = .slice A' q c' ∧ wr.ownsRow w.heap.size 3 1 (.slice A' q c') q (ints ((List.range q).map fun i => sgSum i (nth l) l.length)) ∧ Below w.heap.size w wr) (fun _ i _ => l.length - (intOf i).toNat)
  case atStart => exact ⟨0, none, 0, Nat.zero_le _, rfl, rfl, World.ownsRow_nil _ _ _ _, Below.refl _ _⟩
  case round =>
    obtain ⟨q, A', c', hq, rfl, rfl, hown, hbw⟩ := hrel
    by_cases hlt : q < l.length
    · have hlw := hl.below hbw
      clear hl
      go_wp2
      go_loop [5, 15] (fun s i => ∃ j : Nat, j ≤ l.length ∧ i = .int .i64 j ∧ s = .int .i64 (sgSum q (nth l) j)) (fun _ i => l.length - (intOf i).toNat)
      case atStart => exact ⟨0, Nat.zero_le _, rfl, rfl⟩
      case round =>
        obtain ⟨j, hj, rfl, rfl⟩ := hrel
        by_cases hlt2 : j < l.length
        · obtain ⟨ad, rfl, hc⟩ := hlw.at_ (by omega)
          have h1 := hc j hlt2
          clear hc hlw
          have h2 := HB.out j hlt2
          have h3 := sgSum_bd q (nth l) 1000000000 j (fun t ht => HB.out t (by omega))
          have hS : sgSum q (nth l) (j + 1) = sgSum q (nth l) j + sgnd q j (nth l j) := rfl
          obtain ⟨S, hSS⟩ : ∃ S, S = sgSum q (nth l) j := ⟨_, rfl⟩
          rw [← hSS] at hS h3 ⊢
          obtain ⟨x, hx⟩ : ∃ x, x = nth l j := ⟨_, rfl⟩
          rw [← hx] at hS h1 h2
          have h4 : (-256000000000 : Int) ≤ S := by omega
          have h5 : S ≤ 256000000000 := by omega
          obtain ⟨h6, h7⟩ := h2
          have od := fun W => odd_any q j W (by omega) (by omega)
          cases hod : oddB q j with
          | true =>
            have e1 : sgnd q j x = -x := by unfold sgnd; unfold oddB at hod; rw [if_pos (of_decide_eq_true hod)]
            rw [e1] at hS
            rw [hod] at od
            have Od := hidx od
            have HS := hidx hS
            clear od hS e1 hx hSS h3 hod
            go_wp2_with (go_at_call 77; refine (Od.out _).mono ?_; rintro e w1 ⟨rfl, rfl⟩)
            go_round
            case rel => exact ⟨j + 1, by omega, by go_num, val_i64 (by rw [HS.out])⟩
            case measure => simp [intOf]; omega
          | false =>
            have e1 : sgnd q j x = x := by unfold sgnd; unfold oddB at hod; rw [if_neg (of_decide_eq_false hod)]
            rw [e1] at hS
            rw [hod] at od
            have Od := hidx od
            have HS := hidx hS
            clear od hS e1 hx hSS h3 hod
            go_wp2_with (go_at_call 77; refine (Od.out _).mono ?_; rintro e w1 ⟨rfl, rfl⟩)
            go_round
            case rel => exact ⟨j + 1, by omega, by go_num, val_i64 (by rw [HS.out])⟩
            case measure => simp [intOf]; omega
        · have hkk : j = l.length := by omega
          subst hkk
          have HS := hidx (walS_snoc l q)
          go_wp2_with (at_builtin; refine app1 eltI rfl rfl _ _ rfl rfl rfl hown hbw (Nat.le_refl _) rfl (by omega) (by omega) ?_; intro A2 c2 w2 hown2 hb2 _ hc2 hc2'; clear hown hbw)
          go_roundw
          case rel => exact ⟨q + 1, _, _, by omega, by go_num, rfl, by rw [HS.out, ← ints_snoc]; exact hown2, hb2⟩
          case measure => simp [intOf]; omega
    · have hkk : q = l.length := by omega
      subst hkk
      go_wp2
      go_ret
      exact ⟨_, _, rfl, hown, hbw⟩

theorem Walsh_any (X : Option Addr) (k d : Nat) (l : List Int) (w : World) (hl : SI w X k d l) :
    Calls Try.prog 16 #[.slice X k d] w fun e w' => ∃ A' c', e = .returned (.tuple #[.slice A' (walR l).length c', .int .i64 (walE l)]) ∧ SI w' A' (walR l).length c' (walR l) ∧ Below w.heap.size w w' := by
  have pw := Power_any X k d l w hl
  have hll := hl.len
  unfold walR walE
  cases hp : powerB l with
  | false =>
    rw [hp] at pw
    have Pw := hidx pw
    clear pw hp hll
    go_enter Try.func16, Try.ntmps16
    go_wp2_with (go_at_call 23; refine Pw.out.mono ?_; rintro e w1 ⟨rfl, hb1⟩)
    go_ret2
    exact ⟨none, 0, rfl, SI.nil _, hb1⟩
  | true =>
    rw [hp] at pw
    have Pw := hidx pw
    simp only [if_true]
    rw [walS_len, hll]
    unfold powerB at hp
    rw [Bool.and_eq_true, vlist_iff] at hp
    have HB := hidx (fun i (hi : i < k) => by
      have := bnd_nth hp.1.2.2 i (by omega)
      show -1000000000 ≤ nth l i ∧ nth l i ≤ 1000000000
      omega)
    rw [hll] at hp
    have hk : k ≤ 256 := hp.1.2.1
    have hpp := hidx hp.2
    clear pw hp hll
    go_enter Try.func16, Try.ntmps16
    go_wp2_with fail
    refine Pw.out.mono ?_
    rintro e w1 ⟨rfl, hb1⟩
    go_wp2_with fail
    refine (walsh_pow X k d l _ (hl.below hb1) hpp.out HB.out).mono ?_
    rintro e w2 ⟨A2, c2, rfl, hown, hb2⟩
    go_wp2
    go_ret2
    exact ⟨A2, c2, rfl, own_SI hown, step_trans hb1 hb2⟩

theorem rWalsh_any (X : Option Addr) (k d : Nat) (l : List Int) (w : World) (hl : SI w X k d l) :
    Calls Try.prog 24 #[.slice X k d] w fun e w' => ∃ A' c', e = .returned (.tuple #[.slice A' (walR l).length c', .int .i64 (walE l)]) ∧ SI w' A' (walR l).length c' (walR l) ∧ Below w.heap.size w w' := by
  have pw := rPower_any X k d l w hl
  have hll := hl.len
  unfold walR walE
  cases hp : powerB l with
  | false =>
    rw [hp] at pw
    have Pw := hidx pw
    clear pw hp hll
    go_enter Try.func24, Try.ntmps24
    go_wp2_with (go_at_call 14; refine Pw.out.mono ?_; rintro e w1 ⟨rfl, rfl⟩)
    go_ret2
    exact ⟨none, 0, rfl, SI.nil _, Below.refl _ _⟩
  | true =>
    rw [hp] at pw
    have Pw := hidx pw
    simp only [if_true]
    rw [walS_len, hll]
    unfold powerB at hp
    rw [Bool.and_eq_true, vlist_iff] at hp
    have HB := hidx (fun i (hi : i < k) => by
      have := bnd_nth hp.1.2.2 i (by omega)
      show -1000000000 ≤ nth l i ∧ nth l i ≤ 1000000000
      omega)
    rw [hll] at hp
    have hk : k ≤ 256 := hp.1.2.1
    have hpp := hidx hp.2
    clear pw hp hll
    go_enter Try.func24, Try.ntmps24
    go_wp2_with fail
    refine Pw.out.mono ?_
    rintro e w1 ⟨rfl, rfl⟩
    go_wp2_with fail
    refine (rwalsh_any X k d l _ hl hk HB.out).mono ?_
    rintro e w2 ⟨A2, c2, rfl, hown, hb2⟩
    go_wp2
    go_ret2
    exact ⟨A2, c2, rfl, own_SI hown, hb2⟩

end Go.Proofs.Ytahccnljckgjmaa
