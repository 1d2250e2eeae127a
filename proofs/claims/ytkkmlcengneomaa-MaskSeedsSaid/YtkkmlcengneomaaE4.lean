/- The contract of lightsieveref02's Walsh. No condition. -/
import Derived.Test.YtkkmlcengneomaaE3
import Derived.Test.YtkkmlcengneomaaE2
namespace Go.Proofs.Ytkkmlcengneomaa
open Go.RowKit Ls

theorem all_take {p : Int → Bool} {l : List Int} (h : ∀ j, j < l.length → p (nth l j) = true) : l.all p = true := all_of_nth h

set_option maxRecDepth 100000 in
set_option maxHeartbeats 4000000 in
theorem rwalsh_1 (X : Option Addr) (k d P : Nat) (l : List Int) (w : World) (hl : SI w X k d l) (hP1 : 1 ≤ P) (hP8 : P ≤ 8) (hk6 : k ≤ 6) (hk : inB k 1 6 = true) (ha : ascB l = true) (f1 : ((P:Int) != 1) = false) :
    Calls Try.prog 55 #[.int .i64 P, .slice X k d] w fun e w' => ∃ A' c', e = .returned (.tuple #[.slice A' (if l.all (fun i => inB i 0 ((P:Int) - 1)) then walL l P else []).length c', .int .i64 (if l.all (fun i => inB i 0 ((P:Int) - 1)) then 0 else 7)]) ∧ SM w' A' (if l.all (fun i => inB i 0 ((P:Int) - 1)) then walL l P else []).length c' (if l.all (fun i => inB i 0 ((P:Int) - 1)) then walL l P else []) ∧ Below w.heap.size w w' := by
  have hln := hl.nmax
  have hll := hidx hl.len
  have wk : ∀ W, Calls Try.prog 62 #[.int .i64 k, .int .i64 1, .int .i64 6] W fun e W' => e = .returned (.bool true) ∧ W = W' := fun W => by
    have := rwithin_any k 1 6 W; rwa [hk] at this
  have asc : ∀ W, SI W X k d l → Calls Try.prog 93 #[.slice X k d] W fun e W' => e = .returned (.bool true) ∧ Below W.heap.size W W' := fun W h => by
    have := rAscending_any X k d l W h; rwa [ha] at this
  have Wk := hidx wk
  have As := hidx asc
  obtain ⟨R, hR⟩ : ∃ R, R = (if l.all (fun i => inB i 0 ((P:Int) - 1)) then walL l P else []) := ⟨_, rfl⟩
  obtain ⟨E, hE⟩ : ∃ E : Int, E = (if l.all (fun i => inB i 0 ((P:Int) - 1)) then 0 else 7) := ⟨_, rfl⟩
  rw [← hR, ← hE]
  have HR := hidx hR
  have HE := hidx hE
  clear wk asc hk ha hR hE
  go_enter Try.func55, Try.ntmps55
  go_wp2_with fail
  refine (Wk.out _).mono ?_
  rintro e w1 ⟨rfl, rfl⟩
  go_wp2_with fail
  refine (As.out _ hl).mono ?_
  rintro e w1 ⟨rfl, hb1⟩
  have hl1 := hl.below hb1
  clear hl
  go_wp2
  go_loopw [6, 8, 9, 10, 38, 48] (fun s _ _ _ i _ wr => ∃ (q : Nat) (A' : Option Addr) (c' : Nat) (vs : List Value), q ≤ k ∧ i = .int .i64 q ∧ s = .slice A' q c' ∧ Hid (∀ j, j < q → 0 ≤ nth l j ∧ nth l j < P) ∧ wr.ownsRow w1.heap.size 24 1 (.slice A' q c') q vs ∧ RowsOwn wr w1.heap.size 3 vs (walL (l.take q) P) ∧ Below w1.heap.size w1 wr) (fun _ _ _ _ i _ _ => k - (intOf i).toNat)
  case atStart => exact ⟨0, none, 0, [], Nat.zero_le _, rfl, rfl, fun j hj => absurd hj (Nat.not_lt_zero _), World.ownsRow_nil _ _ _ _, RowsOwn.nil _ _ _, Below.refl _ _⟩
  case round =>
    obtain ⟨q, A', c', vs, hq, rfl, rfl, hall, hown, hrows, hb⟩ := hrel
    by_cases hlt : q < k
    · have hlr := hl1.below hb
      obtain ⟨xd, rfl, hcx⟩ := hlr.at_ (by omega)
      have h3 := hcx q hlt
      have hwi := fun W => rwithin_any (nth l q) 0 ((P:Int) - 1) W
      have hw1 : IntKind.i64.wrap ((P:Int) - 1) = (P:Int) - 1 := by rw [IntKind.wrap_i64]; omega
      cases hx : inB (nth l q) 0 ((P:Int) - 1) with
      | false =>
        have hno : l.all (fun i => inB i 0 ((P:Int) - 1)) = false := not_all_of q (by rw [hll.out]; exact hlt) hx
        have HR2 := HR.out
        have HE2 := HE.out
        rw [hno] at HR2 HE2
        have HR3 := hidx HR2
        have HE3 := hidx HE2
        rw [hx] at hwi
        have Hwi := hidx hwi
        clear hcx hlr hwi hx hno HR2 HE2
        go_wp2_with fail
        refine (Hwi.out _).mono ?_
        rintro e w2 ⟨rfl, rfl⟩
        go_wp2
        go_ret2
        rw [HR3.out, HE3.out]
        exact ⟨none, 0, rfl, SM.nil _, step_trans hb1 hb⟩
      | true =>
        have hx' := hx
        rw [inB_iff] at hx'
        obtain ⟨u, hu⟩ := Int.eq_ofNat_of_zero_le hx'.1
        have huP : u < P := by omega
        rw [hx] at hwi
        have Hwi := hidx hwi
        have HS := hidx (walL_snoc l P q (by rw [hll.out]; exact hlt))
        have hst : ∀ j, j < q + 1 → 0 ≤ nth l j ∧ nth l j < P := fun j hj => by
          by_cases e : j = q
          · subst e; omega
          · exact hall.out j (by omega)
        have Hst := hidx hst
        have hrw : walRow (nth l q) = fun p => (List.range p).map fun j => walV u j := by funext p; unfold walRow; rw [hu, Int.toNat_natCast]
        have hsn : ∀ j, walRow (nth l q) (j + 1) = walRow (nth l q) j ++ [walV u j] := fun j => by rw [walRow_snoc, hu, Int.toNat_natCast]
        have Hsn := hidx hsn
        have Hx := hidx hx
        rw [hu] at h3 Hwi
        clear hcx hlr hwi hx hx' hst hrw hsn hu
        go_wp2_with fail
        refine (Hwi.out _).mono ?_
        rintro e w2 ⟨rfl, rfl⟩
        go_wp2
        go_loopw [9, 10, 48] (fun s _ j wx => ∃ (t : Nat) (B' : Option Addr) (e' : Nat), t ≤ P ∧ j = .int .i64 t ∧ s = .slice B' t e' ∧ wx.ownsRow wr.heap.size 3 1 (.slice B' t e') t (ints (walRow (nth l q) t)) ∧ Below wr.heap.size wr wx) (fun _ _ j _ => P - (intOf j).toNat)
        case atStart => exact ⟨0, none, 0, Nat.zero_le _, rfl, rfl, World.ownsRow_nil _ _ _ _, Below.refl _ _⟩
        case round =>
          obtain ⟨t, B', e', ht, rfl, rfl, hv, hbx⟩ := hrel
          by_cases htk : t < P
          · have hand := and_small u (by omega) t (by omega)
            have hon := fun W => ones_any (u &&& t) W (and_lt (by omega))
            have hsn := Hsn.out t
            unfold walV at hsn
            obtain ⟨v, hv2⟩ : ∃ v, v = u &&& t := ⟨_, rfl⟩
            obtain ⟨o, ho⟩ : ∃ o, o = popc 9 v := ⟨_, rfl⟩
            rw [← hv2] at hand hon hsn
            rw [← ho] at hon hsn
            have hv8 : v ≤ 8 := by rw [hv2]; exact Nat.le_trans Nat.and_le_right (by omega)
            have hm : ((o % 2 : Nat) : Int) = (o : Int) % 2 := by push_cast; rfl
            rw [hm] at hsn
            have Hon := hidx hon
            have HN := hidx hsn
            have e1 : IntKind.u64.wrap (v : Int) = v := by rw [IntKind.wrap_u64]; omega
            clear hv2 ho hon hsn hm
            go_wp2_with (first
              | (go_at_call 86; refine (Hon.out _).mono ?_; rintro e w1 ⟨rfl, rfl⟩)
              | (at_builtin; refine app1 eltI rfl rfl (.tmp 51) (.tmp 60) rfl rfl rfl hv hbx (Nat.le_refl _) rfl (by omega) (by omega) ?_; intro A3 c3 w3 hown3 hb3 hg3 hc3 hc3'))
            go_roundw
            case rel => exact ⟨t + 1, A3, c3, by omega, by go_num, rfl, by rw [HN.out, ← ints_snoc]; exact hown3, hb3⟩
            case measure => simp [intOf]; omega
          · have htt : t = P := by omega
            subst htt
            have hown2 := own_below hown hbx
            have hrows2 := hrows.keep (KeepsT.of_below hbx)
            have hb2 := step_trans hb hbx
            have hszr := hb.size
            clear hown hrows
            go_wp2_with (at_builtin; refine app1 eltM rfl rfl (.tmp 63) (.tmp 65) rfl rfl rfl hown2 hb2 (Nat.le_refl _) rfl (by omega) (by omega) ?_; intro A3 c3 w3 hown3 hb3 hg3 hc3 hc3')
            go_roundw
            case rel =>
              have hk3 : KeepsT 3 wr w3 := KeepsT.grown (by decide) hown2 hg3
              refine ⟨q + 1, A3, c3, _, by omega, by go_num, rfl, Hst.out, hown3, ?_, hb3⟩
              rw [HS.out]
              exact (hrows2.keep hk3).snoc (walRow_len _ _) (own_keeps (own_base hv hszr) hk3)
            case measure => simp [intOf]; omega
    · have hqq : q = k := by omega
      subst hqq
      have hyes : l.all (fun i => inB i 0 ((P:Int) - 1)) = true := all_of_nth fun j hj => by
        have := hall.out j (by rw [hll.out] at hj; exact hj)
        rw [inB_iff]; omega
      have HR2 := HR.out
      have HE2 := HE.out
      rw [hyes] at HR2 HE2
      have HR3 := hidx HR2
      have HE3 := hidx HE2
      clear hyes HR2 HE2
      rw [← hll.out, List.take_length] at hrows
      go_wp2
      go_ret2
      rw [HR3.out, HE3.out]
      refine ⟨A', c', ?_, ?_, step_trans hb1 hb⟩
      · simp [walL_len, hll.out]
      · have := own_SM hown hrows
        simpa [walL_len, hll.out] using this

set_option maxRecDepth 100000 in
set_option maxHeartbeats 4000000 in
theorem rwalsh_2 (X : Option Addr) (k d P : Nat) (l : List Int) (w : World) (hl : SI w X k d l) (hP1 : 1 ≤ P) (hP8 : P ≤ 8) (hk6 : k ≤ 6) (hk : inB k 1 6 = true) (ha : ascB l = true) (f1 : ((P:Int) != 1) = true) (f2 : ((P:Int) != 2) = false) :
    Calls Try.prog 55 #[.int .i64 P, .slice X k d] w fun e w' => ∃ A' c', e = .returned (.tuple #[.slice A' (if l.all (fun i => inB i 0 ((P:Int) - 1)) then walL l P else []).length c', .int .i64 (if l.all (fun i => inB i 0 ((P:Int) - 1)) then 0 else 7)]) ∧ SM w' A' (if l.all (fun i => inB i 0 ((P:Int) - 1)) then walL l P else []).length c' (if l.all (fun i => inB i 0 ((P:Int) - 1)) then walL l P else []) ∧ Below w.heap.size w w' := by
  have hln := hl.nmax
  have hll := hidx hl.len
  have wk : ∀ W, Calls Try.prog 62 #[.int .i64 k, .int .i64 1, .int .i64 6] W fun e W' => e = .returned (.bool true) ∧ W = W' := fun W => by
    have := rwithin_any k 1 6 W; rwa [hk] at this
  have asc : ∀ W, SI W X k d l → Calls Try.prog 93 #[.slice X k d] W fun e W' => e = .returned (.bool true) ∧ Below W.heap.size W W' := fun W h => by
    have := rAscending_any X k d l W h; rwa [ha] at this
  have Wk := hidx wk
  have As := hidx asc
  obtain ⟨R, hR⟩ : ∃ R, R = (if l.all (fun i => inB i 0 ((P:Int) - 1)) then walL l P else []) := ⟨_, rfl⟩
  obtain ⟨E, hE⟩ : ∃ E : Int, E = (if l.all (fun i => inB i 0 ((P:Int) - 1)) then 0 else 7) := ⟨_, rfl⟩
  rw [← hR, ← hE]
  have HR := hidx hR
  have HE := hidx hE
  clear wk asc hk ha hR hE
  go_enter Try.func55, Try.ntmps55
  go_wp2_with fail
  refine (Wk.out _).mono ?_
  rintro e w1 ⟨rfl, rfl⟩
  go_wp2_with fail
  refine (As.out _ hl).mono ?_
  rintro e w1 ⟨rfl, hb1⟩
  have hl1 := hl.below hb1
  clear hl
  go_wp2
  go_loopw [6, 8, 9, 10, 38, 48] (fun s _ _ _ i _ wr => ∃ (q : Nat) (A' : Option Addr) (c' : Nat) (vs : List Value), q ≤ k ∧ i = .int .i64 q ∧ s = .slice A' q c' ∧ Hid (∀ j, j < q → 0 ≤ nth l j ∧ nth l j < P) ∧ wr.ownsRow w1.heap.size 24 1 (.slice A' q c') q vs ∧ RowsOwn wr w1.heap.size 3 vs (walL (l.take q) P) ∧ Below w1.heap.size w1 wr) (fun _ _ _ _ i _ _ => k - (intOf i).toNat)
  case atStart => exact ⟨0, none, 0, [], Nat.zero_le _, rfl, rfl, fun j hj => absurd hj (Nat.not_lt_zero _), World.ownsRow_nil _ _ _ _, RowsOwn.nil _ _ _, Below.refl _ _⟩
  case round =>
    obtain ⟨q, A', c', vs, hq, rfl, rfl, hall, hown, hrows, hb⟩ := hrel
    by_cases hlt : q < k
    · have hlr := hl1.below hb
      obtain ⟨xd, rfl, hcx⟩ := hlr.at_ (by omega)
      have h3 := hcx q hlt
      have hwi := fun W => rwithin_any (nth l q) 0 ((P:Int) - 1) W
      have hw1 : IntKind.i64.wrap ((P:Int) - 1) = (P:Int) - 1 := by rw [IntKind.wrap_i64]; omega
      cases hx : inB (nth l q) 0 ((P:Int) - 1) with
      | false =>
        have hno : l.all (fun i => inB i 0 ((P:Int) - 1)) = false := not_all_of q (by rw [hll.out]; exact hlt) hx
        have HR2 := HR.out
        have HE2 := HE.out
        rw [hno] at HR2 HE2
        have HR3 := hidx HR2
        have HE3 := hidx HE2
        rw [hx] at hwi
        have Hwi := hidx hwi
        clear hcx hlr hwi hx hno HR2 HE2
        go_wp2_with fail
        refine (Hwi.out _).mono ?_
        rintro e w2 ⟨rfl, rfl⟩
        go_wp2
        go_ret2
        rw [HR3.out, HE3.out]
        exact ⟨none, 0, rfl, SM.nil _, step_trans hb1 hb⟩
      | true =>
        have hx' := hx
        rw [inB_iff] at hx'
        obtain ⟨u, hu⟩ := Int.eq_ofNat_of_zero_le hx'.1
        have huP : u < P := by omega
        rw [hx] at hwi
        have Hwi := hidx hwi
        have HS := hidx (walL_snoc l P q (by rw [hll.out]; exact hlt))
        have hst : ∀ j, j < q + 1 → 0 ≤ nth l j ∧ nth l j < P := fun j hj => by
          by_cases e : j = q
          · subst e; omega
          · exact hall.out j (by omega)
        have Hst := hidx hst
        have hrw : walRow (nth l q) = fun p => (List.range p).map fun j => walV u j := by funext p; unfold walRow; rw [hu, Int.toNat_natCast]
        have hsn : ∀ j, walRow (nth l q) (j + 1) = walRow (nth l q) j ++ [walV u j] := fun j => by rw [walRow_snoc, hu, Int.toNat_natCast]
        have Hsn := hidx hsn
        have Hx := hidx hx
        rw [hu] at h3 Hwi
        clear hcx hlr hwi hx hx' hst hrw hsn hu
        go_wp2_with fail
        refine (Hwi.out _).mono ?_
        rintro e w2 ⟨rfl, rfl⟩
        go_wp2
        go_loopw [9, 10, 48] (fun s _ j wx => ∃ (t : Nat) (B' : Option Addr) (e' : Nat), t ≤ P ∧ j = .int .i64 t ∧ s = .slice B' t e' ∧ wx.ownsRow wr.heap.size 3 1 (.slice B' t e') t (ints (walRow (nth l q) t)) ∧ Below wr.heap.size wr wx) (fun _ _ j _ => P - (intOf j).toNat)
        case atStart => exact ⟨0, none, 0, Nat.zero_le _, rfl, rfl, World.ownsRow_nil _ _ _ _, Below.refl _ _⟩
        case round =>
          obtain ⟨t, B', e', ht, rfl, rfl, hv, hbx⟩ := hrel
          by_cases htk : t < P
          · have hand := and_small u (by omega) t (by omega)
            have hon := fun W => ones_any (u &&& t) W (and_lt (by omega))
            have hsn := Hsn.out t
            unfold walV at hsn
            obtain ⟨v, hv2⟩ : ∃ v, v = u &&& t := ⟨_, rfl⟩
            obtain ⟨o, ho⟩ : ∃ o, o = popc 9 v := ⟨_, rfl⟩
            rw [← hv2] at hand hon hsn
            rw [← ho] at hon hsn
            have hv8 : v ≤ 8 := by rw [hv2]; exact Nat.le_trans Nat.and_le_right (by omega)
            have hm : ((o % 2 : Nat) : Int) = (o : Int) % 2 := by push_cast; rfl
            rw [hm] at hsn
            have Hon := hidx hon
            have HN := hidx hsn
            have e1 : IntKind.u64.wrap (v : Int) = v := by rw [IntKind.wrap_u64]; omega
            clear hv2 ho hon hsn hm
            go_wp2_with (first
              | (go_at_call 86; refine (Hon.out _).mono ?_; rintro e w1 ⟨rfl, rfl⟩)
              | (at_builtin; refine app1 eltI rfl rfl (.tmp 51) (.tmp 60) rfl rfl rfl hv hbx (Nat.le_refl _) rfl (by omega) (by omega) ?_; intro A3 c3 w3 hown3 hb3 hg3 hc3 hc3'))
            go_roundw
            case rel => exact ⟨t + 1, A3, c3, by omega, by go_num, rfl, by rw [HN.out, ← ints_snoc]; exact hown3, hb3⟩
            case measure => simp [intOf]; omega
          · have htt : t = P := by omega
            subst htt
            have hown2 := own_below hown hbx
            have hrows2 := hrows.keep (KeepsT.of_below hbx)
            have hb2 := step_trans hb hbx
            have hszr := hb.size
            clear hown hrows
            go_wp2_with (at_builtin; refine app1 eltM rfl rfl (.tmp 63) (.tmp 65) rfl rfl rfl hown2 hb2 (Nat.le_refl _) rfl (by omega) (by omega) ?_; intro A3 c3 w3 hown3 hb3 hg3 hc3 hc3')
            go_roundw
            case rel =>
              have hk3 : KeepsT 3 wr w3 := KeepsT.grown (by decide) hown2 hg3
              refine ⟨q + 1, A3, c3, _, by omega, by go_num, rfl, Hst.out, hown3, ?_, hb3⟩
              rw [HS.out]
              exact (hrows2.keep hk3).snoc (walRow_len _ _) (own_keeps (own_base hv hszr) hk3)
            case measure => simp [intOf]; omega
    · have hqq : q = k := by omega
      subst hqq
      have hyes : l.all (fun i => inB i 0 ((P:Int) - 1)) = true := all_of_nth fun j hj => by
        have := hall.out j (by rw [hll.out] at hj; exact hj)
        rw [inB_iff]; omega
      have HR2 := HR.out
      have HE2 := HE.out
      rw [hyes] at HR2 HE2
      have HR3 := hidx HR2
      have HE3 := hidx HE2
      clear hyes HR2 HE2
      rw [← hll.out, List.take_length] at hrows
      go_wp2
      go_ret2
      rw [HR3.out, HE3.out]
      refine ⟨A', c', ?_, ?_, step_trans hb1 hb⟩
      · simp [walL_len, hll.out]
      · have := own_SM hown hrows
        simpa [walL_len, hll.out] using this

set_option maxRecDepth 100000 in
set_option maxHeartbeats 4000000 in
theorem rwalsh_4 (X : Option Addr) (k d P : Nat) (l : List Int) (w : World) (hl : SI w X k d l) (hP1 : 1 ≤ P) (hP8 : P ≤ 8) (hk6 : k ≤ 6) (hk : inB k 1 6 = true) (ha : ascB l = true) (f1 : ((P:Int) != 1) = true) (f2 : ((P:Int) != 2) = true) (f3 : ((P:Int) != 4) = false) :
    Calls Try.prog 55 #[.int .i64 P, .slice X k d] w fun e w' => ∃ A' c', e = .returned (.tuple #[.slice A' (if l.all (fun i => inB i 0 ((P:Int) - 1)) then walL l P else []).length c', .int .i64 (if l.all (fun i => inB i 0 ((P:Int) - 1)) then 0 else 7)]) ∧ SM w' A' (if l.all (fun i => inB i 0 ((P:Int) - 1)) then walL l P else []).length c' (if l.all (fun i => inB i 0 ((P:Int) - 1)) then walL l P else []) ∧ Below w.heap.size w w' := by
  have hln := hl.nmax
  have hll := hidx hl.len
  have wk : ∀ W, Calls Try.prog 62 #[.int .i64 k, .int .i64 1, .int .i64 6] W fun e W' => e = .returned (.bool true) ∧ W = W' := fun W => by
    have := rwithin_any k 1 6 W; rwa [hk] at this
  have asc : ∀ W, SI W X k d l → Calls Try.prog 93 #[.slice X k d] W fun e W' => e = .returned (.bool true) ∧ Below W.heap.size W W' := fun W h => by
    have := rAscending_any X k d l W h; rwa [ha] at this
  have Wk := hidx wk
  have As := hidx asc
  obtain ⟨R, hR⟩ : ∃ R, R = (if l.all (fun i => inB i 0 ((P:Int) - 1)) then walL l P else []) := ⟨_, rfl⟩
  obtain ⟨E, hE⟩ : ∃ E : Int, E = (if l.all (fun i => inB i 0 ((P:Int) - 1)) then 0 else 7) := ⟨_, rfl⟩
  rw [← hR, ← hE]
  have HR := hidx hR
  have HE := hidx hE
  clear wk asc hk ha hR hE
  go_enter Try.func55, Try.ntmps55
  go_wp2_with fail
  refine (Wk.out _).mono ?_
  rintro e w1 ⟨rfl, rfl⟩
  go_wp2_with fail
  refine (As.out _ hl).mono ?_
  rintro e w1 ⟨rfl, hb1⟩
  have hl1 := hl.below hb1
  clear hl
  go_wp2
  go_loopw [6, 8, 9, 10, 38, 48] (fun s _ _ _ i _ wr => ∃ (q : Nat) (A' : Option Addr) (c' : Nat) (vs : List Value), q ≤ k ∧ i = .int .i64 q ∧ s = .slice A' q c' ∧ Hid (∀ j, j < q → 0 ≤ nth l j ∧ nth l j < P) ∧ wr.ownsRow w1.heap.size 24 1 (.slice A' q c') q vs ∧ RowsOwn wr w1.heap.size 3 vs (walL (l.take q) P) ∧ Below w1.heap.size w1 wr) (fun _ _ _ _ i _ _ => k - (intOf i).toNat)
  case atStart => exact ⟨0, none, 0, [], Nat.zero_le _, rfl, rfl, fun j hj => absurd hj (Nat.not_lt_zero _), World.ownsRow_nil _ _ _ _, RowsOwn.nil _ _ _, Below.refl _ _⟩
  case round =>
    obtain ⟨q, A', c', vs, hq, rfl, rfl, hall, hown, hrows, hb⟩ := hrel
    by_cases hlt : q < k
    · have hlr := hl1.below hb
      obtain ⟨xd, rfl, hcx⟩ := hlr.at_ (by omega)
      have h3 := hcx q hlt
      have hwi := fun W => rwithin_any (nth l q) 0 ((P:Int) - 1) W
      have hw1 : IntKind.i64.wrap ((P:Int) - 1) = (P:Int) - 1 := by rw [IntKind.wrap_i64]; omega
      cases hx : inB (nth l q) 0 ((P:Int) - 1) with
      | false =>
        have hno : l.all (fun i => inB i 0 ((P:Int) - 1)) = false := not_all_of q (by rw [hll.out]; exact hlt) hx
        have HR2 := HR.out
        have HE2 := HE.out
        rw [hno] at HR2 HE2
        have HR3 := hidx HR2
        have HE3 := hidx HE2
        rw [hx] at hwi
        have Hwi := hidx hwi
        clear hcx hlr hwi hx hno HR2 HE2
        go_wp2_with fail
        refine (Hwi.out _).mono ?_
        rintro e w2 ⟨rfl, rfl⟩
        go_wp2
        go_ret2
        rw [HR3.out, HE3.out]
        exact ⟨none, 0, rfl, SM.nil _, step_trans hb1 hb⟩
      | true =>
        have hx' := hx
        rw [inB_iff] at hx'
        obtain ⟨u, hu⟩ := Int.eq_ofNat_of_zero_le hx'.1
        have huP : u < P := by omega
        rw [hx] at hwi
        have Hwi := hidx hwi
        have HS := hidx (walL_snoc l P q (by rw [hll.out]; exact hlt))
        have hst : ∀ j, j < q + 1 → 0 ≤ nth l j ∧ nth l j < P := fun j hj => by
          by_cases e : j = q
          · subst e; omega
          · exact hall.out j (by omega)
        have Hst := hidx hst
        have hrw : walRow (nth l q) = fun p => (List.range p).map fun j => walV u j := by funext p; unfold walRow; rw [hu, Int.toNat_natCast]
        have hsn : ∀ j, walRow (nth l q) (j + 1) = walRow (nth l q) j ++ [walV u j] := fun j => by rw [walRow_snoc, hu, Int.toNat_natCast]
        have Hsn := hidx hsn
        have Hx := hidx hx
        rw [hu] at h3 Hwi
        clear hcx hlr hwi hx hx' hst hrw hsn hu
        go_wp2_with fail
        refine (Hwi.out _).mono ?_
        rintro e w2 ⟨rfl, rfl⟩
        go_wp2
        go_loopw [9, 10, 48] (fun s _ j wx => ∃ (t : Nat) (B' : Option Addr) (e' : Nat), t ≤ P ∧ j = .int .i64 t ∧ s = .slice B' t e' ∧ wx.ownsRow wr.heap.size 3 1 (.slice B' t e') t (ints (walRow (nth l q) t)) ∧ Below wr.heap.size wr wx) (fun _ _ j _ => P - (intOf j).toNat)
        case atStart => exact ⟨0, none, 0, Nat.zero_le _, rfl, rfl, World.ownsRow_nil _ _ _ _, Below.refl _ _⟩
        case round =>
          obtain ⟨t, B', e', ht, rfl, rfl, hv, hbx⟩ := hrel
          by_cases htk : t < P
          · have hand := and_small u (by omega) t (by omega)
            have hon := fun W => ones_any (u &&& t) W (and_lt (by omega))
            have hsn := Hsn.out t
            unfold walV at hsn
            obtain ⟨v, hv2⟩ : ∃ v, v = u &&& t := ⟨_, rfl⟩
            obtain ⟨o, ho⟩ : ∃ o, o = popc 9 v := ⟨_, rfl⟩
            rw [← hv2] at hand hon hsn
            rw [← ho] at hon hsn
            have hv8 : v ≤ 8 := by rw [hv2]; exact Nat.le_trans Nat.and_le_right (by omega)
            have hm : ((o % 2 : Nat) : Int) = (o : Int) % 2 := by push_cast; rfl
            rw [hm] at hsn
            have Hon := hidx hon
            have HN := hidx hsn
            have e1 : IntKind.u64.wrap (v : Int) = v := by rw [IntKind.wrap_u64]; omega
            clear hv2 ho hon hsn hm
            go_wp2_with (first
              | (go_at_call 86; refine (Hon.out _).mono ?_; rintro e w1 ⟨rfl, rfl⟩)
              | (at_builtin; refine app1 eltI rfl rfl (.tmp 51) (.tmp 60) rfl rfl rfl hv hbx (Nat.le_refl _) rfl (by omega) (by omega) ?_; intro A3 c3 w3 hown3 hb3 hg3 hc3 hc3'))
            go_roundw
            case rel => exact ⟨t + 1, A3, c3, by omega, by go_num, rfl, by rw [HN.out, ← ints_snoc]; exact hown3, hb3⟩
            case measure => simp [intOf]; omega
          · have htt : t = P := by omega
            subst htt
            have hown2 := own_below hown hbx
            have hrows2 := hrows.keep (KeepsT.of_below hbx)
            have hb2 := step_trans hb hbx
            have hszr := hb.size
            clear hown hrows
            go_wp2_with (at_builtin; refine app1 eltM rfl rfl (.tmp 63) (.tmp 65) rfl rfl rfl hown2 hb2 (Nat.le_refl _) rfl (by omega) (by omega) ?_; intro A3 c3 w3 hown3 hb3 hg3 hc3 hc3')
            go_roundw
            case rel =>
              have hk3 : KeepsT 3 wr w3 := KeepsT.grown (by decide) hown2 hg3
              refine ⟨q + 1, A3, c3, _, by omega, by go_num, rfl, Hst.out, hown3, ?_, hb3⟩
              rw [HS.out]
              exact (hrows2.keep hk3).snoc (walRow_len _ _) (own_keeps (own_base hv hszr) hk3)
            case measure => simp [intOf]; omega
    · have hqq : q = k := by omega
      subst hqq
      have hyes : l.all (fun i => inB i 0 ((P:Int) - 1)) = true := all_of_nth fun j hj => by
        have := hall.out j (by rw [hll.out] at hj; exact hj)
        rw [inB_iff]; omega
      have HR2 := HR.out
      have HE2 := HE.out
      rw [hyes] at HR2 HE2
      have HR3 := hidx HR2
      have HE3 := hidx HE2
      clear hyes HR2 HE2
      rw [← hll.out, List.take_length] at hrows
      go_wp2
      go_ret2
      rw [HR3.out, HE3.out]
      refine ⟨A', c', ?_, ?_, step_trans hb1 hb⟩
      · simp [walL_len, hll.out]
      · have := own_SM hown hrows
        simpa [walL_len, hll.out] using this

set_option maxRecDepth 100000 in
set_option maxHeartbeats 4000000 in
theorem rwalsh_8 (X : Option Addr) (k d P : Nat) (l : List Int) (w : World) (hl : SI w X k d l) (hP1 : 1 ≤ P) (hP8 : P ≤ 8) (hk6 : k ≤ 6) (hk : inB k 1 6 = true) (ha : ascB l = true) (f1 : ((P:Int) != 1) = true) (f2 : ((P:Int) != 2) = true) (f3 : ((P:Int) != 4) = true) (f4 : ((P:Int) != 8) = false) :
    Calls Try.prog 55 #[.int .i64 P, .slice X k d] w fun e w' => ∃ A' c', e = .returned (.tuple #[.slice A' (if l.all (fun i => inB i 0 ((P:Int) - 1)) then walL l P else []).length c', .int .i64 (if l.all (fun i => inB i 0 ((P:Int) - 1)) then 0 else 7)]) ∧ SM w' A' (if l.all (fun i => inB i 0 ((P:Int) - 1)) then walL l P else []).length c' (if l.all (fun i => inB i 0 ((P:Int) - 1)) then walL l P else []) ∧ Below w.heap.size w w' := by
  have hln := hl.nmax
  have hll := hidx hl.len
  have wk : ∀ W, Calls Try.prog 62 #[.int .i64 k, .int .i64 1, .int .i64 6] W fun e W' => e = .returned (.bool true) ∧ W = W' := fun W => by
    have := rwithin_any k 1 6 W; rwa [hk] at this
  have asc : ∀ W, SI W X k d l → Calls Try.prog 93 #[.slice X k d] W fun e W' => e = .returned (.bool true) ∧ Below W.heap.size W W' := fun W h => by
    have := rAscending_any X k d l W h; rwa [ha] at this
  have Wk := hidx wk
  have As := hidx asc
  obtain ⟨R, hR⟩ : ∃ R, R = (if l.all (fun i => inB i 0 ((P:Int) - 1)) then walL l P else []) := ⟨_, rfl⟩
  obtain ⟨E, hE⟩ : ∃ E : Int, E = (if l.all (fun i => inB i 0 ((P:Int) - 1)) then 0 else 7) := ⟨_, rfl⟩
  rw [← hR, ← hE]
  have HR := hidx hR
  have HE := hidx hE
  clear wk asc hk ha hR hE
  go_enter Try.func55, Try.ntmps55
  go_wp2_with fail
  refine (Wk.out _).mono ?_
  rintro e w1 ⟨rfl, rfl⟩
  go_wp2_with fail
  refine (As.out _ hl).mono ?_
  rintro e w1 ⟨rfl, hb1⟩
  have hl1 := hl.below hb1
  clear hl
  go_wp2
  go_loopw [6, 8, 9, 10, 38, 48] (fun s _ _ _ i _ wr => ∃ (q : Nat) (A' : Option Addr) (c' : Nat) (vs : List Value), q ≤ k ∧ i = .int .i64 q ∧ s = .slice A' q c' ∧ Hid (∀ j, j < q → 0 ≤ nth l j ∧ nth l j < P) ∧ wr.ownsRow w1.heap.size 24 1 (.slice A' q c') q vs ∧ RowsOwn wr w1.heap.size 3 vs (walL (l.take q) P) ∧ Below w1.heap.size w1 wr) (fun _ _ _ _ i _ _ => k - (intOf i).toNat)
  case atStart => exact ⟨0, none, 0, [], Nat.zero_le _, rfl, rfl, fun j hj => absurd hj (Nat.not_lt_zero _), World.ownsRow_nil _ _ _ _, RowsOwn.nil _ _ _, Below.refl _ _⟩
  case round =>
    obtain ⟨q, A', c', vs, hq, rfl, rfl, hall, hown, hrows, hb⟩ := hrel
    by_cases hlt : q < k
    · have hlr := hl1.below hb
      obtain ⟨xd, rfl, hcx⟩ := hlr.at_ (by omega)
      have h3 := hcx q hlt
      have hwi := fun W => rwithin_any (nth l q) 0 ((P:Int) - 1) W
      have hw1 : IntKind.i64.wrap ((P:Int) - 1) = (P:Int) - 1 := by rw [IntKind.wrap_i64]; omega
      cases hx : inB (nth l q) 0 ((P:Int) - 1) with
      | false =>
        have hno : l.all (fun i => inB i 0 ((P:Int) - 1)) = false := not_all_of q (by rw [hll.out]; exact hlt) hx
        have HR2 := HR.out
        have HE2 := HE.out
        rw [hno] at HR2 HE2
        have HR3 := hidx HR2
        have HE3 := hidx HE2
        rw [hx] at hwi
        have Hwi := hidx hwi
        clear hcx hlr hwi hx hno HR2 HE2
        go_wp2_with fail
        refine (Hwi.out _).mono ?_
        rintro e w2 ⟨rfl, rfl⟩
        go_wp2
        go_ret2
        rw [HR3.out, HE3.out]
        exact ⟨none, 0, rfl, SM.nil _, step_trans hb1 hb⟩
      | true =>
        have hx' := hx
        rw [inB_iff] at hx'
        obtain ⟨u, hu⟩ := Int.eq_ofNat_of_zero_le hx'.1
        have huP : u < P := by omega
        rw [hx] at hwi
        have Hwi := hidx hwi
        have HS := hidx (walL_snoc l P q (by rw [hll.out]; exact hlt))
        have hst : ∀ j, j < q + 1 → 0 ≤ nth l j ∧ nth l j < P := fun j hj => by
          by_cases e : j = q
          · subst e; omega
          · exact hall.out j (by omega)
        have Hst := hidx hst
        have hrw : walRow (nth l q) = fun p => (List.range p).map fun j => walV u j := by funext p; unfold walRow; rw [hu, Int.toNat_natCast]
        have hsn : ∀ j, walRow (nth l q) (j + 1) = walRow (nth l q) j ++ [walV u j] := fun j => by rw [walRow_snoc, hu, Int.toNat_natCast]
        have Hsn := hidx hsn
        have Hx := hidx hx
        rw [hu] at h3 Hwi
        clear hcx hlr hwi hx hx' hst hrw hsn hu
        go_wp2_with fail
        refine (Hwi.out _).mono ?_
        rintro e w2 ⟨rfl, rfl⟩
        go_wp2
        go_loopw [9, 10, 48] (fun s _ j wx => ∃ (t : Nat) (B' : Option Addr) (e' : Nat), t ≤ P ∧ j = .int .i64 t ∧ s = .slice B' t e' ∧ wx.ownsRow wr.heap.size 3 1 (.slice B' t e') t (ints (walRow (nth l q) t)) ∧ Below wr.heap.size wr wx) (fun _ _ j _ => P - (intOf j).toNat)
        case atStart => exact ⟨0, none, 0, Nat.zero_le _, rfl, rfl, World.ownsRow_nil _ _ _ _, Below.refl _ _⟩
        case round =>
          obtain ⟨t, B', e', ht, rfl, rfl, hv, hbx⟩ := hrel
          by_cases htk : t < P
          · have hand := and_small u (by omega) t (by omega)
            have hon := fun W => ones_any (u &&& t) W (and_lt (by omega))
            have hsn := Hsn.out t
            unfold walV at hsn
            obtain ⟨v, hv2⟩ : ∃ v, v = u &&& t := ⟨_, rfl⟩
            obtain ⟨o, ho⟩ : ∃ o, o = popc 9 v := ⟨_, rfl⟩
            rw [← hv2] at hand hon hsn
            rw [← ho] at hon hsn
            have hv8 : v ≤ 8 := by rw [hv2]; exact Nat.le_trans Nat.and_le_right (by omega)
            have hm : ((o % 2 : Nat) : Int) = (o : Int) % 2 := by push_cast; rfl
            rw [hm] at hsn
            have Hon := hidx hon
            have HN := hidx hsn
            have e1 : IntKind.u64.wrap (v : Int) = v := by rw [IntKind.wrap_u64]; omega
            clear hv2 ho hon hsn hm
            go_wp2_with (first
              | (go_at_call 86; refine (Hon.out _).mono ?_; rintro e w1 ⟨rfl, rfl⟩)
              | (at_builtin; refine app1 eltI rfl rfl (.tmp 51) (.tmp 60) rfl rfl rfl hv hbx (Nat.le_refl _) rfl (by omega) (by omega) ?_; intro A3 c3 w3 hown3 hb3 hg3 hc3 hc3'))
            go_roundw
            case rel => exact ⟨t + 1, A3, c3, by omega, by go_num, rfl, by rw [HN.out, ← ints_snoc]; exact hown3, hb3⟩
            case measure => simp [intOf]; omega
          · have htt : t = P := by omega
            subst htt
            have hown2 := own_below hown hbx
            have hrows2 := hrows.keep (KeepsT.of_below hbx)
            have hb2 := step_trans hb hbx
            have hszr := hb.size
            clear hown hrows
            go_wp2_with (at_builtin; refine app1 eltM rfl rfl (.tmp 63) (.tmp 65) rfl rfl rfl hown2 hb2 (Nat.le_refl _) rfl (by omega) (by omega) ?_; intro A3 c3 w3 hown3 hb3 hg3 hc3 hc3')
            go_roundw
            case rel =>
              have hk3 : KeepsT 3 wr w3 := KeepsT.grown (by decide) hown2 hg3
              refine ⟨q + 1, A3, c3, _, by omega, by go_num, rfl, Hst.out, hown3, ?_, hb3⟩
              rw [HS.out]
              exact (hrows2.keep hk3).snoc (walRow_len _ _) (own_keeps (own_base hv hszr) hk3)
            case measure => simp [intOf]; omega
    · have hqq : q = k := by omega
      subst hqq
      have hyes : l.all (fun i => inB i 0 ((P:Int) - 1)) = true := all_of_nth fun j hj => by
        have := hall.out j (by rw [hll.out] at hj; exact hj)
        rw [inB_iff]; omega
      have HR2 := HR.out
      have HE2 := HE.out
      rw [hyes] at HR2 HE2
      have HR3 := hidx HR2
      have HE3 := hidx HE2
      clear hyes HR2 HE2
      rw [← hll.out, List.take_length] at hrows
      go_wp2
      go_ret2
      rw [HR3.out, HE3.out]
      refine ⟨A', c', ?_, ?_, step_trans hb1 hb⟩
      · simp [walL_len, hll.out]
      · have := own_SM hown hrows
        simpa [walL_len, hll.out] using this

end Go.Proofs.Ytkkmlcengneomaa
