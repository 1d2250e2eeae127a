/- pic.Largest: its contract by the engine, with the library's sorts. No condition. -/
import Derived.Test.YtahccnljckgjmaaS6
import Derived.Test.YtahccnljckgjmaaSortF
import Derived.Shelf.Lay
import Derived.Ground.SlsfProg
import Derived.Ground.SlgmProg

set_option linter.unusedVariables false
set_option linter.unusedSimpArgs false

namespace Go.Proofs
open Go.Shelf
shelf_lay_g SlLaysF.n6 Slsf 6 at Try 66 as Try.sortF
shelf_lay_g SlLaysM.n5 Slgm 5 at Try 71 as Try.sortI
end Go.Proofs

namespace Go.Proofs.Ytahccnljckgjmaa
open Go Go.RowKit Eng Ls

theorem add_zero (ad : Addr) : ad.add 0 = ad := by
  unfold Addr.add
  cases ad with
  | mk b o s => cases s <;> simp
theorem clo_ok : CloS Try.prog 67 := by
  refine ⟨⟨_, _, Try.func67, rfl, rfl⟩, fun W m ad u l x y hm hc hu hB h1 h2 h3 h4 => ?_⟩
  rw [add_zero] at hc
  obtain ⟨A, c, rfl, hs⟩ := rd_SI hm hu
  obtain ⟨i, rfl⟩ : ∃ i : Nat, x = i := ⟨x.toNat, by omega⟩
  obtain ⟨j, rfl⟩ : ∃ j : Nat, y = j := ⟨y.toNat, by omega⟩
  have hi : i < l.length := by omega
  obtain ⟨bd, rfl, h5⟩ := hs.at_ (show 0 < l.length by omega)
  exact cloX i j ad bd c l W (View.cell_on hm hc) (fun k hk => h5 k hk) hi (by omega) hB
abbrev sSort : MSpec := sortSpec 0 3 srtI srtI_one
abbrev sSortF : MSpec := sortSpec 0 3 (srtS 67) (srtS_one 67)
theorem sort_ok : MMeets Try.prog 71 sSort := sortI_meets ⟨_, _, Try.func71, rfl, rfl⟩ Try.sortI rfl
theorem sortF_ok : MMeets Try.prog 66 sSortF := sortS_meets ⟨_, _, Try.func66, rfl, rfl⟩ Try.sortF rfl clo_ok
def muts : List (Nat × MSpec) := [(71, sSort), (66, sSortF)]
theorem muts_ok : ∀ f M, find muts f = some M → MMeets Try.prog f M := by
  intro f M h
  simp only [muts, find] at h
  split at h
  · rename_i e; obtain rfl := Nat.eq_of_beq_eq_true e; injection h with h; rw [← h]; exact sort_ok
  · split at h
    · rename_i e; obtain rfl := Nat.eq_of_beq_eq_true e; injection h with h; rw [← h]; exact sortF_ok
    · cases h
def ctxM (specs : List (Nat × FSpec)) : Ctx := { specs := specs, tys := tys, wr := [], muts := muts }
theorem sndM {specs : List (Nat × FSpec)} (h : SpecsOk Try.prog specs) : Sound Try.prog (ctxM specs) := SpecsOk.sound h tys_ok (by kernel_rfl) (hmu := muts_ok)

/-! ### Clone, within -/
def sClone : FSpec := gspec true (some 3) [tInts] (fun x => x.1.length ≤ 100000) (fun x => .dat tInt x.1)
theorem clone_meets : Meets Try.prog 59 sClone := by
  refine ⟨⟨_, _, Try.func59, rfl, rfl⟩, fun w m args vs k hm hargs hrun => ?_⟩
  obtain ⟨x, ⟨hp, hk⟩, hx⟩ := takeArgs_rd hrun hargs
  obtain ⟨u, us, rfl, h1, h2⟩ := hx
  obtain rfl : us = [] := h2
  obtain ⟨A, c, rfl, hs⟩ := rd_SI hm h1
  refine (clone_any A _ c x.1 w hs hp).mono fun e w' ⟨A', c', e1, e2, e3⟩ => ⟨_, fun _ => none, e1, e3, (fun _ _ hb => by cases hb), (fun _ _ hb => by cases hb), tInt, x.1, _, hk, e2, rdL_ints.2 rfl, fun _ _ => rfl⟩
def sW : FSpec := tspec true none [tInt, tInt, tInt] [.bool] (fun _ => True) (fun x => (inB x.1 x.2.1 x.2.2.1, ()))
theorem pwithin_meets : Meets Try.prog 55 sW := meets_of ⟨_, _, Try.func55, rfl, rfl⟩ fun w m x vs hm _ hx => by
  obtain ⟨u1, us, rfl, h1, u2, us2, rfl, h2, u3, us3, rfl, h3, h4⟩ := hx
  obtain rfl : us3 = [] := h4
  obtain rfl : u1 = .int .i64 x.1 := h1
  obtain rfl : u2 = .int .i64 x.2.1 := h2
  obtain rfl : u3 = .int .i64 x.2.2.1 := h3
  exact (pwithin_any _ _ _ w).mono fun e w' ⟨h1, h2⟩ => ⟨_, h1, by subst h2; exact Below.refl _ _, [_], rfl, _, _, rfl, rfl, rfl⟩
theorem qwithin_meets : Meets Try.prog 53 sW := meets_of ⟨_, _, Try.func53, rfl, rfl⟩ fun w m x vs hm _ hx => by
  obtain ⟨u1, us, rfl, h1, u2, us2, rfl, h2, u3, us3, rfl, h3, h4⟩ := hx
  obtain rfl : us3 = [] := h4
  obtain rfl : u1 = .int .i64 x.1 := h1
  obtain rfl : u2 = .int .i64 x.2.1 := h2
  obtain rfl : u3 = .int .i64 x.2.2.1 := h3
  exact (qwithin_any _ _ _ w).mono fun e w' ⟨h1, h2⟩ => ⟨_, h1, by subst h2; exact Below.refl _ _, [_], rfl, _, _, rfl, rfl, rfl⟩

/-! ### Largest -/
def lrgR (l : List Int) (k : Int) : List Int := if vlistB l && inB k 0 l.length then bigL l k.toNat else []
def lrgE (l : List Int) (k : Int) : Int := if vlistB l then (if inB k 0 l.length then 0 else 7) else 1
def sLrg : FSpec := tspec true none [tInts, tInt] [tInts, tInt] (fun _ => True) (fun x => (lrgR x.1 x.2.1, lrgE x.1 x.2.1, ()))
/-- The first 'k' places filled. -/
def ordTo (n k : Nat) : List Int := (List.range n).map fun i => if i < k then (i : Int) else 0
theorem ordTo_all (n : Nat) : ordTo n n = idx n := by
  unfold ordTo idx
  apply List.map_congr_left
  intro i hi
  rw [if_pos (List.mem_range.1 hi)]; rfl
theorem ordTo_set (n k : Nat) (h : k < n) : (ordTo n k).set k (k : Int) = ordTo n (k + 1) := by
  apply List.ext_getElem?
  intro i
  unfold ordTo
  rw [List.getElem?_set]
  by_cases e : k = i
  · subst e
    simp [h]
  · rw [if_neg e]
    simp only [List.getElem?_map]
    by_cases hi : i < n
    · simp only [List.getElem?_range hi, Option.map_some]
      congr 1
      by_cases h1 : i < k
      · rw [if_pos h1, if_pos (by omega)]
      · rw [if_neg h1, if_neg (by omega)]
    · rw [List.getElem?_eq_none (by simp; omega)]; rfl
def ivLrg (l : List Int) : Nat → Option Inv
  | 0 => some (Inv.of [2, 6, 22, 23, 24] 2 (fun k : Nat => [(2, .box 0 0), (6, .own 1), (22, .own 1), (23, .lit (.int .i64 l.length)), (24, .lit (.int .i64 k))])
      (fun k => [.box 22 (.cons (.dat tInt l) .nil), .vec 3 tInt (ordTo l.length k)]) (fun k => k ≤ l.length) (fun k => l.length - k))
  | _ => none
def spLrg : List (Nat × FSpec) := [(22, sLB vlistB), (55, sW), (59, sClone)]
theorem largest_meets : Meets Try.prog 45 sLrg := by
  refine meets (sndM (SpecsOk.cons vlist_meets (SpecsOk.cons pwithin_meets (SpecsOk.cons clone_meets (SpecsOk.nil _))))) Try.func45 rfl rfl (fun x => ivLrg x.1) (fun _ => by kernel_rfl) (by decide) ?_
  rintro ⟨l, k, ⟨⟩⟩ -
  revert l k
  intro (l : List Int) (k : Int)
  refine by_vc (B := True ∧
  ((!vlistB l) = Bool.true → lrgR l k = [] ∧ (1 : Int) = lrgE l k ∧ True) ∧
    ((!vlistB l) = Bool.false →
      True ∧
        ((!inB k (0 : Int) (↑(List.length l) : Int)) = Bool.true → lrgR l k = [] ∧ (7 : Int) = lrgE l k ∧ True) ∧
          ((!inB k (0 : Int) (↑(List.length l) : Int)) = Bool.false →
            ((↑(List.length l) : Int) = (↑(List.length l) : Int) ∧ (0 : Int) ≤ (↑(List.length l) : Int) ∧ (↑(List.length l) : Int) ≤ (1000000 : Int)) ∧
              ∃ (v2 : Unit),
                ∃ (v3 : Nat),
                  Nat.le v3 (List.length l) ∧
                    ((True ∧ True ∧ True ∧ (↑(List.length (List.replicate (Int.toNat (↑(List.length l) : Int)) (Eng.Ty.dflt (Eng.TI.ty T3)))) : Int) = (↑(List.length l) : Int) ∧ (0 : Int) = (↑v3 : Int) ∧ True) ∧
                        (l = l ∧ True) ∧ List.replicate (Int.toNat (↑(List.length l) : Int)) (Eng.Ty.dflt (Eng.TI.ty T3)) = ordTo (List.length l) v3 ∧ True) ∧
                      ∀ (v4 : Nat),
                        Nat.le v4 (List.length l) →
                          (Decidable.decide ((↑v4 : Int) < (↑(List.length l) : Int)) = Bool.true →
                              ((0 : Int) ≤ (↑v4 : Int) ∧ (↑v4 : Int) < (↑(List.length (ordTo (List.length l) v4)) : Int)) ∧
                                Int.toNat (↑v4 : Int) < List.length (ordTo (List.length l) v4) ∧
                                  Eng.fits Go.IntKind.i64 ((↑v4 : Int) + (1 : Int)) ∧
                                    ∃ (v7 : Nat),
                                      Nat.le v7 (List.length l) ∧
                                        List.length l - v7 < List.length l - v4 ∧ (True ∧ True ∧ True ∧ (↑(List.length l) : Int) = (↑(List.length l) : Int) ∧ (↑v4 : Int) + (1 : Int) = (↑v7 : Int) ∧ True) ∧ (l = l ∧ True) ∧ List.set (ordTo (List.length l) v4) (Int.toNat (↑v4 : Int)) (↑v4 : Int) = ordTo (List.length l) v7 ∧ True) ∧
                            (Decidable.decide ((↑v4 : Int) < (↑(List.length l) : Int)) = Bool.false →
                              (List.length (ordTo (List.length l) v4) ≤ (1000000 : Nat) ∧ (∀ (v7 : Int), v7 ∈ ordTo (List.length l) v4 → (0 : Int) ≤ v7 ∧ v7 < (↑(List.length l) : Int)) ∧ ∀ (v7 : Nat), (-100000000 : Int) ≤ Ls.nth l v7 ∧ Ls.nth l v7 ≤ (100000000 : Int)) ∧
                                ((0 : Int) ≤ (0 : Int) ∧ (0 : Int) ≤ k ∧ k ≤ (↑(List.length (Eng.nthD (Eng.Ty.list (Eng.MSpec.t sSortF)) [List.mergeSort (ordTo (List.length l) v4) fun (v7 v8 : Int) => !ltS l v8 v7] (0 : Nat))) : Int)) ∧
                                  List.length (List.drop (0 : Nat) (List.take (Int.toNat k) (Eng.nthD (Eng.Ty.list (Eng.MSpec.t sSortF)) [List.mergeSort (ordTo (List.length l) v4) fun (v7 v8 : Int) => !ltS l v8 v7] (0 : Nat)))) ≤ (100000 : Nat) ∧
                                    List.length (List.drop (0 : Nat) (List.take (Int.toNat k) (Eng.nthD (Eng.Ty.list (Eng.MSpec.t sSortF)) [List.mergeSort (ordTo (List.length l) v4) fun (v7 v8 : Int) => !ltS l v8 v7] (0 : Nat)))) ≤ (1000000 : Nat) ∧
                                      Eng.nthD (Eng.Ty.list (Eng.MSpec.t sSort))
                                            [List.mergeSort (List.drop (0 : Nat) (List.take (Int.toNat k) (Eng.nthD (Eng.Ty.list (Eng.MSpec.t sSortF)) [List.mergeSort (ordTo (List.length l) v4) fun (v7 v8 : Int) => !ltS l v8 v7] (0 : Nat)))) fun (v7 v8 : Int) => Decidable.decide (v7 ≤ v8)] (0 : Nat) =
                                          lrgR l k ∧
                                        (0 : Int) = lrgE l k ∧ True)))) (by kernel_rfl) ?_
  simp only [ne_eq, true_and, and_true, eq_self, Bool.not_eq_true', Bool.not_eq_false', decide_eq_true_eq, decide_eq_false_iff_not, Nat.le_eq, Int.not_lt, Int.not_le, Int.reduceEq, not_false_eq_true, Bool.not_eq_eq_eq_not, Bool.not_true, Bool.not_false, Int.ofNat_lt, Int.ofNat_le, Int.toNat_natCast, Int.natCast_nonneg, nthD_nth, beq_iff_eq, bne_iff_ne, beq_eq_false_iff_ne, bne_eq_false_iff_eq, Classical.not_not, List.length_cons, List.length_nil, Nat.zero_add, List.nil_append, true_implies, Nat.lt_add_one, Nat.zero_lt_succ, Int.reduceLE, Int.reduceLT]
  refine ⟨fun h => by simp [lrgR, lrgE, h], fun h1 => ⟨fun h2 => ?_, fun h2 => ?_⟩⟩
  · simp [lrgR, lrgE, h1, h2]
  obtain ⟨hlen, hsm⟩ := vlist_small h1
  have hk := inB_iff.1 h2
  refine ⟨by omega, (), 0, Nat.zero_le _, ⟨⟨by simp, rfl⟩, ?_⟩, fun x hx => ⟨fun hlt => ?_, fun hge => ?_⟩⟩
  · show List.replicate l.length (0 : Int) = _
    simp [ordTo, List.map_const']
  · have hl : (ordTo l.length x).length = l.length := by simp [ordTo]
    exact ⟨by rw [hl]; omega, by rw [hl]; omega, fits64 (by omega) (by omega), x + 1, by omega, by omega, by omega, ordTo_set l.length x hlt⟩
  · obtain rfl : x = l.length := by
      omega
    rw [ordTo_all]
    have e1 : (nthD sSortF.t.list [(idx l.length).mergeSort fun a b => !ltS l b a] 0 : List Int) = (idx l.length).mergeSort fun a b => !ltS l b a := rfl
    have hil : (idx l.length).length = l.length := by simp [idx]
    refine ⟨⟨by rw [hil]; omega, fun z hz => ?_, hsm⟩, ⟨by omega, ?_⟩, ?_, ?_, ?_, ?_⟩
    · unfold idx at hz
      obtain ⟨i, hi, rfl⟩ := List.mem_map.1 hz
      have := List.mem_range.1 hi
      exact ⟨Int.natCast_nonneg _, by show (i : Int) < _; omega⟩
    · show k ≤ (((idx l.length).mergeSort fun a b => !ltS l b a).length : Int)
      rw [List.length_mergeSort, hil]
      omega
    · show (List.drop 0 (List.take k.toNat ((idx l.length).mergeSort fun a b => !ltS l b a))).length ≤ 100000
      rw [List.drop_zero, List.length_take, List.length_mergeSort, hil]
      omega
    · show (List.drop 0 (List.take k.toNat ((idx l.length).mergeSort fun a b => !ltS l b a))).length ≤ 1000000
      rw [List.drop_zero, List.length_take, List.length_mergeSort, hil]
      omega
    · show ((List.drop 0 (List.take k.toNat ((idx l.length).mergeSort fun a b => !ltS l b a))).mergeSort fun x y => decide (x ≤ y)) = _
      rw [List.drop_zero, big_law]
      simp [lrgR, h1, h2]
    · simp [lrgE, h1, h2]
end Go.Proofs.Ytahccnljckgjmaa
