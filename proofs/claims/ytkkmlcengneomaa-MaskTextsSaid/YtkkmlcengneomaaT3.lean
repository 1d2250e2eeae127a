/- The mask's alike columns: contracts by the engine. No condition. -/
import Derived.Test.YtkkmlcengneomaaT2
import Derived.Test.YtkkmlcengneomaaTClone

set_option linter.unusedVariables false
set_option linter.unusedSimpArgs false
namespace Go.Proofs.Ytkkmlcengneomaa
open Go Go.RowKit Eng Ls

def eqK (x y : List Int) (k : Nat) : Prop := x.length = y.length ∧ ∀ i, i < k → nth x i = nth y i
def sEqual : FSpec := tspec true none [tInts, tInts] [.bool] (fun x => x.1.length ≤ 1000) (fun x => (decide (x.1 = x.2.1), ()))
def ivEqual (x y : List Int) : Nat → Option Inv
  | 0 => some (Inv.of [13] 0 (fun k : Nat => [(13, .lit (.int .i64 k))]) (fun _ => []) (fun k => k ≤ x.length ∧ eqK x y k) (fun k => x.length - k))
  | _ => none
theorem equal_meets : Meets Try.prog 84 sEqual := by
  refine meets (snd (SpecsOk.nil _) []) Try.func84 rfl rfl (fun x => ivEqual x.1 x.2.1) (fun _ => by kernel_rfl) (by decide) ?_
  rintro ⟨x, y, ⟨⟩⟩ h
  revert x y
  intro (x : List Int) (y : List Int) (h : x.length ≤ 1000)
  refine by_vc (B := (((↑(List.length x) : Int) != (↑(List.length y) : Int)) = Bool.true → Bool.false = Decidable.decide (x = y)) ∧
  (((↑(List.length x) : Int) != (↑(List.length y) : Int)) = Bool.false →
    ∃ (v1 : Unit),
      ∃ (v2 : Nat),
        (v2 ≤ List.length x ∧ List.length x = List.length y ∧ ∀ (v3 : Nat), Nat.le (Nat.succ v3) v2 → Ls.nth x v3 = Ls.nth y v3) ∧
          (((0 : Int) = (↑v2 : Int) ∧ True) ∧ True) ∧
            ∀ (v3 : Nat),
              (v3 ≤ List.length x ∧ List.length x = List.length y ∧ ∀ (v5 : Nat), Nat.le (Nat.succ v5) v3 → Ls.nth x v5 = Ls.nth y v5) →
                (Decidable.decide ((↑v3 : Int) < (↑(List.length x) : Int)) = Bool.true →
                    ((0 : Int) ≤ (↑v3 : Int) ∧ (↑v3 : Int) < (↑(List.length x) : Int)) ∧
                      ((0 : Int) ≤ (↑v3 : Int) ∧ (↑v3 : Int) < (↑(List.length y) : Int)) ∧
                        ((Eng.nthD (Eng.Ty.int Go.IntKind.i64) x (Int.toNat (↑v3 : Int)) != Eng.nthD (Eng.Ty.int Go.IntKind.i64) y (Int.toNat (↑v3 : Int))) = Bool.true → Bool.false = Decidable.decide (x = y)) ∧
                          ((Eng.nthD (Eng.Ty.int Go.IntKind.i64) x (Int.toNat (↑v3 : Int)) != Eng.nthD (Eng.Ty.int Go.IntKind.i64) y (Int.toNat (↑v3 : Int))) = Bool.false →
                            Eng.fits Go.IntKind.i64 ((↑v3 : Int) + (1 : Int)) ∧ ∃ (v7 : Nat), (v7 ≤ List.length x ∧ List.length x = List.length y ∧ ∀ (v8 : Nat), Nat.le (Nat.succ v8) v7 → Ls.nth x v8 = Ls.nth y v8) ∧ List.length x - v7 < List.length x - v3 ∧ ((↑v3 : Int) + (1 : Int) = (↑v7 : Int) ∧ True) ∧ True)) ∧
                  (Decidable.decide ((↑v3 : Int) < (↑(List.length x) : Int)) = Bool.false → Bool.true = Decidable.decide (x = y)))) (by kernel_rfl) ?_
  simp only [ne_eq, true_and, and_true, eq_self, Bool.not_eq_true', Bool.not_eq_false', decide_eq_true_eq, decide_eq_false_iff_not, Nat.le_eq, Int.not_lt, Int.not_le, Int.reduceEq, not_false_eq_true, Bool.not_eq_eq_eq_not, Bool.not_true, Bool.not_false, Int.ofNat_lt, Int.ofNat_le, Int.toNat_natCast, Int.natCast_nonneg, nthD_nth, beq_iff_eq, bne_iff_ne, beq_eq_false_iff_ne, bne_eq_false_iff_eq, Classical.not_not, List.length_cons, List.length_nil, Nat.zero_add, List.nil_append, true_implies, Nat.lt_add_one, Nat.zero_lt_succ, Int.reduceLE, Int.reduceLT]
  refine ⟨fun hl => ?_, fun hl => ⟨(), 0, ⟨Nat.zero_le _, by omega, fun i hi => absurd hi (by omega)⟩, rfl, fun k hk => ?_⟩⟩
  · have : x ≠ y := fun e => hl (by rw [e])
    simp [this]
  · obtain ⟨h1, h2, h3⟩ := hk
    refine ⟨fun hlt => ⟨hlt, by omega, fun hne => ?_, fun he => ⟨fits64 (by omega) (by omega), k + 1, ⟨by omega, h2, fun i hi => ?_⟩, by omega, by omega⟩⟩, fun hge => ?_⟩
    · have : x ≠ y := fun e => hne (by rw [e])
      simp [this]
    · by_cases e : i = k
      · subst e; exact he
      · exact h3 i (by omega)
    · have : x = y := by
        apply List.ext_getElem h2
        intro i hi hi'
        have := h3 i (by omega)
        simpa [nth, hi, hi'] using this
      simp [this]

theorem rdL_ints {m : View} : ∀ l : List Int, RdL m tInt l (ints l)
  | [] => rfl
  | x :: r => ⟨[.int .i64 x], ints r, rfl, rfl, rdL_ints r⟩
def sClone : FSpec := tspec false (some 3) [tInts] [tInts] (fun x => x.1.length ≤ 100000) (fun x => (x.1, ()))
theorem clone_meets : Meets Try.prog 113 sClone := by
  refine ⟨⟨_, _, Try.func113, rfl, rfl⟩, fun w m args vs k hm hargs hrun => ?_⟩
  obtain ⟨x, ⟨hp, hk⟩, hx⟩ := takeArgs_rd hrun hargs
  obtain ⟨u, us, rfl, h1, h2⟩ := hx
  obtain rfl : us = [] := h2
  obtain ⟨A, c, rfl, hs⟩ := rd_SI hm h1
  refine (clone_any A _ c _ w hs hp).mono fun e w' ⟨A', c', e1, e2, e3⟩ => ⟨_, m, e1, e3, View.on_below hm e3, ⟨View.le_refl m, fun b o hb => .inl hb⟩, tInt, x.1, ints x.1, hk, e2, rdL_ints _, fun b hb => ?_⟩
  cases hmb : m b with
  | none => rfl
  | some o => have h1 := View.lt hm hmb; have h2 := (e2.lt b hb).1; omega

def oppL (l : List Int) : List Int := l.map fun x => -x
def oppK (l : List Int) (k : Nat) : List Int := oppL (l.take k) ++ l.drop k
def sOpp : FSpec := tspec false none [tInts] [tInts] (fun x => x.1.length ≤ 1000 ∧ ∀ i : Nat, -1000000 ≤ nth x.1 i ∧ nth x.1 i ≤ 1000000) (fun x => (oppL x.1, ()))
def ivOpp (l : List Int) : Nat → Option Inv
  | 0 => some (Inv.of [3, 9] 1 (fun k : Nat => [(3, .own 0), (9, .lit (.int .i64 k))]) (fun k => [.vec 3 tInt (oppK l k)]) (fun k => k ≤ l.length) (fun k => l.length - k))
  | _ => none
theorem opposite_meets : Meets Try.prog 85 sOpp := by
  refine meets (snd (SpecsOk.cons clone_meets (SpecsOk.nil _)) []) Try.func85 rfl rfl (fun x => ivOpp x.1) (fun _ => by kernel_rfl) (by decide) ?_
  rintro ⟨l, ⟨⟩⟩ h
  revert l
  intro (l : List Int) (h : l.length ≤ 1000 ∧ ∀ i : Nat, -1000000 ≤ nth l i ∧ nth l i ≤ 1000000)
  refine by_vc (B := List.length l ≤ (100000 : Nat) ∧
  ∃ (v0 : Unit),
    ∃ (v1 : Nat),
      Nat.le v1 (List.length l) ∧
        ((True ∧ (0 : Int) = (↑v1 : Int) ∧ True) ∧ l = oppK l v1 ∧ True) ∧
          ∀ (v2 : Nat),
            Nat.le v2 (List.length l) →
              (Decidable.decide ((↑v2 : Int) < (↑(List.length l) : Int)) = Bool.true →
                  ((0 : Int) ≤ (↑v2 : Int) ∧ (↑v2 : Int) < (↑(List.length (oppK l v2)) : Int)) ∧
                    Int.toNat (↑v2 : Int) < List.length (oppK l v2) ∧
                      Eng.fits Go.IntKind.i64 ((0 : Int) - Eng.nthD tInt (oppK l v2) (Int.toNat (↑v2 : Int))) ∧
                        ((0 : Int) ≤ (↑v2 : Int) ∧ (↑v2 : Int) < (↑(List.length (oppK l v2)) : Int)) ∧
                          Int.toNat (↑v2 : Int) < List.length (oppK l v2) ∧
                            Eng.fits Go.IntKind.i64 ((↑v2 : Int) + (1 : Int)) ∧
                              ∃ (v5 : Nat),
                                Nat.le v5 (List.length l) ∧ List.length l - v5 < List.length l - v2 ∧ (True ∧ (↑v2 : Int) + (1 : Int) = (↑v5 : Int) ∧ True) ∧ List.set (oppK l v2) (Int.toNat (↑v2 : Int)) ((0 : Int) - Eng.nthD tInt (oppK l v2) (Int.toNat (↑v2 : Int))) = oppK l v5 ∧ True) ∧
                (Decidable.decide ((↑v2 : Int) < (↑(List.length l) : Int)) = Bool.false → oppK l v2 = oppL l)) (by kernel_rfl) ?_
  simp only [ne_eq, true_and, and_true, eq_self, Bool.not_eq_true', Bool.not_eq_false', decide_eq_true_eq, decide_eq_false_iff_not, Nat.le_eq, Int.not_lt, Int.not_le, Int.reduceEq, not_false_eq_true, Bool.not_eq_eq_eq_not, Bool.not_true, Bool.not_false, Int.ofNat_lt, Int.ofNat_le, Int.toNat_natCast, Int.natCast_nonneg, nthD_nth, beq_iff_eq, bne_iff_ne, beq_eq_false_iff_ne, bne_eq_false_iff_eq, Classical.not_not, List.length_cons, List.length_nil, Nat.zero_add, List.nil_append, true_implies, Nat.lt_add_one, Nat.zero_lt_succ, Int.reduceLE, Int.reduceLT]
  obtain ⟨h1, h2⟩ := h
  have hlen : ∀ k, k ≤ l.length → (oppK l k).length = l.length := fun k hk => by simp [oppK, oppL]; omega
  have hat : ∀ k, k < l.length → nth (oppK l k) k = nth l k := fun k hk => by
    simp [nth, oppK, oppL, List.getElem?_append_right, Nat.min_eq_left (Nat.le_of_lt hk)]
  refine ⟨by omega, (), 0, Nat.zero_le _, ⟨rfl, by simp [oppK, oppL]⟩, fun k hk => ⟨fun hlt => ?_, fun hge => ?_⟩⟩
  · have e := hlen k hk
    have h3 := h2 k
    rw [hat k hlt]
    refine ⟨by omega, by omega, fits64 (by omega) (by omega), by omega, by omega, fits64 (by omega) (by omega), k + 1, by omega, by omega, by omega, ?_⟩
    have e1 : oppK l k = oppL (l.take k) ++ (nth l k :: l.drop (k + 1)) := by
      unfold oppK
      rw [List.drop_eq_getElem_cons hlt]
      simp [nth, hlt]
    have e2 : (oppL (l.take k)).length = k := by simp [oppL]; omega
    have e3 : oppL (l.take (k + 1)) = oppL (l.take k) ++ [-(nth l k)] := by
      rw [List.take_add_one, List.getElem?_eq_getElem hlt]
      simp only [oppL, Option.toList_some, List.map_append, List.map_cons, List.map_nil]
      simp [nth, hlt]
    rw [e1, List.set_append_right _ _ (by omega), e2, Nat.sub_self, List.set_cons_zero]
    unfold oppK
    rw [e3, Int.zero_sub, List.append_assoc]
    rfl
  · obtain rfl : k = l.length := by omega
    simp [oppK]

/-- Two columns are alike. -/
def alk (m : List (List Int)) (q : Nat × Nat) : Bool := decide (colA m q.1 = colA m q.2) || decide (colA m q.1 = oppL (colA m q.2))
def alkK (m : List (List Int)) (k : Nat) : List (Int × Int) := (((prsL m).take k).filter (alk m)).map fun q => ((q.1 : Int), (q.2 : Int))
def alkL (m : List (List Int)) : List (Int × Int) := ((prsL m).filter (alk m)).map fun q => ((q.1 : Int), (q.2 : Int))
def alkR (m : List (List Int)) : List (Int × Int) := if validB m then alkL m else []
def alkE (m : List (List Int)) : Int := if validB m then 0 else 1
def sAlk : FSpec := tspec false none [tMask] [.list (.prod tInt tInt), tInt] (fun _ => True) (fun x => (alkR x.1, alkE x.1, ()))
def ivAlk (m : List (List Int)) : Nat → Option Inv
  | 0 => some (Inv.of [] 2 (fun _ : Nat => []) (fun k => [.box 52 (.cons (.own 1) .nil), .vec 55 (.prod tInt tInt) (alkK m k)]) (fun k => k ≤ (prsL m).length) (fun k => k))
  | _ => none
theorem sm_nth {l : List Int} (h : Sm l) (i : Nat) : -1000000 ≤ nth l i ∧ nth l i ≤ 1000000 := by
  by_cases hi : i < l.length
  · have := h.bd i hi
    omega
  · have e : nth l i = 0 := by simp [nth, List.getElem?_eq_none (by omega : l.length ≤ i)]
    rw [e]; omega
theorem prs_le (p : Nat) : ∀ i, (prs p i).length ≤ i * p
  | 0 => Nat.zero_le _
  | i + 1 => by
    have := prs_le p i
    simp only [prs, rowP, List.length_append, List.length_map, List.length_range, Nat.succ_mul]
    omega
theorem prsL_le {m : List (List Int)} (h : IsMask m) : (prsL m).length ≤ 100 := by
  have h1 := prs_le (nthL m 0).length (nthL m 0).length
  have h2 := h.pix10
  have h3 : (nthL m 0).length * (nthL m 0).length ≤ 10 * 10 := Nat.mul_le_mul h2 h2
  exact Nat.le_trans h1 h3
theorem alkK_succ {m : List (List Int)} {k : Nat} {q : Nat × Nat} (hq : (prsL m)[k]? = some q) : alkK m (k + 1) = if alk m q then alkK m k ++ [((q.1 : Int), (q.2 : Int))] else alkK m k := by
  unfold alkK
  rw [List.take_add_one, hq]
  simp only [Option.toList_some, List.filter_append, List.map_append]
  split
  · rename_i h; simp [h]
  · rename_i h; simp [h]
theorem alkK_le {m : List (List Int)} (h : IsMask m) (k : Nat) : (alkK m k).length ≤ 100 := by
  have h1 := prsL_le h
  have h2 := List.length_filter_le (alk m) ((prsL m).take k)
  have h3 : ((prsL m).take k).length ≤ (prsL m).length := by simp; omega
  unfold alkK
  rw [List.length_map]
  omega
theorem Alike_meets : Meets Try.prog 43 sAlk := by
  refine meets (sndI (SpecsOk.cons mvalid_meets (SpecsOk.cons pairs_meets (SpecsOk.cons equal_meets (SpecsOk.cons opposite_meets (SpecsOk.nil _))))) (ItsOk.cons pairs1_says (ItsOk.nil _))) Try.func43 rfl rfl (fun x => ivAlk x.1) (fun _ => by kernel_rfl) (by decide) ?_
  rintro ⟨m, ⟨⟩⟩ -
  revert m
  intro (m : List (List Int))
  refine by_vc (B := True ∧
  ((!validB m) = Bool.true → alkR m = [] ∧ (1 : Int) = alkE m ∧ True) ∧
    ((!validB m) = Bool.false →
      True ∧
        square m ∧
          ∃ (v1 : Unit),
            ∃ (v2 : Nat),
              Nat.le v2 (List.length (prsL m)) ∧
                v2 = (0 : Nat) ∧
                  ((True ∧ True) ∧ alkK m v2 = [] ∧ True) ∧
                    ∀ (v3 : Nat),
                      Nat.le v3 (List.length (prsL m)) →
                        (∀ (v5 : (Int × Int) × Eng.argsTy._f [Eng.Ty.prod tInts tInts] ⟨Eng.argsTy._f [] PUnit.unit, PUnit.unit⟩),
                            (prsA m)[v3]? = Option.some v5 →
                              List.length (Prod.fst (Prod.fst (Prod.snd v5))) ≤ (1000 : Nat) ∧
                                (Decidable.decide (Prod.fst (Prod.fst (Prod.snd v5)) = Prod.snd (Prod.fst (Prod.snd v5))) = Bool.true →
                                    ((0 : Nat) < List.length [(Prod.fst (Prod.fst v5), Prod.snd (Prod.fst v5))] ∧ List.length (alkK m v3) + List.length [(Prod.fst (Prod.fst v5), Prod.snd (Prod.fst v5))] ≤ (1000000 : Nat)) ∧
                                      ∃ (v8 : Nat), Nat.le v8 (List.length (prsL m)) ∧ v8 = v3 + (1 : Nat) ∧ (True ∧ True) ∧ alkK m v3 ++ [(Prod.fst (Prod.fst v5), Prod.snd (Prod.fst v5))] = alkK m v8 ∧ True) ∧
                                  (Decidable.decide (Prod.fst (Prod.fst (Prod.snd v5)) = Prod.snd (Prod.fst (Prod.snd v5))) = Bool.false →
                                    (List.length (Prod.snd (Prod.fst (Prod.snd v5))) ≤ (1000 : Nat) ∧ ∀ (v8 : Nat), (-1000000 : Int) ≤ Ls.nth (Prod.snd (Prod.fst (Prod.snd v5))) v8 ∧ Ls.nth (Prod.snd (Prod.fst (Prod.snd v5))) v8 ≤ (1000000 : Int)) ∧
                                      List.length (Prod.fst (Prod.fst (Prod.snd v5))) ≤ (1000 : Nat) ∧
                                        (Decidable.decide (Prod.fst (Prod.fst (Prod.snd v5)) = oppL (Prod.snd (Prod.fst (Prod.snd v5)))) = Bool.true →
                                            ((0 : Nat) < List.length [(Prod.fst (Prod.fst v5), Prod.snd (Prod.fst v5))] ∧ List.length (alkK m v3) + List.length [(Prod.fst (Prod.fst v5), Prod.snd (Prod.fst v5))] ≤ (1000000 : Nat)) ∧
                                              ∃ (v9 : Nat), Nat.le v9 (List.length (prsL m)) ∧ v9 = v3 + (1 : Nat) ∧ (True ∧ True) ∧ alkK m v3 ++ [(Prod.fst (Prod.fst v5), Prod.snd (Prod.fst v5))] = alkK m v9 ∧ True) ∧
                                          (Decidable.decide (Prod.fst (Prod.fst (Prod.snd v5)) = oppL (Prod.snd (Prod.fst (Prod.snd v5)))) = Bool.false → ∃ (v9 : Nat), Nat.le v9 (List.length (prsL m)) ∧ v9 = v3 + (1 : Nat) ∧ (True ∧ True) ∧ alkK m v3 = alkK m v9 ∧ True))) ∧
                          (v3 = List.length (prsA m) → alkK m v3 = alkR m ∧ (0 : Int) = alkE m ∧ True))) (by kernel_rfl) ?_
  refine ⟨trivial, fun hv => ?_, fun hv => ?_⟩
  · have hv : validB m = false := by simpa using hv
    exact ⟨by simp [alkR, hv], by simp [alkE, hv], trivial⟩
  have hv : validB m = true := by simpa using hv
  have hm := IsMask.of hv
  refine ⟨trivial, square_of hm, (), 0, Nat.zero_le _, rfl, ⟨⟨trivial, trivial⟩, rfl, trivial⟩, fun k hk => ⟨fun d hd => ?_, fun he => ?_⟩⟩
  · have hd' : ((prsL m).map (prA m))[k]? = some d := hd
    rw [List.getElem?_map] at hd'
    obtain ⟨q, hq, e⟩ := Option.map_eq_some_iff.1 hd'
    have hd1 : d.2.1.1 = colA m q.1 := by rw [← e]; rfl
    have hd2 : d.2.1.2 = colA m q.2 := by rw [← e]; rfl
    have hd3 : (d.1.1, d.1.2) = ((q.1 : Int), (q.2 : Int)) := by rw [← e]; rfl
    have hkl : k < (prsL m).length := (List.getElem?_eq_some_iff.1 hq).1
    obtain ⟨p1, p2, p3⟩ := pair_ok hm hq
    have hst := alkK_succ hq
    have hle := alkK_le hm k
    have hr6 := hm.rows6
    have c1 : (colA m q.1).length ≤ 1000 := by simp [colA]; omega
    have c2 : (colA m q.2).length ≤ 1000 := by simp [colA]; omega
    have c3 : ∀ i : Nat, -1000000 ≤ nth (colA m q.2) i ∧ nth (colA m q.2) i ≤ 1000000 := sm_nth p2
    rw [hd1, hd2, hd3]
    have hlen : (0 < [((q.1 : Int), (q.2 : Int))].length ∧ (alkK m k).length + [((q.1 : Int), (q.2 : Int))].length ≤ 1000000) := by simp; omega
    refine ⟨c1, fun h1 => ?_, fun h1 => ⟨⟨c2, c3⟩, c1, fun h2 => ?_, fun h2 => ?_⟩⟩
    · have ha : alk m q = true := by unfold alk; rw [h1]; rfl
      rw [ha, if_pos rfl] at hst
      exact ⟨hlen, k + 1, hkl, rfl, ⟨trivial, trivial⟩, hst.symm, trivial⟩
    · have ha : alk m q = true := by unfold alk; rw [h2]; simp
      rw [ha, if_pos rfl] at hst
      exact ⟨hlen, k + 1, hkl, rfl, ⟨trivial, trivial⟩, hst.symm, trivial⟩
    · have ha : alk m q = false := by unfold alk; rw [h1, h2]; rfl
      rw [ha, if_neg (by simp)] at hst
      exact ⟨k + 1, hkl, rfl, ⟨trivial, trivial⟩, hst.symm, trivial⟩
  · have he : k = ((prsL m).map (prA m)).length := he
    rw [List.length_map] at he
    subst he
    refine ⟨?_, by simp [alkE, hv], trivial⟩
    unfold alkR
    rw [if_pos hv]
    unfold alkK alkL
    rw [List.take_length]
end Go.Proofs.Ytkkmlcengneomaa
