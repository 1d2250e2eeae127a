/- The reference's solutions and fits: contracts by the engine. No condition. -/
import Derived.Test.YtdibdlelmkcccaaV29
set_option linter.unusedVariables false
set_option linter.unusedSimpArgs false
namespace Go.Proofs.Ytdibdlelmkcccaa
open Go Go.RowKit Eng
def svT (m : List (List Int)) (pix y : List Int) : List (Int × Int) × Int := if (svR m pix y).2.2 = false then ([], 8) else if 0 < (svR m pix y).2.1 then ([], 11) else ((svR m pix y).1, 0)
def slR3 (m : List (List Int)) (pix y : List Int) : List (Int × Int) × Int := if chkE m y pix = 0 then svT m pix y else ([], chkE m y pix)
structure qw4 (m : List (List Int)) (pix y : List Int) : Prop where
  fit : FitM m
  len : pix.length ≤ 100000
  ok : chkE m y pix = 0 → SvOk m pix y
abbrev sSl3 : FSpec := tspec true (some 60) [qd2, qb8, qb8] [tRats, tInt] (fun x => qw4 x.1 x.2.1 x.2.2.1) (fun x => ((slR3 x.1 x.2.1 x.2.2.1).1, (slR3 x.1 x.2.1 x.2.2.1).2, ()))
theorem q4k : Meets Try.prog 88 sSl3 := by
  refine meets (snd (SpecsOk.cons qv2 (SpecsOk.cons qx6 (SpecsOk.cons q14 (SpecsOk.cons qz0 (SpecsOk.nil _)))))) Try.func88 rfl rfl (fun _ _ => none) (fun _ => by kernel_rfl) (by decide) ?_
  rintro ⟨m, pix, y, ⟨⟩⟩ h
  revert m pix y
  intro (m : List (List Int)) (pix : List Int) (y : List Int) (h : qw4 m pix y)
  refine by_vc (B := FitM m/\((!qb5 m) = true->Prod.fst (slR3 m pix y) = []/\(1 : Int) = Prod.snd (slR3 m pix y)/\True)/\((!qb5 m) = false->(((↑(List.length y) : Int) != (↑(List.length m) : Int)) = true->Prod.fst (slR3 m pix y) = []/\(9 : Int) = Prod.snd (slR3 m pix y)/\True)/\(((↑(List.length y) : Int) != (↑(List.length m) : Int)) = false->List.length m <= (1000000 : Nat)/\((rdgE m y != (0 : Int)) = true->Prod.fst (slR3 m pix y) = []/\rdgE m y = Prod.snd (slR3 m pix y)/\True)/\((rdgE m y != (0 : Int)) = false->(((0 : Nat) < List.length m/\List.length (nL m (0 : Nat)) <= (1000000 : Nat))/\List.length pix <= (1000000 : Nat))/\((namE (↑(List.length (nL m (0 : Nat))) : Int) pix != (0 : Int)) = true->Prod.fst (slR3 m pix y) = []/\namE (↑(List.length (nL m (0 : Nat))) : Int) pix = Prod.snd (slR3 m pix y)/\True)/\((namE (↑(List.length (nL m (0 : Nat))) : Int) pix != (0 : Int)) = false->SvOk m pix y/\((!Prod.snd (Prod.snd (svR m pix y))) = true->Prod.fst (slR3 m pix y) = []/\(8 : Int) = Prod.snd (slR3 m pix y)/\True)/\((!Prod.snd (Prod.snd (svR m pix y))) = false->(decide ((0 : Int) < Prod.fst (Prod.snd (svR m pix y))) = true->Prod.fst (slR3 m pix y) = []/\(11 : Int) = Prod.snd (slR3 m pix y)/\True)/\(decide ((0 : Int) < Prod.fst (Prod.snd (svR m pix y))) = false->Prod.fst (svR m pix y) = Prod.fst (slR3 m pix y)/\(0 : Int) = Prod.snd (slR3 m pix y)/\True))))))) (by kernel_rfl) ?_
  try simp only [z0,z1,z2,z3,z4,z5,z6,z7,z8,z9,z10,Int.reduceEq,z11,z12,z13,z14,z15,z16,z17,z18,z19,z20,z21,z22,z23,z24,z25,z26,z27,z28,z29,z30,Int.reduceLE,Int.reduceLT,z31,z32,z33,z34,nilEq_true]
  try simp only [qa4, qa5, qa8, List.set_cons_zero, List.cons.injEq, and_true, true_and]
  have hC : chkE m y pix = if qb5 m = false then 1 else if ¬ y.length = m.length then 9 else if outB y then 7 else pixE m pix := rfl
  have hD : rdgE m y = if ¬ y.length = m.length then 9 else if outB y then 7 else 0 := rfl
  have hN : pixE m pix = if qb5 m = false then 1 else namE (nL m 0).length pix := rfl
  have hS : slR3 m pix y = if chkE m y pix = 0 then svT m pix y else ([], chkE m y pix) := rfl
  refine ⟨h.fit, fun hv => ?_, fun hv => ⟨fun hl => ?_, fun hl => ?_⟩⟩
  · have e : chkE m y pix = 1 := by rw [hC, if_pos hv]
    rw [hS, e]; exact ⟨rfl, rfl⟩
  · have e : chkE m y pix = 9 := by rw [hC, if_neg (by rw [hv]; decide), if_pos (by omega)]
    rw [hS, e]; exact ⟨rfl, rfl⟩
  have hl : y.length = m.length := by omega
  have hM := Mk.of hv
  have hm6 := hM.rows6
  have hm1 := hM.rows1
  have hn10 := hM.pix10
  have hlen := h.len
  refine ⟨by omega, fun hr => ?_, fun hr => ⟨⟨⟨by omega, by omega⟩, by omega⟩, fun hn => ?_, fun hn => ?_⟩⟩
  · have ho : outB y = true := by
      cases e : outB y with
      | true => rfl
      | false => rw [hD, if_neg (fun q => q hl), e] at hr; exact absurd rfl hr
    have e : chkE m y pix = 7 := by rw [hC, if_neg (by rw [hv]; decide), if_neg (fun q => q hl), if_pos ho]
    have e2 : rdgE m y = 7 := by rw [hD, if_neg (fun q => q hl), if_pos ho]
    rw [hS, e, e2]; exact ⟨rfl, rfl⟩
  all_goals
    have ho : outB y = false := by
      cases e : outB y with
      | false => rfl
      | true => rw [hD, if_neg (fun q => q hl), if_pos e] at hr; cases hr
    have e : chkE m y pix = namE (nL m 0).length pix := by rw [hC, if_neg (by rw [hv]; decide), if_neg (fun q => q hl), if_neg (by rw [ho]; decide), hN, if_neg (by rw [hv]; decide)]
  · rw [hS, if_neg (by rw [e]; exact hn), e]; exact ⟨rfl, rfl⟩
  · have hz : chkE m y pix = 0 := by rw [e]; exact hn
    rw [hS, if_pos hz]
    have hT : svT m pix y = if (svR m pix y).2.2 = false then ([], 8) else if 0 < (svR m pix y).2.1 then ([], 11) else ((svR m pix y).1, 0) := rfl
    refine ⟨h.ok hz, fun h1 => by rw [hT, if_pos h1]; exact ⟨rfl, rfl⟩, fun h1 => ⟨fun h2 => by rw [hT, if_neg (by rw [h1]; decide), if_pos h2]; exact ⟨rfl, rfl⟩, fun h2 => by rw [hT, if_neg (by rw [h1]; decide), if_neg (by omega)]; exact ⟨rfl, rfl⟩⟩⟩
theorem q5w {m : List (List Int)} {pix y : List Int} (h : qw4 m pix y) : (slR3 m pix y).1.length ≤ 1000000 := by
  unfold slR3
  split
  · rename_i he
    have hO := h.ok he
    unfold svT
    split
    · simp
    · split
      · simp
      · unfold svR
        split
        · simp
        · dsimp only
          rw [qh3]
          have := hO.pl
          omega
  · simp
def q2u (l : List (Int × Int)) : Bool := l.any fun r => r.1 == 0
def fitG (s : List (Int × Int) × Int) (pix : List Int) : Fit × Bool := if s.2 ≠ 0 ∨ q2u s.1 = true then (([], []), false) else ((pix, s.1), true)
def fit4 (m : List (List Int)) (y pix : List Int) : Fit × Bool := fitG (slR3 m pix y) pix
abbrev sFit4 : FSpec := tspec false none [qd2, qb8, qb8] [tFit, .bool] (fun x => qw4 x.1 x.2.2.1 x.2.1) (fun x => ((fit4 x.1 x.2.1 x.2.2.1).1, (fit4 x.1 x.2.1 x.2.2.1).2, ()))
structure NzTo (l : List (Int × Int)) (k : Nat) : Prop where
  le : k ≤ l.length
  all : ∀ i, i < k → (nQ l i).1 ≠ 0
def ivFit4 (l : List (Int × Int)) : Nat → Option Inv
  | 0 => some (Inv.of [24] 2 (fun k : Nat => [(24, .lit (.int .i64 k))]) (fun _ => [.box 30 (.cons (.lit (.slice none 0 0)) (.cons (.lit (.slice none 0 0)) .nil)), .dead]) (fun k => NzTo l k) (fun k => l.length - k))
  | _ => none
theorem q2v : Meets Try.prog 52 sFit4 := by
  refine meets (sndLE [] [35] (SpecsOk.cons q4k (SpecsOk.nil _))) Try.func52 rfl rfl (fun x => ivFit4 (slR3 x.1 x.2.2.1 x.2.1).1) (fun _ => by kernel_rfl) (by decide) ?_
  rintro ⟨m, y, pix, ⟨⟩⟩ h
  revert m y pix
  intro (m : List (List Int)) (y : List Int) (pix : List Int) (h : qw4 m pix y)
  refine by_vc (B := qw4 m pix y/\((Prod.snd (slR3 m pix y) != (0 : Int)) = true->(Prod.fst (Prod.fst (fit4 m y pix)) = []/\Prod.snd (Prod.fst (fit4 m y pix)) = []/\True)/\false = Prod.snd (fit4 m y pix)/\True)/\((Prod.snd (slR3 m pix y) != (0 : Int)) = false->∃ (v1 : Unit), ∃ (v2 : Nat), NzTo (Prod.fst (slR3 m pix y)) v2/\(((0 : Int) = (↑v2 : Int)/\True)/\(Value.slice none (0 : Nat) (0 : Nat) = Value.slice none (0 : Nat) (0 : Nat)/\Value.slice none (0 : Nat) (0 : Nat) = Value.slice none (0 : Nat) (0 : Nat)/\True)/\True/\True)/\∀ (v3 : Nat), NzTo (Prod.fst (slR3 m pix y)) v3->(decide ((↑v3 : Int) < (↑(List.length (Prod.fst (slR3 m pix y))) : Int)) = true->((0 : Int) <= (↑v3 : Int)/\(↑v3 : Int) < (↑(List.length (Prod.fst (slR3 m pix y))) : Int))/\((Prod.fst (nthD (Ty.prod (Ty.int .i64) (Ty.int .i64)) (Prod.fst (slR3 m pix y)) (Int.toNat (↑v3 : Int))) == (0 : Int)) = true->(Prod.fst (Prod.fst (fit4 m y pix)) = []/\Prod.snd (Prod.fst (fit4 m y pix)) = []/\True)/\false = Prod.snd (fit4 m y pix)/\True)/\((Prod.fst (nthD (Ty.prod (Ty.int .i64) (Ty.int .i64)) (Prod.fst (slR3 m pix y)) (Int.toNat (↑v3 : Int))) == (0 : Int)) = false->fits .i64 ((↑v3 : Int) + (1 : Int))/\∃ (v7 : Nat), NzTo (Prod.fst (slR3 m pix y)) v7/\List.length (Prod.fst (slR3 m pix y)) - v7 < List.length (Prod.fst (slR3 m pix y)) - v3/\((↑v3 : Int) + (1 : Int) = (↑v7 : Int)/\True)/\(Value.slice none (0 : Nat) (0 : Nat) = Value.slice none (0 : Nat) (0 : Nat)/\Value.slice none (0 : Nat) (0 : Nat) = Value.slice none (0 : Nat) (0 : Nat)/\True)/\True/\True))/\(decide ((↑v3 : Int) < (↑(List.length (Prod.fst (slR3 m pix y))) : Int)) = false->Nat.le ((0 : Nat) + List.length pix) (1000000 : Nat)/\([] ++ pix = Prod.fst (Prod.fst (fit4 m y pix))/\Prod.fst (slR3 m pix y) = Prod.snd (Prod.fst (fit4 m y pix))/\True)/\true = Prod.snd (fit4 m y pix)/\True))) (by kernel_rfl) ?_
  try simp only [z0,z1,z2,z3,z4,z5,z6,z7,z8,z9,z10,Int.reduceEq,z11,z12,z13,z14,z15,z16,z17,z18,z19,z20,z21,z22,z23,z24,z25,z26,z27,z28,z29,z30,Int.reduceLE,Int.reduceLT,z31,z32,z33,z34,nilEq_true]
  try simp only [qa4, qa5, qa8, List.set_cons_zero, List.cons.injEq, and_true, true_and]
  have hl := q5w h
  have hpx := h.len
  have hF : fit4 m y pix = fitG (slR3 m pix y) pix := rfl
  generalize slR3 m pix y = s at hl hF ⊢
  refine ⟨h, fun he => ?_, fun he => ⟨(), 0, ⟨Nat.zero_le _, fun i hi => absurd hi (by omega)⟩, rfl, fun k hk => ⟨fun hlt => ⟨hlt, fun hz => ?_, fun hz => ⟨fits64 (by omega) (by omega), k + 1, ⟨hlt, fun i hi => ?_⟩, by omega, by omega⟩⟩, fun hge => ⟨by omega, ?_⟩⟩⟩⟩
  · rw [hF, fitG, if_pos (.inl he)]; exact ⟨⟨rfl, rfl⟩, rfl⟩
  · have : q2u s.1 = true := by
      unfold q2u
      rw [List.any_eq_true]
      exact ⟨nQ s.1 k, by show nthD tRat s.1 k ∈ s.1; rw [nthD_at (t := tRat) s.1 k hlt]; exact List.getElem_mem _, beq_iff_eq.2 hz⟩
    rw [hF, fitG, if_pos (.inr this)]; exact ⟨⟨rfl, rfl⟩, rfl⟩
  · by_cases e : i = k
    · subst e; exact hz
    · exact hk.all i (by omega)
  · have : ¬ (s.2 ≠ 0 ∨ q2u s.1 = true) := by
      rintro (q | q)
      · exact q he
      · unfold q2u at q
        rw [List.any_eq_true] at q
        obtain ⟨x, hx, hx0⟩ := q
        obtain ⟨i, hi, rfl⟩ := List.getElem_of_mem hx
        have := hk.all i (by omega)
        unfold nQ at this
        rw [nthD_at (t := tRat) s.1 i hi] at this
        exact this (beq_iff_eq.1 hx0)
    rw [hF, fitG, if_neg this]; exact ⟨⟨rfl, rfl⟩, rfl⟩
theorem qw5 {m : List (List Int)} {y : List Int} {pix : List Int} (h : qg6 m y = 0) : chkE m y pix = namE (nL m 0).length pix ∧ qb5 m = true := by
  have hC : chkE m y pix = if qb5 m = false then 1 else if ¬ y.length = m.length then 9 else if outB y then 7 else pixE m pix := rfl
  have hN : pixE m pix = if qb5 m = false then 1 else namE (nL m 0).length pix := rfl
  unfold qg6 at h
  split at h
  · cases h
  · rename_i hv
    unfold rdgE at h
    split at h
    · cases h
    · rename_i hl
      split at h
      · cases h
      · rename_i ho
        exact ⟨by rw [hC, if_neg hv, if_neg hl, if_neg ho, hN, if_neg hv], by simpa using hv⟩
theorem chk_bad {m : List (List Int)} {y : List Int} {pix : List Int} (h : qg6 m y ≠ 0) : chkE m y pix = qg6 m y := by
  have hC : chkE m y pix = if qb5 m = false then 1 else if ¬ y.length = m.length then 9 else if outB y then 7 else pixE m pix := rfl
  unfold qg6 rdgE at *
  split at h
  · rename_i hv; rw [hC, if_pos hv, if_pos hv]
  · rename_i hv
    split at h
    · rename_i hl; rw [hC, if_neg hv, if_pos hl, if_neg hv, if_pos hl]
    · rename_i hl
      split at h
      · rename_i ho; rw [hC, if_neg hv, if_neg hl, if_pos ho, if_neg hv, if_neg hl, if_pos ho]
      · exact absurd rfl h
end Go.Proofs.Ytdibdlelmkcccaa
