/- The reference's solutions and fits: contracts by the engine. No condition. -/
import Derived.Test.YtdibdlelmkcccaaV29
set_option linter.unusedVariables false
set_option linter.unusedSimpArgs false
namespace Go.Proofs.Ytdibdlelmkcccaa
open Go Go.RowKit Eng
def svT (m : List (List Int)) (pix y : List Int) : List (Int × Int) × Int := if (svR m pix y).2.2 = false then ([], 8) else if 0 < (svR m pix y).2.1 then ([], 11) else ((svR m pix y).1, 0)
def qx4 (m : List (List Int)) (pix y : List Int) : List (Int × Int) × Int := if qm8 m y pix = 0 then svT m pix y else ([], qm8 m y pix)
structure q1p (m : List (List Int)) (pix y : List Int) : Prop where
  fit : q3v m
  len : pix.length <= 100000
  ok : qm8 m y pix = 0 -> xj3 m pix y
abbrev x1g : qc7 := qg2 true (some 60) [qh5, qe1, qe1] [w9i, qf9] (fun x => q1p x.1 x.2.1 x.2.2.1) (fun x => ((qx4 x.1 x.2.1 x.2.2.1).1, (qx4 x.1 x.2.1 x.2.2.1).2, ()))
theorem w4m : qd6 Try.prog 88 x1g := by
  refine meets (snd (SpecsOk.cons wq8 (SpecsOk.cons wc0 (SpecsOk.cons q3e (SpecsOk.cons we0 (SpecsOk.nil _)))))) Try.func88 rfl rfl (fun _ _ => none) (fun _ => by kernel_rfl) (by decide) ?_
  rintro ⟨m, pix, y, ⟨⟩⟩ h
  revert m pix y
  intro (m : List (List Int)) (pix : List Int) (y : List Int) (h : q1p m pix y)
  refine qd7 (B := q3v m/\((!qe6 m)=true->Prod.fst (qx4 m pix y)=[]/\(1:Int)=Prod.snd (qx4 m pix y)/\True)/\((!qe6 m)=false->(((↑(List.length y):Int) != (↑(List.length m):Int))=true->Prod.fst (qx4 m pix y)=[]/\(9:Int)=Prod.snd (qx4 m pix y)/\True)/\(((↑(List.length y):Int) != (↑(List.length m):Int))=false->List.length m <= (1000000:Nat)/\((wg1 m y != (0:Int))=true->Prod.fst (qx4 m pix y)=[]/\wg1 m y=Prod.snd (qx4 m pix y)/\True)/\((wg1 m y != (0:Int))=false->(((0:Nat) < List.length m/\List.length (nL m (0:Nat)) <= (1000000:Nat))/\List.length pix <= (1000000:Nat))/\((q1u (↑(List.length (nL m (0:Nat))):Int) pix != (0:Int))=true->Prod.fst (qx4 m pix y)=[]/\q1u (↑(List.length (nL m (0:Nat))):Int) pix=Prod.snd (qx4 m pix y)/\True)/\((q1u (↑(List.length (nL m (0:Nat))):Int) pix != (0:Int))=false->xj3 m pix y/\((!Prod.snd (Prod.snd (svR m pix y)))=true->Prod.fst (qx4 m pix y)=[]/\(8:Int)=Prod.snd (qx4 m pix y)/\True)/\((!Prod.snd (Prod.snd (svR m pix y)))=false->(decide ((0:Int) < Prod.fst (Prod.snd (svR m pix y)))=true->Prod.fst (qx4 m pix y)=[]/\(11:Int)=Prod.snd (qx4 m pix y)/\True)/\(decide ((0:Int) < Prod.fst (Prod.snd (svR m pix y)))=false->Prod.fst (svR m pix y)=Prod.fst (qx4 m pix y)/\(0:Int)=Prod.snd (qx4 m pix y)/\True))))))) (by kernel_rfl) ?_
  try simp only [z0,z1,z2,z3,z4,z5,z6,z7,z8,z9,z10,Int.reduceEq,z11,z12,z13,z14,z15,z16,z17,z18,z19,z20,z21,z22,z23,z24,z25,z26,z27,z28,z29,z30,Int.reduceLE,Int.reduceLT,z31,z32,z33,z34,qa3]
  try simp only [qb4, qb5, qc9, List.set_cons_zero, List.cons.injEq, and_true, true_and]
  have hC : qm8 m y pix = if qe6 m = false then 1 else if ¬ y.length = m.length then 9 else if q9o y then 7 else wy2 m pix := rfl
  have hD : wg1 m y = if ¬ y.length = m.length then 9 else if q9o y then 7 else 0 := rfl
  have hN : wy2 m pix = if qe6 m = false then 1 else q1u (nL m 0).length pix := rfl
  have hS : qx4 m pix y = if qm8 m y pix = 0 then svT m pix y else ([], qm8 m y pix) := rfl
  refine ⟨h.fit, fun hv => ?_, fun hv => ⟨fun hl => ?_, fun hl => ?_⟩⟩
  · have e : qm8 m y pix = 1 := by rw [hC, if_pos hv]
    rw [hS, e]; exact ⟨rfl, rfl⟩
  · have e : qm8 m y pix = 9 := by rw [hC, if_neg (by rw [hv]; decide), if_pos (by omega)]
    rw [hS, e]; exact ⟨rfl, rfl⟩
  have hl : y.length = m.length := by omega
  have hM := Mk.of hv
  have hm6 := hM.rows6
  have hm1 := hM.rows1
  have hn10 := hM.pix10
  have hlen := h.len
  refine ⟨by omega, fun hr => ?_, fun hr => ⟨⟨⟨by omega, by omega⟩, by omega⟩, fun hn => ?_, fun hn => ?_⟩⟩
  · have ho : q9o y = true := by
      cases e : q9o y with
      | true => rfl
      | false => rw [hD, if_neg (fun q => q hl), e] at hr; exact absurd rfl hr
    have e : qm8 m y pix = 7 := by rw [hC, if_neg (by rw [hv]; decide), if_neg (fun q => q hl), if_pos ho]
    have e2 : wg1 m y = 7 := by rw [hD, if_neg (fun q => q hl), if_pos ho]
    rw [hS, e, e2]; exact ⟨rfl, rfl⟩
  all_goals
    have ho : q9o y = false := by
      cases e : q9o y with
      | false => rfl
      | true => rw [hD, if_neg (fun q => q hl), if_pos e] at hr; cases hr
    have e : qm8 m y pix = q1u (nL m 0).length pix := by rw [hC, if_neg (by rw [hv]; decide), if_neg (fun q => q hl), if_neg (by rw [ho]; decide), hN, if_neg (by rw [hv]; decide)]
  · rw [hS, if_neg (by rw [e]; exact hn), e]; exact ⟨rfl, rfl⟩
  · have hz : qm8 m y pix = 0 := by rw [e]; exact hn
    rw [hS, if_pos hz]
    have hT : svT m pix y = if (svR m pix y).2.2 = false then ([], 8) else if 0 < (svR m pix y).2.1 then ([], 11) else ((svR m pix y).1, 0) := rfl
    refine ⟨h.ok hz, fun h1 => by rw [hT, if_pos h1]; exact ⟨rfl, rfl⟩, fun h1 => ⟨fun h2 => by rw [hT, if_neg (by rw [h1]; decide), if_pos h2]; exact ⟨rfl, rfl⟩, fun h2 => by rw [hT, if_neg (by rw [h1]; decide), if_neg (by omega)]; exact ⟨rfl, rfl⟩⟩⟩
theorem w7h {m : List (List Int)} {pix y : List Int} (h : q1p m pix y) : (qx4 m pix y).1.length <= 1000000 := by
  unfold qx4
  split
  · rename_i he
    have hO := h.ok he
    unfold svT
    split
    · simp
    · split
      · simp
      · unfold svR
        split
        · simp
        · dsimp only
          rw [qs5]
          have := hO.pl
          omega
  · simp
def w0q (l : List (Int × Int)) : Bool := l.any fun r => r.1 == 0
def xc5 (s : List (Int × Int) × Int) (pix : List Int) : Fit × Bool := if s.2 ≠ 0 \/ w0q s.1 = true then (([], []), false) else ((pix, s.1), true)
def qx5 (m : List (List Int)) (y pix : List Int) : Fit × Bool := xc5 (qx4 m pix y) pix
abbrev xs5 : qc7 := qg2 false none [qh5, qe1, qe1] [q2m, .bool] (fun x => q1p x.1 x.2.2.1 x.2.1) (fun x => ((qx5 x.1 x.2.1 x.2.2.1).1, (qx5 x.1 x.2.1 x.2.2.1).2, ()))
structure xl4 (l : List (Int × Int)) (k : Nat) : Prop where
  le : k <= l.length
  all : ∀ i, i < k -> (nQ l i).1 ≠ 0
def xj4 (l : List (Int × Int)) : Nat -> Option Inv
  | 0 => some (Inv.of [24] 2 (fun k : Nat => [(24, .lit (.int .i64 k))]) (fun _ => [.box 30 (.cons (.lit (.slice none 0 0)) (.cons (.lit (.slice none 0 0)) .nil)), .dead]) (fun k => xl4 l k) (fun k => l.length - k))
  | _ => none
theorem q3j : qd6 Try.prog 52 xs5 := by
  refine meets (w9j [] [35] (SpecsOk.cons w4m (SpecsOk.nil _))) Try.func52 rfl rfl (fun x => xj4 (qx4 x.1 x.2.2.1 x.2.1).1) (fun _ => by kernel_rfl) (by decide) ?_
  rintro ⟨m, y, pix, ⟨⟩⟩ h
  revert m y pix
  intro (m : List (List Int)) (y : List Int) (pix : List Int) (h : q1p m pix y)
  refine qd7 (B := q1p m pix y/\((Prod.snd (qx4 m pix y) != (0:Int))=true->(Prod.fst (Prod.fst (qx5 m y pix))=[]/\Prod.snd (Prod.fst (qx5 m y pix))=[]/\True)/\false=Prod.snd (qx5 m y pix)/\True)/\((Prod.snd (qx4 m pix y) != (0:Int))=false->∃ (v1:Unit),∃ (v2:Nat),xl4 (Prod.fst (qx4 m pix y)) v2/\(((0:Int)=(↑v2:Int)/\True)/\(Value.slice none (0:Nat) (0:Nat)=Value.slice none (0:Nat) (0:Nat)/\Value.slice none (0:Nat) (0:Nat)=Value.slice none (0:Nat) (0:Nat)/\True)/\True/\True)/\∀ (v3:Nat),xl4 (Prod.fst (qx4 m pix y)) v3->(decide ((↑v3:Int) < (↑(List.length (Prod.fst (qx4 m pix y))):Int))=true->((0:Int) <= (↑v3:Int)/\(↑v3:Int) < (↑(List.length (Prod.fst (qx4 m pix y))):Int))/\((Prod.fst (qa1 (Ty.prod (Ty.int .i64) (Ty.int .i64)) (Prod.fst (qx4 m pix y)) (Int.toNat (↑v3:Int))) == (0:Int))=true->(Prod.fst (Prod.fst (qx5 m y pix))=[]/\Prod.snd (Prod.fst (qx5 m y pix))=[]/\True)/\false=Prod.snd (qx5 m y pix)/\True)/\((Prod.fst (qa1 (Ty.prod (Ty.int .i64) (Ty.int .i64)) (Prod.fst (qx4 m pix y)) (Int.toNat (↑v3:Int))) == (0:Int))=false->fits .i64 ((↑v3:Int) + (1:Int))/\∃ (v7:Nat),xl4 (Prod.fst (qx4 m pix y)) v7/\List.length (Prod.fst (qx4 m pix y)) - v7 < List.length (Prod.fst (qx4 m pix y)) - v3/\((↑v3:Int) + (1:Int)=(↑v7:Int)/\True)/\(Value.slice none (0:Nat) (0:Nat)=Value.slice none (0:Nat) (0:Nat)/\Value.slice none (0:Nat) (0:Nat)=Value.slice none (0:Nat) (0:Nat)/\True)/\True/\True))/\(decide ((↑v3:Int) < (↑(List.length (Prod.fst (qx4 m pix y))):Int))=false->Nat.le ((0:Nat) + List.length pix) (1000000:Nat)/\([] ++ pix=Prod.fst (Prod.fst (qx5 m y pix))/\Prod.fst (qx4 m pix y)=Prod.snd (Prod.fst (qx5 m y pix))/\True)/\true=Prod.snd (qx5 m y pix)/\True))) (by kernel_rfl) ?_
  try simp only [z0,z1,z2,z3,z4,z5,z6,z7,z8,z9,z10,Int.reduceEq,z11,z12,z13,z14,z15,z16,z17,z18,z19,z20,z21,z22,z23,z24,z25,z26,z27,z28,z29,z30,Int.reduceLE,Int.reduceLT,z31,z32,z33,z34,qa3]
  try simp only [qb4, qb5, qc9, List.set_cons_zero, List.cons.injEq, and_true, true_and]
  have hl := w7h h
  have hpx := h.len
  have hF : qx5 m y pix = xc5 (qx4 m pix y) pix := rfl
  generalize qx4 m pix y = s at hl hF ⊢
  refine ⟨h, fun he => ?_, fun he => ⟨(), 0, ⟨Nat.zero_le _, fun i hi => absurd hi (by omega)⟩, rfl, fun k hk => ⟨fun hlt => ⟨hlt, fun hz => ?_, fun hz => ⟨qa8 (by omega) (by omega), k + 1, ⟨hlt, fun i hi => ?_⟩, by omega, by omega⟩⟩, fun hge => ⟨by omega, ?_⟩⟩⟩⟩
  · rw [hF, xc5, if_pos (.inl he)]; exact ⟨⟨rfl, rfl⟩, rfl⟩
  · have : w0q s.1 = true := by
      unfold w0q
      rw [List.any_eq_true]
      exact ⟨nQ s.1 k, by show qa1 q6q s.1 k ∈ s.1; rw [qj7 (t := q6q) s.1 k hlt]; exact List.getElem_mem _, beq_iff_eq.2 hz⟩
    rw [hF, xc5, if_pos (.inr this)]; exact ⟨⟨rfl, rfl⟩, rfl⟩
  · by_cases e : i = k
    · subst e; exact hz
    · exact hk.all i (by omega)
  · have : ¬ (s.2 ≠ 0 \/ w0q s.1 = true) := by
      rintro (q | q)
      · exact q he
      · unfold w0q at q
        rw [List.any_eq_true] at q
        obtain ⟨x, hx, hx0⟩ := q
        obtain ⟨i, hi, rfl⟩ := List.getElem_of_mem hx
        have := hk.all i (by omega)
        unfold nQ at this
        rw [qj7 (t := q6q) s.1 i hi] at this
        exact this (beq_iff_eq.1 hx0)
    rw [hF, xc5, if_neg this]; exact ⟨⟨rfl, rfl⟩, rfl⟩
theorem q4n {m : List (List Int)} {y : List Int} {pix : List Int} (h : ql6 m y = 0) : qm8 m y pix = q1u (nL m 0).length pix /\ qe6 m = true := by
  have hC : qm8 m y pix = if qe6 m = false then 1 else if ¬ y.length = m.length then 9 else if q9o y then 7 else wy2 m pix := rfl
  have hN : wy2 m pix = if qe6 m = false then 1 else q1u (nL m 0).length pix := rfl
  unfold ql6 at h
  split at h
  · cases h
  · rename_i hv
    unfold wg1 at h
    split at h
    · cases h
    · rename_i hl
      split at h
      · cases h
      · rename_i ho
        exact ⟨by rw [hC, if_neg hv, if_neg hl, if_neg ho, hN, if_neg hv], by simpa using hv⟩
theorem wk4 {m : List (List Int)} {y : List Int} {pix : List Int} (h : ql6 m y ≠ 0) : qm8 m y pix = ql6 m y := by
  have hC : qm8 m y pix = if qe6 m = false then 1 else if ¬ y.length = m.length then 9 else if q9o y then 7 else wy2 m pix := rfl
  unfold ql6 wg1 at *
  split at h
  · rename_i hv; rw [hC, if_pos hv, if_pos hv]
  · rename_i hv
    split at h
    · rename_i hl; rw [hC, if_neg hv, if_pos hl, if_neg hv, if_pos hl]
    · rename_i hl
      split at h
      · rename_i ho; rw [hC, if_neg hv, if_neg hl, if_pos ho, if_neg hv, if_neg hl, if_pos ho]
      · exact absurd rfl h
def wk5 (m : List (List Int)) (y pix : List Int) : Bool × Int := if qm8 m y pix = 0 then ((qx5 m y pix).2, 0) else (false, qm8 m y pix)
abbrev xs6 : qc7 := qg2 true none [qh5, qe1, qe1] [.bool, qf9] (fun x => q1p x.1 x.2.2.1 x.2.1) (fun x => ((wk5 x.1 x.2.1 x.2.2.1).1, (wk5 x.1 x.2.1 x.2.2.1).2, ()))
theorem w0r : qd6 Try.prog 24 xs6 := by
  refine meets (snd (SpecsOk.cons q1k (SpecsOk.cons q3e (SpecsOk.cons q3j (SpecsOk.nil _))))) Try.func24 rfl rfl (fun _ _ => none) (fun _ => by kernel_rfl) (by decide) ?_
  rintro ⟨m, y, pix, ⟨⟩⟩ h
  revert m y pix
  intro (m : List (List Int)) (y : List Int) (pix : List Int) (h : q1p m pix y)
  refine qd7 (B := q3v m/\((ql6 m y != (0:Int))=true->false=Prod.fst (wk5 m y pix)/\ql6 m y=Prod.snd (wk5 m y pix)/\True)/\((ql6 m y != (0:Int))=false->(((0:Nat) < List.length m/\List.length (nL m (0:Nat)) <= (1000000:Nat))/\List.length pix <= (1000000:Nat))/\((q1u (↑(List.length (nL m (0:Nat))):Int) pix != (0:Int))=true->false=Prod.fst (wk5 m y pix)/\q1u (↑(List.length (nL m (0:Nat))):Int) pix=Prod.snd (wk5 m y pix)/\True)/\((q1u (↑(List.length (nL m (0:Nat))):Int) pix != (0:Int))=false->q1p m pix y/\Prod.snd (qx5 m y pix)=Prod.fst (wk5 m y pix)/\(0:Int)=Prod.snd (wk5 m y pix)/\True))) (by kernel_rfl) ?_
  try simp only [z0,z1,z2,z3,z4,z5,z6,z7,z8,z9,z10,Int.reduceEq,z11,z12,z13,z14,z15,z16,z17,z18,z19,z20,z21,z22,z23,z24,z25,z26,z27,z28,z29,z30,Int.reduceLE,Int.reduceLT,z31,z32,z33,z34,qa3]
  try simp only [qb4, qb5, qc9, List.set_cons_zero, List.cons.injEq, and_true, true_and]
  have hR : wk5 m y pix = if qm8 m y pix = 0 then ((qx5 m y pix).2, 0) else (false, qm8 m y pix) := rfl
  have hlen := h.len
  refine ⟨h.fit, fun he => ?_, fun he => ?_⟩
  · have e := wk4 (pix := pix) he
    rw [hR, if_neg (by rw [e]; exact he), e]; exact ⟨rfl, rfl⟩
  · obtain ⟨e, hv⟩ := q4n (pix := pix) he
    have hM := Mk.of hv
    have hm1 := hM.rows1
    have hn10 := hM.pix10
    refine ⟨⟨⟨by omega, by omega⟩, by omega⟩, fun hn => ?_, fun hn => ⟨h, ?_⟩⟩
    · rw [hR, if_neg (by rw [e]; exact hn), e]; exact ⟨rfl, rfl⟩
    · rw [hR, if_pos (by rw [e]; exact hn)]; first | exact ⟨rfl, rfl⟩ | exact rfl
def q03 (m : List (List Int)) (y : List Int) (f : Fit) : Bool := decide (qm8 m y f.1 = 0) && (qx5 m y f.1).2 && qz6 f (qx5 m y f.1).1
structure w4n (m : List (List Int)) (y : List Int) (f : Fit) : Prop where
  s3 : q1p m f.1 y
  val : f.2.length <= 1000000
abbrev x1h : qc7 := qg2 true none [qh5, qe1, q2m] [.bool] (fun x => w4n x.1 x.2.1 x.2.2.1) (fun x => (q03 x.1 x.2.1 x.2.2.1, ()))
abbrev x1i : qc7 := qg2 true none [qh5, qe1] [.bool] (fun x => q3v x.1) (fun x => (ql6 x.1 x.2.1 == 0, ()))
theorem w4o : qd6 Try.prog 58 x1i := by
  refine meets (snd (SpecsOk.cons q1k (SpecsOk.nil _))) Try.func58 rfl rfl (fun _ _ => none) (fun _ => by kernel_rfl) (by decide) ?_
  rintro ⟨m, y, ⟨⟩⟩ h
  revert m y
  intro (m : List (List Int)) (y : List Int) (h : q3v m)
  refine qd7 (B := q3v m/\(ql6 m y == (0:Int))=(ql6 m y == (0:Int))) (by kernel_rfl) ?_
  try simp only [z0,z1,z2,z3,z4,z5,z6,z7,z8,z9,z10,Int.reduceEq,z11,z12,z13,z14,z15,z16,z17,z18,z19,z20,z21,z22,z23,z24,z25,z26,z27,z28,z29,z30,Int.reduceLE,Int.reduceLT,z31,z32,z33,z34,qa3]
  try simp only [qb4, qb5, qc9, List.set_cons_zero, List.cons.injEq, and_true, true_and]
  exact h
theorem w4p : qd6 Try.prog 28 x1h := by
  refine meets (snd (SpecsOk.cons w4o (SpecsOk.cons q3e (SpecsOk.cons q3j (SpecsOk.cons q1m (SpecsOk.nil _)))))) Try.func28 rfl rfl (fun _ _ => none) (fun _ => by kernel_rfl) (by decide) ?_
  rintro ⟨m, y, f, ⟨⟩⟩ h
  revert m y f
  intro (m : List (List Int)) (y : List Int) (f : Fit) (h : w4n m y f)
  refine qd7 (B := q3v m/\((!ql6 m y == (0:Int))=true->false=q03 m y f)/\((!ql6 m y == (0:Int))=false->(((0:Nat) < List.length m/\List.length (nL m (0:Nat)) <= (1000000:Nat))/\List.length (Prod.fst f) <= (1000000:Nat))/\((q1u (↑(List.length (nL m (0:Nat))):Int) (Prod.fst f) != (0:Int))=true->false=q03 m y f)/\((q1u (↑(List.length (nL m (0:Nat))):Int) (Prod.fst f) != (0:Int))=false->q1p m (Prod.fst f) y/\(Prod.snd (qx5 m y (Prod.fst f))=true->q54 (Prod.fst f,Prod.snd f)/\qz6 (Prod.fst f,Prod.snd f) (Prod.fst (Prod.fst (qx5 m y (Prod.fst f))),Prod.snd (Prod.fst (qx5 m y (Prod.fst f))))=q03 m y f)/\(Prod.snd (qx5 m y (Prod.fst f))=false->false=q03 m y f)))) (by kernel_rfl) ?_
  try simp only [z0,z1,z2,z3,z4,z5,z6,z7,z8,z9,z10,Int.reduceEq,z11,z12,z13,z14,z15,z16,z17,z18,z19,z20,z21,z22,z23,z24,z25,z26,z27,z28,z29,z30,Int.reduceLE,Int.reduceLT,z31,z32,z33,z34,qa3]
  try simp only [qb4, qb5, qc9, List.set_cons_zero, List.cons.injEq, and_true, true_and]
  have hR : q03 m y f = (decide (qm8 m y f.1 = 0) && (qx5 m y f.1).2 && qz6 f (qx5 m y f.1).1) := rfl
  have hlen := h.s3.len
  refine ⟨h.s3.fit, fun he => ?_, fun he => ?_⟩
  · have e := wk4 (pix := f.1) he
    rw [hR, decide_eq_false (by rw [e]; exact he)]; rfl
  · obtain ⟨e, hv⟩ := q4n (pix := f.1) he
    have hM := Mk.of hv
    have hm1 := hM.rows1
    have hn10 := hM.pix10
    refine ⟨⟨⟨by omega, by omega⟩, by omega⟩, fun hn => ?_, fun hn => ⟨h.s3, fun hf => ⟨⟨by show f.1.length <= 1000000; omega, h.val⟩, ?_⟩, fun hf => ?_⟩⟩
    · rw [hR, decide_eq_false (by rw [e]; exact hn)]; rfl
    · rw [hR, decide_eq_true (by rw [e]; exact hn), hf]; rfl
    · rw [hR, hf, Bool.and_false]; rfl
end Go.Proofs.Ytdibdlelmkcccaa
