/- Sets, searches for a number, primitive vectors: contracts by the engine. No condition. -/
import Derived.Test.YtdibdlelmkcccaaV9
set_option linter.unusedVariables false
set_option linter.unusedSimpArgs false
namespace Go.Proofs.Ytdibdlelmkcccaa
open Go Go.RowKit Eng
abbrev sSets : FSpec := gspec false none [tInt, tInt] (fun _ => True) (fun x => .clo 110 (.cons (.imm (.cons (.lit (.int .i64 x.2.1)) .nil) 0) (.cons (.imm (.cons (.lit (.int .i64 x.1)) .nil) 0) .nil)))
theorem qt5 : Meets Try.prog 77 sSets := by
  refine meetsG (snd (SpecsOk.nil _)) Try.func77 rfl rfl (fun _ _ => none) (fun _ => by kernel_rfl) (by decide) ?_
  rintro ⟨n, k, ⟨⟩⟩ -
  revert n k
  intro (n : Int) (k : Int)
  refine by_vc (B := ((k = k/\True)/\(0 : Nat) = (0 : Nat))/\((n = n/\True)/\(0 : Nat) = (0 : Nat))/\True) (by kernel_rfl) ?_
  try simp only [z0,z1,z2,z3,z4,z5,z6,z7,z8,z9,z10,Int.reduceEq,z11,z12,z13,z14,z15,z16,z17,z18,z19,z20,z21,z22,z23,z24,z25,z26,z27,z28,z29,z30,Int.reduceLE,Int.reduceLT,z31,z32,z33,z34,nilEq_true]
  try simp only [qa4, qa5, qa8, List.set_cons_zero, List.cons.injEq, and_true, true_and]
def ivIxV (l : List Int) (x : Int) : Nat → Option Inv := ivIx (.int .i64) l fun e => x == e
abbrev sIxV : FSpec := tspec true none [qb8, tInt] [tInt] (fun x => x.1.length ≤ 1000000) (fun x => (ixT (.int .i64) (fun e => x.2.1 == e) x.1, ()))
theorem q3q : Meets Try.prog 150 sIxV := by
  refine meets (snd (SpecsOk.nil _)) Try.func150 rfl rfl (fun x => ivIxV x.1 x.2.1) (fun _ => by kernel_rfl) (by decide) ?_
  rintro ⟨l, x, ⟨⟩⟩ h
  revert l x
  intro (l : List Int) (x : Int) (h : l.length ≤ 1000000)
  refine by_vc (B := ∃ (v0 : Unit), ∃ (v1 : Nat), (v1 <= List.length l/\∀ (v2 : Nat), Nat.le (Nat.succ v2) v1->(x == nthD (Ty.int .i64) l v2) = false)/\(((0 : Int) = (↑v1 : Int)/\True)/\True)/\∀ (v2 : Nat), (v2 <= List.length l/\∀ (v4 : Nat), Nat.le (Nat.succ v4) v2->(x == nthD (Ty.int .i64) l v4) = false)->(decide ((↑v2 : Int) < (↑(List.length l) : Int)) = true->((0 : Int) <= (↑v2 : Int)/\(↑v2 : Int) < (↑(List.length l) : Int))/\((x == nthD (Ty.int .i64) l (Int.toNat (↑v2 : Int))) = true->(↑v2 : Int) = ixT (Ty.int .i64) (fun (v6 : Int) => x == v6) l)/\((x == nthD (Ty.int .i64) l (Int.toNat (↑v2 : Int))) = false->fits .i64 ((↑v2 : Int) + (1 : Int))/\∃ (v6 : Nat), (v6 <= List.length l/\∀ (v7 : Nat), Nat.le (Nat.succ v7) v6->(x == nthD (Ty.int .i64) l v7) = false)/\List.length l - v6 < List.length l - v2/\((↑v2 : Int) + (1 : Int) = (↑v6 : Int)/\True)/\True))/\(decide ((↑v2 : Int) < (↑(List.length l) : Int)) = false->(-1 : Int) = ixT (Ty.int .i64) (fun (v5 : Int) => x == v5) l)) (by kernel_rfl) ?_
  try simp only [z0,z1,z2,z3,z4,z5,z6,z7,z8,z9,z10,Int.reduceEq,z11,z12,z13,z14,z15,z16,z17,z18,z19,z20,z21,z22,z23,z24,z25,z26,z27,z28,z29,z30,Int.reduceLE,Int.reduceLT,z31,z32,z33,z34,nilEq_true]
  try simp only [qa4, qa5, qa8, List.set_cons_zero, List.cons.injEq, and_true, true_and]
  refine ⟨(), 0, ⟨Nat.zero_le _, fun i hi => absurd hi (by omega)⟩, rfl, fun k ⟨hk, hall⟩ => ?_⟩
  refine ⟨fun hlt => ⟨hlt, fun hf => (q05 (.int .i64) (fun e => x == e) l k hlt (fun i hi => beq_false_of_ne fun e => hall i hi e) (beq_iff_eq.2 hf)).symm, fun hf => ⟨fits64 (by omega) (by omega), k + 1, ⟨by omega, fun i hi => ?_⟩, by omega, by omega⟩⟩, fun hge => (qo4 (.int .i64) (fun e => x == e) l fun i hi => beq_false_of_ne fun e => hall i (by omega) e).symm⟩
  by_cases e : i = k
  · subst e; exact hf
  · exact hall i (by omega)
abbrev sCoV : FSpec := tspec true none [qb8, tInt] [.bool] (fun x => x.1.length ≤ 1000000) (fun x => (x.1.any fun e => x.2.1 == e, ()))
theorem qy2 : Meets Try.prog 125 sCoV := by
  refine meets (snd (SpecsOk.cons q3q (SpecsOk.nil _))) Try.func125 rfl rfl (fun _ _ => none) (fun _ => by kernel_rfl) (by decide) ?_
  rintro ⟨l, x, ⟨⟩⟩ h
  revert l x
  intro (l : List Int) (x : Int) (h : l.length ≤ 1000000)
  refine by_vc (B := List.length l <= (1000000 : Nat)/\decide ((0 : Int) <= ixT (Ty.int .i64) (fun (v0 : Int) => x == v0) l) = List.any l fun (v0 : Int) => x == v0) (by kernel_rfl) ?_
  try simp only [z0,z1,z2,z3,z4,z5,z6,z7,z8,z9,z10,Int.reduceEq,z11,z12,z13,z14,z15,z16,z17,z18,z19,z20,z21,z22,z23,z24,z25,z26,z27,z28,z29,z30,Int.reduceLE,Int.reduceLT,z31,z32,z33,z34,nilEq_true]
  try simp only [qa4, qa5, qa8, List.set_cons_zero, List.cons.injEq, and_true, true_and]
  exact ⟨h, qk0 (.int .i64) _ l⟩
abbrev sPri1 : FSpec := tspec true none [tInt] [.bool] (fun _ => True) (fun x => (x.1 != 0, ()))
theorem q2c : Meets Try.prog 151 sPri1 := by
  refine meets (snd (SpecsOk.nil _)) Try.func151 rfl rfl (fun _ _ => none) (fun _ => by kernel_rfl) (by decide) ?_
  rintro ⟨n, ⟨⟩⟩ -
  revert n
  intro (n : Int)
  refine by_vc (B := (n != (0 : Int)) = (n != (0 : Ty.den tInt))) (by kernel_rfl) ?_
  try simp only [z0,z1,z2,z3,z4,z5,z6,z7,z8,z9,z10,Int.reduceEq,z11,z12,z13,z14,z15,z16,z17,z18,z19,z20,z21,z22,z23,z24,z25,z26,z27,z28,z29,z30,Int.reduceLE,Int.reduceLT,z31,z32,z33,z34,nilEq_true]
  try simp only [qa4, qa5, qa8, List.set_cons_zero, List.cons.injEq, and_true, true_and]
def qj3 (l : List Int) : Int := ixT (.int .i64) (fun e => e != 0) l
def qs6 (l : List Int) : List Int := if 0 ≤ qj3 (qb7 l) ∧ nI (qb7 l) (qj3 (qb7 l)).toNat < 0 then negL (qb7 l) else qb7 l
abbrev sPrim : MSpec := mspec (argsB []) false true 0 3 (.int .i64) (fun rows _ => bigL (nL rows 0)) (fun _ _ => .tup .nil) (fun rows _ => [qs6 (nL rows 0)])
structure q5g (l : List Int) (i : Nat) (r : List Int) : Prop where
  le : i ≤ l.length
  eq : r = ovr (.int .i64) (fun q => 0 - nI l q) l i
def ivPrim (T : Lent) (l : List Int) : Nat → Option Inv
  | 0 => some (Inv.of [0, 20] 1 (fun s : Nat × List Int => [(0, .msl 0 (some 0)), (20, .lit (.int .i64 s.1))]) (fun s => [.mat 0 3 (.int .i64) [s.2] (some []) (some T)]) (fun s => q5g (qb7 l) s.1 s.2) (fun s => (qb7 l).length - s.1))
  | _ => none
theorem qt6 {l : List Int} (h : bigL l) : bigL (qb7 l) := by
  unfold qb7
  split
  · refine ⟨by simpa using h.1, fun x hx => ?_⟩
    obtain ⟨y, hy, rfl⟩ := List.mem_map.1 hx
    exact qe5 (h.2 y hy)
  · exact h
theorem q2d : MMeets Try.prog 126 sPrim := by
  refine meetsM (sndM (SpecsOk.cons (qx5 (fs := [(151, sPri1)]) (SpecsOk.cons q2c (SpecsOk.nil _))) (SpecsOk.nil _)) (MutsOk.cons ql0 MutsOk.nil)) Try.func126 rfl rfl (argsB_ok []) (fun T rows _ => ivPrim T (nL rows 0)) (fun _ _ _ => by kernel_rfl) (by decide) ?_ rfl
  rintro T rows ⟨⟩ h hone
  obtain ⟨l, rfl⟩ : ∃ l : List Int, rows = [l] := by
    have h1 := hone rfl
    match rows, h1 with
    | [l], _ => exact ⟨l, rfl⟩
  have h : bigL l := h
  refine by_vc (B := bigL (nL [nthD (Ty.list (Ty.int .i64)) [l] (0 : Nat)] (0 : Nat))/\∃ (v0 : argsTy [Ty.int .i64]->Prop), ∃ (v1 : argsTy [Ty.int .i64]->Bool), (∀ (v2 : Int × argsTy._f [] PUnit.unit), v0 v2->True/\(Prod.fst v2 != (0 : Ty.den tInt)) = v1 v2)/\(List.length (nthD (Ty.list (Ty.int .i64)) (List.set [l] (0 : Nat) (nthD (Ty.list (Ty.int .i64)) [qb7 (nL [nthD (Ty.list (Ty.int .i64)) [l] (0 : Nat)] (0 : Nat))] (0 : Nat))) (0 : Nat)) <= (1000000 : Nat)/\∀ (v2 : Nat), v2 < List.length (nthD (Ty.list (Ty.int .i64)) (List.set [l] (0 : Nat) (nthD (Ty.list (Ty.int .i64)) [qb7 (nL [nthD (Ty.list (Ty.int .i64)) [l] (0 : Nat)] (0 : Nat))] (0 : Nat))) (0 : Nat))->v0 (nthD (Ty.int .i64) (nthD (Ty.list (Ty.int .i64)) (List.set [l] (0 : Nat) (nthD (Ty.list (Ty.int .i64)) [qb7 (nL [nthD (Ty.list (Ty.int .i64)) [l] (0 : Nat)] (0 : Nat))] (0 : Nat))) (0 : Nat)) v2, ()))/\(decide ((0 : Int) <= ixT (Ty.int .i64) (fun (v3 : Int) => v1 (v3, ())) (nthD (Ty.list (Ty.int .i64)) (List.set [l] (0 : Nat) (nthD (Ty.list (Ty.int .i64)) [qb7 (nL [nthD (Ty.list (Ty.int .i64)) [l] (0 : Nat)] (0 : Nat))] (0 : Nat))) (0 : Nat))) = true->((0 : Int) <= ixT (Ty.int .i64) (fun (v3 : Int) => v1 (v3, ())) (nthD (Ty.list (Ty.int .i64)) (List.set [l] (0 : Nat) (nthD (Ty.list (Ty.int .i64)) [qb7 (nL [nthD (Ty.list (Ty.int .i64)) [l] (0 : Nat)] (0 : Nat))] (0 : Nat))) (0 : Nat))/\ixT (Ty.int .i64) (fun (v3 : Int) => v1 (v3, ())) (nthD (Ty.list (Ty.int .i64)) (List.set [l] (0 : Nat) (nthD (Ty.list (Ty.int .i64)) [qb7 (nL [nthD (Ty.list (Ty.int .i64)) [l] (0 : Nat)] (0 : Nat))] (0 : Nat))) (0 : Nat)) < (↑(List.length (nthD (Ty.list (Ty.int .i64)) (List.set [l] (0 : Nat) (nthD (Ty.list (Ty.int .i64)) [qb7 (nL [nthD (Ty.list (Ty.int .i64)) [l] (0 : Nat)] (0 : Nat))] (0 : Nat))) (0 : Nat))) : Int))/\Int.toNat (ixT (Ty.int .i64) (fun (v3 : Int) => v1 (v3, ())) (nthD (Ty.list (Ty.int .i64)) (List.set [l] (0 : Nat) (nthD (Ty.list (Ty.int .i64)) [qb7 (nL [nthD (Ty.list (Ty.int .i64)) [l] (0 : Nat)] (0 : Nat))] (0 : Nat))) (0 : Nat))) < List.length (nthD (Ty.list (Ty.int .i64)) (List.set [l] (0 : Nat) (nthD (Ty.list (Ty.int .i64)) [qb7 (nL [nthD (Ty.list (Ty.int .i64)) [l] (0 : Nat)] (0 : Nat))] (0 : Nat))) (0 : Nat))/\(decide (nthD (Ty.int .i64) (nthD (Ty.list (Ty.int .i64)) (List.set [l] (0 : Nat) (nthD (Ty.list (Ty.int .i64)) [qb7 (nL [nthD (Ty.list (Ty.int .i64)) [l] (0 : Nat)] (0 : Nat))] (0 : Nat))) (0 : Nat)) (Int.toNat (ixT (Ty.int .i64) (fun (v4 : Int) => v1 (v4, ())) (nthD (Ty.list (Ty.int .i64)) (List.set [l] (0 : Nat) (nthD (Ty.list (Ty.int .i64)) [qb7 (nL [nthD (Ty.list (Ty.int .i64)) [l] (0 : Nat)] (0 : Nat))] (0 : Nat))) (0 : Nat)))) < (0 : Int)) = true->∃ (v4 : Unit), ∃ (v5 : Nat × List Int), q5g (qb7 (nL [l] (0 : Nat))) (Prod.fst v5) (Prod.snd v5)/\((some (0 : Nat) = some (0 : Nat)/\(0 : Int) = (↑(Prod.fst v5) : Int)/\True)/\(List.set [l] (0 : Nat) (nthD (Ty.list (Ty.int .i64)) [qb7 (nL [nthD (Ty.list (Ty.int .i64)) [l] (0 : Nat)] (0 : Nat))] (0 : Nat)) = [Prod.snd v5]/\True/\T = T)/\True)/\∀ (v6 : Nat × List Int), q5g (qb7 (nL [l] (0 : Nat))) (Prod.fst v6) (Prod.snd v6)->(decide ((↑(Prod.fst v6) : Int) < (↑(List.length (nthD (Ty.list (Ty.int .i64)) (List.set [l] (0 : Nat) (nthD (Ty.list (Ty.int .i64)) [qb7 (nL [nthD (Ty.list (Ty.int .i64)) [l] (0 : Nat)] (0 : Nat))] (0 : Nat))) (0 : Nat))) : Int)) = true->((0 : Int) <= (↑(Prod.fst v6) : Int)/\(↑(Prod.fst v6) : Int) < (↑(List.length (nthD (Ty.list (Ty.int .i64)) [Prod.snd v6] (0 : Nat))) : Int))/\Int.toNat (↑(Prod.fst v6) : Int) < List.length (nthD (Ty.list (Ty.int .i64)) [Prod.snd v6] (0 : Nat))/\fits .i64 ((0 : Int) - nthD (Ty.int .i64) (nthD (Ty.list (Ty.int .i64)) [Prod.snd v6] (0 : Nat)) (Int.toNat (↑(Prod.fst v6) : Int)))/\((0 : Int) <= (↑(Prod.fst v6) : Int)/\(↑(Prod.fst v6) : Int) < (↑(List.length (nthD (Ty.list (Ty.int .i64)) [Prod.snd v6] (0 : Nat))) : Int))/\Int.toNat (↑(Prod.fst v6) : Int) < List.length (nthD (Ty.list (Ty.int .i64)) [Prod.snd v6] (0 : Nat))/\fits .i64 ((↑(Prod.fst v6) : Int) + (1 : Int))/\∃ (v9 : Nat × List Int), q5g (qb7 (nL [l] (0 : Nat))) (Prod.fst v9) (Prod.snd v9)/\List.length (qb7 (nL [l] (0 : Nat))) - Prod.fst v9 < List.length (qb7 (nL [l] (0 : Nat))) - Prod.fst v6/\(some (0 : Nat) = some (0 : Nat)/\(↑(Prod.fst v6) : Int) + (1 : Int) = (↑(Prod.fst v9) : Int)/\True)/\(List.set [Prod.snd v6] (0 : Nat) (List.set (nthD (Ty.list (Ty.int .i64)) [Prod.snd v6] (0 : Nat)) (Int.toNat (↑(Prod.fst v6) : Int)) ((0 : Int) - nthD (Ty.int .i64) (nthD (Ty.list (Ty.int .i64)) [Prod.snd v6] (0 : Nat)) (Int.toNat (↑(Prod.fst v6) : Int)))) = [Prod.snd v9]/\True/\T = T)/\True)/\(decide ((↑(Prod.fst v6) : Int) < (↑(List.length (nthD (Ty.list (Ty.int .i64)) (List.set [l] (0 : Nat) (nthD (Ty.list (Ty.int .i64)) [qb7 (nL [nthD (Ty.list (Ty.int .i64)) [l] (0 : Nat)] (0 : Nat))] (0 : Nat))) (0 : Nat))) : Int)) = false->[Prod.snd v6] = [qs6 (nL [l] (0 : Nat))]/\T = T/\True/\(0 : Nat) = (0 : Nat)))/\(decide (nthD (Ty.int .i64) (nthD (Ty.list (Ty.int .i64)) (List.set [l] (0 : Nat) (nthD (Ty.list (Ty.int .i64)) [qb7 (nL [nthD (Ty.list (Ty.int .i64)) [l] (0 : Nat)] (0 : Nat))] (0 : Nat))) (0 : Nat)) (Int.toNat (ixT (Ty.int .i64) (fun (v4 : Int) => v1 (v4, ())) (nthD (Ty.list (Ty.int .i64)) (List.set [l] (0 : Nat) (nthD (Ty.list (Ty.int .i64)) [qb7 (nL [nthD (Ty.list (Ty.int .i64)) [l] (0 : Nat)] (0 : Nat))] (0 : Nat))) (0 : Nat)))) < (0 : Int)) = false->List.set [l] (0 : Nat) (nthD (Ty.list (Ty.int .i64)) [qb7 (nL [nthD (Ty.list (Ty.int .i64)) [l] (0 : Nat)] (0 : Nat))] (0 : Nat)) = [qs6 (nL [l] (0 : Nat))]/\T = T/\True/\(0 : Nat) = (0 : Nat)))/\(decide ((0 : Int) <= ixT (Ty.int .i64) (fun (v3 : Int) => v1 (v3, ())) (nthD (Ty.list (Ty.int .i64)) (List.set [l] (0 : Nat) (nthD (Ty.list (Ty.int .i64)) [qb7 (nL [nthD (Ty.list (Ty.int .i64)) [l] (0 : Nat)] (0 : Nat))] (0 : Nat))) (0 : Nat))) = false->List.set [l] (0 : Nat) (nthD (Ty.list (Ty.int .i64)) [qb7 (nL [nthD (Ty.list (Ty.int .i64)) [l] (0 : Nat)] (0 : Nat))] (0 : Nat)) = [qs6 (nL [l] (0 : Nat))]/\T = T/\True/\(0 : Nat) = (0 : Nat))) (by kernel_rfl) ?_
  try simp only [z0,z1,z2,z3,z4,z5,z6,z7,z8,z9,z10,Int.reduceEq,z11,z12,z13,z14,z15,z16,z17,z18,z19,z20,z21,z22,z23,z24,z25,z26,z27,z28,z29,z30,Int.reduceLE,Int.reduceLT,z31,z32,z33,z34,nilEq_true]
  try simp only [qa4, qa5, qa8, List.set_cons_zero, List.cons.injEq, and_true, true_and]
  have hs := qt6 h
  have hl := hs.1
  refine ⟨h, fun _ => True, fun x => x.1 != 0, fun _ _ => rfl, ⟨by omega, fun _ _ => trivial⟩, fun h1 => ?_, fun h1 => ?_⟩
  · have h1 : 0 ≤ qj3 (qb7 l) := by first | exact of_decide_eq_true h1 | exact h1
    have h2 : qj3 (qb7 l) < (qb7 l).length := (q54 (.int .i64) _ _).1
    refine ⟨⟨h1, h2⟩, by show (qj3 (qb7 l)).toNat < _; omega, fun h3 => ?_, fun h3 => ?_⟩
    · have h3 : nI (qb7 l) (qj3 (qb7 l)).toNat < 0 := by first | exact of_decide_eq_true h3 | exact h3
      have hp : qs6 l = negL (qb7 l) := by unfold qs6; rw [if_pos ⟨h1, h3⟩]
      refine ⟨(), (0, qb7 l), ⟨Nat.zero_le _, (qg3 (.int .i64) _ _).symm⟩, ⟨rfl, rfl⟩, ?_⟩
      rintro ⟨i, r⟩ ⟨k1, k2⟩
      dsimp only at k1 k2 ⊢
      have hrl : r.length = (qb7 l).length := by rw [k2]; exact qf5 (.int .i64) _ _ _
      refine ⟨fun hlt => ?_, fun hge => ?_⟩
      · have hv : nI r i = nI (qb7 l) i := by
          rw [k2]
          exact (ql6 (.int .i64) _ _ _ _ hlt).trans (if_neg (Nat.lt_irrefl _))
        have hb := qk9 hs hlt
        unfold qd1 BIG at hb
        rw [hv]
        refine ⟨by omega, by omega, fits64 (by omega) (by omega), by omega, by omega, fits64 (by omega) (by omega), (i + 1, r.set i (0 - nI (qb7 l) i)), ⟨by dsimp only; omega, ?_⟩, by dsimp only; omega, by dsimp only; omega, rfl⟩
        dsimp only
        rw [k2]
        exact qf8 (.int .i64) (fun q => 0 - nI (qb7 l) q) (qb7 l) i
      · rw [hp, k2]
        exact qi7 (.int .i64) _ _ _ (by omega)
    · have h3 : ¬ nI (qb7 l) (qj3 (qb7 l)).toNat < 0 := by first | exact of_decide_eq_false h3 | exact h3 | exact Int.not_lt.2 h3
      unfold qs6; rw [if_neg fun q => h3 q.2]
  · have h1 : ¬ 0 ≤ qj3 (qb7 l) := by first | exact of_decide_eq_false h1 | exact h1 | exact Int.not_le.2 h1
    unfold qs6; rw [if_neg fun q => h1 q.1]
end Go.Proofs.Ytdibdlelmkcccaa
