/- Sets, searches for a number, primitive vectors: contracts by the engine. No condition. -/
import Derived.Test.YtdibdlelmkcccaaV9
set_option linter.unusedVariables false
set_option linter.unusedSimpArgs false
namespace Go.Proofs.Ytdibdlelmkcccaa
open Go Go.RowKit Eng
abbrev xp6 : qc7 := w6i false none [qf9, qf9] (fun _ => True) (fun x => .clo 110 (.cons (.imm (.cons (.lit (.int .i64 x.2.1)) .nil) 0) (.cons (.imm (.cons (.lit (.int .i64 x.1)) .nil) 0) .nil)))
theorem q7o : qd6 Try.prog 77 xp6 := by
  refine wp8 (snd (SpecsOk.nil _)) Try.func77 rfl rfl (fun _ _ => none) (fun _ => by kernel_rfl) (by decide) ?_
  rintro ⟨n, k, ⟨⟩⟩ -
  revert n k
  intro (n : Int) (k : Int)
  refine qd7 (B := ((k=k/\True)/\(0:Nat)=(0:Nat))/\((n=n/\True)/\(0:Nat)=(0:Nat))/\True) (by kernel_rfl) ?_
  try simp only [z0,z1,z2,z3,z4,z5,z6,z7,z8,z9,z10,Int.reduceEq,z11,z12,z13,z14,z15,z16,z17,z18,z19,z20,z21,z22,z23,z24,z25,z26,z27,z28,z29,z30,Int.reduceLE,Int.reduceLT,z31,z32,z33,z34,qa3]
  try simp only [qb4, qb5, qc9, List.set_cons_zero, List.cons.injEq, and_true, true_and]
def xp7 (l : List Int) (x : Int) : Nat -> Option Inv := xl2 (.int .i64) l fun e => x == e
abbrev x0t : qc7 := qg2 true none [qe1, qf9] [qf9] (fun x => x.1.length <= 1000000) (fun x => (ixT (.int .i64) (fun e => x.2.1 == e) x.1, ()))
theorem w3t : qd6 Try.prog 150 x0t := by
  refine meets (snd (SpecsOk.nil _)) Try.func150 rfl rfl (fun x => xp7 x.1 x.2.1) (fun _ => by kernel_rfl) (by decide) ?_
  rintro ⟨l, x, ⟨⟩⟩ h
  revert l x
  intro (l : List Int) (x : Int) (h : l.length <= 1000000)
  refine qd7 (B := ∃ (v0:Unit),∃ (v1:Nat),(v1 <= List.length l/\∀ (v2:Nat),Nat.le (Nat.succ v2) v1->(x == qa1 (Ty.int .i64) l v2)=false)/\(((0:Int)=(↑v1:Int)/\True)/\True)/\∀ (v2:Nat),(v2 <= List.length l/\∀ (v4:Nat),Nat.le (Nat.succ v4) v2->(x == qa1 (Ty.int .i64) l v4)=false)->(decide ((↑v2:Int) < (↑(List.length l):Int))=true->((0:Int) <= (↑v2:Int)/\(↑v2:Int) < (↑(List.length l):Int))/\((x == qa1 (Ty.int .i64) l (Int.toNat (↑v2:Int)))=true->(↑v2:Int)=ixT (Ty.int .i64) (fun (v6:Int) => x == v6) l)/\((x == qa1 (Ty.int .i64) l (Int.toNat (↑v2:Int)))=false->fits .i64 ((↑v2:Int) + (1:Int))/\∃ (v6:Nat),(v6 <= List.length l/\∀ (v7:Nat),Nat.le (Nat.succ v7) v6->(x == qa1 (Ty.int .i64) l v7)=false)/\List.length l - v6 < List.length l - v2/\((↑v2:Int) + (1:Int)=(↑v6:Int)/\True)/\True))/\(decide ((↑v2:Int) < (↑(List.length l):Int))=false->(-1:Int)=ixT (Ty.int .i64) (fun (v5:Int) => x == v5) l)) (by kernel_rfl) ?_
  try simp only [z0,z1,z2,z3,z4,z5,z6,z7,z8,z9,z10,Int.reduceEq,z11,z12,z13,z14,z15,z16,z17,z18,z19,z20,z21,z22,z23,z24,z25,z26,z27,z28,z29,z30,Int.reduceLE,Int.reduceLT,z31,z32,z33,z34,qa3]
  try simp only [qb4, qb5, qc9, List.set_cons_zero, List.cons.injEq, and_true, true_and]
  refine ⟨(), 0, ⟨Nat.zero_le _, fun i hi => absurd hi (by omega)⟩, rfl, fun k ⟨hk, hall⟩ => ?_⟩
  refine ⟨fun hlt => ⟨hlt, fun hf => (wq6 (.int .i64) (fun e => x == e) l k hlt (fun i hi => beq_false_of_ne fun e => hall i hi e) (beq_iff_eq.2 hf)).symm, fun hf => ⟨qa8 (by omega) (by omega), k + 1, ⟨by omega, fun i hi => ?_⟩, by omega, by omega⟩⟩, fun hge => (q4f (.int .i64) (fun e => x == e) l fun i hi => beq_false_of_ne fun e => hall i (by omega) e).symm⟩
  by_cases e : i = k
  · subst e; exact hf
  · exact hall i (by omega)
abbrev x0u : qc7 := qg2 true none [qe1, qf9] [.bool] (fun x => x.1.length <= 1000000) (fun x => (x.1.any fun e => x.2.1 == e, ()))
theorem wc6 : qd6 Try.prog 125 x0u := by
  refine meets (snd (SpecsOk.cons w3t (SpecsOk.nil _))) Try.func125 rfl rfl (fun _ _ => none) (fun _ => by kernel_rfl) (by decide) ?_
  rintro ⟨l, x, ⟨⟩⟩ h
  revert l x
  intro (l : List Int) (x : Int) (h : l.length <= 1000000)
  refine qd7 (B := List.length l <= (1000000:Nat)/\decide ((0:Int) <= ixT (Ty.int .i64) (fun (v0:Int) => x == v0) l)=List.any l fun (v0:Int) => x == v0) (by kernel_rfl) ?_
  try simp only [z0,z1,z2,z3,z4,z5,z6,z7,z8,z9,z10,Int.reduceEq,z11,z12,z13,z14,z15,z16,z17,z18,z19,z20,z21,z22,z23,z24,z25,z26,z27,z28,z29,z30,Int.reduceLE,Int.reduceLT,z31,z32,z33,z34,qa3]
  try simp only [qb4, qb5, qc9, List.set_cons_zero, List.cons.injEq, and_true, true_and]
  exact ⟨h, q0o (.int .i64) _ l⟩
abbrev xg9 : qc7 := qg2 true none [qf9] [.bool] (fun _ => True) (fun x => (x.1 != 0, ()))
theorem wz3 : qd6 Try.prog 151 xg9 := by
  refine meets (snd (SpecsOk.nil _)) Try.func151 rfl rfl (fun _ _ => none) (fun _ => by kernel_rfl) (by decide) ?_
  rintro ⟨n, ⟨⟩⟩ -
  revert n
  intro (n : Int)
  refine qd7 (B := (n != (0:Int))=(n != (0 : Ty.den qf9))) (by kernel_rfl) ?_
  try simp only [z0,z1,z2,z3,z4,z5,z6,z7,z8,z9,z10,Int.reduceEq,z11,z12,z13,z14,z15,z16,z17,z18,z19,z20,z21,z22,z23,z24,z25,z26,z27,z28,z29,z30,Int.reduceLE,Int.reduceLT,z31,z32,z33,z34,qa3]
  try simp only [qb4, qb5, qc9, List.set_cons_zero, List.cons.injEq, and_true, true_and]
def qz4 (l : List Int) : Int := ixT (.int .i64) (fun e => e != 0) l
def q6x (l : List Int) : List Int := if 0 <= qz4 (qe2 l) /\ nI (qe2 l) (qz4 (qe2 l)).toNat < 0 then w78 (qe2 l) else qe2 l
abbrev xp8 : ql3 := w2w (q34 []) false true 0 3 (.int .i64) (fun rows _ => q5l (nL rows 0)) (fun _ _ => .tup .nil) (fun rows _ => [q6x (nL rows 0)])
structure w60 (l : List Int) (i : Nat) (r : List Int) : Prop where
  le : i <= l.length
  eq : r = ovr (.int .i64) (fun q => 0 - nI l q) l i
def xh0 (T : q6p) (l : List Int) : Nat -> Option Inv
  | 0 => some (Inv.of [0, 20] 1 (fun s : Nat × List Int => [(0, .msl 0 (some 0)), (20, .lit (.int .i64 s.1))]) (fun s => [.mat 0 3 (.int .i64) [s.2] (some []) (some T)]) (fun s => w60 (qe2 l) s.1 s.2) (fun s => (qe2 l).length - s.1))
  | _ => none
theorem q7p {l : List Int} (h : q5l l) : q5l (qe2 l) := by
  unfold qe2
  split
  · refine ⟨by simpa using h.1, fun x hx => ?_⟩
    obtain ⟨y, hy, rfl⟩ := List.mem_map.1 hx
    exact ql0 (h.2 y hy)
  · exact h
theorem wz4 : qy7 Try.prog 126 xp8 := by
  refine wq3 (xv1 (SpecsOk.cons (wb8 (fs := [(151, xg9)]) (SpecsOk.cons wz3 (SpecsOk.nil _))) (SpecsOk.nil _)) (MutsOk.cons q1j MutsOk.nil)) Try.func126 rfl rfl (qw7 []) (fun T rows _ => xh0 T (nL rows 0)) (fun _ _ _ => by kernel_rfl) (by decide) ?_ rfl
  rintro T rows ⟨⟩ h hone
  obtain ⟨l, rfl⟩ : ∃ l : List Int, rows = [l] := by
    have h1 := hone rfl
    match rows, h1 with
    | [l], _ => exact ⟨l, rfl⟩
  have h : q5l l := h
  refine qd7 (B := q5l (nL [qa1 (Ty.list (Ty.int .i64)) [l] (0:Nat)] (0:Nat))/\∃ (v0 : qa6 [Ty.int .i64]->Prop),∃ (v1 : qa6 [Ty.int .i64]->Bool),(∀ (v2 : Int × qa6._f [] PUnit.unit),v0 v2->True/\(Prod.fst v2 != (0 : Ty.den qf9))=v1 v2)/\(List.length (qa1 (Ty.list (Ty.int .i64)) (List.set [l] (0:Nat) (qa1 (Ty.list (Ty.int .i64)) [qe2 (nL [qa1 (Ty.list (Ty.int .i64)) [l] (0:Nat)] (0:Nat))] (0:Nat))) (0:Nat)) <= (1000000:Nat)/\∀ (v2:Nat),v2 < List.length (qa1 (Ty.list (Ty.int .i64)) (List.set [l] (0:Nat) (qa1 (Ty.list (Ty.int .i64)) [qe2 (nL [qa1 (Ty.list (Ty.int .i64)) [l] (0:Nat)] (0:Nat))] (0:Nat))) (0:Nat))->v0 (qa1 (Ty.int .i64) (qa1 (Ty.list (Ty.int .i64)) (List.set [l] (0:Nat) (qa1 (Ty.list (Ty.int .i64)) [qe2 (nL [qa1 (Ty.list (Ty.int .i64)) [l] (0:Nat)] (0:Nat))] (0:Nat))) (0:Nat)) v2,()))/\(decide ((0:Int) <= ixT (Ty.int .i64) (fun (v3:Int) => v1 (v3,())) (qa1 (Ty.list (Ty.int .i64)) (List.set [l] (0:Nat) (qa1 (Ty.list (Ty.int .i64)) [qe2 (nL [qa1 (Ty.list (Ty.int .i64)) [l] (0:Nat)] (0:Nat))] (0:Nat))) (0:Nat)))=true->((0:Int) <= ixT (Ty.int .i64) (fun (v3:Int) => v1 (v3,())) (qa1 (Ty.list (Ty.int .i64)) (List.set [l] (0:Nat) (qa1 (Ty.list (Ty.int .i64)) [qe2 (nL [qa1 (Ty.list (Ty.int .i64)) [l] (0:Nat)] (0:Nat))] (0:Nat))) (0:Nat))/\ixT (Ty.int .i64) (fun (v3:Int) => v1 (v3,())) (qa1 (Ty.list (Ty.int .i64)) (List.set [l] (0:Nat) (qa1 (Ty.list (Ty.int .i64)) [qe2 (nL [qa1 (Ty.list (Ty.int .i64)) [l] (0:Nat)] (0:Nat))] (0:Nat))) (0:Nat)) < (↑(List.length (qa1 (Ty.list (Ty.int .i64)) (List.set [l] (0:Nat) (qa1 (Ty.list (Ty.int .i64)) [qe2 (nL [qa1 (Ty.list (Ty.int .i64)) [l] (0:Nat)] (0:Nat))] (0:Nat))) (0:Nat))):Int))/\Int.toNat (ixT (Ty.int .i64) (fun (v3:Int) => v1 (v3,())) (qa1 (Ty.list (Ty.int .i64)) (List.set [l] (0:Nat) (qa1 (Ty.list (Ty.int .i64)) [qe2 (nL [qa1 (Ty.list (Ty.int .i64)) [l] (0:Nat)] (0:Nat))] (0:Nat))) (0:Nat))) < List.length (qa1 (Ty.list (Ty.int .i64)) (List.set [l] (0:Nat) (qa1 (Ty.list (Ty.int .i64)) [qe2 (nL [qa1 (Ty.list (Ty.int .i64)) [l] (0:Nat)] (0:Nat))] (0:Nat))) (0:Nat))/\(decide (qa1 (Ty.int .i64) (qa1 (Ty.list (Ty.int .i64)) (List.set [l] (0:Nat) (qa1 (Ty.list (Ty.int .i64)) [qe2 (nL [qa1 (Ty.list (Ty.int .i64)) [l] (0:Nat)] (0:Nat))] (0:Nat))) (0:Nat)) (Int.toNat (ixT (Ty.int .i64) (fun (v4:Int) => v1 (v4,())) (qa1 (Ty.list (Ty.int .i64)) (List.set [l] (0:Nat) (qa1 (Ty.list (Ty.int .i64)) [qe2 (nL [qa1 (Ty.list (Ty.int .i64)) [l] (0:Nat)] (0:Nat))] (0:Nat))) (0:Nat)))) < (0:Int))=true->∃ (v4:Unit),∃ (v5 : Nat × List Int),w60 (qe2 (nL [l] (0:Nat))) (Prod.fst v5) (Prod.snd v5)/\((some (0:Nat)=some (0:Nat)/\(0:Int)=(↑(Prod.fst v5):Int)/\True)/\(List.set [l] (0:Nat) (qa1 (Ty.list (Ty.int .i64)) [qe2 (nL [qa1 (Ty.list (Ty.int .i64)) [l] (0:Nat)] (0:Nat))] (0:Nat))=[Prod.snd v5]/\True/\T=T)/\True)/\∀ (v6 : Nat × List Int),w60 (qe2 (nL [l] (0:Nat))) (Prod.fst v6) (Prod.snd v6)->(decide ((↑(Prod.fst v6):Int) < (↑(List.length (qa1 (Ty.list (Ty.int .i64)) (List.set [l] (0:Nat) (qa1 (Ty.list (Ty.int .i64)) [qe2 (nL [qa1 (Ty.list (Ty.int .i64)) [l] (0:Nat)] (0:Nat))] (0:Nat))) (0:Nat))):Int))=true->((0:Int) <= (↑(Prod.fst v6):Int)/\(↑(Prod.fst v6):Int) < (↑(List.length (qa1 (Ty.list (Ty.int .i64)) [Prod.snd v6] (0:Nat))):Int))/\Int.toNat (↑(Prod.fst v6):Int) < List.length (qa1 (Ty.list (Ty.int .i64)) [Prod.snd v6] (0:Nat))/\fits .i64 ((0:Int) - qa1 (Ty.int .i64) (qa1 (Ty.list (Ty.int .i64)) [Prod.snd v6] (0:Nat)) (Int.toNat (↑(Prod.fst v6):Int)))/\((0:Int) <= (↑(Prod.fst v6):Int)/\(↑(Prod.fst v6):Int) < (↑(List.length (qa1 (Ty.list (Ty.int .i64)) [Prod.snd v6] (0:Nat))):Int))/\Int.toNat (↑(Prod.fst v6):Int) < List.length (qa1 (Ty.list (Ty.int .i64)) [Prod.snd v6] (0:Nat))/\fits .i64 ((↑(Prod.fst v6):Int) + (1:Int))/\∃ (v9 : Nat × List Int),w60 (qe2 (nL [l] (0:Nat))) (Prod.fst v9) (Prod.snd v9)/\List.length (qe2 (nL [l] (0:Nat))) - Prod.fst v9 < List.length (qe2 (nL [l] (0:Nat))) - Prod.fst v6/\(some (0:Nat)=some (0:Nat)/\(↑(Prod.fst v6):Int) + (1:Int)=(↑(Prod.fst v9):Int)/\True)/\(List.set [Prod.snd v6] (0:Nat) (List.set (qa1 (Ty.list (Ty.int .i64)) [Prod.snd v6] (0:Nat)) (Int.toNat (↑(Prod.fst v6):Int)) ((0:Int) - qa1 (Ty.int .i64) (qa1 (Ty.list (Ty.int .i64)) [Prod.snd v6] (0:Nat)) (Int.toNat (↑(Prod.fst v6):Int))))=[Prod.snd v9]/\True/\T=T)/\True)/\(decide ((↑(Prod.fst v6):Int) < (↑(List.length (qa1 (Ty.list (Ty.int .i64)) (List.set [l] (0:Nat) (qa1 (Ty.list (Ty.int .i64)) [qe2 (nL [qa1 (Ty.list (Ty.int .i64)) [l] (0:Nat)] (0:Nat))] (0:Nat))) (0:Nat))):Int))=false->[Prod.snd v6]=[q6x (nL [l] (0:Nat))]/\T=T/\True/\(0:Nat)=(0:Nat)))/\(decide (qa1 (Ty.int .i64) (qa1 (Ty.list (Ty.int .i64)) (List.set [l] (0:Nat) (qa1 (Ty.list (Ty.int .i64)) [qe2 (nL [qa1 (Ty.list (Ty.int .i64)) [l] (0:Nat)] (0:Nat))] (0:Nat))) (0:Nat)) (Int.toNat (ixT (Ty.int .i64) (fun (v4:Int) => v1 (v4,())) (qa1 (Ty.list (Ty.int .i64)) (List.set [l] (0:Nat) (qa1 (Ty.list (Ty.int .i64)) [qe2 (nL [qa1 (Ty.list (Ty.int .i64)) [l] (0:Nat)] (0:Nat))] (0:Nat))) (0:Nat)))) < (0:Int))=false->List.set [l] (0:Nat) (qa1 (Ty.list (Ty.int .i64)) [qe2 (nL [qa1 (Ty.list (Ty.int .i64)) [l] (0:Nat)] (0:Nat))] (0:Nat))=[q6x (nL [l] (0:Nat))]/\T=T/\True/\(0:Nat)=(0:Nat)))/\(decide ((0:Int) <= ixT (Ty.int .i64) (fun (v3:Int) => v1 (v3,())) (qa1 (Ty.list (Ty.int .i64)) (List.set [l] (0:Nat) (qa1 (Ty.list (Ty.int .i64)) [qe2 (nL [qa1 (Ty.list (Ty.int .i64)) [l] (0:Nat)] (0:Nat))] (0:Nat))) (0:Nat)))=false->List.set [l] (0:Nat) (qa1 (Ty.list (Ty.int .i64)) [qe2 (nL [qa1 (Ty.list (Ty.int .i64)) [l] (0:Nat)] (0:Nat))] (0:Nat))=[q6x (nL [l] (0:Nat))]/\T=T/\True/\(0:Nat)=(0:Nat))) (by kernel_rfl) ?_
  try simp only [z0,z1,z2,z3,z4,z5,z6,z7,z8,z9,z10,Int.reduceEq,z11,z12,z13,z14,z15,z16,z17,z18,z19,z20,z21,z22,z23,z24,z25,z26,z27,z28,z29,z30,Int.reduceLE,Int.reduceLT,z31,z32,z33,z34,qa3]
  try simp only [qb4, qb5, qc9, List.set_cons_zero, List.cons.injEq, and_true, true_and]
  have hs := q7p h
  have hl := hs.1
  refine ⟨h, fun _ => True, fun x => x.1 != 0, fun _ _ => rfl, ⟨by omega, fun _ _ => trivial⟩, fun h1 => ?_, fun h1 => ?_⟩
  · have h1 : 0 <= qz4 (qe2 l) := by first | exact of_decide_eq_true h1 | exact h1
    have h2 : qz4 (qe2 l) < (qe2 l).length := (w75 (.int .i64) _ _).1
    refine ⟨⟨h1, h2⟩, by show (qz4 (qe2 l)).toNat < _; omega, fun h3 => ?_, fun h3 => ?_⟩
    · have h3 : nI (qe2 l) (qz4 (qe2 l)).toNat < 0 := by first | exact of_decide_eq_true h3 | exact h3
      have hp : q6x l = w78 (qe2 l) := by unfold q6x; rw [if_pos ⟨h1, h3⟩]
      refine ⟨(), (0, qe2 l), ⟨Nat.zero_le _, (qq8 (.int .i64) _ _).symm⟩, ⟨rfl, rfl⟩, ?_⟩
      rintro ⟨i, r⟩ ⟨k1, k2⟩
      dsimp only at k1 k2 ⊢
      have hrl : r.length = (qe2 l).length := by rw [k2]; exact qo5 (.int .i64) _ _ _
      refine ⟨fun hlt => ?_, fun hge => ?_⟩
      · have hv : nI r i = nI (qe2 l) i := by
          rw [k2]
          exact (q2n (.int .i64) _ _ _ _ hlt).trans (if_neg (Nat.lt_irrefl _))
        have hb := q1i hs hlt
        unfold qh4 BIG at hb
        rw [hv]
        refine ⟨by omega, by omega, qa8 (by omega) (by omega), by omega, by omega, qa8 (by omega) (by omega), (i + 1, r.set i (0 - nI (qe2 l) i)), ⟨by dsimp only; omega, ?_⟩, by dsimp only; omega, by dsimp only; omega, rfl⟩
        dsimp only
        rw [k2]
        exact qp2 (.int .i64) (fun q => 0 - nI (qe2 l) q) (qe2 l) i
      · rw [hp, k2]
        exact qw8 (.int .i64) _ _ _ (by omega)
    · have h3 : ¬ nI (qe2 l) (qz4 (qe2 l)).toNat < 0 := by first | exact of_decide_eq_false h3 | exact h3 | exact Int.not_lt.2 h3
      unfold q6x; rw [if_neg fun q => h3 q.2]
  · have h1 : ¬ 0 <= qz4 (qe2 l) := by first | exact of_decide_eq_false h1 | exact h1 | exact Int.not_le.2 h1
    unfold q6x; rw [if_neg fun q => h1 q.1]
end Go.Proofs.Ytdibdlelmkcccaa
