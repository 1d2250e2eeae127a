/- The reference's arithmetic of rows: contracts by the engine. No condition. -/
import Derived.Test.YtdibdlelmkcccaaV14
set_option linter.unusedVariables false
set_option linter.unusedSimpArgs false
namespace Go.Proofs.Ytdibdlelmkcccaa
open Go Go.RowKit Eng
theorem w31 (a b : Int) : qf4 b (a.tmod b) = qf4 a b := by
  unfold qf4
  show ((Nat.gcd b.natAbs (a.tmod b).natAbs : Nat) : Int) = (Nat.gcd a.natAbs b.natAbs : Nat)
  rw [Int.natAbs_tmod, Nat.gcd_comm b.natAbs, <- Nat.gcd_rec, Nat.gcd_comm]
def xr0 (a b : Int) : Nat -> Option Inv
  | 0 => some (Inv.of [0, 1] 0 (fun s : Int × Int => [(0, .lit (.int .i64 s.1)), (1, .lit (.int .i64 s.2))]) (fun _ => []) (fun s => qh4 BIG s.1 /\ qh4 BIG s.2 /\ qf4 s.1 s.2 = qf4 a b) (fun s => s.2.natAbs))
  | _ => none
theorem q7r : qd6 Try.prog 136 wq4 := by
  refine meets (snd (SpecsOk.nil _)) Try.func136 rfl rfl (fun x => xr0 x.1 x.2.1) (fun _ => by kernel_rfl) (by decide) ?_
  rintro ⟨a, b, ⟨⟩⟩ h
  revert a b
  intro (a : Int) (b : Int) (h : (-BIG <= a /\ a <= BIG) /\ -BIG <= b /\ b <= BIG)
  refine qd7 (B := ∃ (v0:Unit),∃ (v1 : Int × Int),(qh4 BIG (Prod.fst v1)/\qh4 BIG (Prod.snd v1)/\qf4 (Prod.fst v1) (Prod.snd v1)=qf4 a b)/\((a=Prod.fst v1/\b=Prod.snd v1/\True)/\True)/\∀ (v2 : Int × Int),qh4 BIG (Prod.fst v2)/\qh4 BIG (Prod.snd v2)/\qf4 (Prod.fst v2) (Prod.snd v2)=qf4 a b->((Prod.snd v2 != (0:Int))=true->Prod.snd v2 ≠ (0:Int)/\∃ (v5 : Int × Int),(qh4 BIG (Prod.fst v5)/\qh4 BIG (Prod.snd v5)/\qf4 (Prod.fst v5) (Prod.snd v5)=qf4 a b)/\Int.natAbs (Prod.snd v5) < Int.natAbs (Prod.snd v2)/\(Prod.snd v2=Prod.fst v5/\Int.tmod (Prod.fst v2) (Prod.snd v2)=Prod.snd v5/\True)/\True)/\((Prod.snd v2 != (0:Int))=false->fits .i64 ((0:Int) - Prod.fst v2)/\max2 true (Prod.fst v2) ((0:Int) - Prod.fst v2)=qf4 a b)) (by kernel_rfl) ?_
  try simp only [z0,z1,z2,z3,z4,z5,z6,z7,z8,z9,z10,Int.reduceEq,z11,z12,z13,z14,z15,z16,z17,z18,z19,z20,z21,z22,z23,z24,z25,z26,z27,z28,z29,z30,Int.reduceLE,Int.reduceLT,z31,z32,z33,z34,qa3]
  try simp only [qb4, qb5, qc9, List.set_cons_zero, List.cons.injEq, and_true, true_and]
  refine ⟨(), (a, b), ⟨h.1, h.2, rfl⟩, ⟨rfl, rfl⟩, ?_⟩
  rintro ⟨x, y⟩ ⟨h1, h2, h3⟩
  dsimp only at h1 h2 h3 ⊢
  have hB : BIG = 4000000000000000000 := rfl
  refine ⟨fun hy => ⟨hy, (y, x.tmod y), ⟨h2, ?_, (w31 x y).trans h3⟩, ?_, rfl, rfl⟩, fun hy => ?_⟩
  · have : (x.tmod y).natAbs <= x.natAbs := by rw [Int.natAbs_tmod]; exact Nat.mod_le _ _
    unfold qh4 at h1 ⊢
    dsimp only
    omega
  · dsimp only
    rw [Int.natAbs_tmod]
    exact Nat.mod_lt _ (by omega)
  · subst hy
    unfold qh4 at h1
    refine ⟨qa8 (by omega) (by omega), ?_⟩
    rw [<- h3]
    show max x (0 - x) = ((Int.gcd x 0 : Nat) : Int)
    rw [Int.gcd_zero_right]
    omega
def qj1 (l : List Int) : List Int := l.map fun n => n.tdiv (max (gcdL l) 1)
abbrev xh6 : qc7 := qg2 true (some 3) [qe1] [qe1] (fun x => q5l x.1) (fun x => (qj1 x.1, ()))
def w9v (l : List Int) : Nat -> Option Inv
  | 0 => some (Inv.of [3, 11] 0 (fun k : Nat => [(3, .lit (.int .i64 (gcdL (l.take k)))), (11, .lit (.int .i64 k))]) (fun _ => []) (fun k => k <= l.length) (fun k => l.length - k))
  | 1 => some (Inv.of [6, 21] 1 (fun k : Nat => [(6, .own 0), (21, .lit (.int .i64 k))]) (fun k => [.vec 3 (.int .i64) ((qj1 l).take k)]) (fun k => k <= l.length) (fun k => l.length - k))
  | _ => none
theorem q52 : qd6 Try.prog 152 xh6 := by
  refine meets (snd (SpecsOk.cons q7r (SpecsOk.nil _))) Try.func152 rfl rfl (fun x => w9v x.1) (fun _ => by kernel_rfl) (by decide) ?_
  rintro ⟨l, ⟨⟩⟩ h
  revert l
  intro (l : List Int) (h : q5l l)
  refine qd7 (B := ∃ (v0:Unit),∃ (v1:Nat),Nat.le v1 (List.length l)/\(((0:Int)=gcdL (List.take v1 l)/\(0:Int)=(↑v1:Int)/\True)/\True)/\∀ (v2:Nat),Nat.le v2 (List.length l)->(decide ((↑v2:Int) < (↑(List.length l):Int))=true->((0:Int) <= (↑v2:Int)/\(↑v2:Int) < (↑(List.length l):Int))/\(((-4000000000000000000:Int) <= gcdL (List.take v2 l)/\gcdL (List.take v2 l) <= BIG)/\(-4000000000000000000:Int) <= qa1 (Ty.int .i64) l (Int.toNat (↑v2:Int))/\qa1 (Ty.int .i64) l (Int.toNat (↑v2:Int)) <= BIG)/\fits .i64 ((↑v2:Int) + (1:Int))/\∃ (v5:Nat),Nat.le v5 (List.length l)/\List.length l - v5 < List.length l - v2/\(qf4 (gcdL (List.take v2 l)) (qa1 (Ty.int .i64) l (Int.toNat (↑v2:Int)))=gcdL (List.take v5 l)/\(↑v2:Int) + (1:Int)=(↑v5:Int)/\True)/\True)/\(decide ((↑v2:Int) < (↑(List.length l):Int))=false->∃ (v5:Unit),∃ (v6:Nat),Nat.le v6 (List.length l)/\((True/\(0:Int)=(↑v6:Int)/\True)/\List.take v6 (qj1 l)=[]/\True)/\∀ (v7:Nat),Nat.le v7 (List.length l)->(decide ((↑v7:Int) < (↑(List.length l):Int))=true->((0:Int) <= (↑v7:Int)/\(↑v7:Int) < (↑(List.length l):Int))/\max2 true (gcdL (List.take v2 l)) (1:Int) ≠ (0:Int)/\fits .i64 (Int.tdiv (qa1 (Ty.int .i64) l (Int.toNat (↑v7:Int))) (max2 true (gcdL (List.take v2 l)) (1:Int)))/\((0:Nat) < List.length [Int.tdiv (qa1 (Ty.int .i64) l (Int.toNat (↑v7:Int))) (max2 true (gcdL (List.take v2 l)) (1:Int))]/\Nat.le (List.length (List.take v7 (qj1 l)) + List.length [Int.tdiv (qa1 (Ty.int .i64) l (Int.toNat (↑v7:Int))) (max2 true (gcdL (List.take v2 l)) (1:Int))]) (1000000:Nat))/\fits .i64 ((↑v7:Int) + (1:Int))/\∃ (v10:Nat),Nat.le v10 (List.length l)/\List.length l - v10 < List.length l - v7/\(True/\(↑v7:Int) + (1:Int)=(↑v10:Int)/\True)/\List.take v7 (qj1 l) ++ [Int.tdiv (qa1 (Ty.int .i64) l (Int.toNat (↑v7:Int))) (max2 true (gcdL (List.take v2 l)) (1:Int))]=List.take v10 (qj1 l)/\True)/\(decide ((↑v7:Int) < (↑(List.length l):Int))=false->List.take v7 (qj1 l)=qj1 l))) (by kernel_rfl) ?_
  try simp only [z0,z1,z2,z3,z4,z5,z6,z7,z8,z9,z10,Int.reduceEq,z11,z12,z13,z14,z15,z16,z17,z18,z19,z20,z21,z22,z23,z24,z25,z26,z27,z28,z29,z30,Int.reduceLE,Int.reduceLT,z31,z32,z33,z34,qa3]
  try simp only [qb4, qb5, qc9, List.set_cons_zero, List.cons.injEq, and_true, true_and]
  have hlen := h.1
  have hpl : (qj1 l).length = l.length := by simp [qj1]
  refine ⟨(), 0, Nat.zero_le _, ⟨rfl, rfl⟩, fun k hk => ⟨fun hlt => ?_, fun hge => ?_⟩⟩
  · have h1 := wi4 h k hk
    have h2 := q1i h hlt
    unfold BIG at h1
    exact ⟨hlt, ⟨⟨by omega, by unfold BIG; omega⟩, h2⟩, qa8 (by omega) (by omega), k + 1, by omega, by omega, (q5m l k hlt).symm, by omega⟩
  · obtain rfl : k = l.length := by omega
    rw [List.take_length]
    refine ⟨(), 0, Nat.zero_le _, ⟨rfl, rfl⟩, fun i hi => ⟨fun hlt => ?_, fun hge => ?_⟩⟩
    · have h2 := q1i h hlt
      have h3 := ql0 (g := max (gcdL l) 1) h2
      unfold BIG at h3
      refine ⟨hlt, by show ¬ max (gcdL l) 1 = 0; omega, qa8 (by show -9223372036854775808 <= (nI l i).tdiv (max (gcdL l) 1); omega) (by show (nI l i).tdiv (max (gcdL l) 1) <= 9223372036854775807; omega), by rw [List.length_take]; omega, qa8 (by omega) (by omega), i + 1, by omega, by omega, by omega, ?_⟩
      rw [q5r _ i (by omega), qi1 (qj1 l) i (by omega), qi1 l i hlt]
      simp [qj1]
      rfl
    · rw [List.take_of_length_le (by omega)]
def qi8 (l : List Int) (n : Int) : List Int := l.map fun k => k * n
structure w65 (l : List Int) (n : Int) : Prop where
  len : l.length <= 1000
  big : ∀ i, i < l.length -> qh4 BIG (nI l i * n)
abbrev x01 : qc7 := qg2 true none [qe1, qf9] [qe1] (fun x => w65 x.1 x.2.1) (fun x => (qi8 x.1 x.2.1, ()))
def xr1 (l : List Int) (n : Int) : Nat -> Option Inv
  | 0 => some (Inv.of [5, 10] 1 (fun k : Nat => [(5, .own 0), (10, .lit (.int .i64 k))]) (fun k => [.vec 3 (.int .i64) ((qi8 l n).take k)]) (fun k => k <= l.length) (fun k => l.length - k))
  | _ => none
theorem w33 : qd6 Try.prog 129 x01 := by
  refine meets (snd (SpecsOk.nil _)) Try.func129 rfl rfl (fun x => xr1 x.1 x.2.1) (fun _ => by kernel_rfl) (by decide) ?_
  rintro ⟨l, n, ⟨⟩⟩ h
  revert l n
  intro (l : List Int) (n : Int) (h : w65 l n)
  refine qd7 (B := ∃ (v0:Unit),∃ (v1:Nat),Nat.le v1 (List.length l)/\((True/\(0:Int)=(↑v1:Int)/\True)/\List.take v1 (qi8 l n)=[]/\True)/\∀ (v2:Nat),Nat.le v2 (List.length l)->(decide ((↑v2:Int) < (↑(List.length l):Int))=true->((0:Int) <= (↑v2:Int)/\(↑v2:Int) < (↑(List.length l):Int))/\fits .i64 (qa1 (Ty.int .i64) l (Int.toNat (↑v2:Int)) * n)/\((0:Nat) < List.length [qa1 (Ty.int .i64) l (Int.toNat (↑v2:Int)) * n]/\Nat.le (List.length (List.take v2 (qi8 l n)) + List.length [qa1 (Ty.int .i64) l (Int.toNat (↑v2:Int)) * n]) (1000000:Nat))/\fits .i64 ((↑v2:Int) + (1:Int))/\∃ (v5:Nat),Nat.le v5 (List.length l)/\List.length l - v5 < List.length l - v2/\(True/\(↑v2:Int) + (1:Int)=(↑v5:Int)/\True)/\List.take v2 (qi8 l n) ++ [qa1 (Ty.int .i64) l (Int.toNat (↑v2:Int)) * n]=List.take v5 (qi8 l n)/\True)/\(decide ((↑v2:Int) < (↑(List.length l):Int))=false->List.take v2 (qi8 l n)=qi8 l n)) (by kernel_rfl) ?_
  try simp only [z0,z1,z2,z3,z4,z5,z6,z7,z8,z9,z10,Int.reduceEq,z11,z12,z13,z14,z15,z16,z17,z18,z19,z20,z21,z22,z23,z24,z25,z26,z27,z28,z29,z30,Int.reduceLE,Int.reduceLT,z31,z32,z33,z34,qa3]
  try simp only [qb4, qb5, qc9, List.set_cons_zero, List.cons.injEq, and_true, true_and]
  have hlen := h.len
  have hpl : (qi8 l n).length = l.length := by simp [qi8]
  refine ⟨(), 0, Nat.zero_le _, ⟨rfl, rfl⟩, fun i hi => ⟨fun hlt => ?_, fun hge => ?_⟩⟩
  · have h3 := h.big i hlt
    unfold qh4 BIG at h3
    refine ⟨hlt, qa8 (by omega) (by omega), by rw [List.length_take]; omega, qa8 (by omega) (by omega), i + 1, by omega, by omega, by omega, ?_⟩
    rw [q5r _ i (by omega), qi1 (qi8 l n) i (by omega), qi1 l i hlt]
    simp [qi8]
  · rw [List.take_of_length_le (by omega)]
def qx2 (r p : List Int) (j : Nat) : List Int := (List.range r.length).map fun k => nI r k * nI p j - nI p k * nI r j
def qd8 (r p : List Int) (j : Nat) : List Int := qj1 (qx2 r p j)
structure w66 (r p : List Int) (j : Nat) : Prop where
  len : r.length <= 1000
  eq : p.length = r.length
  lt : j < r.length
  b1 : ∀ k, k < r.length -> qh4 BIG (nI r k * nI p j)
  b2 : ∀ k, k < r.length -> qh4 BIG (nI p k * nI r j)
  b3 : ∀ k, k < r.length -> qh4 BIG (nI r k * nI p j - nI p k * nI r j)
abbrev sWo : qc7 := qg2 true none [qe1, qe1, qf9] [qe1] (fun x => 0 <= x.2.2.1 /\ w66 x.1 x.2.1 x.2.2.1.toNat) (fun x => (qd8 x.1 x.2.1 x.2.2.1.toNat, ()))
def x02 (r p : List Int) (j : Nat) : Nat -> Option Inv
  | 0 => some (Inv.of [7, 11] 1 (fun k : Nat => [(7, .own 0), (11, .lit (.int .i64 k))]) (fun k => [.vec 3 (.int .i64) ((qx2 r p j).take k)]) (fun k => k <= r.length) (fun k => r.length - k))
  | _ => none
theorem w67 : qd6 Try.prog 158 sWo := by
  refine meets (snd (SpecsOk.cons q52 (SpecsOk.nil _))) Try.func158 rfl rfl (fun x => x02 x.1 x.2.1 x.2.2.1.toNat) (fun _ => by kernel_rfl) (by decide) ?_
  rintro ⟨r, p, j, ⟨⟩⟩ h
  revert r p j
  intro (r : List Int) (p : List Int) (j : Int) (h : 0 <= j /\ w66 r p j.toNat)
  refine qd7 (B := ∃ (v0:Unit),∃ (v1:Nat),Nat.le v1 (List.length r)/\((True/\(0:Int)=(↑v1:Int)/\True)/\List.take v1 (qx2 r p (Int.toNat j))=[]/\True)/\∀ (v2:Nat),Nat.le v2 (List.length r)->(decide ((↑v2:Int) < (↑(List.length r):Int))=true->((0:Int) <= (↑v2:Int)/\(↑v2:Int) < (↑(List.length r):Int))/\((0:Int) <= j/\j < (↑(List.length p):Int))/\fits .i64 (qa1 (Ty.int .i64) r (Int.toNat (↑v2:Int)) * qa1 (Ty.int .i64) p (Int.toNat j))/\((0:Int) <= (↑v2:Int)/\(↑v2:Int) < (↑(List.length p):Int))/\((0:Int) <= j/\j < (↑(List.length r):Int))/\fits .i64 (qa1 (Ty.int .i64) p (Int.toNat (↑v2:Int)) * qa1 (Ty.int .i64) r (Int.toNat j))/\fits .i64 (qa1 (Ty.int .i64) r (Int.toNat (↑v2:Int)) * qa1 (Ty.int .i64) p (Int.toNat j) - qa1 (Ty.int .i64) p (Int.toNat (↑v2:Int)) * qa1 (Ty.int .i64) r (Int.toNat j))/\((0:Nat) < List.length [qa1 (Ty.int .i64) r (Int.toNat (↑v2:Int)) * qa1 (Ty.int .i64) p (Int.toNat j) - qa1 (Ty.int .i64) p (Int.toNat (↑v2:Int)) * qa1 (Ty.int .i64) r (Int.toNat j)]/\Nat.le (List.length (List.take v2 (qx2 r p (Int.toNat j))) + List.length [qa1 (Ty.int .i64) r (Int.toNat (↑v2:Int)) * qa1 (Ty.int .i64) p (Int.toNat j) - qa1 (Ty.int .i64) p (Int.toNat (↑v2:Int)) * qa1 (Ty.int .i64) r (Int.toNat j)]) (1000000:Nat))/\fits .i64 ((↑v2:Int) + (1:Int))/\∃ (v5:Nat),Nat.le v5 (List.length r)/\List.length r - v5 < List.length r - v2/\(True/\(↑v2:Int) + (1:Int)=(↑v5:Int)/\True)/\List.take v2 (qx2 r p (Int.toNat j)) ++ [qa1 (Ty.int .i64) r (Int.toNat (↑v2:Int)) * qa1 (Ty.int .i64) p (Int.toNat j) - qa1 (Ty.int .i64) p (Int.toNat (↑v2:Int)) * qa1 (Ty.int .i64) r (Int.toNat j)]=List.take v5 (qx2 r p (Int.toNat j))/\True)/\(decide ((↑v2:Int) < (↑(List.length r):Int))=false->q5l (List.take v2 (qx2 r p (Int.toNat j)))/\qj1 (List.take v2 (qx2 r p (Int.toNat j)))=qd8 r p (Int.toNat j))) (by kernel_rfl) ?_
  try simp only [z0,z1,z2,z3,z4,z5,z6,z7,z8,z9,z10,Int.reduceEq,z11,z12,z13,z14,z15,z16,z17,z18,z19,z20,z21,z22,z23,z24,z25,z26,z27,z28,z29,z30,Int.reduceLE,Int.reduceLT,z31,z32,z33,z34,qa3]
  try simp only [qb4, qb5, qc9, List.set_cons_zero, List.cons.injEq, and_true, true_and]
  obtain ⟨hj, h⟩ := h
  have hlen := h.len
  have heq := h.eq
  have hlt' := h.lt
  have hpl : (qx2 r p j.toNat).length = r.length := by simp [qx2]
  have hpk : 0 <= j /\ j < (p.length : Int) := ⟨hj, by omega⟩
  have hrk : 0 <= j /\ j < (r.length : Int) := ⟨hj, by omega⟩
  have hat : ∀ k, k < r.length -> nI (qx2 r p j.toNat) k = nI r k * nI p j.toNat - nI p k * nI r j.toNat := fun k hk => by
    rw [qi1 _ k (by omega)]; simp [qx2]
  refine ⟨(), 0, Nat.zero_le _, ⟨rfl, rfl⟩, fun i hi => ⟨fun hlt => ?_, fun hge => ?_⟩⟩
  · have h1 := h.b1 i hlt
    have h2 := h.b2 i hlt
    have h3 := h.b3 i hlt
    unfold qh4 BIG at h1 h2 h3
    refine ⟨hlt, hpk, qa8 (by omega) (by omega), by omega, hrk, qa8 (by omega) (by omega), qa8 (by omega) (by omega), by rw [List.length_take]; omega, qa8 (by omega) (by omega), i + 1, by omega, by omega, by omega, ?_⟩
    rw [q5r _ i (by omega), hat i hlt]
  · rw [List.take_of_length_le (by omega)]
    refine ⟨⟨by omega, fun x hx => ?_⟩, rfl⟩
    obtain ⟨k, hk, rfl⟩ := List.getElem_of_mem hx
    rw [<- qi1 _ k hk, hat k (by omega)]
    exact h.b3 k (by omega)
def q9r (n d : Int) : Int × Int := (n.tdiv (qf4 n d), d.tdiv (qf4 n d))
abbrev xv4 : qc7 := qg2 true none [qf9, qf9] [q6q] (fun x => (-BIG <= x.1 /\ x.1 <= BIG) /\ (-BIG <= x.2.1 /\ x.2.1 <= BIG) /\ x.2.1 ≠ 0) (fun x => (q9r x.1 x.2.1, ()))
theorem w34 : qd6 Try.prog 146 xv4 := by
  refine meets (snd (SpecsOk.cons q7r (SpecsOk.nil _))) Try.func146 rfl rfl (fun _ _ => none) (fun _ => by kernel_rfl) (by decide) ?_
  rintro ⟨n, d, ⟨⟩⟩ h
  revert n d
  intro (n : Int) (d : Int) (h : (-BIG <= n /\ n <= BIG) /\ (-BIG <= d /\ d <= BIG) /\ d ≠ 0)
  refine qd7 (B := (((-4000000000000000000:Int) <= n/\n <= BIG)/\(-4000000000000000000:Int) <= d/\d <= BIG)/\qf4 n d ≠ (0:Int)/\fits .i64 (Int.tdiv n (qf4 n d))/\qf4 n d ≠ (0:Int)/\fits .i64 (Int.tdiv d (qf4 n d))/\Int.tdiv n (qf4 n d)=Prod.fst (q9r n d)/\Int.tdiv d (qf4 n d)=Prod.snd (q9r n d)/\True) (by kernel_rfl) ?_
  try simp only [z0,z1,z2,z3,z4,z5,z6,z7,z8,z9,z10,Int.reduceEq,z11,z12,z13,z14,z15,z16,z17,z18,z19,z20,z21,z22,z23,z24,z25,z26,z27,z28,z29,z30,Int.reduceLE,Int.reduceLT,z31,z32,z33,z34,qa3]
  try simp only [qb4, qb5, qc9, List.set_cons_zero, List.cons.injEq, and_true, true_and]
  obtain ⟨h1, h2, h3⟩ := h
  have hg := qq9 (a := n) (b := d) (.inr h3)
  have k1 := ql0 (g := qf4 n d) h1
  have k2 := ql0 (g := qf4 n d) h2
  have hB : BIG = 4000000000000000000 := rfl
  exact ⟨⟨h1, h2⟩, by omega, qa8 (by omega) (by omega), by omega, qa8 (by omega) (by omega), rfl, rfl⟩
end Go.Proofs.Ytdibdlelmkcccaa
