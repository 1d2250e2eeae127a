/- The reference's arithmetic of rows: contracts by the engine. No condition. -/
import Derived.Test.YtdibdlelmkcccaaV14
set_option linter.unusedVariables false
set_option linter.unusedSimpArgs false
namespace Go.Proofs.Ytdibdlelmkcccaa
open Go Go.RowKit Eng
theorem q3w (a b : Int) : gcdI b (a.tmod b) = gcdI a b := by
  unfold gcdI
  show ((Nat.gcd b.natAbs (a.tmod b).natAbs : Nat) : Int) = (Nat.gcd a.natAbs b.natAbs : Nat)
  rw [Int.natAbs_tmod, Nat.gcd_comm b.natAbs, ← Nat.gcd_rec, Nat.gcd_comm]
def ivDiv (a b : Int) : Nat → Option Inv
  | 0 => some (Inv.of [0, 1] 0 (fun s : Int × Int => [(0, .lit (.int .i64 s.1)), (1, .lit (.int .i64 s.2))]) (fun _ => []) (fun s => qd1 BIG s.1 ∧ qd1 BIG s.2 ∧ gcdI s.1 s.2 = gcdI a b) (fun s => s.2.natAbs))
  | _ => none
theorem qt7 : Meets Try.prog 136 q03 := by
  refine meets (snd (SpecsOk.nil _)) Try.func136 rfl rfl (fun x => ivDiv x.1 x.2.1) (fun _ => by kernel_rfl) (by decide) ?_
  rintro ⟨a, b, ⟨⟩⟩ h
  revert a b
  intro (a : Int) (b : Int) (h : (-BIG ≤ a ∧ a ≤ BIG) ∧ -BIG ≤ b ∧ b ≤ BIG)
  refine by_vc (B := ∃ (v0 : Unit), ∃ (v1 : Int × Int), (qd1 BIG (Prod.fst v1)/\qd1 BIG (Prod.snd v1)/\gcdI (Prod.fst v1) (Prod.snd v1) = gcdI a b)/\((a = Prod.fst v1/\b = Prod.snd v1/\True)/\True)/\∀ (v2 : Int × Int), qd1 BIG (Prod.fst v2)/\qd1 BIG (Prod.snd v2)/\gcdI (Prod.fst v2) (Prod.snd v2) = gcdI a b->((Prod.snd v2 != (0 : Int)) = true->Prod.snd v2 ≠ (0 : Int)/\∃ (v5 : Int × Int), (qd1 BIG (Prod.fst v5)/\qd1 BIG (Prod.snd v5)/\gcdI (Prod.fst v5) (Prod.snd v5) = gcdI a b)/\Int.natAbs (Prod.snd v5) < Int.natAbs (Prod.snd v2)/\(Prod.snd v2 = Prod.fst v5/\Int.tmod (Prod.fst v2) (Prod.snd v2) = Prod.snd v5/\True)/\True)/\((Prod.snd v2 != (0 : Int)) = false->fits .i64 ((0 : Int) - Prod.fst v2)/\max2 true (Prod.fst v2) ((0 : Int) - Prod.fst v2) = gcdI a b)) (by kernel_rfl) ?_
  try simp only [z0,z1,z2,z3,z4,z5,z6,z7,z8,z9,z10,Int.reduceEq,z11,z12,z13,z14,z15,z16,z17,z18,z19,z20,z21,z22,z23,z24,z25,z26,z27,z28,z29,z30,Int.reduceLE,Int.reduceLT,z31,z32,z33,z34,nilEq_true]
  try simp only [qa4, qa5, qa8, List.set_cons_zero, List.cons.injEq, and_true, true_and]
  refine ⟨(), (a, b), ⟨h.1, h.2, rfl⟩, ⟨rfl, rfl⟩, ?_⟩
  rintro ⟨x, y⟩ ⟨h1, h2, h3⟩
  dsimp only at h1 h2 h3 ⊢
  have hB : BIG = 4000000000000000000 := rfl
  refine ⟨fun hy => ⟨hy, (y, x.tmod y), ⟨h2, ?_, (q3w x y).trans h3⟩, ?_, rfl, rfl⟩, fun hy => ?_⟩
  · have : (x.tmod y).natAbs ≤ x.natAbs := by rw [Int.natAbs_tmod]; exact Nat.mod_le _ _
    unfold qd1 at h1 ⊢
    dsimp only
    omega
  · dsimp only
    rw [Int.natAbs_tmod]
    exact Nat.mod_lt _ (by omega)
  · subst hy
    unfold qd1 at h1
    refine ⟨fits64 (by omega) (by omega), ?_⟩
    rw [← h3]
    show max x (0 - x) = ((Int.gcd x 0 : Nat) : Int)
    rw [Int.gcd_zero_right]
    omega
def qe1 (l : List Int) : List Int := l.map fun n => n.tdiv (max (gcdL l) 1)
abbrev sPrimR : FSpec := tspec true (some 3) [qb8] [qb8] (fun x => bigL x.1) (fun x => (qe1 x.1, ()))
def ivPrimR (l : List Int) : Nat → Option Inv
  | 0 => some (Inv.of [3, 11] 0 (fun k : Nat => [(3, .lit (.int .i64 (gcdL (l.take k)))), (11, .lit (.int .i64 k))]) (fun _ => []) (fun k => k ≤ l.length) (fun k => l.length - k))
  | 1 => some (Inv.of [6, 21] 1 (fun k : Nat => [(6, .own 0), (21, .lit (.int .i64 k))]) (fun k => [.vec 3 (.int .i64) ((qe1 l).take k)]) (fun k => k ≤ l.length) (fun k => l.length - k))
  | _ => none
theorem qq7 : Meets Try.prog 152 sPrimR := by
  refine meets (snd (SpecsOk.cons qt7 (SpecsOk.nil _))) Try.func152 rfl rfl (fun x => ivPrimR x.1) (fun _ => by kernel_rfl) (by decide) ?_
  rintro ⟨l, ⟨⟩⟩ h
  revert l
  intro (l : List Int) (h : bigL l)
  refine by_vc (B := ∃ (v0 : Unit), ∃ (v1 : Nat), Nat.le v1 (List.length l)/\(((0 : Int) = gcdL (List.take v1 l)/\(0 : Int) = (↑v1 : Int)/\True)/\True)/\∀ (v2 : Nat), Nat.le v2 (List.length l)->(decide ((↑v2 : Int) < (↑(List.length l) : Int)) = true->((0 : Int) <= (↑v2 : Int)/\(↑v2 : Int) < (↑(List.length l) : Int))/\(((-4000000000000000000 : Int) <= gcdL (List.take v2 l)/\gcdL (List.take v2 l) <= BIG)/\(-4000000000000000000 : Int) <= nthD (Ty.int .i64) l (Int.toNat (↑v2 : Int))/\nthD (Ty.int .i64) l (Int.toNat (↑v2 : Int)) <= BIG)/\fits .i64 ((↑v2 : Int) + (1 : Int))/\∃ (v5 : Nat), Nat.le v5 (List.length l)/\List.length l - v5 < List.length l - v2/\(gcdI (gcdL (List.take v2 l)) (nthD (Ty.int .i64) l (Int.toNat (↑v2 : Int))) = gcdL (List.take v5 l)/\(↑v2 : Int) + (1 : Int) = (↑v5 : Int)/\True)/\True)/\(decide ((↑v2 : Int) < (↑(List.length l) : Int)) = false->∃ (v5 : Unit), ∃ (v6 : Nat), Nat.le v6 (List.length l)/\((True/\(0 : Int) = (↑v6 : Int)/\True)/\List.take v6 (qe1 l) = []/\True)/\∀ (v7 : Nat), Nat.le v7 (List.length l)->(decide ((↑v7 : Int) < (↑(List.length l) : Int)) = true->((0 : Int) <= (↑v7 : Int)/\(↑v7 : Int) < (↑(List.length l) : Int))/\max2 true (gcdL (List.take v2 l)) (1 : Int) ≠ (0 : Int)/\fits .i64 (Int.tdiv (nthD (Ty.int .i64) l (Int.toNat (↑v7 : Int))) (max2 true (gcdL (List.take v2 l)) (1 : Int)))/\((0 : Nat) < List.length [Int.tdiv (nthD (Ty.int .i64) l (Int.toNat (↑v7 : Int))) (max2 true (gcdL (List.take v2 l)) (1 : Int))]/\Nat.le (List.length (List.take v7 (qe1 l)) + List.length [Int.tdiv (nthD (Ty.int .i64) l (Int.toNat (↑v7 : Int))) (max2 true (gcdL (List.take v2 l)) (1 : Int))]) (1000000 : Nat))/\fits .i64 ((↑v7 : Int) + (1 : Int))/\∃ (v10 : Nat), Nat.le v10 (List.length l)/\List.length l - v10 < List.length l - v7/\(True/\(↑v7 : Int) + (1 : Int) = (↑v10 : Int)/\True)/\List.take v7 (qe1 l) ++ [Int.tdiv (nthD (Ty.int .i64) l (Int.toNat (↑v7 : Int))) (max2 true (gcdL (List.take v2 l)) (1 : Int))] = List.take v10 (qe1 l)/\True)/\(decide ((↑v7 : Int) < (↑(List.length l) : Int)) = false->List.take v7 (qe1 l) = qe1 l))) (by kernel_rfl) ?_
  try simp only [z0,z1,z2,z3,z4,z5,z6,z7,z8,z9,z10,Int.reduceEq,z11,z12,z13,z14,z15,z16,z17,z18,z19,z20,z21,z22,z23,z24,z25,z26,z27,z28,z29,z30,Int.reduceLE,Int.reduceLT,z31,z32,z33,z34,nilEq_true]
  try simp only [qa4, qa5, qa8, List.set_cons_zero, List.cons.injEq, and_true, true_and]
  have hlen := h.1
  have hpl : (qe1 l).length = l.length := by simp [qe1]
  refine ⟨(), 0, Nat.zero_le _, ⟨rfl, rfl⟩, fun k hk => ⟨fun hlt => ?_, fun hge => ?_⟩⟩
  · have h1 := q0b h k hk
    have h2 := qk9 h hlt
    unfold BIG at h1
    exact ⟨hlt, ⟨⟨by omega, by unfold BIG; omega⟩, h2⟩, fits64 (by omega) (by omega), k + 1, by omega, by omega, (qp1 l k hlt).symm, by omega⟩
  · obtain rfl : k = l.length := by omega
    rw [List.take_length]
    refine ⟨(), 0, Nat.zero_le _, ⟨rfl, rfl⟩, fun i hi => ⟨fun hlt => ?_, fun hge => ?_⟩⟩
    · have h2 := qk9 h hlt
      have h3 := qe5 (g := max (gcdL l) 1) h2
      unfold BIG at h3
      refine ⟨hlt, by show ¬ max (gcdL l) 1 = 0; omega, fits64 (by show -9223372036854775808 ≤ (nI l i).tdiv (max (gcdL l) 1); omega) (by show (nI l i).tdiv (max (gcdL l) 1) ≤ 9223372036854775807; omega), by rw [List.length_take]; omega, fits64 (by omega) (by omega), i + 1, by omega, by omega, by omega, ?_⟩
      rw [qp7 _ i (by omega), qd3 (qe1 l) i (by omega), qd3 l i hlt]
      simp [qe1]
      rfl
    · rw [List.take_of_length_le (by omega)]
def qe0 (l : List Int) (n : Int) : List Int := l.map fun k => k * n
structure q5j (l : List Int) (n : Int) : Prop where
  len : l.length ≤ 1000
  big : ∀ i, i < l.length → qd1 BIG (nI l i * n)
abbrev sSca : FSpec := tspec true none [qb8, tInt] [qb8] (fun x => q5j x.1 x.2.1) (fun x => (qe0 x.1 x.2.1, ()))
def ivSca (l : List Int) (n : Int) : Nat → Option Inv
  | 0 => some (Inv.of [5, 10] 1 (fun k : Nat => [(5, .own 0), (10, .lit (.int .i64 k))]) (fun k => [.vec 3 (.int .i64) ((qe0 l n).take k)]) (fun k => k ≤ l.length) (fun k => l.length - k))
  | _ => none
theorem q3x : Meets Try.prog 129 sSca := by
  refine meets (snd (SpecsOk.nil _)) Try.func129 rfl rfl (fun x => ivSca x.1 x.2.1) (fun _ => by kernel_rfl) (by decide) ?_
  rintro ⟨l, n, ⟨⟩⟩ h
  revert l n
  intro (l : List Int) (n : Int) (h : q5j l n)
  refine by_vc (B := ∃ (v0 : Unit), ∃ (v1 : Nat), Nat.le v1 (List.length l)/\((True/\(0 : Int) = (↑v1 : Int)/\True)/\List.take v1 (qe0 l n) = []/\True)/\∀ (v2 : Nat), Nat.le v2 (List.length l)->(decide ((↑v2 : Int) < (↑(List.length l) : Int)) = true->((0 : Int) <= (↑v2 : Int)/\(↑v2 : Int) < (↑(List.length l) : Int))/\fits .i64 (nthD (Ty.int .i64) l (Int.toNat (↑v2 : Int)) * n)/\((0 : Nat) < List.length [nthD (Ty.int .i64) l (Int.toNat (↑v2 : Int)) * n]/\Nat.le (List.length (List.take v2 (qe0 l n)) + List.length [nthD (Ty.int .i64) l (Int.toNat (↑v2 : Int)) * n]) (1000000 : Nat))/\fits .i64 ((↑v2 : Int) + (1 : Int))/\∃ (v5 : Nat), Nat.le v5 (List.length l)/\List.length l - v5 < List.length l - v2/\(True/\(↑v2 : Int) + (1 : Int) = (↑v5 : Int)/\True)/\List.take v2 (qe0 l n) ++ [nthD (Ty.int .i64) l (Int.toNat (↑v2 : Int)) * n] = List.take v5 (qe0 l n)/\True)/\(decide ((↑v2 : Int) < (↑(List.length l) : Int)) = false->List.take v2 (qe0 l n) = qe0 l n)) (by kernel_rfl) ?_
  try simp only [z0,z1,z2,z3,z4,z5,z6,z7,z8,z9,z10,Int.reduceEq,z11,z12,z13,z14,z15,z16,z17,z18,z19,z20,z21,z22,z23,z24,z25,z26,z27,z28,z29,z30,Int.reduceLE,Int.reduceLT,z31,z32,z33,z34,nilEq_true]
  try simp only [qa4, qa5, qa8, List.set_cons_zero, List.cons.injEq, and_true, true_and]
  have hlen := h.len
  have hpl : (qe0 l n).length = l.length := by simp [qe0]
  refine ⟨(), 0, Nat.zero_le _, ⟨rfl, rfl⟩, fun i hi => ⟨fun hlt => ?_, fun hge => ?_⟩⟩
  · have h3 := h.big i hlt
    unfold qd1 BIG at h3
    refine ⟨hlt, fits64 (by omega) (by omega), by rw [List.length_take]; omega, fits64 (by omega) (by omega), i + 1, by omega, by omega, by omega, ?_⟩
    rw [qp7 _ i (by omega), qd3 (qe0 l n) i (by omega), qd3 l i hlt]
    simp [qe0]
  · rw [List.take_of_length_le (by omega)]
def qj1 (r p : List Int) (j : Nat) : List Int := (List.range r.length).map fun k => nI r k * nI p j - nI p k * nI r j
def qb6 (r p : List Int) (j : Nat) : List Int := qe1 (qj1 r p j)
structure WoOk (r p : List Int) (j : Nat) : Prop where
  len : r.length ≤ 1000
  eq : p.length = r.length
  lt : j < r.length
  b1 : ∀ k, k < r.length → qd1 BIG (nI r k * nI p j)
  b2 : ∀ k, k < r.length → qd1 BIG (nI p k * nI r j)
  b3 : ∀ k, k < r.length → qd1 BIG (nI r k * nI p j - nI p k * nI r j)
abbrev sWo : FSpec := tspec true none [qb8, qb8, tInt] [qb8] (fun x => 0 ≤ x.2.2.1 ∧ WoOk x.1 x.2.1 x.2.2.1.toNat) (fun x => (qb6 x.1 x.2.1 x.2.2.1.toNat, ()))
def ivWo (r p : List Int) (j : Nat) : Nat → Option Inv
  | 0 => some (Inv.of [7, 11] 1 (fun k : Nat => [(7, .own 0), (11, .lit (.int .i64 k))]) (fun k => [.vec 3 (.int .i64) ((qj1 r p j).take k)]) (fun k => k ≤ r.length) (fun k => r.length - k))
  | _ => none
theorem q5k : Meets Try.prog 158 sWo := by
  refine meets (snd (SpecsOk.cons qq7 (SpecsOk.nil _))) Try.func158 rfl rfl (fun x => ivWo x.1 x.2.1 x.2.2.1.toNat) (fun _ => by kernel_rfl) (by decide) ?_
  rintro ⟨r, p, j, ⟨⟩⟩ h
  revert r p j
  intro (r : List Int) (p : List Int) (j : Int) (h : 0 ≤ j ∧ WoOk r p j.toNat)
  refine by_vc (B := ∃ (v0 : Unit), ∃ (v1 : Nat), Nat.le v1 (List.length r)/\((True/\(0 : Int) = (↑v1 : Int)/\True)/\List.take v1 (qj1 r p (Int.toNat j)) = []/\True)/\∀ (v2 : Nat), Nat.le v2 (List.length r)->(decide ((↑v2 : Int) < (↑(List.length r) : Int)) = true->((0 : Int) <= (↑v2 : Int)/\(↑v2 : Int) < (↑(List.length r) : Int))/\((0 : Int) <= j/\j < (↑(List.length p) : Int))/\fits .i64 (nthD (Ty.int .i64) r (Int.toNat (↑v2 : Int)) * nthD (Ty.int .i64) p (Int.toNat j))/\((0 : Int) <= (↑v2 : Int)/\(↑v2 : Int) < (↑(List.length p) : Int))/\((0 : Int) <= j/\j < (↑(List.length r) : Int))/\fits .i64 (nthD (Ty.int .i64) p (Int.toNat (↑v2 : Int)) * nthD (Ty.int .i64) r (Int.toNat j))/\fits .i64 (nthD (Ty.int .i64) r (Int.toNat (↑v2 : Int)) * nthD (Ty.int .i64) p (Int.toNat j) - nthD (Ty.int .i64) p (Int.toNat (↑v2 : Int)) * nthD (Ty.int .i64) r (Int.toNat j))/\((0 : Nat) < List.length [nthD (Ty.int .i64) r (Int.toNat (↑v2 : Int)) * nthD (Ty.int .i64) p (Int.toNat j) - nthD (Ty.int .i64) p (Int.toNat (↑v2 : Int)) * nthD (Ty.int .i64) r (Int.toNat j)]/\Nat.le (List.length (List.take v2 (qj1 r p (Int.toNat j))) + List.length [nthD (Ty.int .i64) r (Int.toNat (↑v2 : Int)) * nthD (Ty.int .i64) p (Int.toNat j) - nthD (Ty.int .i64) p (Int.toNat (↑v2 : Int)) * nthD (Ty.int .i64) r (Int.toNat j)]) (1000000 : Nat))/\fits .i64 ((↑v2 : Int) + (1 : Int))/\∃ (v5 : Nat), Nat.le v5 (List.length r)/\List.length r - v5 < List.length r - v2/\(True/\(↑v2 : Int) + (1 : Int) = (↑v5 : Int)/\True)/\List.take v2 (qj1 r p (Int.toNat j)) ++ [nthD (Ty.int .i64) r (Int.toNat (↑v2 : Int)) * nthD (Ty.int .i64) p (Int.toNat j) - nthD (Ty.int .i64) p (Int.toNat (↑v2 : Int)) * nthD (Ty.int .i64) r (Int.toNat j)] = List.take v5 (qj1 r p (Int.toNat j))/\True)/\(decide ((↑v2 : Int) < (↑(List.length r) : Int)) = false->bigL (List.take v2 (qj1 r p (Int.toNat j)))/\qe1 (List.take v2 (qj1 r p (Int.toNat j))) = qb6 r p (Int.toNat j))) (by kernel_rfl) ?_
  try simp only [z0,z1,z2,z3,z4,z5,z6,z7,z8,z9,z10,Int.reduceEq,z11,z12,z13,z14,z15,z16,z17,z18,z19,z20,z21,z22,z23,z24,z25,z26,z27,z28,z29,z30,Int.reduceLE,Int.reduceLT,z31,z32,z33,z34,nilEq_true]
  try simp only [qa4, qa5, qa8, List.set_cons_zero, List.cons.injEq, and_true, true_and]
  obtain ⟨hj, h⟩ := h
  have hlen := h.len
  have heq := h.eq
  have hlt' := h.lt
  have hpl : (qj1 r p j.toNat).length = r.length := by simp [qj1]
  have hpk : 0 ≤ j ∧ j < (p.length : Int) := ⟨hj, by omega⟩
  have hrk : 0 ≤ j ∧ j < (r.length : Int) := ⟨hj, by omega⟩
  have hat : ∀ k, k < r.length → nI (qj1 r p j.toNat) k = nI r k * nI p j.toNat - nI p k * nI r j.toNat := fun k hk => by
    rw [qd3 _ k (by omega)]; simp [qj1]
  refine ⟨(), 0, Nat.zero_le _, ⟨rfl, rfl⟩, fun i hi => ⟨fun hlt => ?_, fun hge => ?_⟩⟩
  · have h1 := h.b1 i hlt
    have h2 := h.b2 i hlt
    have h3 := h.b3 i hlt
    unfold qd1 BIG at h1 h2 h3
    refine ⟨hlt, hpk, fits64 (by omega) (by omega), by omega, hrk, fits64 (by omega) (by omega), fits64 (by omega) (by omega), by rw [List.length_take]; omega, fits64 (by omega) (by omega), i + 1, by omega, by omega, by omega, ?_⟩
    rw [qp7 _ i (by omega), hat i hlt]
  · rw [List.take_of_length_le (by omega)]
    refine ⟨⟨by omega, fun x hx => ?_⟩, rfl⟩
    obtain ⟨k, hk, rfl⟩ := List.getElem_of_mem hx
    rw [← qd3 _ k hk, hat k (by omega)]
    exact h.b3 k (by omega)
def ratL (n d : Int) : Int × Int := (n.tdiv (gcdI n d), d.tdiv (gcdI n d))
abbrev sRat : FSpec := tspec true none [tInt, tInt] [tRat] (fun x => (-BIG ≤ x.1 ∧ x.1 ≤ BIG) ∧ (-BIG ≤ x.2.1 ∧ x.2.1 ≤ BIG) ∧ x.2.1 ≠ 0) (fun x => (ratL x.1 x.2.1, ()))
theorem q3y : Meets Try.prog 146 sRat := by
  refine meets (snd (SpecsOk.cons qt7 (SpecsOk.nil _))) Try.func146 rfl rfl (fun _ _ => none) (fun _ => by kernel_rfl) (by decide) ?_
  rintro ⟨n, d, ⟨⟩⟩ h
  revert n d
  intro (n : Int) (d : Int) (h : (-BIG ≤ n ∧ n ≤ BIG) ∧ (-BIG ≤ d ∧ d ≤ BIG) ∧ d ≠ 0)
  refine by_vc (B := (((-4000000000000000000 : Int) <= n/\n <= BIG)/\(-4000000000000000000 : Int) <= d/\d <= BIG)/\gcdI n d ≠ (0 : Int)/\fits .i64 (Int.tdiv n (gcdI n d))/\gcdI n d ≠ (0 : Int)/\fits .i64 (Int.tdiv d (gcdI n d))/\Int.tdiv n (gcdI n d) = Prod.fst (ratL n d)/\Int.tdiv d (gcdI n d) = Prod.snd (ratL n d)/\True) (by kernel_rfl) ?_
  try simp only [z0,z1,z2,z3,z4,z5,z6,z7,z8,z9,z10,Int.reduceEq,z11,z12,z13,z14,z15,z16,z17,z18,z19,z20,z21,z22,z23,z24,z25,z26,z27,z28,z29,z30,Int.reduceLE,Int.reduceLT,z31,z32,z33,z34,nilEq_true]
  try simp only [qa4, qa5, qa8, List.set_cons_zero, List.cons.injEq, and_true, true_and]
  obtain ⟨h1, h2, h3⟩ := h
  have hg := qh5 (a := n) (b := d) (.inr h3)
  have k1 := qe5 (g := gcdI n d) h1
  have k2 := qe5 (g := gcdI n d) h2
  have hB : BIG = 4000000000000000000 := rfl
  exact ⟨⟨h1, h2⟩, by omega, fits64 (by omega) (by omega), by omega, fits64 (by omega) (by omega), rfl, rfl⟩
end Go.Proofs.Ytdibdlelmkcccaa
