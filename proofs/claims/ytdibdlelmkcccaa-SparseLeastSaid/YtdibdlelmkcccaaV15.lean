/- The reference's arithmetic of rows: contracts by the engine. No condition. -/
import Derived.Test.YtdibdlelmkcccaaV14
set_option linter.unusedVariables false
set_option linter.unusedSimpArgs false
namespace Go.Proofs.Ytdibdlelmkcccaa
open Go Go.RowKit Eng
theorem gcdI_tmod (a b : Int) : gcdI b (a.tmod b) = gcdI a b := by
  unfold gcdI
  show ((Nat.gcd b.natAbs (a.tmod b).natAbs : Nat) : Int) = (Nat.gcd a.natAbs b.natAbs : Nat)
  rw [Int.natAbs_tmod, Nat.gcd_comm b.natAbs, ← Nat.gcd_rec, Nat.gcd_comm]
def ivDiv (a b : Int) : Nat → Option Inv
  | 0 => some (Inv.of [0, 1] 0 (fun s : Int × Int => [(0, .lit (.int .i64 s.1)), (1, .lit (.int .i64 s.2))]) (fun _ => []) (fun s => absLe BIG s.1 ∧ absLe BIG s.2 ∧ gcdI s.1 s.2 = gcdI a b) (fun s => s.2.natAbs))
  | _ => none
theorem div3_meets : Meets Try.prog 136 sDivisor := by
  refine meets (snd (SpecsOk.nil _)) Try.func136 rfl rfl (fun x => ivDiv x.1 x.2.1) (fun _ => by kernel_rfl) (by decide) ?_
  rintro ⟨a, b, ⟨⟩⟩ h
  revert a b
  intro (a : Int) (b : Int) (h : (-BIG ≤ a ∧ a ≤ BIG) ∧ -BIG ≤ b ∧ b ≤ BIG)
  refine by_vc (B := ∃ (v0 : Unit), ∃ (v1 : Int × Int), (absLe BIG (Prod.fst v1) /\ absLe BIG (Prod.snd v1) /\ gcdI (Prod.fst v1) (Prod.snd v1) = gcdI a b) /\ ((a = Prod.fst v1 /\ b = Prod.snd v1 /\ True) /\ True) /\ ∀ (v2 : Int × Int), absLe BIG (Prod.fst v2) /\ absLe BIG (Prod.snd v2) /\ gcdI (Prod.fst v2) (Prod.snd v2) = gcdI a b -> ((Prod.snd v2 != (0 : Int)) = true -> Prod.snd v2 ≠ (0 : Int) /\ ∃ (v5 : Int × Int), (absLe BIG (Prod.fst v5) /\ absLe BIG (Prod.snd v5) /\ gcdI (Prod.fst v5) (Prod.snd v5) = gcdI a b) /\ Int.natAbs (Prod.snd v5) < Int.natAbs (Prod.snd v2) /\ (Prod.snd v2 = Prod.fst v5 /\ Int.tmod (Prod.fst v2) (Prod.snd v2) = Prod.snd v5 /\ True) /\ True) /\ ((Prod.snd v2 != (0 : Int)) = false -> fits .i64 ((0 : Int) - Prod.fst v2) /\ max2 true (Prod.fst v2) ((0 : Int) - Prod.fst v2) = gcdI a b)) (by kernel_rfl) ?_
  try simp only [z0, z1, z2, z3, z4, z5, z6, z7, z8, z9, z10, Int.reduceEq, z11, z12, z13, z14, z15, z16, z17, z18, z19, z20, z21, z22, z23, z24, z25, z26, z27, z28, z29, z30, Int.reduceLE, Int.reduceLT, z31, z32, z33, z34, nilEq_true]
  try simp only [nthD_nI, nthD_nL, nL_one, List.set_cons_zero, List.cons.injEq, and_true, true_and]
  refine ⟨(), (a, b), ⟨h.1, h.2, rfl⟩, ⟨rfl, rfl⟩, ?_⟩
  rintro ⟨x, y⟩ ⟨h1, h2, h3⟩
  dsimp only at h1 h2 h3 ⊢
  have hB : BIG = 4000000000000000000 := rfl
  refine ⟨fun hy => ⟨hy, (y, x.tmod y), ⟨h2, ?_, (gcdI_tmod x y).trans h3⟩, ?_, rfl, rfl⟩, fun hy => ?_⟩
  · have : (x.tmod y).natAbs ≤ x.natAbs := by rw [Int.natAbs_tmod]; exact Nat.mod_le _ _
    unfold absLe at h1 ⊢
    dsimp only
    omega
  · dsimp only
    rw [Int.natAbs_tmod]
    exact Nat.mod_lt _ (by omega)
  · subst hy
    unfold absLe at h1
    refine ⟨fits64 (by omega) (by omega), ?_⟩
    rw [← h3]
    show max x (0 - x) = ((Int.gcd x 0 : Nat) : Int)
    rw [Int.gcd_zero_right]
    omega
def primR (l : List Int) : List Int := l.map fun n => n.tdiv (max (gcdL l) 1)
abbrev sPrimR : FSpec := tspec true (some 3) [tInts] [tInts] (fun x => bigL x.1) (fun x => (primR x.1, ()))
def ivPrimR (l : List Int) : Nat → Option Inv
  | 0 => some (Inv.of [3, 11] 0 (fun k : Nat => [(3, .lit (.int .i64 (gcdL (l.take k)))), (11, .lit (.int .i64 k))]) (fun _ => []) (fun k => k ≤ l.length) (fun k => l.length - k))
  | 1 => some (Inv.of [6, 21] 1 (fun k : Nat => [(6, .own 0), (21, .lit (.int .i64 k))]) (fun k => [.vec 3 (.int .i64) ((primR l).take k)]) (fun k => k ≤ l.length) (fun k => l.length - k))
  | _ => none
theorem primR_meets : Meets Try.prog 152 sPrimR := by
  refine meets (snd (SpecsOk.cons div3_meets (SpecsOk.nil _))) Try.func152 rfl rfl (fun x => ivPrimR x.1) (fun _ => by kernel_rfl) (by decide) ?_
  rintro ⟨l, ⟨⟩⟩ h
  revert l
  intro (l : List Int) (h : bigL l)
  refine by_vc (B := ∃ (v0 : Unit), ∃ (v1 : Nat), Nat.le v1 (List.length l) /\ (((0 : Int) = gcdL (List.take v1 l) /\ (0 : Int) = (↑v1 : Int) /\ True) /\ True) /\ ∀ (v2 : Nat), Nat.le v2 (List.length l) -> (decide ((↑v2 : Int) < (↑(List.length l) : Int)) = true -> ((0 : Int) <= (↑v2 : Int) /\ (↑v2 : Int) < (↑(List.length l) : Int)) /\ (((-4000000000000000000 : Int) <= gcdL (List.take v2 l) /\ gcdL (List.take v2 l) <= BIG) /\ (-4000000000000000000 : Int) <= nthD (Ty.int .i64) l (Int.toNat (↑v2 : Int)) /\ nthD (Ty.int .i64) l (Int.toNat (↑v2 : Int)) <= BIG) /\ fits .i64 ((↑v2 : Int) + (1 : Int)) /\ ∃ (v5 : Nat), Nat.le v5 (List.length l) /\ List.length l - v5 < List.length l - v2 /\ (gcdI (gcdL (List.take v2 l)) (nthD (Ty.int .i64) l (Int.toNat (↑v2 : Int))) = gcdL (List.take v5 l) /\ (↑v2 : Int) + (1 : Int) = (↑v5 : Int) /\ True) /\ True) /\ (decide ((↑v2 : Int) < (↑(List.length l) : Int)) = false -> ∃ (v5 : Unit), ∃ (v6 : Nat), Nat.le v6 (List.length l) /\ ((True /\ (0 : Int) = (↑v6 : Int) /\ True) /\ List.take v6 (primR l) = [] /\ True) /\ ∀ (v7 : Nat), Nat.le v7 (List.length l) -> (decide ((↑v7 : Int) < (↑(List.length l) : Int)) = true -> ((0 : Int) <= (↑v7 : Int) /\ (↑v7 : Int) < (↑(List.length l) : Int)) /\ max2 true (gcdL (List.take v2 l)) (1 : Int) ≠ (0 : Int) /\ fits .i64 (Int.tdiv (nthD (Ty.int .i64) l (Int.toNat (↑v7 : Int))) (max2 true (gcdL (List.take v2 l)) (1 : Int))) /\ ((0 : Nat) < List.length [Int.tdiv (nthD (Ty.int .i64) l (Int.toNat (↑v7 : Int))) (max2 true (gcdL (List.take v2 l)) (1 : Int))] /\ Nat.le (List.length (List.take v7 (primR l)) + List.length [Int.tdiv (nthD (Ty.int .i64) l (Int.toNat (↑v7 : Int))) (max2 true (gcdL (List.take v2 l)) (1 : Int))]) (1000000 : Nat)) /\ fits .i64 ((↑v7 : Int) + (1 : Int)) /\ ∃ (v10 : Nat), Nat.le v10 (List.length l) /\ List.length l - v10 < List.length l - v7 /\ (True /\ (↑v7 : Int) + (1 : Int) = (↑v10 : Int) /\ True) /\ List.take v7 (primR l) ++ [Int.tdiv (nthD (Ty.int .i64) l (Int.toNat (↑v7 : Int))) (max2 true (gcdL (List.take v2 l)) (1 : Int))] = List.take v10 (primR l) /\ True) /\ (decide ((↑v7 : Int) < (↑(List.length l) : Int)) = false -> List.take v7 (primR l) = primR l))) (by kernel_rfl) ?_
  try simp only [z0, z1, z2, z3, z4, z5, z6, z7, z8, z9, z10, Int.reduceEq, z11, z12, z13, z14, z15, z16, z17, z18, z19, z20, z21, z22, z23, z24, z25, z26, z27, z28, z29, z30, Int.reduceLE, Int.reduceLT, z31, z32, z33, z34, nilEq_true]
  try simp only [nthD_nI, nthD_nL, nL_one, List.set_cons_zero, List.cons.injEq, and_true, true_and]
  have hlen := h.1
  have hpl : (primR l).length = l.length := by simp [primR]
  refine ⟨(), 0, Nat.zero_le _, ⟨rfl, rfl⟩, fun k hk => ⟨fun hlt => ?_, fun hge => ?_⟩⟩
  · have h1 := gcdL_bd h k hk
    have h2 := bigL_at h hlt
    unfold BIG at h1
    exact ⟨hlt, ⟨⟨by omega, by unfold BIG; omega⟩, h2⟩, fits64 (by omega) (by omega), k + 1, by omega, by omega, (gcdL_snoc l k hlt).symm, by omega⟩
  · obtain rfl : k = l.length := by omega
    rw [List.take_length]
    refine ⟨(), 0, Nat.zero_le _, ⟨rfl, rfl⟩, fun i hi => ⟨fun hlt => ?_, fun hge => ?_⟩⟩
    · have h2 := bigL_at h hlt
      have h3 := tdiv_bd (g := max (gcdL l) 1) h2
      unfold BIG at h3
      refine ⟨hlt, by show ¬ max (gcdL l) 1 = 0; omega, fits64 (by show -9223372036854775808 ≤ (nI l i).tdiv (max (gcdL l) 1); omega) (by show (nI l i).tdiv (max (gcdL l) 1) ≤ 9223372036854775807; omega), by rw [List.length_take]; omega, fits64 (by omega) (by omega), i + 1, by omega, by omega, by omega, ?_⟩
      rw [nI_snoc _ i (by omega), nI_eq (primR l) i (by omega), nI_eq l i hlt]
      simp [primR]
      rfl
    · rw [List.take_of_length_le (by omega)]
def scaleL (l : List Int) (n : Int) : List Int := l.map fun k => k * n
structure ScaOk (l : List Int) (n : Int) : Prop where
  len : l.length ≤ 1000
  big : ∀ i, i < l.length → absLe BIG (nI l i * n)
abbrev sSca : FSpec := tspec true none [tInts, tInt] [tInts] (fun x => ScaOk x.1 x.2.1) (fun x => (scaleL x.1 x.2.1, ()))
def ivSca (l : List Int) (n : Int) : Nat → Option Inv
  | 0 => some (Inv.of [5, 10] 1 (fun k : Nat => [(5, .own 0), (10, .lit (.int .i64 k))]) (fun k => [.vec 3 (.int .i64) ((scaleL l n).take k)]) (fun k => k ≤ l.length) (fun k => l.length - k))
  | _ => none
theorem sca_meets : Meets Try.prog 129 sSca := by
  refine meets (snd (SpecsOk.nil _)) Try.func129 rfl rfl (fun x => ivSca x.1 x.2.1) (fun _ => by kernel_rfl) (by decide) ?_
  rintro ⟨l, n, ⟨⟩⟩ h
  revert l n
  intro (l : List Int) (n : Int) (h : ScaOk l n)
  refine by_vc (B := ∃ (v0 : Unit), ∃ (v1 : Nat), Nat.le v1 (List.length l) /\ ((True /\ (0 : Int) = (↑v1 : Int) /\ True) /\ List.take v1 (scaleL l n) = [] /\ True) /\ ∀ (v2 : Nat), Nat.le v2 (List.length l) -> (decide ((↑v2 : Int) < (↑(List.length l) : Int)) = true -> ((0 : Int) <= (↑v2 : Int) /\ (↑v2 : Int) < (↑(List.length l) : Int)) /\ fits .i64 (nthD (Ty.int .i64) l (Int.toNat (↑v2 : Int)) * n) /\ ((0 : Nat) < List.length [nthD (Ty.int .i64) l (Int.toNat (↑v2 : Int)) * n] /\ Nat.le (List.length (List.take v2 (scaleL l n)) + List.length [nthD (Ty.int .i64) l (Int.toNat (↑v2 : Int)) * n]) (1000000 : Nat)) /\ fits .i64 ((↑v2 : Int) + (1 : Int)) /\ ∃ (v5 : Nat), Nat.le v5 (List.length l) /\ List.length l - v5 < List.length l - v2 /\ (True /\ (↑v2 : Int) + (1 : Int) = (↑v5 : Int) /\ True) /\ List.take v2 (scaleL l n) ++ [nthD (Ty.int .i64) l (Int.toNat (↑v2 : Int)) * n] = List.take v5 (scaleL l n) /\ True) /\ (decide ((↑v2 : Int) < (↑(List.length l) : Int)) = false -> List.take v2 (scaleL l n) = scaleL l n)) (by kernel_rfl) ?_
  try simp only [z0, z1, z2, z3, z4, z5, z6, z7, z8, z9, z10, Int.reduceEq, z11, z12, z13, z14, z15, z16, z17, z18, z19, z20, z21, z22, z23, z24, z25, z26, z27, z28, z29, z30, Int.reduceLE, Int.reduceLT, z31, z32, z33, z34, nilEq_true]
  try simp only [nthD_nI, nthD_nL, nL_one, List.set_cons_zero, List.cons.injEq, and_true, true_and]
  have hlen := h.len
  have hpl : (scaleL l n).length = l.length := by simp [scaleL]
  refine ⟨(), 0, Nat.zero_le _, ⟨rfl, rfl⟩, fun i hi => ⟨fun hlt => ?_, fun hge => ?_⟩⟩
  · have h3 := h.big i hlt
    unfold absLe BIG at h3
    refine ⟨hlt, fits64 (by omega) (by omega), by rw [List.length_take]; omega, fits64 (by omega) (by omega), i + 1, by omega, by omega, by omega, ?_⟩
    rw [nI_snoc _ i (by omega), nI_eq (scaleL l n) i (by omega), nI_eq l i hlt]
    simp [scaleL]
  · rw [List.take_of_length_le (by omega)]
def withU (r p : List Int) (j : Nat) : List Int := (List.range r.length).map fun k => nI r k * nI p j - nI p k * nI r j
def withoutL (r p : List Int) (j : Nat) : List Int := primR (withU r p j)
structure WoOk (r p : List Int) (j : Nat) : Prop where
  len : r.length ≤ 1000
  eq : p.length = r.length
  lt : j < r.length
  b1 : ∀ k, k < r.length → absLe BIG (nI r k * nI p j)
  b2 : ∀ k, k < r.length → absLe BIG (nI p k * nI r j)
  b3 : ∀ k, k < r.length → absLe BIG (nI r k * nI p j - nI p k * nI r j)
abbrev sWo : FSpec := tspec true none [tInts, tInts, tInt] [tInts] (fun x => 0 ≤ x.2.2.1 ∧ WoOk x.1 x.2.1 x.2.2.1.toNat) (fun x => (withoutL x.1 x.2.1 x.2.2.1.toNat, ()))
def ivWo (r p : List Int) (j : Nat) : Nat → Option Inv
  | 0 => some (Inv.of [7, 11] 1 (fun k : Nat => [(7, .own 0), (11, .lit (.int .i64 k))]) (fun k => [.vec 3 (.int .i64) ((withU r p j).take k)]) (fun k => k ≤ r.length) (fun k => r.length - k))
  | _ => none
theorem wo_meets : Meets Try.prog 158 sWo := by
  refine meets (snd (SpecsOk.cons primR_meets (SpecsOk.nil _))) Try.func158 rfl rfl (fun x => ivWo x.1 x.2.1 x.2.2.1.toNat) (fun _ => by kernel_rfl) (by decide) ?_
  rintro ⟨r, p, j, ⟨⟩⟩ h
  revert r p j
  intro (r : List Int) (p : List Int) (j : Int) (h : 0 ≤ j ∧ WoOk r p j.toNat)
  refine by_vc (B := ∃ (v0 : Unit), ∃ (v1 : Nat), Nat.le v1 (List.length r) /\ ((True /\ (0 : Int) = (↑v1 : Int) /\ True) /\ List.take v1 (withU r p (Int.toNat j)) = [] /\ True) /\ ∀ (v2 : Nat), Nat.le v2 (List.length r) -> (decide ((↑v2 : Int) < (↑(List.length r) : Int)) = true -> ((0 : Int) <= (↑v2 : Int) /\ (↑v2 : Int) < (↑(List.length r) : Int)) /\ ((0 : Int) <= j /\ j < (↑(List.length p) : Int)) /\ fits .i64 (nthD (Ty.int .i64) r (Int.toNat (↑v2 : Int)) * nthD (Ty.int .i64) p (Int.toNat j)) /\ ((0 : Int) <= (↑v2 : Int) /\ (↑v2 : Int) < (↑(List.length p) : Int)) /\ ((0 : Int) <= j /\ j < (↑(List.length r) : Int)) /\ fits .i64 (nthD (Ty.int .i64) p (Int.toNat (↑v2 : Int)) * nthD (Ty.int .i64) r (Int.toNat j)) /\ fits .i64 (nthD (Ty.int .i64) r (Int.toNat (↑v2 : Int)) * nthD (Ty.int .i64) p (Int.toNat j) - nthD (Ty.int .i64) p (Int.toNat (↑v2 : Int)) * nthD (Ty.int .i64) r (Int.toNat j)) /\ ((0 : Nat) < List.length [nthD (Ty.int .i64) r (Int.toNat (↑v2 : Int)) * nthD (Ty.int .i64) p (Int.toNat j) - nthD (Ty.int .i64) p (Int.toNat (↑v2 : Int)) * nthD (Ty.int .i64) r (Int.toNat j)] /\ Nat.le (List.length (List.take v2 (withU r p (Int.toNat j))) + List.length [nthD (Ty.int .i64) r (Int.toNat (↑v2 : Int)) * nthD (Ty.int .i64) p (Int.toNat j) - nthD (Ty.int .i64) p (Int.toNat (↑v2 : Int)) * nthD (Ty.int .i64) r (Int.toNat j)]) (1000000 : Nat)) /\ fits .i64 ((↑v2 : Int) + (1 : Int)) /\ ∃ (v5 : Nat), Nat.le v5 (List.length r) /\ List.length r - v5 < List.length r - v2 /\ (True /\ (↑v2 : Int) + (1 : Int) = (↑v5 : Int) /\ True) /\ List.take v2 (withU r p (Int.toNat j)) ++ [nthD (Ty.int .i64) r (Int.toNat (↑v2 : Int)) * nthD (Ty.int .i64) p (Int.toNat j) - nthD (Ty.int .i64) p (Int.toNat (↑v2 : Int)) * nthD (Ty.int .i64) r (Int.toNat j)] = List.take v5 (withU r p (Int.toNat j)) /\ True) /\ (decide ((↑v2 : Int) < (↑(List.length r) : Int)) = false -> bigL (List.take v2 (withU r p (Int.toNat j))) /\ primR (List.take v2 (withU r p (Int.toNat j))) = withoutL r p (Int.toNat j))) (by kernel_rfl) ?_
  try simp only [z0, z1, z2, z3, z4, z5, z6, z7, z8, z9, z10, Int.reduceEq, z11, z12, z13, z14, z15, z16, z17, z18, z19, z20, z21, z22, z23, z24, z25, z26, z27, z28, z29, z30, Int.reduceLE, Int.reduceLT, z31, z32, z33, z34, nilEq_true]
  try simp only [nthD_nI, nthD_nL, nL_one, List.set_cons_zero, List.cons.injEq, and_true, true_and]
  obtain ⟨hj, h⟩ := h
  have hlen := h.len
  have heq := h.eq
  have hlt' := h.lt
  have hpl : (withU r p j.toNat).length = r.length := by simp [withU]
  have hpk : 0 ≤ j ∧ j < (p.length : Int) := ⟨hj, by omega⟩
  have hrk : 0 ≤ j ∧ j < (r.length : Int) := ⟨hj, by omega⟩
  have hat : ∀ k, k < r.length → nI (withU r p j.toNat) k = nI r k * nI p j.toNat - nI p k * nI r j.toNat := fun k hk => by
    rw [nI_eq _ k (by omega)]; simp [withU]
  refine ⟨(), 0, Nat.zero_le _, ⟨rfl, rfl⟩, fun i hi => ⟨fun hlt => ?_, fun hge => ?_⟩⟩
  · have h1 := h.b1 i hlt
    have h2 := h.b2 i hlt
    have h3 := h.b3 i hlt
    unfold absLe BIG at h1 h2 h3
    refine ⟨hlt, hpk, fits64 (by omega) (by omega), by omega, hrk, fits64 (by omega) (by omega), fits64 (by omega) (by omega), by rw [List.length_take]; omega, fits64 (by omega) (by omega), i + 1, by omega, by omega, by omega, ?_⟩
    rw [nI_snoc _ i (by omega), hat i hlt]
  · rw [List.take_of_length_le (by omega)]
    refine ⟨⟨by omega, fun x hx => ?_⟩, rfl⟩
    obtain ⟨k, hk, rfl⟩ := List.getElem_of_mem hx
    rw [← nI_eq _ k hk, hat k (by omega)]
    exact h.b3 k (by omega)
def ratL (n d : Int) : Int × Int := (n.tdiv (gcdI n d), d.tdiv (gcdI n d))
abbrev sRat : FSpec := tspec true none [tInt, tInt] [tRat] (fun x => (-BIG ≤ x.1 ∧ x.1 ≤ BIG) ∧ (-BIG ≤ x.2.1 ∧ x.2.1 ≤ BIG) ∧ x.2.1 ≠ 0) (fun x => (ratL x.1 x.2.1, ()))
theorem rat_meets : Meets Try.prog 146 sRat := by
  refine meets (snd (SpecsOk.cons div3_meets (SpecsOk.nil _))) Try.func146 rfl rfl (fun _ _ => none) (fun _ => by kernel_rfl) (by decide) ?_
  rintro ⟨n, d, ⟨⟩⟩ h
  revert n d
  intro (n : Int) (d : Int) (h : (-BIG ≤ n ∧ n ≤ BIG) ∧ (-BIG ≤ d ∧ d ≤ BIG) ∧ d ≠ 0)
  refine by_vc (B := (((-4000000000000000000 : Int) <= n /\ n <= BIG) /\ (-4000000000000000000 : Int) <= d /\ d <= BIG) /\ gcdI n d ≠ (0 : Int) /\ fits .i64 (Int.tdiv n (gcdI n d)) /\ gcdI n d ≠ (0 : Int) /\ fits .i64 (Int.tdiv d (gcdI n d)) /\ Int.tdiv n (gcdI n d) = Prod.fst (ratL n d) /\ Int.tdiv d (gcdI n d) = Prod.snd (ratL n d) /\ True) (by kernel_rfl) ?_
  try simp only [z0, z1, z2, z3, z4, z5, z6, z7, z8, z9, z10, Int.reduceEq, z11, z12, z13, z14, z15, z16, z17, z18, z19, z20, z21, z22, z23, z24, z25, z26, z27, z28, z29, z30, Int.reduceLE, Int.reduceLT, z31, z32, z33, z34, nilEq_true]
  try simp only [nthD_nI, nthD_nL, nL_one, List.set_cons_zero, List.cons.injEq, and_true, true_and]
  obtain ⟨h1, h2, h3⟩ := h
  have hg := gcdI_pos (a := n) (b := d) (.inr h3)
  have k1 := tdiv_bd (g := gcdI n d) h1
  have k2 := tdiv_bd (g := gcdI n d) h2
  have hB : BIG = 4000000000000000000 := rfl
  exact ⟨⟨h1, h2⟩, by omega, fits64 (by omega) (by omega), by omega, fits64 (by omega) (by omega), rfl, rfl⟩
end Go.Proofs.Ytdibdlelmkcccaa
