/- Rows with chosen columns: contracts by the engine. No condition. -/
import Derived.Test.YtdibdlelmkcccaaV6
set_option linter.unusedVariables false
set_option linter.unusedSimpArgs false
namespace Go.Proofs.Ytdibdlelmkcccaa
open Go Go.RowKit Eng
theorem qp7 (l : List Int) (k : Nat) (hk : k < l.length) : l.take (k + 1) = l.take k ++ [nI l k] := by
  rw [List.take_add_one, List.getElem?_eq_getElem hk, qd3 l k hk]; rfl
def idxL (n : Nat) : List Int := (List.range n).map fun i : Nat => (i : Int)
theorem q3g (n : Nat) : idxL (n + 1) = idxL n ++ [(n : Int)] := by simp [idxL, List.range_succ]
theorem qg7 (n : Nat) : (idxL n).length = n := by simp [idxL]
theorem qv3 (n i : Nat) (h : i < n) : nI (idxL n) i = i := by rw [qd3 _ _ (by rw [qg7]; exact h)]; simp [idxL]
abbrev sAll : FSpec := xspec (argsB [tInt]) true (some 3) .none (fun x => x.1 ≤ 100000) (fun x => .dat (.int .i64) (idxL x.1.toNat))
def ivAll (n : Nat) : Nat → Option Inv
  | 0 => some (Inv.of [3, 6] 1 (fun k : Nat => [(3, .own 0), (6, .lit (.int .i64 k))]) (fun k => [.vec 3 (.int .i64) (idxL k)]) (fun k => k ≤ n) (fun k => n - k))
  | _ => none
theorem qx7 : Meets Try.prog 111 sAll := by
  refine meetsX (snd (SpecsOk.nil _)) Try.func111 rfl rfl (argsB_ok [tInt]) (fun x => ivAll x.1.toNat) (fun _ => by kernel_rfl) (by decide) ?_
  rintro ⟨n, ⟨⟩⟩ h
  revert n
  intro (n : Int) (h : n ≤ 100000)
  refine by_vc (B := ∃ (v0 : Unit), ∃ (v1 : Nat), Nat.le v1 (Int.toNat n)/\((True/\(0 : Int) = (↑v1 : Int)/\True)/\idxL v1 = []/\True)/\∀ (v2 : Nat), Nat.le v2 (Int.toNat n)->(decide ((↑v2 : Int) < n) = true->((0 : Nat) < List.length [(↑v2 : Int)]/\Nat.le (List.length (idxL v2) + List.length [(↑v2 : Int)]) (1000000 : Nat))/\fits .i64 ((↑v2 : Int) + (1 : Int))/\∃ (v5 : Nat), Nat.le v5 (Int.toNat n)/\Int.toNat n - v5 < Int.toNat n - v2/\(True/\(↑v2 : Int) + (1 : Int) = (↑v5 : Int)/\True)/\idxL v2 ++ [(↑v2 : Int)] = idxL v5/\True)/\(decide ((↑v2 : Int) < n) = false->idxL v2 = idxL (Int.toNat n))) (by kernel_rfl) ?_
  try simp only [z0,z1,z2,z3,z4,z5,z6,z7,z8,z9,z10,Int.reduceEq,z11,z12,z13,z14,z15,z16,z17,z18,z19,z20,z21,z22,z23,z24,z25,z26,z27,z28,z29,z30,Int.reduceLE,Int.reduceLT,z31,z32,z33,z34,nilEq_true]
  try simp only [qa4, qa5, qa8, List.set_cons_zero, List.cons.injEq, and_true, true_and]
  refine ⟨(), 0, Nat.zero_le _, ⟨rfl, rfl⟩, fun k hk => ⟨fun hlt => ⟨by rw [qg7]; omega, fits64 (by omega) (by omega), k + 1, by omega, by omega, by omega, (q3g k).symm⟩, fun hge => ?_⟩⟩
  rw [show n.toNat = k by omega]
abbrev sNone : FSpec := tspec true none [tInt] [qb8] (fun _ => True) (fun _ => ([], ()))
theorem qs8 : Meets Try.prog 148 sNone := by
  refine meets (snd (SpecsOk.nil _)) Try.func148 rfl rfl (fun _ _ => none) (fun _ => by kernel_rfl) (by decide) ?_
  rintro ⟨n, ⟨⟩⟩ -
  revert n
  intro (n : Int)
  refine by_vc (B := nilEq Int) (by kernel_rfl) ?_
  try simp only [z0,z1,z2,z3,z4,z5,z6,z7,z8,z9,z10,Int.reduceEq,z11,z12,z13,z14,z15,z16,z17,z18,z19,z20,z21,z22,z23,z24,z25,z26,z27,z28,z29,z30,Int.reduceLE,Int.reduceLT,z31,z32,z33,z34,nilEq_true]
  try simp only [qa4, qa5, qa8, List.set_cons_zero, List.cons.injEq, and_true, true_and]
abbrev sSol1 : FSpec := hspec [] true none [.d tInt, .cap qb8] [qb8] (fun x => 0 ≤ x.1 ∧ x.1 < x.2.1.length) (fun x => ([nI x.2.1 x.1.toNat], ()))
theorem q15 : Meets Try.prog 115 sSol1 := by
  refine meetsH (SpecsOk.nil _) (sndL [8] (SpecsOk.nil _)) Try.func115 rfl rfl (fun _ _ => none) (fun _ => by kernel_rfl) (by decide) ?_
  rintro ⟨n, y, ⟨⟩⟩ h
  revert n y
  intro (n : Int) (y : List Int) (h : 0 ≤ n ∧ n < y.length)
  refine by_vc (B := ((0 : Int) <= n/\n < (↑(List.length y) : Int))/\[nthD (Ty.int .i64) y (Int.toNat n)] = [nI y (Int.toNat n)]) (by kernel_rfl) ?_
  try simp only [z0,z1,z2,z3,z4,z5,z6,z7,z8,z9,z10,Int.reduceEq,z11,z12,z13,z14,z15,z16,z17,z18,z19,z20,z21,z22,z23,z24,z25,z26,z27,z28,z29,z30,Int.reduceLE,Int.reduceLT,z31,z32,z33,z34,nilEq_true]
  try simp only [qa4, qa5, qa8, List.set_cons_zero, List.cons.injEq, and_true, true_and]
  exact h
def qf4 (r pix : List Int) : List Int := pix.map fun p => nI r p.toNat
def qa1 (m : List (List Int)) (pix : List Int) (f : Int → List Int) : List (List Int) := (List.range m.length).map fun i => qf4 (nL m i) pix ++ f i
structure ChoOk (m : List (List Int)) (pix : List Int) (p : argsTy [.int .i64] → Prop) (f : argsTy [.int .i64] → List Int) : Prop where
  rows : m.length ≤ 10000
  cols : pix.length ≤ 10000
  at_ : ∀ i, i < m.length → ∀ j, j < pix.length → 0 ≤ nI pix j ∧ nI pix j < (nL m i).length
  fn : ∀ i : Nat, i < m.length → p ((i : Int), ()) ∧ (f ((i : Int), ())).length ≤ 10000
theorem qe7 (r pix : List Int) : (qf4 r pix).length = pix.length := by simp [qf4]
theorem qo5 (r pix : List Int) (j : Nat) (hj : j < pix.length) : nI (qf4 r pix) j = nI r (nI pix j).toNat := by
  rw [qd3 _ _ (by rw [qe7]; exact hj), qd3 pix j hj]; simp [qf4]
theorem qf1 (m : List (List Int)) (pix : List Int) (f : Int → List Int) : (qa1 m pix f).length = m.length := by simp [qa1]
theorem qs9 (m : List (List Int)) (pix : List Int) (f : Int → List Int) (i : Nat) (hi : i < m.length) : nL (qa1 m pix f) i = qf4 (nL m i) pix ++ f i := by
  rw [qe3 _ _ (by rw [qf1]; exact hi)]; simp [qa1]
theorem takeL_snoc (m : List (List Int)) (k : Nat) (hk : k < m.length) : m.take (k + 1) = m.take k ++ [nL m k] := by
  rw [List.take_add_one, List.getElem?_eq_getElem hk, qe3 m k hk]; rfl
abbrev sCho (fs : List (Nat × FSpec)) : FSpec := xspec (argsX fs [.d qd2, .d qb8, .fn [tInt] qb8]) true (some 24) (some 3) (fun x => ChoOk x.1 x.2.1 x.2.2.1.1 x.2.2.1.2) (fun x => .dat (.list (.int .i64)) (qa1 x.1 x.2.1 fun i => x.2.2.1.2 (i, ())))
def ivCho (m : List (List Int)) (pix : List Int) (f : Int → List Int) : Nat → Option Inv
  | 0 => some (Inv.of [7, 15] 1 (fun k : Nat => [(7, .msl 0 .none), (15, .lit (.int .i64 k))]) (fun k => [.mat 24 3 (.int .i64) ((qa1 m pix f).take k) .none .none]) (fun k => k ≤ m.length) (fun k => m.length - k))
  | 1 => some (Eng.Inv.mk Nat Nat [7, 10, 22] 2 (fun _ j => [(7, .msl 0 .none), (10, .own 1), (22, .lit (.int .i64 j))]) (fun k j => [.mat 24 3 (.int .i64) ((qa1 m pix f).take k) .none .none, .vec 3 (.int .i64) ((qf4 (nL m k) pix).take j)]) (fun _ j => j ≤ pix.length) (fun _ j => pix.length - j))
  | _ => none
theorem qp8 {fs : List (Nat × FSpec)} (hfs : SpecsOk Try.prog fs) : Meets Try.prog 114 (sCho fs) := by
  refine meetsX (sndLE [40] [39] (SpecsOk.nil _)) Try.func114 rfl rfl (argsX_ok hfs [.d qd2, .d qb8, .fn [tInt] qb8]) (fun x => ivCho x.1 x.2.1 fun i => x.2.2.1.2 (i, ())) (fun _ => by kernel_rfl) (show 3 ≤ _ by decide) ?_
  rintro ⟨m, pix, ⟨p, f⟩, ⟨⟩⟩ h
  revert m pix p f
  intro (m : List (List Int)) (pix : List Int) (p : argsTy [.int .i64] → Prop) (f : argsTy [.int .i64] → List Int) (h : ChoOk m pix p f)
  refine by_vc (B := ∃ (v0 : Unit), ∃ (v1 : Nat), Nat.le v1 (List.length m)/\((True/\(0 : Int) = (↑v1 : Int)/\True)/\List.take v1 (qa1 m pix fun (v2 : Int) => f (v2, ())) = []/\True)/\∀ (v2 : Nat), Nat.le v2 (List.length m)->(decide ((↑v2 : Int) < (↑(List.length m) : Int)) = true->((0 : Int) <= (↑v2 : Int)/\(↑v2 : Int) < (↑(List.length m) : Int))/\∃ (v5 : Nat), ∃ (v6 : Nat), Nat.le v6 (List.length pix)/\((True/\True/\(0 : Int) = (↑v6 : Int)/\True)/\(List.take v2 (qa1 m pix fun (v7 : Int) => f (v7, ())) = List.take v5 (qa1 m pix fun (v7 : Int) => f (v7, ()))/\True/\True)/\List.take v6 (qf4 (nL m v5) pix) = []/\True)/\∀ (v7 : Nat), Nat.le v7 (List.length pix)->(decide ((↑v7 : Int) < (↑(List.length pix) : Int)) = true->((0 : Int) <= (↑v7 : Int)/\(↑v7 : Int) < (↑(List.length pix) : Int))/\((0 : Int) <= nthD (Ty.int .i64) pix (Int.toNat (↑v7 : Int))/\nthD (Ty.int .i64) pix (Int.toNat (↑v7 : Int)) < (↑(List.length (nthD (Ty.list (Ty.int .i64)) m (Int.toNat (↑v2 : Int)))) : Int))/\((0 : Nat) < List.length [nthD (Ty.int .i64) (nthD (Ty.list (Ty.int .i64)) m (Int.toNat (↑v2 : Int))) (Int.toNat (nthD (Ty.int .i64) pix (Int.toNat (↑v7 : Int))))]/\Nat.le (List.length (List.take v7 (qf4 (nL m v5) pix)) + List.length [nthD (Ty.int .i64) (nthD (Ty.list (Ty.int .i64)) m (Int.toNat (↑v2 : Int))) (Int.toNat (nthD (Ty.int .i64) pix (Int.toNat (↑v7 : Int))))]) (1000000 : Nat))/\fits .i64 ((↑v7 : Int) + (1 : Int))/\∃ (v10 : Nat), Nat.le v10 (List.length pix)/\List.length pix - v10 < List.length pix - v7/\(True/\True/\(↑v7 : Int) + (1 : Int) = (↑v10 : Int)/\True)/\(List.take v5 (qa1 m pix fun (v11 : Int) => f (v11, ())) = List.take v5 (qa1 m pix fun (v11 : Int) => f (v11, ()))/\True/\True)/\List.take v7 (qf4 (nL m v5) pix) ++ [nthD (Ty.int .i64) (nthD (Ty.list (Ty.int .i64)) m (Int.toNat (↑v2 : Int))) (Int.toNat (nthD (Ty.int .i64) pix (Int.toNat (↑v7 : Int))))] = List.take v10 (qf4 (nL m v5) pix)/\True)/\(decide ((↑v7 : Int) < (↑(List.length pix) : Int)) = false->p ((↑v2 : Int), ())/\Nat.le (List.length (List.take v7 (qf4 (nL m v5) pix)) + List.length (f ((↑v2 : Int), ()))) (1000000 : Nat)/\((0 : Nat) < (0 : Nat) + (1 : Nat)/\List.length (List.take v5 (qa1 m pix fun (v10 : Int) => f (v10, ()))) + ((0 : Nat) + (1 : Nat)) <= (1000000 : Nat))/\fits .i64 ((↑v2 : Int) + (1 : Int))/\∃ (v10 : Nat), Nat.le v10 (List.length m)/\List.length m - v10 < List.length m - v2/\(True/\(↑v2 : Int) + (1 : Int) = (↑v10 : Int)/\True)/\(List.take v5 (qa1 m pix fun (v11 : Int) => f (v11, ())) ++ [List.take v7 (qf4 (nL m v5) pix) ++ f ((↑v2 : Int), ())] = List.take v10 (qa1 m pix fun (v11 : Int) => f (v11, ()))/\True/\True)/\True))/\(decide ((↑v2 : Int) < (↑(List.length m) : Int)) = false->List.take v2 (qa1 m pix fun (v5 : Int) => f (v5, ())) = qa1 m pix fun (v5 : Int) => f (v5, ()))) (by kernel_rfl) ?_
  try simp only [z0,z1,z2,z3,z4,z5,z6,z7,z8,z9,z10,Int.reduceEq,z11,z12,z13,z14,z15,z16,z17,z18,z19,z20,z21,z22,z23,z24,z25,z26,z27,z28,z29,z30,Int.reduceLE,Int.reduceLT,z31,z32,z33,z34,nilEq_true]
  try simp only [qa4, qa5, qa8, List.set_cons_zero, List.cons.injEq, and_true, true_and]
  have hr := h.rows
  have hc := h.cols
  have hl := qf1 m pix fun i => f (i, ())
  refine ⟨(), 0, Nat.zero_le _, ⟨rfl, rfl⟩, fun k hk => ⟨fun hlt => ⟨hlt, k, 0, Nat.zero_le _, ⟨rfl, rfl, rfl⟩, fun j hj => ⟨fun hj2 => ?_, fun hj2 => ?_⟩⟩, fun hge => ?_⟩⟩
  · have h1 := qe7 (nL m k) pix
    refine ⟨hj2, h.at_ k hlt j hj2, by rw [List.length_take]; omega, fits64 (by omega) (by omega), j + 1, by omega, by omega, by omega, ?_⟩
    rw [qp7 _ j (by omega), qo5 _ _ _ hj2]
  · obtain rfl : j = pix.length := by omega
    have h1 := qe7 (nL m k) pix
    have h2 := h.fn k hlt
    have h3 : (qf4 (nL m k) pix).take pix.length = qf4 (nL m k) pix := List.take_of_length_le (by omega)
    rw [h3]
    refine ⟨h2.1, by omega, by rw [List.length_take]; omega, fits64 (by omega) (by omega), k + 1, by omega, by omega, by omega, ?_⟩
    rw [takeL_snoc _ k (by omega), qs9 _ _ _ _ hlt]
  · rw [List.take_of_length_le (by omega)]
end Go.Proofs.Ytdibdlelmkcccaa
