/- Rows with chosen columns: contracts by the engine. No condition. -/
import Derived.Test.YtdibdlelmkcccaaV6
set_option linter.unusedVariables false
set_option linter.unusedSimpArgs false
namespace Go.Proofs.Ytdibdlelmkcccaa
open Go Go.RowKit Eng
theorem q5r (l : List Int) (k : Nat) (hk : k < l.length) : l.take (k + 1) = l.take k ++ [nI l k] := by
  rw [List.take_add_one, List.getElem?_eq_getElem hk, qi1 l k hk]; rfl
def q1v (n : Nat) : List Int := (List.range n).map fun i : Nat => (i : Int)
theorem w3i (n : Nat) : q1v (n + 1) = q1v n ++ [(n : Int)] := by simp [q1v, List.range_succ]
theorem qr0 (n : Nat) : (q1v n).length = n := by simp [q1v]
theorem q84 (n i : Nat) (h : i < n) : nI (q1v n) i = i := by rw [qi1 _ _ (by rw [qr0]; exact h)]; simp [q1v]
abbrev x0q : qc7 := q5e (q34 [qf9]) true (some 3) .none (fun x => x.1 <= 100000) (fun x => .dat (.int .i64) (q1v x.1.toNat))
def xp3 (n : Nat) : Nat -> Option Inv
  | 0 => some (Inv.of [3, 6] 1 (fun k : Nat => [(3, .own 0), (6, .lit (.int .i64 k))]) (fun k => [.vec 3 (.int .i64) (q1v k)]) (fun k => k <= n) (fun k => n - k))
  | _ => none
theorem wc1 : qd6 Try.prog 111 x0q := by
  refine q5h (snd (SpecsOk.nil _)) Try.func111 rfl rfl (qw7 [qf9]) (fun x => xp3 x.1.toNat) (fun _ => by kernel_rfl) (by decide) ?_
  rintro ⟨n, ⟨⟩⟩ h
  revert n
  intro (n : Int) (h : n <= 100000)
  refine qd7 (B := ∃ (v0:Unit),∃ (v1:Nat),Nat.le v1 (Int.toNat n)/\((True/\(0:Int)=(↑v1:Int)/\True)/\q1v v1=[]/\True)/\∀ (v2:Nat),Nat.le v2 (Int.toNat n)->(decide ((↑v2:Int) < n)=true->((0:Nat) < List.length [(↑v2:Int)]/\Nat.le (List.length (q1v v2) + List.length [(↑v2:Int)]) (1000000:Nat))/\fits .i64 ((↑v2:Int) + (1:Int))/\∃ (v5:Nat),Nat.le v5 (Int.toNat n)/\Int.toNat n - v5 < Int.toNat n - v2/\(True/\(↑v2:Int) + (1:Int)=(↑v5:Int)/\True)/\q1v v2 ++ [(↑v2:Int)]=q1v v5/\True)/\(decide ((↑v2:Int) < n)=false->q1v v2=q1v (Int.toNat n))) (by kernel_rfl) ?_
  try simp only [z0,z1,z2,z3,z4,z5,z6,z7,z8,z9,z10,Int.reduceEq,z11,z12,z13,z14,z15,z16,z17,z18,z19,z20,z21,z22,z23,z24,z25,z26,z27,z28,z29,z30,Int.reduceLE,Int.reduceLT,z31,z32,z33,z34,qa3]
  try simp only [qb4, qb5, qc9, List.set_cons_zero, List.cons.injEq, and_true, true_and]
  refine ⟨(), 0, Nat.zero_le _, ⟨rfl, rfl⟩, fun k hk => ⟨fun hlt => ⟨by rw [qr0]; omega, qa8 (by omega) (by omega), k + 1, by omega, by omega, by omega, (w3i k).symm⟩, fun hge => ?_⟩⟩
  rw [show n.toNat = k by omega]
abbrev w9p : qc7 := qg2 true none [qf9] [qe1] (fun _ => True) (fun _ => ([], ()))
theorem q7h : qd6 Try.prog 148 w9p := by
  refine meets (snd (SpecsOk.nil _)) Try.func148 rfl rfl (fun _ _ => none) (fun _ => by kernel_rfl) (by decide) ?_
  rintro ⟨n, ⟨⟩⟩ -
  revert n
  intro (n : Int)
  refine qd7 (B := xd0 Int) (by kernel_rfl) ?_
  try simp only [z0,z1,z2,z3,z4,z5,z6,z7,z8,z9,z10,Int.reduceEq,z11,z12,z13,z14,z15,z16,z17,z18,z19,z20,z21,z22,z23,z24,z25,z26,z27,z28,z29,z30,Int.reduceLE,Int.reduceLT,z31,z32,z33,z34,qa3]
  try simp only [qb4, qb5, qc9, List.set_cons_zero, List.cons.injEq, and_true, true_and]
abbrev xg5 : qc7 := hspec [] true none [.d qf9, .cap qe1] [qe1] (fun x => 0 <= x.1 /\ x.1 < x.2.1.length) (fun x => ([nI x.2.1 x.1.toNat], ()))
theorem wy4 : qd6 Try.prog 115 xg5 := by
  refine qs1 (SpecsOk.nil _) (xv0 [8] (SpecsOk.nil _)) Try.func115 rfl rfl (fun _ _ => none) (fun _ => by kernel_rfl) (by decide) ?_
  rintro ⟨n, y, ⟨⟩⟩ h
  revert n y
  intro (n : Int) (y : List Int) (h : 0 <= n /\ n < y.length)
  refine qd7 (B := ((0:Int) <= n/\n < (↑(List.length y):Int))/\[qa1 (Ty.int .i64) y (Int.toNat n)]=[nI y (Int.toNat n)]) (by kernel_rfl) ?_
  try simp only [z0,z1,z2,z3,z4,z5,z6,z7,z8,z9,z10,Int.reduceEq,z11,z12,z13,z14,z15,z16,z17,z18,z19,z20,z21,z22,z23,z24,z25,z26,z27,z28,z29,z30,Int.reduceLE,Int.reduceLT,z31,z32,z33,z34,qa3]
  try simp only [qb4, qb5, qc9, List.set_cons_zero, List.cons.injEq, and_true, true_and]
  exact h
def qn8 (r pix : List Int) : List Int := pix.map fun p => nI r p.toNat
def qa9 (m : List (List Int)) (pix : List Int) (f : Int -> List Int) : List (List Int) := (List.range m.length).map fun i => qn8 (nL m i) pix ++ f i
structure ChoOk (m : List (List Int)) (pix : List Int) (p : qa6 [.int .i64] -> Prop) (f : qa6 [.int .i64] -> List Int) : Prop where
  rows : m.length <= 10000
  cols : pix.length <= 10000
  at_ : ∀ i, i < m.length -> ∀ j, j < pix.length -> 0 <= nI pix j /\ nI pix j < (nL m i).length
  fn : ∀ i : Nat, i < m.length -> p ((i : Int), ()) /\ (f ((i : Int), ())).length <= 10000
theorem ql7 (r pix : List Int) : (qn8 r pix).length = pix.length := by simp [qn8]
theorem q4h (r pix : List Int) (j : Nat) (hj : j < pix.length) : nI (qn8 r pix) j = nI r (nI pix j).toNat := by
  rw [qi1 _ _ (by rw [ql7]; exact hj), qi1 pix j hj]; simp [qn8]
theorem qm4 (m : List (List Int)) (pix : List Int) (f : Int -> List Int) : (qa9 m pix f).length = m.length := by simp [qa9]
theorem q7i (m : List (List Int)) (pix : List Int) (f : Int -> List Int) (i : Nat) (hi : i < m.length) : nL (qa9 m pix f) i = qn8 (nL m i) pix ++ f i := by
  rw [qj9 _ _ (by rw [qm4]; exact hi)]; simp [qa9]
theorem takeL_snoc (m : List (List Int)) (k : Nat) (hk : k < m.length) : m.take (k + 1) = m.take k ++ [nL m k] := by
  rw [List.take_add_one, List.getElem?_eq_getElem hk, qj9 m k hk]; rfl
abbrev x0r (fs : List (Nat × qc7)) : qc7 := q5e (w22 fs [.d qh5, .d qe1, .fn [qf9] qe1]) true (some 24) (some 3) (fun x => ChoOk x.1 x.2.1 x.2.2.1.1 x.2.2.1.2) (fun x => .dat (.list (.int .i64)) (qa9 x.1 x.2.1 fun i => x.2.2.1.2 (i, ())))
def xp4 (m : List (List Int)) (pix : List Int) (f : Int -> List Int) : Nat -> Option Inv
  | 0 => some (Inv.of [7, 15] 1 (fun k : Nat => [(7, .msl 0 .none), (15, .lit (.int .i64 k))]) (fun k => [.mat 24 3 (.int .i64) ((qa9 m pix f).take k) .none .none]) (fun k => k <= m.length) (fun k => m.length - k))
  | 1 => some (Eng.Inv.mk Nat Nat [7, 10, 22] 2 (fun _ j => [(7, .msl 0 .none), (10, .own 1), (22, .lit (.int .i64 j))]) (fun k j => [.mat 24 3 (.int .i64) ((qa9 m pix f).take k) .none .none, .vec 3 (.int .i64) ((qn8 (nL m k) pix).take j)]) (fun _ j => j <= pix.length) (fun _ j => pix.length - j))
  | _ => none
theorem q5s {fs : List (Nat × qc7)} (hfs : SpecsOk Try.prog fs) : qd6 Try.prog 114 (x0r fs) := by
  refine q5h (w9j [40] [39] (SpecsOk.nil _)) Try.func114 rfl rfl (wq1 hfs [.d qh5, .d qe1, .fn [qf9] qe1]) (fun x => xp4 x.1 x.2.1 fun i => x.2.2.1.2 (i, ())) (fun _ => by kernel_rfl) (show 3 <= _ by decide) ?_
  rintro ⟨m, pix, ⟨p, f⟩, ⟨⟩⟩ h
  revert m pix p f
  intro (m : List (List Int)) (pix : List Int) (p : qa6 [.int .i64] -> Prop) (f : qa6 [.int .i64] -> List Int) (h : ChoOk m pix p f)
  refine qd7 (B := ∃ (v0:Unit),∃ (v1:Nat),Nat.le v1 (List.length m)/\((True/\(0:Int)=(↑v1:Int)/\True)/\List.take v1 (qa9 m pix fun (v2:Int) => f (v2,()))=[]/\True)/\∀ (v2:Nat),Nat.le v2 (List.length m)->(decide ((↑v2:Int) < (↑(List.length m):Int))=true->((0:Int) <= (↑v2:Int)/\(↑v2:Int) < (↑(List.length m):Int))/\∃ (v5:Nat),∃ (v6:Nat),Nat.le v6 (List.length pix)/\((True/\True/\(0:Int)=(↑v6:Int)/\True)/\(List.take v2 (qa9 m pix fun (v7:Int) => f (v7,()))=List.take v5 (qa9 m pix fun (v7:Int) => f (v7,()))/\True/\True)/\List.take v6 (qn8 (nL m v5) pix)=[]/\True)/\∀ (v7:Nat),Nat.le v7 (List.length pix)->(decide ((↑v7:Int) < (↑(List.length pix):Int))=true->((0:Int) <= (↑v7:Int)/\(↑v7:Int) < (↑(List.length pix):Int))/\((0:Int) <= qa1 (Ty.int .i64) pix (Int.toNat (↑v7:Int))/\qa1 (Ty.int .i64) pix (Int.toNat (↑v7:Int)) < (↑(List.length (qa1 (Ty.list (Ty.int .i64)) m (Int.toNat (↑v2:Int)))):Int))/\((0:Nat) < List.length [qa1 (Ty.int .i64) (qa1 (Ty.list (Ty.int .i64)) m (Int.toNat (↑v2:Int))) (Int.toNat (qa1 (Ty.int .i64) pix (Int.toNat (↑v7:Int))))]/\Nat.le (List.length (List.take v7 (qn8 (nL m v5) pix)) + List.length [qa1 (Ty.int .i64) (qa1 (Ty.list (Ty.int .i64)) m (Int.toNat (↑v2:Int))) (Int.toNat (qa1 (Ty.int .i64) pix (Int.toNat (↑v7:Int))))]) (1000000:Nat))/\fits .i64 ((↑v7:Int) + (1:Int))/\∃ (v10:Nat),Nat.le v10 (List.length pix)/\List.length pix - v10 < List.length pix - v7/\(True/\True/\(↑v7:Int) + (1:Int)=(↑v10:Int)/\True)/\(List.take v5 (qa9 m pix fun (v11:Int) => f (v11,()))=List.take v5 (qa9 m pix fun (v11:Int) => f (v11,()))/\True/\True)/\List.take v7 (qn8 (nL m v5) pix) ++ [qa1 (Ty.int .i64) (qa1 (Ty.list (Ty.int .i64)) m (Int.toNat (↑v2:Int))) (Int.toNat (qa1 (Ty.int .i64) pix (Int.toNat (↑v7:Int))))]=List.take v10 (qn8 (nL m v5) pix)/\True)/\(decide ((↑v7:Int) < (↑(List.length pix):Int))=false->p ((↑v2:Int),())/\Nat.le (List.length (List.take v7 (qn8 (nL m v5) pix)) + List.length (f ((↑v2:Int),()))) (1000000:Nat)/\((0:Nat) < (0:Nat) + (1:Nat)/\List.length (List.take v5 (qa9 m pix fun (v10:Int) => f (v10,()))) + ((0:Nat) + (1:Nat)) <= (1000000:Nat))/\fits .i64 ((↑v2:Int) + (1:Int))/\∃ (v10:Nat),Nat.le v10 (List.length m)/\List.length m - v10 < List.length m - v2/\(True/\(↑v2:Int) + (1:Int)=(↑v10:Int)/\True)/\(List.take v5 (qa9 m pix fun (v11:Int) => f (v11,())) ++ [List.take v7 (qn8 (nL m v5) pix) ++ f ((↑v2:Int),())]=List.take v10 (qa9 m pix fun (v11:Int) => f (v11,()))/\True/\True)/\True))/\(decide ((↑v2:Int) < (↑(List.length m):Int))=false->List.take v2 (qa9 m pix fun (v5:Int) => f (v5,()))=qa9 m pix fun (v5:Int) => f (v5,()))) (by kernel_rfl) ?_
  try simp only [z0,z1,z2,z3,z4,z5,z6,z7,z8,z9,z10,Int.reduceEq,z11,z12,z13,z14,z15,z16,z17,z18,z19,z20,z21,z22,z23,z24,z25,z26,z27,z28,z29,z30,Int.reduceLE,Int.reduceLT,z31,z32,z33,z34,qa3]
  try simp only [qb4, qb5, qc9, List.set_cons_zero, List.cons.injEq, and_true, true_and]
  have hr := h.rows
  have hc := h.cols
  have hl := qm4 m pix fun i => f (i, ())
  refine ⟨(), 0, Nat.zero_le _, ⟨rfl, rfl⟩, fun k hk => ⟨fun hlt => ⟨hlt, k, 0, Nat.zero_le _, ⟨rfl, rfl, rfl⟩, fun j hj => ⟨fun hj2 => ?_, fun hj2 => ?_⟩⟩, fun hge => ?_⟩⟩
  · have h1 := ql7 (nL m k) pix
    refine ⟨hj2, h.at_ k hlt j hj2, by rw [List.length_take]; omega, qa8 (by omega) (by omega), j + 1, by omega, by omega, by omega, ?_⟩
    rw [q5r _ j (by omega), q4h _ _ _ hj2]
  · obtain rfl : j = pix.length := by omega
    have h1 := ql7 (nL m k) pix
    have h2 := h.fn k hlt
    have h3 : (qn8 (nL m k) pix).take pix.length = qn8 (nL m k) pix := List.take_of_length_le (by omega)
    rw [h3]
    refine ⟨h2.1, by omega, by rw [List.length_take]; omega, qa8 (by omega) (by omega), k + 1, by omega, by omega, by omega, ?_⟩
    rw [takeL_snoc _ k (by omega), q7i _ _ _ _ hlt]
  · rw [List.take_of_length_le (by omega)]
end Go.Proofs.Ytdibdlelmkcccaa
