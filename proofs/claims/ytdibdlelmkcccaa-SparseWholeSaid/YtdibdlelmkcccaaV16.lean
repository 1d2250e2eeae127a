/- The reference's reduced rows: contracts by the engine. No condition. -/
import Derived.Test.YtdibdlelmkcccaaV15
set_option linter.unusedVariables false
set_option linter.unusedSimpArgs false
namespace Go.Proofs.Ytdibdlelmkcccaa
open Go Go.RowKit Eng
def qf3 (m : List (List Int)) (pix : List Int) : List (List Int) := (List.range m.length).map fun i => qf4 (nL m i) pix
theorem qh1 (m : List (List Int)) (pix : List Int) : (qf3 m pix).length = m.length := by simp [qf3]
theorem qo9 (m : List (List Int)) (pix : List Int) (i : Nat) (hi : i < m.length) : nL (qf3 m pix) i = qf4 (nL m i) pix := by
  rw [qe3 _ _ (by rw [qh1]; exact hi)]; simp [qf3]
structure q5l (m : List (List Int)) (pix : List Int) : Prop where
  rows : m.length ≤ 10000
  cols : pix.length ≤ 10000
  at_ : ∀ i, i < m.length → ∀ j, j < pix.length → 0 ≤ nI pix j ∧ nI pix j < (nL m i).length
def ivCol (m : List (List Int)) (pix : List Int) : Nat → Option Inv
  | 0 => some (Inv.of [5, 13] 1 (fun k : Nat => [(5, .msl 0 .none), (13, .lit (.int .i64 k))]) (fun k => [.mat 24 3 (.int .i64) ((qf3 m pix).take k) .none .none]) (fun k => k ≤ m.length) (fun k => m.length - k))
  | 1 => some (Eng.Inv.mk Nat Nat [5, 8, 20] 2 (fun _ j => [(5, .msl 0 .none), (8, .own 1), (20, .lit (.int .i64 j))]) (fun k j => [.mat 24 3 (.int .i64) ((qf3 m pix).take k) .none .none, .vec 3 (.int .i64) ((qf4 (nL m k) pix).take j)]) (fun _ j => j ≤ pix.length) (fun _ j => pix.length - j))
  | _ => none
abbrev sColO : FSpec := xspec (argsB [qd2, qb8]) true (some 24) (some 3) (fun x => q5l x.1 x.2.1) (fun x => .dat (.list (.int .i64)) (qf3 x.1 x.2.1))
theorem q2i : Meets Try.prog 128 sColO := by
  refine meetsX (sndL [34] (SpecsOk.nil _)) Try.func128 rfl rfl (argsB_ok [qd2, qb8]) (fun x => ivCol x.1 x.2.1) (fun _ => by kernel_rfl) (by decide) ?_
  rintro ⟨m, pix, ⟨⟩⟩ h
  revert m pix
  intro (m : List (List Int)) (pix : List Int) (h : q5l m pix)
  refine by_vc (B := ∃ (v0 : Unit), ∃ (v1 : Nat), Nat.le v1 (List.length m)/\((True/\(0 : Int) = (↑v1 : Int)/\True)/\List.take v1 (qf3 m pix) = []/\True)/\∀ (v2 : Nat), Nat.le v2 (List.length m)->(decide ((↑v2 : Int) < (↑(List.length m) : Int)) = true->((0 : Int) <= (↑v2 : Int)/\(↑v2 : Int) < (↑(List.length m) : Int))/\∃ (v5 : Nat), ∃ (v6 : Nat), Nat.le v6 (List.length pix)/\((True/\True/\(0 : Int) = (↑v6 : Int)/\True)/\(List.take v2 (qf3 m pix) = List.take v5 (qf3 m pix)/\True/\True)/\[] = List.take v6 (qf4 (nL m v5) pix)/\True)/\∀ (v7 : Nat), Nat.le v7 (List.length pix)->(decide ((↑v7 : Int) < (↑(List.length pix) : Int)) = true->((0 : Int) <= (↑v7 : Int)/\(↑v7 : Int) < (↑(List.length pix) : Int))/\((0 : Int) <= nthD (Ty.int .i64) pix (Int.toNat (↑v7 : Int))/\nthD (Ty.int .i64) pix (Int.toNat (↑v7 : Int)) < (↑(List.length (nthD (Ty.list (Ty.int .i64)) m (Int.toNat (↑v2 : Int)))) : Int))/\((0 : Nat) < List.length [nthD (Ty.int .i64) (nthD (Ty.list (Ty.int .i64)) m (Int.toNat (↑v2 : Int))) (Int.toNat (nthD (Ty.int .i64) pix (Int.toNat (↑v7 : Int))))]/\Nat.le (List.length (List.take v7 (qf4 (nL m v5) pix)) + List.length [nthD (Ty.int .i64) (nthD (Ty.list (Ty.int .i64)) m (Int.toNat (↑v2 : Int))) (Int.toNat (nthD (Ty.int .i64) pix (Int.toNat (↑v7 : Int))))]) (1000000 : Nat))/\fits .i64 ((↑v7 : Int) + (1 : Int))/\∃ (v10 : Nat), Nat.le v10 (List.length pix)/\List.length pix - v10 < List.length pix - v7/\(True/\True/\(↑v7 : Int) + (1 : Int) = (↑v10 : Int)/\True)/\(List.take v5 (qf3 m pix) = List.take v5 (qf3 m pix)/\True/\True)/\List.take v7 (qf4 (nL m v5) pix) ++ [nthD (Ty.int .i64) (nthD (Ty.list (Ty.int .i64)) m (Int.toNat (↑v2 : Int))) (Int.toNat (nthD (Ty.int .i64) pix (Int.toNat (↑v7 : Int))))] = List.take v10 (qf4 (nL m v5) pix)/\True)/\(decide ((↑v7 : Int) < (↑(List.length pix) : Int)) = false->((0 : Nat) < (0 : Nat) + (1 : Nat)/\List.length (List.take v5 (qf3 m pix)) + ((0 : Nat) + (1 : Nat)) <= (1000000 : Nat))/\fits .i64 ((↑v2 : Int) + (1 : Int))/\∃ (v10 : Nat), Nat.le v10 (List.length m)/\List.length m - v10 < List.length m - v2/\(True/\(↑v2 : Int) + (1 : Int) = (↑v10 : Int)/\True)/\(List.take v5 (qf3 m pix) ++ [List.take v7 (qf4 (nL m v5) pix)] = List.take v10 (qf3 m pix)/\True/\True)/\True))/\(decide ((↑v2 : Int) < (↑(List.length m) : Int)) = false->List.take v2 (qf3 m pix) = qf3 m pix)) (by kernel_rfl) ?_
  try simp only [z0,z1,z2,z3,z4,z5,z6,z7,z8,z9,z10,Int.reduceEq,z11,z12,z13,z14,z15,z16,z17,z18,z19,z20,z21,z22,z23,z24,z25,z26,z27,z28,z29,z30,Int.reduceLE,Int.reduceLT,z31,z32,z33,z34,nilEq_true]
  try simp only [qa4, qa5, qa8, List.set_cons_zero, List.cons.injEq, and_true, true_and]
  have hr := h.rows
  have hc := h.cols
  have hl := qh1 m pix
  refine ⟨(), 0, Nat.zero_le _, ⟨rfl, rfl⟩, fun k hk => ⟨fun hlt => ⟨hlt, k, 0, Nat.zero_le _, ⟨rfl, rfl, rfl⟩, fun j hj => ⟨fun hj2 => ?_, fun hj2 => ?_⟩⟩, fun hge => ?_⟩⟩
  · have h1 := qe7 (nL m k) pix
    refine ⟨hj2, h.at_ k hlt j hj2, by rw [List.length_take]; omega, fits64 (by omega) (by omega), j + 1, by omega, by omega, by omega, ?_⟩
    rw [qp7 _ j (by omega), qo5 _ _ _ hj2]
  · obtain rfl : j = pix.length := by omega
    have h1 := qe7 (nL m k) pix
    have h3 : (qf4 (nL m k) pix).take pix.length = qf4 (nL m k) pix := List.take_of_length_le (by omega)
    rw [h3]
    refine ⟨by rw [List.length_take]; omega, fits64 (by omega) (by omega), k + 1, by omega, by omega, by omega, ?_⟩
    rw [takeL_snoc _ k (by omega), qo9 _ _ _ hlt]
  · first | (rw [List.take_of_length_le (by omega)]; rfl) | rw [List.take_of_length_le (by omega)]
def lastTo (left : List (List Int)) (j : Nat) : Nat → Int
  | 0 => -1
  | i + 1 => if nI (nL left i) j ≠ 0 then (i : Int) else lastTo left j i
def pivP (left : List (List Int)) (j : Nat) (at_ : Int) : List Int := if nI (nL left at_.toNat) j < 0 then qe0 (nL left at_.toNat) (-1) else nL left at_.toNat
def qc8 (left : List (List Int)) (p : List Int) (j : Nat) (at_ : Int) : Nat → List (List Int)
  | 0 => []
  | i + 1 => if (i : Int) ≠ at_ then qc8 left p j at_ i ++ [qb6 (nL left i) p j] else qc8 left p j at_ i
structure RS where
  left : List (List Int)
  done_ : List (List Int)
  piv : List Int
def qq8 (s : RS) (j : Nat) : RS :=
  if lastTo s.left j s.left.length < 0 then s
  else ⟨qc8 s.left (pivP s.left j (lastTo s.left j s.left.length)) j (lastTo s.left j s.left.length) s.left.length, (s.done_.map fun r => qb6 r (pivP s.left j (lastTo s.left j s.left.length)) j) ++ [pivP s.left j (lastTo s.left j s.left.length)], s.piv ++ [(j : Int)]⟩
def rdTo (rows : List (List Int)) : Nat → RS
  | 0 => ⟨rows.map qe1, [], []⟩
  | j + 1 => qq8 (rdTo rows j) j
def rdW (rows : List (List Int)) : Nat := (nL rows 0).length
def qa9 (rows : List (List Int)) : List (List Int) × List Int := ((rdTo rows (rdW rows)).done_, (rdTo rows (rdW rows)).piv)
structure RstOk (s : RS) (j : Nat) : Prop where
  sca : nI (nL s.left (lastTo s.left j s.left.length).toNat) j < 0 → q5j (nL s.left (lastTo s.left j s.left.length).toNat) (-1)
  wo : ∀ i, i < s.left.length → (i : Int) ≠ lastTo s.left j s.left.length → WoOk (nL s.left i) (pivP s.left j (lastTo s.left j s.left.length)) j
  woD : ∀ i, i < s.done_.length → WoOk (nL s.done_ i) (pivP s.left j (lastTo s.left j s.left.length)) j
structure RdOk (rows : List (List Int)) : Prop where
  n : rows.length ≤ 1000
  w : rdW rows ≤ 1000
  each : ∀ i, i < rows.length → (nL rows i).length = rdW rows
  big : ∀ i, i < rows.length → bigL (nL rows i)
  step : ∀ j, j < rdW rows → 0 ≤ lastTo (rdTo rows j).left j (rdTo rows j).left.length → RstOk (rdTo rows j) j
theorem qh2 (l : List Int) : (qe1 l).length = l.length := by simp [qe1]
theorem qh6 (r p : List Int) (j : Nat) : (qb6 r p j).length = r.length := by unfold qb6; rw [qh2]; simp [qj1]
theorem qk4 (l : List Int) (n : Int) : (qe0 l n).length = l.length := by simp [qe0]
theorem qj4 (left : List (List Int)) (j : Nat) : ∀ k : Nat, lastTo left j k < k ∧ -1 ≤ lastTo left j k
  | 0 => ⟨by show (-1 : Int) < 0; omega, by show (-1 : Int) ≤ -1; omega⟩
  | k + 1 => by
    have := qj4 left j k
    rw [lastTo]
    split <;> omega
theorem qk5 (left : List (List Int)) (p : List Int) (j : Nat) (a : Int) : ∀ k, ∀ x ∈ qc8 left p j a k, ∃ i, i < k ∧ (i : Int) ≠ a ∧ x = qb6 (nL left i) p j
  | 0, x, hx => by cases hx
  | k + 1, x, hx => by
    rw [qc8] at hx
    split at hx
    · rename_i hne
      rcases List.mem_append.1 hx with hx | hx
      · obtain ⟨i, h1, h2, h3⟩ := qk5 left p j a k x hx
        exact ⟨i, by omega, h2, h3⟩
      · exact ⟨k, by omega, hne, by simpa using hx⟩
    · obtain ⟨i, h1, h2, h3⟩ := qk5 left p j a k x hx
      exact ⟨i, by omega, h2, h3⟩
theorem qk6 (left : List (List Int)) (p : List Int) (j : Nat) (a : Int) : ∀ k, (qc8 left p j a k).length ≤ k
  | 0 => Nat.le_refl _
  | k + 1 => by
    have := qk6 left p j a k
    rw [qc8]
    split
    · simp; omega
    · omega
structure RdSh (n W j : Nat) (s : RS) : Prop where
  ln : s.left.length ≤ n
  le : ∀ x ∈ s.left, x.length = W
  dn : s.done_.length ≤ j
  de : ∀ x ∈ s.done_, x.length = W
  pn : s.piv.length ≤ j
theorem qh7 (m : List (List Int)) (i : Nat) (h : i < m.length) : nL m i ∈ m := by rw [qe3 m i h]; exact List.getElem_mem h
theorem q1a {n W j : Nat} {s : RS} (h : RdSh n W j s) (a : Int) (ha : 0 ≤ a) (hb : a < s.left.length) : (pivP s.left j a).length = W := by
  unfold pivP
  have := h.le _ (qh7 s.left a.toNat (by omega))
  split
  · rw [qk4]; exact this
  · exact this
theorem RdSh.step {n W j : Nat} {s : RS} (h : RdSh n W j s) : RdSh n W (j + 1) (qq8 s j) := by
  unfold qq8
  have hl := qj4 s.left j s.left.length
  generalize lastTo s.left j s.left.length = a at *
  split
  · exact ⟨h.ln, h.le, by have := h.dn; omega, h.de, by have := h.pn; omega⟩
  · have hp := q1a h a (by omega) hl.1
    refine ⟨Nat.le_trans (qk6 _ _ _ _ _) h.ln, fun x hx => ?_, by have := h.dn; simp; omega, fun x hx => ?_, by have := h.pn; simp; omega⟩
    · obtain ⟨i, h1, _, rfl⟩ := qk5 _ _ _ _ _ x hx
      rw [qh6]; exact h.le _ (qh7 _ _ h1)
    · rcases List.mem_append.1 hx with hx | hx
      · obtain ⟨y, hy, rfl⟩ := List.mem_map.1 hx
        rw [qh6]; exact h.de y hy
      · rw [List.mem_singleton.1 hx]; exact hp
theorem q31 {rows : List (List Int)} (h : RdOk rows) : ∀ j, RdSh rows.length (rdW rows) j (rdTo rows j)
  | 0 => by
    refine ⟨by simp [rdTo], fun x hx => ?_, Nat.le_refl _, (fun x hx => by cases hx), Nat.le_refl _⟩
    obtain ⟨y, hy, rfl⟩ := List.mem_map.1 hx
    obtain ⟨i, hi, rfl⟩ := List.getElem_of_mem hy
    rw [qh2, ← qe3 rows i hi]; exact h.each i hi
  | j + 1 => (q31 h j).step
theorem qy5 {rows : List (List Int)} {j : Nat} {s : RS} (h : rdTo rows j = s) (h0 : s.left = []) : ∀ k, rdTo rows (j + k) = s
  | 0 => h
  | k + 1 => by
    rw [← Nat.add_assoc, rdTo, qy5 h h0 k, qq8, if_pos]
    rw [h0]; exact (by decide : (-1 : Int) < 0)
abbrev sRd : FSpec := tspec false none [qd2] [qd2, qb8] (fun x => RdOk x.1) (fun x => ((qa9 x.1).1, (qa9 x.1).2, ()))
structure RdIv (rows : List (List Int)) (j : Nat) (s : RS) : Prop where
  le : j ≤ rdW rows
  eq : rdTo rows j = s
structure DnIv (d : List (List Int)) (p : List Int) (j i : Nat) (r : List (List Int)) : Prop where
  le : i ≤ d.length
  eq : r = ovr (.list (.int .i64)) (fun q => qb6 (nL d q) p j) d i
def ivRd (rows : List (List Int)) : Nat → Option Inv
  | 0 => some (Inv.of [4, 21] 1 (fun k : Nat => [(4, .own 0), (21, .lit (.int .i64 k))]) (fun k => [.vec 24 (.list (.int .i64)) ((rows.map qe1).take k)]) (fun k => k ≤ rows.length) (fun k => rows.length - k))
  | 1 => some (Inv.of [4, 5, 8, 9] 3 (fun s : Nat × RS => [(4, .dat (.list (.int .i64)) s.2.left), (5, .own 1), (8, .own 2), (9, .lit (.int .i64 s.1))]) (fun s => [.dead, .vec 24 (.list (.int .i64)) s.2.done_, .vec 3 (.int .i64) s.2.piv]) (fun s => RdIv rows s.1 s.2) (fun s => rdW rows - s.1))
  | 2 => some (Eng.Inv.mk (Nat × RS) Nat [5, 8, 10, 46] 3 (fun q k => [(5, .own 1), (8, .own 2), (10, .lit (.int .i64 (lastTo q.2.left q.1 k))), (46, .lit (.int .i64 k))]) (fun q k => [.dead, .vec 24 (.list (.int .i64)) q.2.done_, .vec 3 (.int .i64) q.2.piv]) (fun q k => k ≤ q.2.left.length) (fun q k => q.2.left.length - k))
  | 3 => some (Eng.Inv.mk (Nat × RS × List Int × Int) Nat [5, 8, 14, 73] 4 (fun q k => [(5, .own 1), (8, .own 2), (14, .own 3), (73, .lit (.int .i64 k))]) (fun q k => [.dead, .vec 24 (.list (.int .i64)) q.2.1.done_, .vec 3 (.int .i64) q.2.1.piv, .vec 24 (.list (.int .i64)) (qc8 q.2.1.left q.2.2.1 q.1 q.2.2.2 k)]) (fun q k => k ≤ q.2.1.left.length) (fun q k => q.2.1.left.length - k))
  | 4 => some (Eng.Inv.mk (Nat × RS × List Int × Int) (Nat × List (List Int)) [5, 8, 14, 89, 91] 4 (fun q s => [(5, .own 1), (8, .own 2), (14, .own 3), (89, .own 1), (91, .lit (.int .i64 s.1))]) (fun q s => [.dead, .vec 24 (.list (.int .i64)) s.2, .vec 3 (.int .i64) q.2.1.piv, .vec 24 (.list (.int .i64)) (qc8 q.2.1.left q.2.2.1 q.1 q.2.2.2 q.2.1.left.length)]) (fun q s => DnIv q.2.1.done_ q.2.2.1 q.1 s.1 s.2) (fun q s => q.2.1.done_.length - s.1))
  | _ => none
theorem q5m : Meets Try.prog 145 sRd := by
  refine meets (snd (SpecsOk.cons qq7 (SpecsOk.cons q3x (SpecsOk.cons q5k (SpecsOk.nil _))))) Try.func145 rfl rfl (fun x => ivRd x.1) (fun _ => by kernel_rfl) (by decide) ?_
  rintro ⟨rows, ⟨⟩⟩ h
  revert rows
  intro (rows : List (List Int)) (h : RdOk rows)
  refine by_vc (B := ∃ (v0 : Unit), ∃ (v1 : Nat), Nat.le v1 (List.length rows)/\((True/\(0 : Int) = (↑v1 : Int)/\True)/\List.take v1 (List.map qe1 rows) = []/\True)/\∀ (v2 : Nat), Nat.le v2 (List.length rows)->(decide ((↑v2 : Int) < (↑(List.length rows) : Int)) = true->((0 : Int) <= (↑v2 : Int)/\(↑v2 : Int) < (↑(List.length rows) : Int))/\bigL (nthD (Ty.list (Ty.int .i64)) rows (Int.toNat (↑v2 : Int)))/\((0 : Nat) < (0 : Nat) + (1 : Nat)/\Nat.le (List.length (List.take v2 (List.map qe1 rows)) + ((0 : Nat) + (1 : Nat))) (1000000 : Nat))/\fits .i64 ((↑v2 : Int) + (1 : Int))/\∃ (v5 : Nat), Nat.le v5 (List.length rows)/\List.length rows - v5 < List.length rows - v2/\(True/\(↑v2 : Int) + (1 : Int) = (↑v5 : Int)/\True)/\List.take v2 (List.map qe1 rows) ++ [qe1 (nthD (Ty.list (Ty.int .i64)) rows (Int.toNat (↑v2 : Int)))] = List.take v5 (List.map qe1 rows)/\True)/\(decide ((↑v2 : Int) < (↑(List.length rows) : Int)) = false->∃ (v5 : Unit), ∃ (v6 : Nat × RS), RdIv rows (Prod.fst v6) (Prod.snd v6)/\((List.take v2 (List.map qe1 rows) = RS.left (Prod.snd v6)/\True/\True/\(0 : Int) = (↑(Prod.fst v6) : Int)/\True)/\True/\RS.done_ (Prod.snd v6) = []/\RS.piv (Prod.snd v6) = []/\True)/\∀ (v7 : Nat × RS), RdIv rows (Prod.fst v7) (Prod.snd v7)->(decide ((0 : Int) < (↑(List.length (RS.left (Prod.snd v7))) : Int)) = true->((0 : Int) <= (0 : Int)/\(0 : Int) < (↑(List.length (RS.left (Prod.snd v7))) : Int))/\(decide ((↑(Prod.fst v7) : Int) < (↑(List.length (nthD (Ty.list (Ty.int .i64)) (RS.left (Prod.snd v7)) (0 : Nat))) : Int)) = true->∃ (v11 : Nat × RS), ∃ (v12 : Nat), Nat.le v12 (List.length (RS.left (Prod.snd v11)))/\((True/\True/\(-1 : Int) = lastTo (RS.left (Prod.snd v11)) (Prod.fst v11) v12/\(0 : Int) = (↑v12 : Int)/\True)/\True/\RS.done_ (Prod.snd v7) = RS.done_ (Prod.snd v11)/\RS.piv (Prod.snd v7) = RS.piv (Prod.snd v11)/\True)/\∀ (v13 : Nat), Nat.le v13 (List.length (RS.left (Prod.snd v11)))->(decide ((↑v13 : Int) < (↑(List.length (RS.left (Prod.snd v7))) : Int)) = true->((0 : Int) <= (↑v13 : Int)/\(↑v13 : Int) < (↑(List.length (RS.left (Prod.snd v7))) : Int))/\((0 : Int) <= (↑(Prod.fst v7) : Int)/\(↑(Prod.fst v7) : Int) < (↑(List.length (nthD (Ty.list (Ty.int .i64)) (RS.left (Prod.snd v7)) (Int.toNat (↑v13 : Int)))) : Int))/\((nthD (Ty.int .i64) (nthD (Ty.list (Ty.int .i64)) (RS.left (Prod.snd v7)) (Int.toNat (↑v13 : Int))) (Int.toNat (↑(Prod.fst v7) : Int)) != (0 : Int)) = true->fits .i64 ((↑v13 : Int) + (1 : Int))/\∃ (v17 : Nat), Nat.le v17 (List.length (RS.left (Prod.snd v11)))/\List.length (RS.left (Prod.snd v11)) - v17 < List.length (RS.left (Prod.snd v11)) - v13/\(True/\True/\(↑v13 : Int) = lastTo (RS.left (Prod.snd v11)) (Prod.fst v11) v17/\(↑v13 : Int) + (1 : Int) = (↑v17 : Int)/\True)/\True/\RS.done_ (Prod.snd v11) = RS.done_ (Prod.snd v11)/\RS.piv (Prod.snd v11) = RS.piv (Prod.snd v11)/\True)/\((nthD (Ty.int .i64) (nthD (Ty.list (Ty.int .i64)) (RS.left (Prod.snd v7)) (Int.toNat (↑v13 : Int))) (Int.toNat (↑(Prod.fst v7) : Int)) != (0 : Int)) = false->fits .i64 ((↑v13 : Int) + (1 : Int))/\∃ (v17 : Nat), Nat.le v17 (List.length (RS.left (Prod.snd v11)))/\List.length (RS.left (Prod.snd v11)) - v17 < List.length (RS.left (Prod.snd v11)) - v13/\(True/\True/\lastTo (RS.left (Prod.snd v11)) (Prod.fst v11) v13 = lastTo (RS.left (Prod.snd v11)) (Prod.fst v11) v17/\(↑v13 : Int) + (1 : Int) = (↑v17 : Int)/\True)/\True/\RS.done_ (Prod.snd v11) = RS.done_ (Prod.snd v11)/\RS.piv (Prod.snd v11) = RS.piv (Prod.snd v11)/\True))/\(decide ((↑v13 : Int) < (↑(List.length (RS.left (Prod.snd v7))) : Int)) = false->(decide (lastTo (RS.left (Prod.snd v11)) (Prod.fst v11) v13 < (0 : Int)) = true->fits .i64 ((↑(Prod.fst v7) : Int) + (1 : Int))/\∃ (v17 : Nat × RS), RdIv rows (Prod.fst v17) (Prod.snd v17)/\rdW rows - Prod.fst v17 < rdW rows - Prod.fst v7/\(RS.left (Prod.snd v7) = RS.left (Prod.snd v17)/\True/\True/\(↑(Prod.fst v7) : Int) + (1 : Int) = (↑(Prod.fst v17) : Int)/\True)/\True/\RS.done_ (Prod.snd v11) = RS.done_ (Prod.snd v17)/\RS.piv (Prod.snd v11) = RS.piv (Prod.snd v17)/\True)/\(decide (lastTo (RS.left (Prod.snd v11)) (Prod.fst v11) v13 < (0 : Int)) = false->((0 : Int) <= lastTo (RS.left (Prod.snd v11)) (Prod.fst v11) v13/\lastTo (RS.left (Prod.snd v11)) (Prod.fst v11) v13 < (↑(List.length (RS.left (Prod.snd v7))) : Int))/\((0 : Int) <= (↑(Prod.fst v7) : Int)/\(↑(Prod.fst v7) : Int) < (↑(List.length (nthD (Ty.list (Ty.int .i64)) (RS.left (Prod.snd v7)) (Int.toNat (lastTo (RS.left (Prod.snd v11)) (Prod.fst v11) v13)))) : Int))/\(decide (nthD (Ty.int .i64) (nthD (Ty.list (Ty.int .i64)) (RS.left (Prod.snd v7)) (Int.toNat (lastTo (RS.left (Prod.snd v11)) (Prod.fst v11) v13))) (Int.toNat (↑(Prod.fst v7) : Int)) < (0 : Int)) = true->q5j (nthD (Ty.list (Ty.int .i64)) (RS.left (Prod.snd v7)) (Int.toNat (lastTo (RS.left (Prod.snd v11)) (Prod.fst v11) v13))) (-1 : Int)/\∃ (v18 : Nat × RS × List Int × Int), ∃ (v19 : Nat), Nat.le v19 (List.length (RS.left (Prod.fst (Prod.snd v18))))/\((True/\True/\True/\(0 : Int) = (↑v19 : Int)/\True)/\True/\RS.done_ (Prod.snd v11) = RS.done_ (Prod.fst (Prod.snd v18))/\RS.piv (Prod.snd v11) = RS.piv (Prod.fst (Prod.snd v18))/\qc8 (RS.left (Prod.fst (Prod.snd v18))) (Prod.fst (Prod.snd (Prod.snd v18))) (Prod.fst v18) (Prod.snd (Prod.snd (Prod.snd v18))) v19 = []/\True)/\∀ (v20 : Nat), Nat.le v20 (List.length (RS.left (Prod.fst (Prod.snd v18))))->(decide ((↑v20 : Int) < (↑(List.length (RS.left (Prod.snd v7))) : Int)) = true->((0 : Int) <= (↑v20 : Int)/\(↑v20 : Int) < (↑(List.length (RS.left (Prod.snd v7))) : Int))/\(((↑v20 : Int) != lastTo (RS.left (Prod.snd v11)) (Prod.fst v11) v13) = true->((0 : Ty.den tInt) <= (↑(Prod.fst v7) : Int)/\WoOk (nthD (Ty.list (Ty.int .i64)) (RS.left (Prod.snd v7)) (Int.toNat (↑v20 : Int))) (qe0 (nthD (Ty.list (Ty.int .i64)) (RS.left (Prod.snd v7)) (Int.toNat (lastTo (RS.left (Prod.snd v11)) (Prod.fst v11) v13))) (-1 : Int)) (Int.toNat (↑(Prod.fst v7) : Int)))/\((0 : Nat) < List.length [qb6 (nthD (Ty.list (Ty.int .i64)) (RS.left (Prod.snd v7)) (Int.toNat (↑v20 : Int))) (qe0 (nthD (Ty.list (Ty.int .i64)) (RS.left (Prod.snd v7)) (Int.toNat (lastTo (RS.left (Prod.snd v11)) (Prod.fst v11) v13))) (-1 : Int)) (Int.toNat (↑(Prod.fst v7) : Int))]/\Nat.le (List.length (qc8 (RS.left (Prod.fst (Prod.snd v18))) (Prod.fst (Prod.snd (Prod.snd v18))) (Prod.fst v18) (Prod.snd (Prod.snd (Prod.snd v18))) v20) + List.length [qb6 (nthD (Ty.list (Ty.int .i64)) (RS.left (Prod.snd v7)) (Int.toNat (↑v20 : Int))) (qe0 (nthD (Ty.list (Ty.int .i64)) (RS.left (Prod.snd v7)) (Int.toNat (lastTo (RS.left (Prod.snd v11)) (Prod.fst v11) v13))) (-1 : Int)) (Int.toNat (↑(Prod.fst v7) : Int))]) (1000000 : Nat))/\fits .i64 ((↑v20 : Int) + (1 : Int))/\∃ (v24 : Nat), Nat.le v24 (List.length (RS.left (Prod.fst (Prod.snd v18))))/\List.length (RS.left (Prod.fst (Prod.snd v18))) - v24 < List.length (RS.left (Prod.fst (Prod.snd v18))) - v20/\(True/\True/\True/\(↑v20 : Int) + (1 : Int) = (↑v24 : Int)/\True)/\True/\RS.done_ (Prod.fst (Prod.snd v18)) = RS.done_ (Prod.fst (Prod.snd v18))/\RS.piv (Prod.fst (Prod.snd v18)) = RS.piv (Prod.fst (Prod.snd v18))/\qc8 (RS.left (Prod.fst (Prod.snd v18))) (Prod.fst (Prod.snd (Prod.snd v18))) (Prod.fst v18) (Prod.snd (Prod.snd (Prod.snd v18))) v20 ++ [qb6 (nthD (Ty.list (Ty.int .i64)) (RS.left (Prod.snd v7)) (Int.toNat (↑v20 : Int))) (qe0 (nthD (Ty.list (Ty.int .i64)) (RS.left (Prod.snd v7)) (Int.toNat (lastTo (RS.left (Prod.snd v11)) (Prod.fst v11) v13))) (-1 : Int)) (Int.toNat (↑(Prod.fst v7) : Int))] = qc8 (RS.left (Prod.fst (Prod.snd v18))) (Prod.fst (Prod.snd (Prod.snd v18))) (Prod.fst v18) (Prod.snd (Prod.snd (Prod.snd v18))) v24/\True)/\(((↑v20 : Int) != lastTo (RS.left (Prod.snd v11)) (Prod.fst v11) v13) = false->fits .i64 ((↑v20 : Int) + (1 : Int))/\∃ (v24 : Nat), Nat.le v24 (List.length (RS.left (Prod.fst (Prod.snd v18))))/\List.length (RS.left (Prod.fst (Prod.snd v18))) - v24 < List.length (RS.left (Prod.fst (Prod.snd v18))) - v20/\(True/\True/\True/\(↑v20 : Int) + (1 : Int) = (↑v24 : Int)/\True)/\True/\RS.done_ (Prod.fst (Prod.snd v18)) = RS.done_ (Prod.fst (Prod.snd v18))/\RS.piv (Prod.fst (Prod.snd v18)) = RS.piv (Prod.fst (Prod.snd v18))/\qc8 (RS.left (Prod.fst (Prod.snd v18))) (Prod.fst (Prod.snd (Prod.snd v18))) (Prod.fst v18) (Prod.snd (Prod.snd (Prod.snd v18))) v20 = qc8 (RS.left (Prod.fst (Prod.snd v18))) (Prod.fst (Prod.snd (Prod.snd v18))) (Prod.fst v18) (Prod.snd (Prod.snd (Prod.snd v18))) v24/\True))/\(decide ((↑v20 : Int) < (↑(List.length (RS.left (Prod.snd v7))) : Int)) = false->∃ (v23 : Nat × RS × List Int × Int), ∃ (v24 : Nat × List (List Int)), DnIv (RS.done_ (Prod.fst (Prod.snd v23))) (Prod.fst (Prod.snd (Prod.snd v23))) (Prod.fst v23) (Prod.fst v24) (Prod.snd v24)/\((True/\True/\True/\True/\(0 : Int) = (↑(Prod.fst v24) : Int)/\True)/\True/\RS.done_ (Prod.fst (Prod.snd v18)) = Prod.snd v24/\RS.piv (Prod.fst (Prod.snd v18)) = RS.piv (Prod.fst (Prod.snd v23))/\qc8 (RS.left (Prod.fst (Prod.snd v18))) (Prod.fst (Prod.snd (Prod.snd v18))) (Prod.fst v18) (Prod.snd (Prod.snd (Prod.snd v18))) v20 = qc8 (RS.left (Prod.fst (Prod.snd v23))) (Prod.fst (Prod.snd (Prod.snd v23))) (Prod.fst v23) (Prod.snd (Prod.snd (Prod.snd v23))) (List.length (RS.left (Prod.fst (Prod.snd v23))))/\True)/\∀ (v25 : Nat × List (List Int)), DnIv (RS.done_ (Prod.fst (Prod.snd v23))) (Prod.fst (Prod.snd (Prod.snd v23))) (Prod.fst v23) (Prod.fst v25) (Prod.snd v25)->(decide ((↑(Prod.fst v25) : Int) < (↑(List.length (RS.done_ (Prod.fst (Prod.snd v18)))) : Int)) = true->((0 : Int) <= (↑(Prod.fst v25) : Int)/\(↑(Prod.fst v25) : Int) < (↑(List.length (Prod.snd v25)) : Int))/\Int.toNat (↑(Prod.fst v25) : Int) < List.length (Prod.snd v25)/\((0 : Ty.den tInt) <= (↑(Prod.fst v7) : Int)/\WoOk (nthD (Ty.list (Ty.int .i64)) (Prod.snd v25) (Int.toNat (↑(Prod.fst v25) : Int))) (qe0 (nthD (Ty.list (Ty.int .i64)) (RS.left (Prod.snd v7)) (Int.toNat (lastTo (RS.left (Prod.snd v11)) (Prod.fst v11) v13))) (-1 : Int)) (Int.toNat (↑(Prod.fst v7) : Int)))/\((0 : Int) <= (↑(Prod.fst v25) : Int)/\(↑(Prod.fst v25) : Int) < (↑(List.length (Prod.snd v25)) : Int))/\Int.toNat (↑(Prod.fst v25) : Int) < List.length (Prod.snd v25)/\fits .i64 ((↑(Prod.fst v25) : Int) + (1 : Int))/\∃ (v28 : Nat × List (List Int)), DnIv (RS.done_ (Prod.fst (Prod.snd v23))) (Prod.fst (Prod.snd (Prod.snd v23))) (Prod.fst v23) (Prod.fst v28) (Prod.snd v28)/\List.length (RS.done_ (Prod.fst (Prod.snd v23))) - Prod.fst v28 < List.length (RS.done_ (Prod.fst (Prod.snd v23))) - Prod.fst v25/\(True/\True/\True/\True/\(↑(Prod.fst v25) : Int) + (1 : Int) = (↑(Prod.fst v28) : Int)/\True)/\True/\List.set (Prod.snd v25) (Int.toNat (↑(Prod.fst v25) : Int)) (qb6 (nthD (Ty.list (Ty.int .i64)) (Prod.snd v25) (Int.toNat (↑(Prod.fst v25) : Int))) (qe0 (nthD (Ty.list (Ty.int .i64)) (RS.left (Prod.snd v7)) (Int.toNat (lastTo (RS.left (Prod.snd v11)) (Prod.fst v11) v13))) (-1 : Int)) (Int.toNat (↑(Prod.fst v7) : Int))) = Prod.snd v28/\RS.piv (Prod.fst (Prod.snd v23)) = RS.piv (Prod.fst (Prod.snd v23))/\qc8 (RS.left (Prod.fst (Prod.snd v23))) (Prod.fst (Prod.snd (Prod.snd v23))) (Prod.fst v23) (Prod.snd (Prod.snd (Prod.snd v23))) (List.length (RS.left (Prod.fst (Prod.snd v23)))) = qc8 (RS.left (Prod.fst (Prod.snd v23))) (Prod.fst (Prod.snd (Prod.snd v23))) (Prod.fst v23) (Prod.snd (Prod.snd (Prod.snd v23))) (List.length (RS.left (Prod.fst (Prod.snd v23))))/\True)/\(decide ((↑(Prod.fst v25) : Int) < (↑(List.length (RS.done_ (Prod.fst (Prod.snd v18)))) : Int)) = false->((0 : Nat) < List.length [qe0 (nthD (Ty.list (Ty.int .i64)) (RS.left (Prod.snd v7)) (Int.toNat (lastTo (RS.left (Prod.snd v11)) (Prod.fst v11) v13))) (-1 : Int)]/\Nat.le (List.length (Prod.snd v25) + List.length [qe0 (nthD (Ty.list (Ty.int .i64)) (RS.left (Prod.snd v7)) (Int.toNat (lastTo (RS.left (Prod.snd v11)) (Prod.fst v11) v13))) (-1 : Int)]) (1000000 : Nat))/\((0 : Nat) < List.length [(↑(Prod.fst v7) : Int)]/\Nat.le (List.length (RS.piv (Prod.fst (Prod.snd v23))) + List.length [(↑(Prod.fst v7) : Int)]) (1000000 : Nat))/\fits .i64 ((↑(Prod.fst v7) : Int) + (1 : Int))/\∃ (v28 : Nat × RS), RdIv rows (Prod.fst v28) (Prod.snd v28)/\rdW rows - Prod.fst v28 < rdW rows - Prod.fst v7/\(qc8 (RS.left (Prod.fst (Prod.snd v23))) (Prod.fst (Prod.snd (Prod.snd v23))) (Prod.fst v23) (Prod.snd (Prod.snd (Prod.snd v23))) (List.length (RS.left (Prod.fst (Prod.snd v23)))) = RS.left (Prod.snd v28)/\True/\True/\(↑(Prod.fst v7) : Int) + (1 : Int) = (↑(Prod.fst v28) : Int)/\True)/\True/\Prod.snd v25 ++ [qe0 (nthD (Ty.list (Ty.int .i64)) (RS.left (Prod.snd v7)) (Int.toNat (lastTo (RS.left (Prod.snd v11)) (Prod.fst v11) v13))) (-1 : Int)] = RS.done_ (Prod.snd v28)/\RS.piv (Prod.fst (Prod.snd v23)) ++ [(↑(Prod.fst v7) : Int)] = RS.piv (Prod.snd v28)/\True)))/\(decide (nthD (Ty.int .i64) (nthD (Ty.list (Ty.int .i64)) (RS.left (Prod.snd v7)) (Int.toNat (lastTo (RS.left (Prod.snd v11)) (Prod.fst v11) v13))) (Int.toNat (↑(Prod.fst v7) : Int)) < (0 : Int)) = false->∃ (v18 : Nat × RS × List Int × Int), ∃ (v19 : Nat), Nat.le v19 (List.length (RS.left (Prod.fst (Prod.snd v18))))/\((True/\True/\True/\(0 : Int) = (↑v19 : Int)/\True)/\True/\RS.done_ (Prod.snd v11) = RS.done_ (Prod.fst (Prod.snd v18))/\RS.piv (Prod.snd v11) = RS.piv (Prod.fst (Prod.snd v18))/\qc8 (RS.left (Prod.fst (Prod.snd v18))) (Prod.fst (Prod.snd (Prod.snd v18))) (Prod.fst v18) (Prod.snd (Prod.snd (Prod.snd v18))) v19 = []/\True)/\∀ (v20 : Nat), Nat.le v20 (List.length (RS.left (Prod.fst (Prod.snd v18))))->(decide ((↑v20 : Int) < (↑(List.length (RS.left (Prod.snd v7))) : Int)) = true->((0 : Int) <= (↑v20 : Int)/\(↑v20 : Int) < (↑(List.length (RS.left (Prod.snd v7))) : Int))/\(((↑v20 : Int) != lastTo (RS.left (Prod.snd v11)) (Prod.fst v11) v13) = true->((0 : Ty.den tInt) <= (↑(Prod.fst v7) : Int)/\WoOk (nthD (Ty.list (Ty.int .i64)) (RS.left (Prod.snd v7)) (Int.toNat (↑v20 : Int))) (nthD (Ty.list (Ty.int .i64)) (RS.left (Prod.snd v7)) (Int.toNat (lastTo (RS.left (Prod.snd v11)) (Prod.fst v11) v13))) (Int.toNat (↑(Prod.fst v7) : Int)))/\((0 : Nat) < List.length [qb6 (nthD (Ty.list (Ty.int .i64)) (RS.left (Prod.snd v7)) (Int.toNat (↑v20 : Int))) (nthD (Ty.list (Ty.int .i64)) (RS.left (Prod.snd v7)) (Int.toNat (lastTo (RS.left (Prod.snd v11)) (Prod.fst v11) v13))) (Int.toNat (↑(Prod.fst v7) : Int))]/\Nat.le (List.length (qc8 (RS.left (Prod.fst (Prod.snd v18))) (Prod.fst (Prod.snd (Prod.snd v18))) (Prod.fst v18) (Prod.snd (Prod.snd (Prod.snd v18))) v20) + List.length [qb6 (nthD (Ty.list (Ty.int .i64)) (RS.left (Prod.snd v7)) (Int.toNat (↑v20 : Int))) (nthD (Ty.list (Ty.int .i64)) (RS.left (Prod.snd v7)) (Int.toNat (lastTo (RS.left (Prod.snd v11)) (Prod.fst v11) v13))) (Int.toNat (↑(Prod.fst v7) : Int))]) (1000000 : Nat))/\fits .i64 ((↑v20 : Int) + (1 : Int))/\∃ (v24 : Nat), Nat.le v24 (List.length (RS.left (Prod.fst (Prod.snd v18))))/\List.length (RS.left (Prod.fst (Prod.snd v18))) - v24 < List.length (RS.left (Prod.fst (Prod.snd v18))) - v20/\(True/\True/\True/\(↑v20 : Int) + (1 : Int) = (↑v24 : Int)/\True)/\True/\RS.done_ (Prod.fst (Prod.snd v18)) = RS.done_ (Prod.fst (Prod.snd v18))/\RS.piv (Prod.fst (Prod.snd v18)) = RS.piv (Prod.fst (Prod.snd v18))/\qc8 (RS.left (Prod.fst (Prod.snd v18))) (Prod.fst (Prod.snd (Prod.snd v18))) (Prod.fst v18) (Prod.snd (Prod.snd (Prod.snd v18))) v20 ++ [qb6 (nthD (Ty.list (Ty.int .i64)) (RS.left (Prod.snd v7)) (Int.toNat (↑v20 : Int))) (nthD (Ty.list (Ty.int .i64)) (RS.left (Prod.snd v7)) (Int.toNat (lastTo (RS.left (Prod.snd v11)) (Prod.fst v11) v13))) (Int.toNat (↑(Prod.fst v7) : Int))] = qc8 (RS.left (Prod.fst (Prod.snd v18))) (Prod.fst (Prod.snd (Prod.snd v18))) (Prod.fst v18) (Prod.snd (Prod.snd (Prod.snd v18))) v24/\True)/\(((↑v20 : Int) != lastTo (RS.left (Prod.snd v11)) (Prod.fst v11) v13) = false->fits .i64 ((↑v20 : Int) + (1 : Int))/\∃ (v24 : Nat), Nat.le v24 (List.length (RS.left (Prod.fst (Prod.snd v18))))/\List.length (RS.left (Prod.fst (Prod.snd v18))) - v24 < List.length (RS.left (Prod.fst (Prod.snd v18))) - v20/\(True/\True/\True/\(↑v20 : Int) + (1 : Int) = (↑v24 : Int)/\True)/\True/\RS.done_ (Prod.fst (Prod.snd v18)) = RS.done_ (Prod.fst (Prod.snd v18))/\RS.piv (Prod.fst (Prod.snd v18)) = RS.piv (Prod.fst (Prod.snd v18))/\qc8 (RS.left (Prod.fst (Prod.snd v18))) (Prod.fst (Prod.snd (Prod.snd v18))) (Prod.fst v18) (Prod.snd (Prod.snd (Prod.snd v18))) v20 = qc8 (RS.left (Prod.fst (Prod.snd v18))) (Prod.fst (Prod.snd (Prod.snd v18))) (Prod.fst v18) (Prod.snd (Prod.snd (Prod.snd v18))) v24/\True))/\(decide ((↑v20 : Int) < (↑(List.length (RS.left (Prod.snd v7))) : Int)) = false->∃ (v23 : Nat × RS × List Int × Int), ∃ (v24 : Nat × List (List Int)), DnIv (RS.done_ (Prod.fst (Prod.snd v23))) (Prod.fst (Prod.snd (Prod.snd v23))) (Prod.fst v23) (Prod.fst v24) (Prod.snd v24)/\((True/\True/\True/\True/\(0 : Int) = (↑(Prod.fst v24) : Int)/\True)/\True/\RS.done_ (Prod.fst (Prod.snd v18)) = Prod.snd v24/\RS.piv (Prod.fst (Prod.snd v18)) = RS.piv (Prod.fst (Prod.snd v23))/\qc8 (RS.left (Prod.fst (Prod.snd v18))) (Prod.fst (Prod.snd (Prod.snd v18))) (Prod.fst v18) (Prod.snd (Prod.snd (Prod.snd v18))) v20 = qc8 (RS.left (Prod.fst (Prod.snd v23))) (Prod.fst (Prod.snd (Prod.snd v23))) (Prod.fst v23) (Prod.snd (Prod.snd (Prod.snd v23))) (List.length (RS.left (Prod.fst (Prod.snd v23))))/\True)/\∀ (v25 : Nat × List (List Int)), DnIv (RS.done_ (Prod.fst (Prod.snd v23))) (Prod.fst (Prod.snd (Prod.snd v23))) (Prod.fst v23) (Prod.fst v25) (Prod.snd v25)->(decide ((↑(Prod.fst v25) : Int) < (↑(List.length (RS.done_ (Prod.fst (Prod.snd v18)))) : Int)) = true->((0 : Int) <= (↑(Prod.fst v25) : Int)/\(↑(Prod.fst v25) : Int) < (↑(List.length (Prod.snd v25)) : Int))/\Int.toNat (↑(Prod.fst v25) : Int) < List.length (Prod.snd v25)/\((0 : Ty.den tInt) <= (↑(Prod.fst v7) : Int)/\WoOk (nthD (Ty.list (Ty.int .i64)) (Prod.snd v25) (Int.toNat (↑(Prod.fst v25) : Int))) (nthD (Ty.list (Ty.int .i64)) (RS.left (Prod.snd v7)) (Int.toNat (lastTo (RS.left (Prod.snd v11)) (Prod.fst v11) v13))) (Int.toNat (↑(Prod.fst v7) : Int)))/\((0 : Int) <= (↑(Prod.fst v25) : Int)/\(↑(Prod.fst v25) : Int) < (↑(List.length (Prod.snd v25)) : Int))/\Int.toNat (↑(Prod.fst v25) : Int) < List.length (Prod.snd v25)/\fits .i64 ((↑(Prod.fst v25) : Int) + (1 : Int))/\∃ (v28 : Nat × List (List Int)), DnIv (RS.done_ (Prod.fst (Prod.snd v23))) (Prod.fst (Prod.snd (Prod.snd v23))) (Prod.fst v23) (Prod.fst v28) (Prod.snd v28)/\List.length (RS.done_ (Prod.fst (Prod.snd v23))) - Prod.fst v28 < List.length (RS.done_ (Prod.fst (Prod.snd v23))) - Prod.fst v25/\(True/\True/\True/\True/\(↑(Prod.fst v25) : Int) + (1 : Int) = (↑(Prod.fst v28) : Int)/\True)/\True/\List.set (Prod.snd v25) (Int.toNat (↑(Prod.fst v25) : Int)) (qb6 (nthD (Ty.list (Ty.int .i64)) (Prod.snd v25) (Int.toNat (↑(Prod.fst v25) : Int))) (nthD (Ty.list (Ty.int .i64)) (RS.left (Prod.snd v7)) (Int.toNat (lastTo (RS.left (Prod.snd v11)) (Prod.fst v11) v13))) (Int.toNat (↑(Prod.fst v7) : Int))) = Prod.snd v28/\RS.piv (Prod.fst (Prod.snd v23)) = RS.piv (Prod.fst (Prod.snd v23))/\qc8 (RS.left (Prod.fst (Prod.snd v23))) (Prod.fst (Prod.snd (Prod.snd v23))) (Prod.fst v23) (Prod.snd (Prod.snd (Prod.snd v23))) (List.length (RS.left (Prod.fst (Prod.snd v23)))) = qc8 (RS.left (Prod.fst (Prod.snd v23))) (Prod.fst (Prod.snd (Prod.snd v23))) (Prod.fst v23) (Prod.snd (Prod.snd (Prod.snd v23))) (List.length (RS.left (Prod.fst (Prod.snd v23))))/\True)/\(decide ((↑(Prod.fst v25) : Int) < (↑(List.length (RS.done_ (Prod.fst (Prod.snd v18)))) : Int)) = false->((0 : Nat) < List.length [nthD (Ty.list (Ty.int .i64)) (RS.left (Prod.snd v7)) (Int.toNat (lastTo (RS.left (Prod.snd v11)) (Prod.fst v11) v13))]/\Nat.le (List.length (Prod.snd v25) + List.length [nthD (Ty.list (Ty.int .i64)) (RS.left (Prod.snd v7)) (Int.toNat (lastTo (RS.left (Prod.snd v11)) (Prod.fst v11) v13))]) (1000000 : Nat))/\((0 : Nat) < List.length [(↑(Prod.fst v7) : Int)]/\Nat.le (List.length (RS.piv (Prod.fst (Prod.snd v23))) + List.length [(↑(Prod.fst v7) : Int)]) (1000000 : Nat))/\fits .i64 ((↑(Prod.fst v7) : Int) + (1 : Int))/\∃ (v28 : Nat × RS), RdIv rows (Prod.fst v28) (Prod.snd v28)/\rdW rows - Prod.fst v28 < rdW rows - Prod.fst v7/\(qc8 (RS.left (Prod.fst (Prod.snd v23))) (Prod.fst (Prod.snd (Prod.snd v23))) (Prod.fst v23) (Prod.snd (Prod.snd (Prod.snd v23))) (List.length (RS.left (Prod.fst (Prod.snd v23)))) = RS.left (Prod.snd v28)/\True/\True/\(↑(Prod.fst v7) : Int) + (1 : Int) = (↑(Prod.fst v28) : Int)/\True)/\True/\Prod.snd v25 ++ [nthD (Ty.list (Ty.int .i64)) (RS.left (Prod.snd v7)) (Int.toNat (lastTo (RS.left (Prod.snd v11)) (Prod.fst v11) v13))] = RS.done_ (Prod.snd v28)/\RS.piv (Prod.fst (Prod.snd v23)) ++ [(↑(Prod.fst v7) : Int)] = RS.piv (Prod.snd v28)/\True))))))/\(decide ((↑(Prod.fst v7) : Int) < (↑(List.length (nthD (Ty.list (Ty.int .i64)) (RS.left (Prod.snd v7)) (0 : Nat))) : Int)) = false->RS.done_ (Prod.snd v7) = Prod.fst (qa9 rows)/\RS.piv (Prod.snd v7) = Prod.snd (qa9 rows)/\True))/\(decide ((0 : Int) < (↑(List.length (RS.left (Prod.snd v7))) : Int)) = false->RS.done_ (Prod.snd v7) = Prod.fst (qa9 rows)/\RS.piv (Prod.snd v7) = Prod.snd (qa9 rows)/\True))) (by kernel_rfl) ?_
  try simp only [z0,z1,z2,z3,z4,z5,z6,z7,z8,z9,z10,Int.reduceEq,z11,z12,z13,z14,z15,z16,z17,z18,z19,z20,z21,z22,z23,z24,z25,z26,z27,z28,z29,z30,Int.reduceLE,Int.reduceLT,z31,z32,z33,z34,nilEq_true]
  try simp only [qa4, qa5, qa8, List.set_cons_zero, List.cons.injEq, and_true, true_and]
  have hn := h.n
  have hw := h.w
  refine ⟨(), 0, Nat.zero_le _, ⟨rfl, rfl⟩, fun k hk => ⟨fun hlt => ⟨hlt, h.big k hlt, by rw [List.length_take, List.length_map]; omega, fits64 (by omega) (by omega), k + 1, by omega, by omega, by omega, ?_⟩, fun hge => ?_⟩⟩
  · rw [takeL_snoc _ k (by simpa using hlt), qe3 (rows.map qe1) k (by simpa using hlt), qe3 rows k hlt]
    simp
  refine ⟨(), (0, rdTo rows 0), ⟨Nat.zero_le _, rfl⟩, ⟨⟨by rw [List.take_of_length_le (by rw [List.length_map]; omega)]; rfl, rfl⟩, rfl, rfl⟩, ?_⟩
  rintro ⟨j, s⟩ ⟨hj, hs⟩
  dsimp only at hj hs ⊢
  have hsh := q31 h j
  rw [hs] at hsh
  have hln := hsh.ln
  have hdn := hsh.dn
  have hpn := hsh.pn
  have hle : ∀ i, i < s.left.length → (nL s.left i).length = rdW rows := fun i hi => hsh.le _ (qh7 _ _ hi)
  have hde : ∀ i, i < s.done_.length → (nL s.done_ i).length = rdW rows := fun i hi => hsh.de _ (qh7 _ _ hi)
  refine ⟨fun hl0 => ⟨hl0, fun hjl => ?_, fun hjl => ?_⟩, fun hl0 => ?_⟩
  · have hjW : j < rdW rows := by rw [hle 0 (by omega)] at hjl; exact hjl
    refine ⟨(j, s), 0, Nat.zero_le _, ⟨⟨rfl, rfl⟩, rfl, rfl⟩, fun k hk => ⟨fun hlt => ⟨hlt, by rw [hle k hlt]; exact hjW, fun hz => ⟨fits64 (by omega) (by omega), k + 1, hlt, by dsimp only; omega, by rw [lastTo, if_pos hz], by omega⟩, fun hz => ⟨fits64 (by omega) (by omega), k + 1, hlt, by dsimp only; omega, by rw [lastTo, if_neg (fun q => q hz)], by omega⟩⟩, fun hge => ?_⟩⟩
    dsimp only at hk hge ⊢
    obtain rfl : k = s.left.length := by omega
    have hlast := qj4 s.left j s.left.length
    refine ⟨fun hneg => ⟨fits64 (by omega) (by omega), (j + 1, s), ⟨by dsimp only; omega, by dsimp only; rw [rdTo, hs, qq8, if_pos hneg]⟩, by dsimp only; omega, ⟨rfl, by dsimp only; omega⟩, rfl, rfl⟩, fun hpos => ?_⟩
    have hst : RstOk s j := by have := h.step j hjW; rw [hs] at this; exact this hpos
    have h1 := hst.sca
    have h2 := hst.wo
    have h3 := hst.woD
    clear hst
    have hnx : rdTo rows (j + 1) = ⟨qc8 s.left (pivP s.left j (lastTo s.left j s.left.length)) j (lastTo s.left j s.left.length) s.left.length, (s.done_.map fun r => qb6 r (pivP s.left j (lastTo s.left j s.left.length)) j) ++ [pivP s.left j (lastTo s.left j s.left.length)], s.piv ++ [(j : Int)]⟩ := by rw [rdTo, hs, qq8, if_neg (by omega)]
    have hpl := q1a hsh (lastTo s.left j s.left.length) hpos hlast.1
    have hpe : pivP s.left j (lastTo s.left j s.left.length) = if nI (nL s.left (lastTo s.left j s.left.length).toNat) j < 0 then qe0 (nL s.left (lastTo s.left j s.left.length).toNat) (-1) else nL s.left (lastTo s.left j s.left.length).toNat := rfl
    generalize lastTo s.left j s.left.length = a at *
    refine ⟨⟨hpos, hlast.1⟩, by rw [hle _ (by omega)]; exact hjW, fun hng => ⟨h1 hng, ?_⟩, fun hng => ?_⟩
    · have hp : qe0 (nL s.left a.toNat) (-1) = pivP s.left j a := by rw [hpe, if_pos hng]
      rw [hp]
      refine ⟨(j, s, pivP s.left j a, a), 0, Nat.zero_le _, ⟨rfl, rfl, rfl, rfl⟩, fun k hk => ⟨fun hlt => ⟨hlt, fun hne => ⟨h2 k hlt hne, by have := qk6 s.left (pivP s.left j a) j a k; dsimp only; omega, fits64 (by omega) (by omega), k + 1, hlt, by dsimp only; omega, by omega, by rw [qc8, if_pos hne]⟩, fun he => ⟨fits64 (by omega) (by omega), k + 1, hlt, by dsimp only; omega, by omega, by rw [qc8, if_neg (fun q => q he)]⟩⟩, fun hge => ?_⟩⟩
      dsimp only at hk hge ⊢
      obtain rfl : k = s.left.length := by omega
      refine ⟨(j, s, pivP s.left j a, a), (0, s.done_), ⟨Nat.zero_le _, (qg3 (.list (.int .i64)) _ _).symm⟩, ⟨rfl, rfl, rfl, rfl⟩, ?_⟩
      rintro ⟨i, r⟩ ⟨hi1, hi2⟩
      dsimp only at hi1 hi2 ⊢
      have hrl : r.length = s.done_.length := by rw [hi2]; exact qf5 (.list (.int .i64)) _ _ _
      refine ⟨fun hlt => ?_, fun hge => ?_⟩
      · have hri : nL r i = nL s.done_ i := by rw [hi2]; exact (ql6 (.list (.int .i64)) _ _ _ _ hlt).trans (if_neg (Nat.lt_irrefl _))
        rw [hri]
        exact ⟨by omega, by omega, h3 i hlt, by omega, by omega, fits64 (by omega) (by omega), (i + 1, r.set i (qb6 (nL s.done_ i) (pivP s.left j a) j)), ⟨by dsimp only; omega, by dsimp only; rw [hi2]; exact qf8 (.list (.int .i64)) (fun q => qb6 (nL s.done_ q) (pivP s.left j a) j) _ _⟩, by dsimp only; omega, by dsimp only; omega, rfl⟩
      · obtain rfl : i = s.done_.length := by omega
        have hr : r = s.done_.map fun r => qb6 r (pivP s.left j a) j := by
          rw [hi2]
          refine (qi7 (.list (.int .i64)) _ _ _ (Nat.le_refl _)).trans ?_
          apply List.ext_getElem (by simp)
          intro q k1 k2
          simp only [List.getElem_map, List.getElem_range]
          rw [qe3 _ q (by simpa using k1)]
        refine ⟨by omega, by omega, fits64 (by omega) (by omega), (j + 1, rdTo rows (j + 1)), ⟨by dsimp only; omega, rfl⟩, by dsimp only; omega, ⟨by rw [hnx], by dsimp only; omega⟩, by rw [hnx, hr], by rw [hnx]⟩
    · have hp : nL s.left a.toNat = pivP s.left j a := by rw [hpe, if_neg (by omega)]
      rw [hp]
      refine ⟨(j, s, pivP s.left j a, a), 0, Nat.zero_le _, ⟨rfl, rfl, rfl, rfl⟩, fun k hk => ⟨fun hlt => ⟨hlt, fun hne => ⟨h2 k hlt hne, by have := qk6 s.left (pivP s.left j a) j a k; dsimp only; omega, fits64 (by omega) (by omega), k + 1, hlt, by dsimp only; omega, by omega, by rw [qc8, if_pos hne]⟩, fun he => ⟨fits64 (by omega) (by omega), k + 1, hlt, by dsimp only; omega, by omega, by rw [qc8, if_neg (fun q => q he)]⟩⟩, fun hge => ?_⟩⟩
      dsimp only at hk hge ⊢
      obtain rfl : k = s.left.length := by omega
      refine ⟨(j, s, pivP s.left j a, a), (0, s.done_), ⟨Nat.zero_le _, (qg3 (.list (.int .i64)) _ _).symm⟩, ⟨rfl, rfl, rfl, rfl⟩, ?_⟩
      rintro ⟨i, r⟩ ⟨hi1, hi2⟩
      dsimp only at hi1 hi2 ⊢
      have hrl : r.length = s.done_.length := by rw [hi2]; exact qf5 (.list (.int .i64)) _ _ _
      refine ⟨fun hlt => ?_, fun hge => ?_⟩
      · have hri : nL r i = nL s.done_ i := by rw [hi2]; exact (ql6 (.list (.int .i64)) _ _ _ _ hlt).trans (if_neg (Nat.lt_irrefl _))
        rw [hri]
        exact ⟨by omega, by omega, h3 i hlt, by omega, by omega, fits64 (by omega) (by omega), (i + 1, r.set i (qb6 (nL s.done_ i) (pivP s.left j a) j)), ⟨by dsimp only; omega, by dsimp only; rw [hi2]; exact qf8 (.list (.int .i64)) (fun q => qb6 (nL s.done_ q) (pivP s.left j a) j) _ _⟩, by dsimp only; omega, by dsimp only; omega, rfl⟩
      · obtain rfl : i = s.done_.length := by omega
        have hr : r = s.done_.map fun r => qb6 r (pivP s.left j a) j := by
          rw [hi2]
          refine (qi7 (.list (.int .i64)) _ _ _ (Nat.le_refl _)).trans ?_
          apply List.ext_getElem (by simp)
          intro q k1 k2
          simp only [List.getElem_map, List.getElem_range]
          rw [qe3 _ q (by simpa using k1)]
        refine ⟨by omega, by omega, fits64 (by omega) (by omega), (j + 1, rdTo rows (j + 1)), ⟨by dsimp only; omega, rfl⟩, by dsimp only; omega, ⟨by rw [hnx], by dsimp only; omega⟩, by rw [hnx, hr], by rw [hnx]⟩
  · have e : j = rdW rows := by rw [hle 0 (by omega)] at hjl; omega
    subst e
    unfold qa9
    rw [hs]
    exact ⟨rfl, rfl⟩
  · have e : s.left = [] := List.eq_nil_of_length_eq_zero (by omega)
    have := qy5 hs e (rdW rows - j)
    rw [show j + (rdW rows - j) = rdW rows by omega] at this
    unfold qa9
    rw [this]
    exact ⟨rfl, rfl⟩
end Go.Proofs.Ytdibdlelmkcccaa
