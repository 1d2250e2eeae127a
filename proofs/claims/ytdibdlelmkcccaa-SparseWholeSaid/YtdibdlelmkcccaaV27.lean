/- Whole pictures: contracts by the engine. No condition. -/
import Derived.Test.YtdibdlelmkcccaaV26
set_option linter.unusedVariables false
set_option linter.unusedSimpArgs false
namespace Go.Proofs.Ytdibdlelmkcccaa
open Go Go.RowKit Eng
def shB (r : Int × Int) : Bool := r.2 == 1 && inB r.1 (0 - 1000000) 1000000
abbrev sWh1 : FSpec := tspec true none [tRat] [.bool] (fun _ => True) (fun x => (shB x.1, ()))
theorem q4f : Meets Try.prog 44 sWh1 := by
  refine meets (snd (SpecsOk.cons qg5 (SpecsOk.nil _))) Try.func44 rfl rfl (fun _ _ => none) (fun _ => by kernel_rfl) (by decide) ?_
  rintro ⟨r, ⟨⟩⟩ -
  revert r
  intro (r : Int × Int)
  refine by_vc (B := ((Prod.snd r == (1 : Int)) = true->True/\inB (Prod.fst r) (-1000000 : Int) (1000000 : Int) = shB r)/\((Prod.snd r == (1 : Int)) = false->false = shB r)) (by kernel_rfl) ?_
  try simp only [z0,z1,z2,z3,z4,z5,z6,z7,z8,z9,z10,Int.reduceEq,z11,z12,z13,z14,z15,z16,z17,z18,z19,z20,z21,z22,z23,z24,z25,z26,z27,z28,z29,z30,Int.reduceLE,Int.reduceLT,z31,z32,z33,z34,nilEq_true]
  try simp only [qa4, qa5, qa8, List.set_cons_zero, List.cons.injEq, and_true, true_and]
  first
    | done
    | (refine ⟨fun h => ?_, fun h => ?_⟩ <;> simp [shB, h])
def nQ (l : List (Int × Int)) (i : Nat) : Int × Int := nthD tRat l i
def whX (n : Nat) (f : Fit) : Nat → List Int
  | 0 => List.replicate n 0
  | i + 1 => (whX n f i).set (nI f.1 i).toNat (nQ f.2 i).1
def whB (f : Fit) : Nat → Bool
  | 0 => true
  | i + 1 => whB f i && shB (nQ f.2 i)
theorem ql2 (n : Nat) (f : Fit) : ∀ i, (whX n f i).length = n
  | 0 => by simp [whX]
  | i + 1 => by rw [whX, List.length_set, ql2 n f i]
def whL (n : Nat) (L : List Fit) : List (List Int) := L.filterMap fun f => if whB f f.1.length = true then some (whX n f f.1.length) else none
def qg1 (m : List (List Int)) (y : List Int) (k : Int) : List (List Int) × Int := if cntE m y k = 0 then (whL (nL m 0).length (qc7 m y k), 0) else ([], cntE m y k)
structure q5q (n : Nat) (f : Fit) : Prop where
  len : f.2.length = f.1.length
  lenB : f.1.length ≤ 1000
  at_ : ∀ j, j < f.1.length → 0 ≤ nI f.1 j ∧ nI f.1 j < n
structure q5r (m : List (List Int)) (y : List Int) (k : Int) : Prop where
  pre : qw3 m y k
  each : ∀ f ∈ qc7 m y k, q5q (nL m 0).length f
abbrev sWh : FSpec := tspec false none [qd2, qb8, tInt] [qd2, tInt] (fun x => cntE x.1 x.2.1 x.2.2.1 = 0 → q5r x.1 x.2.1 x.2.2.1) (fun x => ((qg1 x.1 x.2.1 x.2.2.1).1, (qg1 x.1 x.2.1 x.2.2.1).2, ()))
def whMem (m : List (List Int)) (out : List (List Int)) : List AObj := [.box 23 (.cons (.dat (.list (.int .i64)) m) .nil), .box 66 (.cons (.clo 44 .nil) .nil), .box 22 (.cons (.own 3) .nil), .vec 24 (.list (.int .i64)) out]
def ivWh (m : List (List Int)) (L : List Fit) : Nat → Option Inv
  | 0 => some (Inv.of [] 4 (fun _ => []) (fun c : Nat => whMem m (whL (nL m 0).length (L.take c))) (fun c => c ≤ L.length) (fun c => c))
  | 1 => some (Eng.Inv.mk (Nat × Fit) Nat [12, 13, 37] 6 (fun q i => [(12, .own 5), (13, .lit (.bool (whB q.2 i))), (37, .lit (.int .i64 i))]) (fun q i => .box 23 (.cons (.dat (.list (.int .i64)) m) .nil) :: .box 66 (.cons (.clo 44 .nil) .nil) :: .box 22 (.cons (.own 3) .nil) :: .vec 24 (.list (.int .i64)) (whL (nL m 0).length (L.take q.1)) :: [.box 30 (.cons (.dat (.int .i64) q.2.1) (.cons (.dat tRat q.2.2) .nil)), .vec 3 (.int .i64) (whX (nL m 0).length q.2 i)]) (fun q i => i ≤ q.2.1.length) (fun q i => q.2.1.length - i))
  | _ => none
theorem q5s (n : Nat) {L : List Fit} {c : Nat} {f : Fit} (h : L[c]? = some f) : whL n (L.take (c + 1)) = whL n (L.take c) ++ if whB f f.1.length = true then [whX n f f.1.length] else [] := by
  rw [List.take_add_one, h]
  unfold whL
  rw [List.filterMap_append]
  congr 1
  simp only [Option.toList_some, List.filterMap_cons, List.filterMap_nil]
  by_cases hf : whB f f.1.length = true
  · rw [if_pos hf, if_pos hf]
  · rw [if_neg hf, if_neg hf]
theorem q5t : Meets Try.prog 20 sWh := by
  refine meets (sndI (SpecsOk.cons q3v (SpecsOk.cons qr5 (SpecsOk.cons q4f (SpecsOk.nil _)))) (ItsOk.cons qu2 ItsOk.nil)) Try.func20 rfl rfl (fun x => ivWh x.1 (qc7 x.1 x.2.1 x.2.2.1)) (fun _ => by kernel_rfl) (by decide) ?_
  rintro ⟨m, y, k, ⟨⟩⟩ h
  revert m y k
  intro (m : List (List Int)) (y : List Int) (k : Int) (h : cntE m y k = 0 → q5r m y k)
  refine by_vc (B := True/\((cntE m y k != (0 : Int)) = true->Prod.fst (qg1 m y k) = []/\cntE m y k = Prod.snd (qg1 m y k)/\True)/\((cntE m y k != (0 : Int)) = false->True/\qr4 m y k/\∃ (v1 : Unit), ∃ (v2 : Nat), Nat.le v2 (List.length (qc7 m y k))/\v2 = (0 : Nat)/\((m = m/\True)/\(True/\True)/\(True/\True)/\whL (List.length (nL m (0 : Nat))) (List.take v2 (qc7 m y k)) = []/\True)/\∀ (v3 : Nat), Nat.le v3 (List.length (qc7 m y k))->(∀ (v5 : (List Int × List (Int × Int)) × argsTy._f [] PUnit.unit), (List.map (fun (v7 : List Int × List (Int × Int)) => (v7, ())) (qc7 m y k))[v3]? = some v5->((0 : Int) <= (0 : Int)/\(0 : Int) < (↑(List.length m) : Int))/\((↑(List.length (nthD (Ty.list (Ty.int .i64)) m (0 : Nat))) : Int) = (↑(List.length (nthD (Ty.list (Ty.int .i64)) m (0 : Nat))) : Int)/\(0 : Int) <= (↑(List.length (nthD (Ty.list (Ty.int .i64)) m (0 : Nat))) : Int)/\(↑(List.length (nthD (Ty.list (Ty.int .i64)) m (0 : Nat))) : Int) <= (1000000 : Int))/\∃ (v7 : Nat × Fit), ∃ (v8 : Nat), Nat.le v8 (List.length (Prod.fst (Prod.snd v7)))/\((True/\true = whB (Prod.snd v7) v8/\(0 : Int) = (↑v8 : Int)/\True)/\(m = m/\True)/\(True/\True)/\(True/\True)/\whL (List.length (nL m (0 : Nat))) (List.take v3 (qc7 m y k)) = whL (List.length (nL m (0 : Nat))) (List.take (Prod.fst v7) (qc7 m y k))/\(Prod.fst (Prod.fst v5) = Prod.fst (Prod.snd v7)/\Prod.snd (Prod.fst v5) = Prod.snd (Prod.snd v7)/\True)/\List.replicate (Int.toNat (↑(List.length (nthD (Ty.list (Ty.int .i64)) m (0 : Nat))) : Int)) (Ty.dflt (TI.ty T3)) = whX (List.length (nL m (0 : Nat))) (Prod.snd v7) v8/\True)/\∀ (v9 : Nat), Nat.le v9 (List.length (Prod.fst (Prod.snd v7)))->(decide ((↑v9 : Int) < (↑(List.length (Prod.fst (Prod.fst v5))) : Int)) = true->((0 : Int) <= (↑v9 : Int)/\(↑v9 : Int) < (↑(List.length (Prod.fst (Prod.fst v5))) : Int))/\((0 : Int) <= (↑v9 : Int)/\(↑v9 : Int) < (↑(List.length (Prod.snd (Prod.snd v7))) : Int))/\(whB (Prod.snd v7) v9 = true->((0 : Int) <= (↑v9 : Int)/\(↑v9 : Int) < (↑(List.length (Prod.snd (Prod.snd v7))) : Int))/\True/\((0 : Int) <= nthD (Ty.int .i64) (Prod.fst (Prod.fst v5)) (Int.toNat (↑v9 : Int))/\nthD (Ty.int .i64) (Prod.fst (Prod.fst v5)) (Int.toNat (↑v9 : Int)) < (↑(List.length (whX (List.length (nL m (0 : Nat))) (Prod.snd v7) v9)) : Int))/\Int.toNat (nthD (Ty.int .i64) (Prod.fst (Prod.fst v5)) (Int.toNat (↑v9 : Int))) < List.length (whX (List.length (nL m (0 : Nat))) (Prod.snd v7) v9)/\fits .i64 ((↑v9 : Int) + (1 : Int))/\∃ (v13 : Nat), Nat.le v13 (List.length (Prod.fst (Prod.snd v7)))/\List.length (Prod.fst (Prod.snd v7)) - v13 < List.length (Prod.fst (Prod.snd v7)) - v9/\(True/\shB (Prod.fst (nthD tRat (Prod.snd (Prod.snd v7)) (Int.toNat (↑v9 : Int))), Prod.snd (nthD tRat (Prod.snd (Prod.snd v7)) (Int.toNat (↑v9 : Int)))) = whB (Prod.snd v7) v13/\(↑v9 : Int) + (1 : Int) = (↑v13 : Int)/\True)/\(m = m/\True)/\(True/\True)/\(True/\True)/\whL (List.length (nL m (0 : Nat))) (List.take (Prod.fst v7) (qc7 m y k)) = whL (List.length (nL m (0 : Nat))) (List.take (Prod.fst v7) (qc7 m y k))/\(Prod.fst (Prod.snd v7) = Prod.fst (Prod.snd v7)/\Prod.snd (Prod.snd v7) = Prod.snd (Prod.snd v7)/\True)/\List.set (whX (List.length (nL m (0 : Nat))) (Prod.snd v7) v9) (Int.toNat (nthD (Ty.int .i64) (Prod.fst (Prod.fst v5)) (Int.toNat (↑v9 : Int)))) (Prod.fst (nthD tRat (Prod.snd (Prod.snd v7)) (Int.toNat (↑v9 : Int)))) = whX (List.length (nL m (0 : Nat))) (Prod.snd v7) v13/\True)/\(whB (Prod.snd v7) v9 = false->((0 : Int) <= nthD (Ty.int .i64) (Prod.fst (Prod.fst v5)) (Int.toNat (↑v9 : Int))/\nthD (Ty.int .i64) (Prod.fst (Prod.fst v5)) (Int.toNat (↑v9 : Int)) < (↑(List.length (whX (List.length (nL m (0 : Nat))) (Prod.snd v7) v9)) : Int))/\Int.toNat (nthD (Ty.int .i64) (Prod.fst (Prod.fst v5)) (Int.toNat (↑v9 : Int))) < List.length (whX (List.length (nL m (0 : Nat))) (Prod.snd v7) v9)/\fits .i64 ((↑v9 : Int) + (1 : Int))/\∃ (v13 : Nat), Nat.le v13 (List.length (Prod.fst (Prod.snd v7)))/\List.length (Prod.fst (Prod.snd v7)) - v13 < List.length (Prod.fst (Prod.snd v7)) - v9/\(True/\false = whB (Prod.snd v7) v13/\(↑v9 : Int) + (1 : Int) = (↑v13 : Int)/\True)/\(m = m/\True)/\(True/\True)/\(True/\True)/\whL (List.length (nL m (0 : Nat))) (List.take (Prod.fst v7) (qc7 m y k)) = whL (List.length (nL m (0 : Nat))) (List.take (Prod.fst v7) (qc7 m y k))/\(Prod.fst (Prod.snd v7) = Prod.fst (Prod.snd v7)/\Prod.snd (Prod.snd v7) = Prod.snd (Prod.snd v7)/\True)/\List.set (whX (List.length (nL m (0 : Nat))) (Prod.snd v7) v9) (Int.toNat (nthD (Ty.int .i64) (Prod.fst (Prod.fst v5)) (Int.toNat (↑v9 : Int)))) (Prod.fst (nthD tRat (Prod.snd (Prod.snd v7)) (Int.toNat (↑v9 : Int)))) = whX (List.length (nL m (0 : Nat))) (Prod.snd v7) v13/\True))/\(decide ((↑v9 : Int) < (↑(List.length (Prod.fst (Prod.fst v5))) : Int)) = false->(whB (Prod.snd v7) v9 = true->((0 : Nat) < (0 : Nat) + (1 : Nat)/\Nat.le (List.length (whL (List.length (nL m (0 : Nat))) (List.take (Prod.fst v7) (qc7 m y k))) + ((0 : Nat) + (1 : Nat))) (1000000 : Nat))/\∃ (v13 : Nat), Nat.le v13 (List.length (qc7 m y k))/\v13 = v3 + (1 : Nat)/\(m = m/\True)/\(True/\True)/\(True/\True)/\whL (List.length (nL m (0 : Nat))) (List.take (Prod.fst v7) (qc7 m y k)) ++ [whX (List.length (nL m (0 : Nat))) (Prod.snd v7) v9] = whL (List.length (nL m (0 : Nat))) (List.take v13 (qc7 m y k))/\True)/\(whB (Prod.snd v7) v9 = false->∃ (v13 : Nat), Nat.le v13 (List.length (qc7 m y k))/\v13 = v3 + (1 : Nat)/\(m = m/\True)/\(True/\True)/\(True/\True)/\whL (List.length (nL m (0 : Nat))) (List.take (Prod.fst v7) (qc7 m y k)) = whL (List.length (nL m (0 : Nat))) (List.take v13 (qc7 m y k))/\True)))/\(v3 = List.length (List.map (fun (v6 : List Int × List (Int × Int)) => (v6, ())) (qc7 m y k))->whL (List.length (nL m (0 : Nat))) (List.take v3 (qc7 m y k)) = Prod.fst (qg1 m y k)/\(0 : Int) = Prod.snd (qg1 m y k)/\True))) (by kernel_rfl) ?_
  try simp only [z0,z1,z2,z3,z4,z5,z6,z7,z8,z9,z10,Int.reduceEq,z11,z12,z13,z14,z15,z16,z17,z18,z19,z20,z21,z22,z23,z24,z25,z26,z27,z28,z29,z30,Int.reduceLE,Int.reduceLT,z31,z32,z33,z34,nilEq_true]
  try simp only [qa4, qa5, qa8, List.set_cons_zero, List.cons.injEq, and_true, true_and]
  refine ⟨fun he => by simp [qg1, he], fun he => ?_⟩
  have hw := h he
  have hlen := hw.pre.len
  have hea := hw.each
  have hone := hw.pre.pre.one
  have hpx := hw.pre.pre.pix
  have hR : qg1 m y k = (whL (nL m 0).length (qc7 m y k), 0) := by rw [qg1, if_pos he]
  refine ⟨hw.pre.pre, (), 0, Nat.zero_le _, rfl, rfl, ?_⟩
  rw [hR]
  generalize qc7 m y k = L at hlen hea ⊢
  rintro c hc
  refine ⟨?_, fun hfin => ?_⟩
  · rintro ⟨f, ⟨⟩⟩ hf
    rw [List.getElem?_map] at hf
    obtain ⟨f', h1, h2⟩ := Option.map_eq_some_iff.1 hf
    obtain rfl : f' = f := congrArg Prod.fst h2
    have hlt := (List.getElem?_eq_some_iff.1 h1).1
    have hfi := hea f' (List.mem_of_getElem? h1)
    have hf1 := hfi.len
    have hf2 := hfi.lenB
    have hsn := q5s (nL m 0).length h1
    have hwl : (whL (nL m 0).length (L.take c)).length ≤ c := by
      have h3 := List.length_filterMap_le (fun f : Fit => if whB f f.1.length = true then some (whX (nL m 0).length f f.1.length) else none) (L.take c)
      have h4 : (whL (nL m 0).length (L.take c)).length ≤ (L.take c).length := h3
      rw [List.length_take] at h4
      omega
    dsimp only
    refine ⟨by omega, by omega, (c, f'), 0, Nat.zero_le _, ⟨⟨rfl, rfl⟩, rfl, ⟨rfl, rfl⟩, rfl⟩, fun i hi => ⟨fun hlt2 => ?_, fun hge => ?_⟩⟩
    · have hat := hfi.at_ i hlt2
      have hxl := ql2 (nL m 0).length f' i
      dsimp only at hi ⊢
      rw [hxl]
      refine ⟨hlt2, by omega, fun hb => ⟨by omega, hat, by omega, fits64 (by omega) (by omega), i + 1, hlt2, by omega, ⟨?_, by omega⟩, rfl⟩, fun hb => ⟨hat, by omega, fits64 (by omega) (by omega), i + 1, hlt2, by omega, ⟨?_, by omega⟩, rfl⟩⟩
      · rw [whB, hb, Bool.true_and]; rfl
      · rw [whB, hb, Bool.false_and]
    · dsimp only at hi hge ⊢
      obtain rfl : i = f'.1.length := by omega
      refine ⟨fun hb => ⟨by omega, c + 1, hlt, rfl, ?_⟩, fun hb => ⟨c + 1, hlt, rfl, ?_⟩⟩
      · rw [hsn, if_pos hb]
      · rw [hsn, if_neg (by rw [hb]; decide), List.append_nil]
  · rw [List.length_map] at hfin
    rw [hfin, List.take_length]
    exact ⟨rfl, rfl⟩
end Go.Proofs.Ytdibdlelmkcccaa
