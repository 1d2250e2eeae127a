/- The reference's sparsest fit, how many, the only one, the whole ones: contracts by the engine. No condition. -/
import Derived.Test.YtdibdlelmkcccaaV31
set_option linter.unusedVariables false
set_option linter.unusedSimpArgs false
namespace Go.Proofs.Ytdibdlelmkcccaa
open Go Go.RowKit Eng
def whB4 (f : Fit) : Nat → Bool
  | 0 => true
  | i + 1 => whB4 f i && ((nQ f.2 i).2 == 1)
def qr7 (m : List (List Int)) (f : Fit) : Bool := whB4 f f.1.length && decide (shoE m (whX (nL m 0).length f f.1.length) = 0)
def whL4 (m : List (List Int)) (L : List Fit) : List (List Int) := L.filterMap fun f => if qr7 m f = true then some (whX (nL m 0).length f f.1.length) else none
def qi4 (m : List (List Int)) (y : List Int) (k : Int) : List (List Int) × Int := if (qb3 m y k).2 = 0 then (whL4 m (qb3 m y k).1, 0) else ([], (qb3 m y k).2)
structure q1d (m : List (List Int)) (y : List Int) (k : Int) : Prop where
  pre : q4m m y
  len : (qb3 m y k).1.length ≤ 1000
  one : (qb3 m y k).2 = 0 → 0 < m.length ∧ (nL m 0).length ≤ 10
  each : ∀ f ∈ (qb3 m y k).1, q5q (nL m 0).length f
abbrev sWh4 : FSpec := tspec false none [qd2, qb8, tInt] [qd2, tInt] (fun x => q1d x.1 x.2.1 x.2.2.1) (fun x => ((qi4 x.1 x.2.1 x.2.2.1).1, (qi4 x.1 x.2.1 x.2.2.1).2, ()))
def ivWh4 (m : List (List Int)) (L : List Fit) : Nat → Option Inv
  | 0 => some (Inv.of [10, 29] 1 (fun c : Nat => [(10, .own 0), (29, .lit (.int .i64 c))]) (fun c => [.vec 24 (.list (.int .i64)) (whL4 m (L.take c))]) (fun c => c ≤ L.length) (fun c => L.length - c))
  | 1 => some (Eng.Inv.mk Nat Nat [10, 13, 14, 41] 3 (fun c i => [(10, .own 0), (13, .own 2), (14, .lit (.bool (whB4 (nF L c) i))), (41, .lit (.int .i64 i))]) (fun c i => [.vec 24 (.list (.int .i64)) (whL4 m (L.take c)), .box 30 (.cons (.dat (.int .i64) (nF L c).1) (.cons (.dat tRat (nF L c).2) .nil)), .vec 3 (.int .i64) (whX (nL m 0).length (nF L c) i)]) (fun c i => i ≤ (nF L c).1.length) (fun c i => (nF L c).1.length - i))
  | _ => none
theorem q4n (m : List (List Int)) {L : List Fit} {c : Nat} (h : c < L.length) : whL4 m (L.take (c + 1)) = whL4 m (L.take c) ++ if qr7 m (nF L c) = true then [whX (nL m 0).length (nF L c) (nF L c).1.length] else [] := by
  rw [q0s L c h, List.take_add_one, List.getElem?_eq_getElem h]
  unfold whL4
  rw [List.filterMap_append]
  congr 1
  simp only [Option.toList_some, List.filterMap_cons, List.filterMap_nil]
  by_cases hf : qr7 m L[c] = true
  · rw [if_pos hf, if_pos hf]
  · rw [if_neg hf, if_neg hf]
theorem qz1 : Meets Try.prog 21 sWh4 := by
  refine meets (snd (SpecsOk.cons q0u (SpecsOk.cons q2o (SpecsOk.nil _)))) Try.func21 rfl rfl (fun x => ivWh4 x.1 (qb3 x.1 x.2.1 x.2.2.1).1) (fun _ => by kernel_rfl) (by decide) ?_
  rintro ⟨m, y, k, ⟨⟩⟩ h
  revert m y k
  intro (m : List (List Int)) (y : List Int) (k : Int) (h : q1d m y k)
  refine by_vc (B := q4m m y/\((Prod.snd (qb3 m y k) != (0 : Int)) = true->Prod.fst (qi4 m y k) = []/\Prod.snd (qb3 m y k) = Prod.snd (qi4 m y k)/\True)/\((Prod.snd (qb3 m y k) != (0 : Int)) = false->∃ (v1 : Unit), ∃ (v2 : Nat), Nat.le v2 (List.length (Prod.fst (qb3 m y k)))/\((True/\(0 : Int) = (↑v2 : Int)/\True)/\whL4 m (List.take v2 (Prod.fst (qb3 m y k))) = []/\True)/\∀ (v3 : Nat), Nat.le v3 (List.length (Prod.fst (qb3 m y k)))->(decide ((↑v3 : Int) < (↑(List.length (Prod.fst (qb3 m y k))) : Int)) = true->((0 : Int) <= (↑v3 : Int)/\(↑v3 : Int) < (↑(List.length (Prod.fst (qb3 m y k))) : Int))/\((0 : Int) <= (0 : Int)/\(0 : Int) < (↑(List.length m) : Int))/\((↑(List.length (nthD (Ty.list (Ty.int .i64)) m (0 : Nat))) : Int) = (↑(List.length (nthD (Ty.list (Ty.int .i64)) m (0 : Nat))) : Int)/\(0 : Int) <= (↑(List.length (nthD (Ty.list (Ty.int .i64)) m (0 : Nat))) : Int)/\(↑(List.length (nthD (Ty.list (Ty.int .i64)) m (0 : Nat))) : Int) <= (1000000 : Int))/\∃ (v6 : Nat), ∃ (v7 : Nat), Nat.le v7 (List.length (Prod.fst (nF (Prod.fst (qb3 m y k)) v6)))/\((True/\True/\true = whB4 (nF (Prod.fst (qb3 m y k)) v6) v7/\(0 : Int) = (↑v7 : Int)/\True)/\whL4 m (List.take v3 (Prod.fst (qb3 m y k))) = whL4 m (List.take v6 (Prod.fst (qb3 m y k)))/\(Prod.fst (nthD (Ty.prod (Ty.list (Ty.int .i64)) (Ty.list (Ty.prod (Ty.int .i64) (Ty.int .i64)))) (Prod.fst (qb3 m y k)) (Int.toNat (↑v3 : Int))) = Prod.fst (nF (Prod.fst (qb3 m y k)) v6)/\Prod.snd (nthD (Ty.prod (Ty.list (Ty.int .i64)) (Ty.list (Ty.prod (Ty.int .i64) (Ty.int .i64)))) (Prod.fst (qb3 m y k)) (Int.toNat (↑v3 : Int))) = Prod.snd (nF (Prod.fst (qb3 m y k)) v6)/\True)/\List.replicate (Int.toNat (↑(List.length (nthD (Ty.list (Ty.int .i64)) m (0 : Nat))) : Int)) (Ty.dflt (TI.ty T3)) = whX (List.length (nL m (0 : Nat))) (nF (Prod.fst (qb3 m y k)) v6) v7/\True)/\∀ (v8 : Nat), Nat.le v8 (List.length (Prod.fst (nF (Prod.fst (qb3 m y k)) v6)))->(decide ((↑v8 : Int) < (↑(List.length (Prod.fst (nthD (Ty.prod (Ty.list (Ty.int .i64)) (Ty.list (Ty.prod (Ty.int .i64) (Ty.int .i64)))) (Prod.fst (qb3 m y k)) (Int.toNat (↑v3 : Int))))) : Int)) = true->((0 : Int) <= (↑v8 : Int)/\(↑v8 : Int) < (↑(List.length (Prod.fst (nthD (Ty.prod (Ty.list (Ty.int .i64)) (Ty.list (Ty.prod (Ty.int .i64) (Ty.int .i64)))) (Prod.fst (qb3 m y k)) (Int.toNat (↑v3 : Int))))) : Int))/\(whB4 (nF (Prod.fst (qb3 m y k)) v6) v8 = true->((0 : Int) <= (↑v8 : Int)/\(↑v8 : Int) < (↑(List.length (Prod.snd (nF (Prod.fst (qb3 m y k)) v6))) : Int))/\((0 : Int) <= (↑v8 : Int)/\(↑v8 : Int) < (↑(List.length (Prod.snd (nF (Prod.fst (qb3 m y k)) v6))) : Int))/\((0 : Int) <= nthD (Ty.int .i64) (Prod.fst (nthD (Ty.prod (Ty.list (Ty.int .i64)) (Ty.list (Ty.prod (Ty.int .i64) (Ty.int .i64)))) (Prod.fst (qb3 m y k)) (Int.toNat (↑v3 : Int)))) (Int.toNat (↑v8 : Int))/\nthD (Ty.int .i64) (Prod.fst (nthD (Ty.prod (Ty.list (Ty.int .i64)) (Ty.list (Ty.prod (Ty.int .i64) (Ty.int .i64)))) (Prod.fst (qb3 m y k)) (Int.toNat (↑v3 : Int)))) (Int.toNat (↑v8 : Int)) < (↑(List.length (whX (List.length (nL m (0 : Nat))) (nF (Prod.fst (qb3 m y k)) v6) v8)) : Int))/\Int.toNat (nthD (Ty.int .i64) (Prod.fst (nthD (Ty.prod (Ty.list (Ty.int .i64)) (Ty.list (Ty.prod (Ty.int .i64) (Ty.int .i64)))) (Prod.fst (qb3 m y k)) (Int.toNat (↑v3 : Int)))) (Int.toNat (↑v8 : Int))) < List.length (whX (List.length (nL m (0 : Nat))) (nF (Prod.fst (qb3 m y k)) v6) v8)/\fits .i64 ((↑v8 : Int) + (1 : Int))/\∃ (v12 : Nat), Nat.le v12 (List.length (Prod.fst (nF (Prod.fst (qb3 m y k)) v6)))/\List.length (Prod.fst (nF (Prod.fst (qb3 m y k)) v6)) - v12 < List.length (Prod.fst (nF (Prod.fst (qb3 m y k)) v6)) - v8/\(True/\True/\(Prod.snd (nthD tRat (Prod.snd (nF (Prod.fst (qb3 m y k)) v6)) (Int.toNat (↑v8 : Int))) == (1 : Int)) = whB4 (nF (Prod.fst (qb3 m y k)) v6) v12/\(↑v8 : Int) + (1 : Int) = (↑v12 : Int)/\True)/\whL4 m (List.take v6 (Prod.fst (qb3 m y k))) = whL4 m (List.take v6 (Prod.fst (qb3 m y k)))/\(Prod.fst (nF (Prod.fst (qb3 m y k)) v6) = Prod.fst (nF (Prod.fst (qb3 m y k)) v6)/\Prod.snd (nF (Prod.fst (qb3 m y k)) v6) = Prod.snd (nF (Prod.fst (qb3 m y k)) v6)/\True)/\List.set (whX (List.length (nL m (0 : Nat))) (nF (Prod.fst (qb3 m y k)) v6) v8) (Int.toNat (nthD (Ty.int .i64) (Prod.fst (nthD (Ty.prod (Ty.list (Ty.int .i64)) (Ty.list (Ty.prod (Ty.int .i64) (Ty.int .i64)))) (Prod.fst (qb3 m y k)) (Int.toNat (↑v3 : Int)))) (Int.toNat (↑v8 : Int)))) (Prod.fst (nthD tRat (Prod.snd (nF (Prod.fst (qb3 m y k)) v6)) (Int.toNat (↑v8 : Int)))) = whX (List.length (nL m (0 : Nat))) (nF (Prod.fst (qb3 m y k)) v6) v12/\True)/\(whB4 (nF (Prod.fst (qb3 m y k)) v6) v8 = false->((0 : Int) <= (↑v8 : Int)/\(↑v8 : Int) < (↑(List.length (Prod.snd (nF (Prod.fst (qb3 m y k)) v6))) : Int))/\((0 : Int) <= nthD (Ty.int .i64) (Prod.fst (nthD (Ty.prod (Ty.list (Ty.int .i64)) (Ty.list (Ty.prod (Ty.int .i64) (Ty.int .i64)))) (Prod.fst (qb3 m y k)) (Int.toNat (↑v3 : Int)))) (Int.toNat (↑v8 : Int))/\nthD (Ty.int .i64) (Prod.fst (nthD (Ty.prod (Ty.list (Ty.int .i64)) (Ty.list (Ty.prod (Ty.int .i64) (Ty.int .i64)))) (Prod.fst (qb3 m y k)) (Int.toNat (↑v3 : Int)))) (Int.toNat (↑v8 : Int)) < (↑(List.length (whX (List.length (nL m (0 : Nat))) (nF (Prod.fst (qb3 m y k)) v6) v8)) : Int))/\Int.toNat (nthD (Ty.int .i64) (Prod.fst (nthD (Ty.prod (Ty.list (Ty.int .i64)) (Ty.list (Ty.prod (Ty.int .i64) (Ty.int .i64)))) (Prod.fst (qb3 m y k)) (Int.toNat (↑v3 : Int)))) (Int.toNat (↑v8 : Int))) < List.length (whX (List.length (nL m (0 : Nat))) (nF (Prod.fst (qb3 m y k)) v6) v8)/\fits .i64 ((↑v8 : Int) + (1 : Int))/\∃ (v12 : Nat), Nat.le v12 (List.length (Prod.fst (nF (Prod.fst (qb3 m y k)) v6)))/\List.length (Prod.fst (nF (Prod.fst (qb3 m y k)) v6)) - v12 < List.length (Prod.fst (nF (Prod.fst (qb3 m y k)) v6)) - v8/\(True/\True/\false = whB4 (nF (Prod.fst (qb3 m y k)) v6) v12/\(↑v8 : Int) + (1 : Int) = (↑v12 : Int)/\True)/\whL4 m (List.take v6 (Prod.fst (qb3 m y k))) = whL4 m (List.take v6 (Prod.fst (qb3 m y k)))/\(Prod.fst (nF (Prod.fst (qb3 m y k)) v6) = Prod.fst (nF (Prod.fst (qb3 m y k)) v6)/\Prod.snd (nF (Prod.fst (qb3 m y k)) v6) = Prod.snd (nF (Prod.fst (qb3 m y k)) v6)/\True)/\List.set (whX (List.length (nL m (0 : Nat))) (nF (Prod.fst (qb3 m y k)) v6) v8) (Int.toNat (nthD (Ty.int .i64) (Prod.fst (nthD (Ty.prod (Ty.list (Ty.int .i64)) (Ty.list (Ty.prod (Ty.int .i64) (Ty.int .i64)))) (Prod.fst (qb3 m y k)) (Int.toNat (↑v3 : Int)))) (Int.toNat (↑v8 : Int)))) (Prod.fst (nthD tRat (Prod.snd (nF (Prod.fst (qb3 m y k)) v6)) (Int.toNat (↑v8 : Int)))) = whX (List.length (nL m (0 : Nat))) (nF (Prod.fst (qb3 m y k)) v6) v12/\True))/\(decide ((↑v8 : Int) < (↑(List.length (Prod.fst (nthD (Ty.prod (Ty.list (Ty.int .i64)) (Ty.list (Ty.prod (Ty.int .i64) (Ty.int .i64)))) (Prod.fst (qb3 m y k)) (Int.toNat (↑v3 : Int))))) : Int)) = false->(whB4 (nF (Prod.fst (qb3 m y k)) v6) v8 = true->ShPre m (whX (List.length (nL m (0 : Nat))) (nF (Prod.fst (qb3 m y k)) v6) v8)/\(decide (shoE m (whX (List.length (nL m (0 : Nat))) (nF (Prod.fst (qb3 m y k)) v6) v8) = (0 : Int)) = true->((0 : Nat) < (0 : Nat) + (1 : Nat)/\Nat.le (List.length (whL4 m (List.take v6 (Prod.fst (qb3 m y k)))) + ((0 : Nat) + (1 : Nat))) (1000000 : Nat))/\fits .i64 ((↑v3 : Int) + (1 : Int))/\∃ (v13 : Nat), Nat.le v13 (List.length (Prod.fst (qb3 m y k)))/\List.length (Prod.fst (qb3 m y k)) - v13 < List.length (Prod.fst (qb3 m y k)) - v3/\(True/\(↑v3 : Int) + (1 : Int) = (↑v13 : Int)/\True)/\whL4 m (List.take v6 (Prod.fst (qb3 m y k))) ++ [whX (List.length (nL m (0 : Nat))) (nF (Prod.fst (qb3 m y k)) v6) v8] = whL4 m (List.take v13 (Prod.fst (qb3 m y k)))/\True)/\(decide (shoE m (whX (List.length (nL m (0 : Nat))) (nF (Prod.fst (qb3 m y k)) v6) v8) = (0 : Int)) = false->fits .i64 ((↑v3 : Int) + (1 : Int))/\∃ (v13 : Nat), Nat.le v13 (List.length (Prod.fst (qb3 m y k)))/\List.length (Prod.fst (qb3 m y k)) - v13 < List.length (Prod.fst (qb3 m y k)) - v3/\(True/\(↑v3 : Int) + (1 : Int) = (↑v13 : Int)/\True)/\whL4 m (List.take v6 (Prod.fst (qb3 m y k))) = whL4 m (List.take v13 (Prod.fst (qb3 m y k)))/\True))/\(whB4 (nF (Prod.fst (qb3 m y k)) v6) v8 = false->fits .i64 ((↑v3 : Int) + (1 : Int))/\∃ (v12 : Nat), Nat.le v12 (List.length (Prod.fst (qb3 m y k)))/\List.length (Prod.fst (qb3 m y k)) - v12 < List.length (Prod.fst (qb3 m y k)) - v3/\(True/\(↑v3 : Int) + (1 : Int) = (↑v12 : Int)/\True)/\whL4 m (List.take v6 (Prod.fst (qb3 m y k))) = whL4 m (List.take v12 (Prod.fst (qb3 m y k)))/\True)))/\(decide ((↑v3 : Int) < (↑(List.length (Prod.fst (qb3 m y k))) : Int)) = false->whL4 m (List.take v3 (Prod.fst (qb3 m y k))) = Prod.fst (qi4 m y k)/\(0 : Int) = Prod.snd (qi4 m y k)/\True))) (by kernel_rfl) ?_
  try simp only [z0,z1,z2,z3,z4,z5,z6,z7,z8,z9,z10,Int.reduceEq,z11,z12,z13,z14,z15,z16,z17,z18,z19,z20,z21,z22,z23,z24,z25,z26,z27,z28,z29,z30,Int.reduceLE,Int.reduceLT,z31,z32,z33,z34,nilEq_true]
  try simp only [qa4, qa5, qa8, List.set_cons_zero, List.cons.injEq, and_true, true_and]
  have hR : qi4 m y k = if (qb3 m y k).2 = 0 then (whL4 m (qb3 m y k).1, 0) else ([], (qb3 m y k).2) := rfl
  simp only [q4l]
  refine ⟨h.pre, fun he => by rw [hR, if_neg he]; exact ⟨rfl, rfl⟩, fun he => ?_⟩
  have hlen := h.len
  have hea := h.each
  have hone := (h.one he).1
  have hpx := (h.one he).2
  rw [hR, if_pos he]
  generalize (qb3 m y k).1 = L at hlen hea ⊢
  refine ⟨(), 0, Nat.zero_le _, ⟨rfl, by simp [whL4]⟩, fun c hc => ⟨fun hlt => ?_, fun hge => ?_⟩⟩
  · have hfi := hea (nF L c) (by rw [q0s L c hlt]; exact List.getElem_mem _)
    have hf1 := hfi.len
    have hf2 := hfi.lenB
    have hsn := q4n m hlt
    have hwl : (whL4 m (L.take c)).length ≤ c := by
      have h3 := List.length_filterMap_le (fun f : Fit => if qr7 m f = true then some (whX (nL m 0).length f f.1.length) else none) (L.take c)
      have h4 : (whL4 m (L.take c)).length ≤ (L.take c).length := h3
      rw [List.length_take] at h4
      omega
    have hT : qr7 m (nF L c) = (whB4 (nF L c) (nF L c).1.length && decide (shoE m (whX (nL m 0).length (nF L c) (nF L c).1.length) = 0)) := rfl
    refine ⟨hlt, by omega, by omega, c, 0, Nat.zero_le _, ⟨⟨rfl, rfl⟩, rfl, ⟨rfl, rfl⟩, rfl⟩, fun i hi => ⟨fun hlt2 => ?_, fun hge => ?_⟩⟩
    · have hat := hfi.at_ i hlt2
      have hxl := ql2 (nL m 0).length (nF L c) i
      rw [hxl]
      have hb1 : i < (nF L c).2.length := by omega
      refine ⟨hlt2, fun hb => ⟨hb1, hb1, hat, by omega, fits64 (by omega) (by omega), i + 1, hlt2, by omega, ⟨?_, by omega⟩, rfl⟩, fun hb => ⟨hb1, hat, by omega, fits64 (by omega) (by omega), i + 1, hlt2, by omega, ⟨?_, by omega⟩, rfl⟩⟩
      · rw [whB4, hb, Bool.true_and]; rfl
      · rw [whB4, hb, Bool.false_and]
    · obtain rfl : i = (nF L c).1.length := by omega
      have hxl := ql2 (nL m 0).length (nF L c) (nF L c).1.length
      refine ⟨fun hb => ⟨⟨h.pre.fit, by omega⟩, fun hs => ⟨by omega, fits64 (by omega) (by omega), c + 1, hlt, by omega, by omega, ?_⟩, fun hs => ⟨fits64 (by omega) (by omega), c + 1, hlt, by omega, by omega, ?_⟩⟩, fun hb => ⟨fits64 (by omega) (by omega), c + 1, hlt, by omega, by omega, ?_⟩⟩
      · rw [hsn, if_pos (by rw [hT, hb, decide_eq_true hs]; rfl)]
      · rw [hsn, if_neg (by rw [hT, hb, decide_eq_false hs]; decide), List.append_nil]
      · rw [hsn, if_neg (by rw [hT, hb]; simp), List.append_nil]
  · obtain rfl : c = L.length := by omega
    rw [List.take_length]
    exact ⟨rfl, rfl⟩
end Go.Proofs.Ytdibdlelmkcccaa
