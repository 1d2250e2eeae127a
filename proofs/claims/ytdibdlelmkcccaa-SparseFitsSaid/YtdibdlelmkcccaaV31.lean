/- The reference's fits, all of them, the sparsest, the whole ones: contracts by the engine. No condition. -/
import Derived.Test.YtdibdlelmkcccaaV30
set_option linter.unusedVariables false
set_option linter.unusedSimpArgs false
namespace Go.Proofs.Ytdibdlelmkcccaa
open Go Go.RowKit Eng
theorem w94 (L : List Fit) (i : Nat) : qa1 ((Ty.int .i64).list.prod ((Ty.int .i64).prod (Ty.int .i64)).list) L i = nF L i := rfl
def qi6 (m : List (List Int)) (y : List Int) (s : List (List Int)) : List Fit := s.filterMap fun pix => if (qx5 m y pix).2 = true then some (qx5 m y pix).1 else none
def qv4 (m : List (List Int)) (y : List Int) : List Fit := qi6 m y (qj3 (nL m 0).length)
structure q3k (m : List (List Int)) (y : List Int) : Prop where
  one : 0 < m.length
  pix : (nL m 0).length <= 7
  each : ∀ s ∈ qj3 (nL m 0).length, q1p m s y
abbrev xs7 : qc7 := qg2 false none [qh5, qe1] [w0f] (fun x => q3k x.1 x.2.1) (fun x => (qv4 x.1 x.2.1, ()))
def xj5 (m : List (List Int)) (y : List Int) (L : List (List Int)) : Nat -> Option Inv
  | 0 => some (Inv.of [5, 16] 1 (fun k : Nat => [(5, .own 0), (16, .lit (.int .i64 k))]) (fun k => [.vec 30 q2m (qi6 m y (L.take k))]) (fun k => k <= L.length) (fun k => L.length - k))
  | _ => none
theorem q9f (m : List (List Int)) (y : List Int) {s : List (List Int)} {c : Nat} (h : c < s.length) : qi6 m y (s.take (c + 1)) = qi6 m y (s.take c) ++ if (qx5 m y (nL s c)).2 = true then [(qx5 m y (nL s c)).1] else [] := by
  rw [qj9 s c h, List.take_add_one, List.getElem?_eq_getElem h]
  unfold qi6
  rw [List.filterMap_append]
  congr 1
  simp only [Option.toList_some, List.filterMap_cons, List.filterMap_nil]
  by_cases hf : (qx5 m y s[c]).2 = true
  · rw [if_pos hf, if_pos hf]
  · rw [if_neg hf, if_neg hf]
theorem q3y (m : List (List Int)) (y : List Int) (s : List (List Int)) : (qi6 m y s).length <= s.length := List.length_filterMap_le _ s
theorem w0s : qd6 Try.prog 55 xs7 := by
  refine meets (snd (SpecsOk.cons wj5 (SpecsOk.cons q3j (SpecsOk.nil _)))) Try.func55 rfl rfl (fun x => xj5 x.1 x.2.1 (qj3 (nL x.1 0).length)) (fun _ => by kernel_rfl) (by decide) ?_
  rintro ⟨m, y, ⟨⟩⟩ h
  revert m y
  intro (m : List (List Int)) (y : List Int) (h : q3k m y)
  refine qd7 (B := ((0:Int) <= (0:Int)/\(0:Int) < (↑(List.length m):Int))/\((0 : Ty.den qf9) <= (↑(List.length (qa1 (Ty.list (Ty.int .i64)) m (0:Nat))):Int)/\(↑(List.length (qa1 (Ty.list (Ty.int .i64)) m (0:Nat))):Int) <= (7 : Ty.den qf9))/\∃ (v0:Unit),∃ (v1:Nat),Nat.le v1 (List.length (qj3 (List.length (nL m (0:Nat)))))/\((True/\(0:Int)=(↑v1:Int)/\True)/\qi6 m y (List.take v1 (qj3 (List.length (nL m (0:Nat)))))=[]/\True)/\∀ (v2:Nat),Nat.le v2 (List.length (qj3 (List.length (nL m (0:Nat)))))->(decide ((↑v2:Int) < (↑(List.length (qj3 (Int.toNat (↑(List.length (qa1 (Ty.list (Ty.int .i64)) m (0:Nat))):Int)))):Int))=true->((0:Int) <= (↑v2:Int)/\(↑v2:Int) < (↑(List.length (qj3 (Int.toNat (↑(List.length (qa1 (Ty.list (Ty.int .i64)) m (0:Nat))):Int)))):Int))/\q1p m (qa1 (Ty.list (Ty.int .i64)) (qj3 (Int.toNat (↑(List.length (qa1 (Ty.list (Ty.int .i64)) m (0:Nat))):Int))) (Int.toNat (↑v2:Int))) y/\(Prod.snd (qx5 m y (qa1 (Ty.list (Ty.int .i64)) (qj3 (Int.toNat (↑(List.length (qa1 (Ty.list (Ty.int .i64)) m (0:Nat))):Int))) (Int.toNat (↑v2:Int))))=true->((0:Nat) < List.length [(Prod.fst (Prod.fst (qx5 m y (qa1 (Ty.list (Ty.int .i64)) (qj3 (Int.toNat (↑(List.length (qa1 (Ty.list (Ty.int .i64)) m (0:Nat))):Int))) (Int.toNat (↑v2:Int))))),Prod.snd (Prod.fst (qx5 m y (qa1 (Ty.list (Ty.int .i64)) (qj3 (Int.toNat (↑(List.length (qa1 (Ty.list (Ty.int .i64)) m (0:Nat))):Int))) (Int.toNat (↑v2:Int))))))]/\Nat.le (List.length (qi6 m y (List.take v2 (qj3 (List.length (nL m (0:Nat)))))) + List.length [(Prod.fst (Prod.fst (qx5 m y (qa1 (Ty.list (Ty.int .i64)) (qj3 (Int.toNat (↑(List.length (qa1 (Ty.list (Ty.int .i64)) m (0:Nat))):Int))) (Int.toNat (↑v2:Int))))),Prod.snd (Prod.fst (qx5 m y (qa1 (Ty.list (Ty.int .i64)) (qj3 (Int.toNat (↑(List.length (qa1 (Ty.list (Ty.int .i64)) m (0:Nat))):Int))) (Int.toNat (↑v2:Int))))))]) (1000000:Nat))/\fits .i64 ((↑v2:Int) + (1:Int))/\∃ (v6:Nat),Nat.le v6 (List.length (qj3 (List.length (nL m (0:Nat)))))/\List.length (qj3 (List.length (nL m (0:Nat)))) - v6 < List.length (qj3 (List.length (nL m (0:Nat)))) - v2/\(True/\(↑v2:Int) + (1:Int)=(↑v6:Int)/\True)/\qi6 m y (List.take v2 (qj3 (List.length (nL m (0:Nat))))) ++ [(Prod.fst (Prod.fst (qx5 m y (qa1 (Ty.list (Ty.int .i64)) (qj3 (Int.toNat (↑(List.length (qa1 (Ty.list (Ty.int .i64)) m (0:Nat))):Int))) (Int.toNat (↑v2:Int))))),Prod.snd (Prod.fst (qx5 m y (qa1 (Ty.list (Ty.int .i64)) (qj3 (Int.toNat (↑(List.length (qa1 (Ty.list (Ty.int .i64)) m (0:Nat))):Int))) (Int.toNat (↑v2:Int))))))]=qi6 m y (List.take v6 (qj3 (List.length (nL m (0:Nat)))))/\True)/\(Prod.snd (qx5 m y (qa1 (Ty.list (Ty.int .i64)) (qj3 (Int.toNat (↑(List.length (qa1 (Ty.list (Ty.int .i64)) m (0:Nat))):Int))) (Int.toNat (↑v2:Int))))=false->fits .i64 ((↑v2:Int) + (1:Int))/\∃ (v6:Nat),Nat.le v6 (List.length (qj3 (List.length (nL m (0:Nat)))))/\List.length (qj3 (List.length (nL m (0:Nat)))) - v6 < List.length (qj3 (List.length (nL m (0:Nat)))) - v2/\(True/\(↑v2:Int) + (1:Int)=(↑v6:Int)/\True)/\qi6 m y (List.take v2 (qj3 (List.length (nL m (0:Nat)))))=qi6 m y (List.take v6 (qj3 (List.length (nL m (0:Nat)))))/\True))/\(decide ((↑v2:Int) < (↑(List.length (qj3 (Int.toNat (↑(List.length (qa1 (Ty.list (Ty.int .i64)) m (0:Nat))):Int)))):Int))=false->qi6 m y (List.take v2 (qj3 (List.length (nL m (0:Nat)))))=qv4 m y)) (by kernel_rfl) ?_
  try simp only [z0,z1,z2,z3,z4,z5,z6,z7,z8,z9,z10,Int.reduceEq,z11,z12,z13,z14,z15,z16,z17,z18,z19,z20,z21,z22,z23,z24,z25,z26,z27,z28,z29,z30,Int.reduceLE,Int.reduceLT,z31,z32,z33,z34,qa3]
  try simp only [qb4, qb5, qc9, List.set_cons_zero, List.cons.injEq, and_true, true_and]
  have h1 := h.one
  have h2 := h.pix
  have hlen : (qj3 (nL m 0).length).length <= 128 := (q2u (n := (nL m 0).length) (k := 128) h2 (Nat.le_refl _)).1
  have hea := h.each
  have hR : qv4 m y = qi6 m y (qj3 (nL m 0).length) := rfl
  rw [hR]
  generalize qj3 (nL m 0).length = L at hlen hea ⊢
  refine ⟨by omega, by omega, (), 0, Nat.zero_le _, ⟨rfl, by simp [qi6]⟩, fun c hc => ⟨fun hlt => ?_, fun hge => ?_⟩⟩
  · have hl := q3y m y (L.take c)
    rw [List.length_take] at hl
    have hs := q9f m y hlt
    refine ⟨hlt, hea _ (qu9 L c hlt), fun hf => ⟨by omega, qa8 (by omega) (by omega), c + 1, hlt, by omega, by omega, ?_⟩, fun hf => ⟨qa8 (by omega) (by omega), c + 1, hlt, by omega, by omega, ?_⟩⟩
    · rw [hs, if_pos hf]
    · rw [hs, if_neg (by rw [hf]; decide), List.append_nil]
  · obtain rfl : c = L.length := by omega
    rw [List.take_length]
def qv0 (k : Int) (L : List Fit) : List Fit := L.filter fun f => decide ((f.1.length : Int) <= k)
def q1q (m : List (List Int)) (y : List Int) (k : Int) : List Fit × Int := if ql6 m y ≠ 0 then ([], ql6 m y) else if inB k 0 10 = false then ([], 7) else (qv0 k (qv4 m y), 0)
structure w7i (m : List (List Int)) (y : List Int) : Prop where
  fit : q3v m
  all : ql6 m y = 0 -> q3k m y
theorem ws5 {m : List (List Int)} {y : List Int} (h : q3k m y) : (qv4 m y).length <= 128 := by
  have h1 := q3y m y (qj3 (nL m 0).length)
  have h2 := (q2u (n := (nL m 0).length) (k := 128) h.pix (Nat.le_refl _)).1
  have e : qj3 (nL m 0).length = qc0 (nL m 0).length 128 := rfl
  rw [e] at h1
  unfold qv4
  rw [e]
  omega
abbrev xj6 : qc7 := qg2 false none [qh5, qe1, qf9] [w0f, qf9] (fun x => w7i x.1 x.2.1) (fun x => ((q1q x.1 x.2.1 x.2.2.1).1, (q1q x.1 x.2.1 x.2.2.1).2, ()))
def w95 (k : Int) (L : List Fit) : Nat -> Option Inv
  | 0 => some (Inv.of [9, 25] 1 (fun i : Nat => [(9, .own 0), (25, .lit (.int .i64 i))]) (fun i => [.vec 30 q2m (qv0 k (L.take i))]) (fun i => i <= L.length) (fun i => L.length - i))
  | _ => none
theorem wk6 : qd6 Try.prog 26 xj6 := by
  refine meets (snd (SpecsOk.cons q1k (SpecsOk.cons q9b (SpecsOk.cons w0s (SpecsOk.nil _))))) Try.func26 rfl rfl (fun x => w95 x.2.2.1 (qv4 x.1 x.2.1)) (fun _ => by kernel_rfl) (by decide) ?_
  rintro ⟨m, y, k, ⟨⟩⟩ h
  revert m y k
  intro (m : List (List Int)) (y : List Int) (k : Int) (h : w7i m y)
  refine qd7 (B := q3v m/\((ql6 m y != (0:Int))=true->Prod.fst (q1q m y k)=[]/\ql6 m y=Prod.snd (q1q m y k)/\True)/\((ql6 m y != (0:Int))=false->True/\((!inB k (0:Int) (10:Int))=true->Prod.fst (q1q m y k)=[]/\(7:Int)=Prod.snd (q1q m y k)/\True)/\((!inB k (0:Int) (10:Int))=false->q3k m y/\∃ (v2:Unit),∃ (v3:Nat),Nat.le v3 (List.length (qv4 m y))/\((True/\(0:Int)=(↑v3:Int)/\True)/\qv0 k (List.take v3 (qv4 m y))=[]/\True)/\∀ (v4:Nat),Nat.le v4 (List.length (qv4 m y))->(decide ((↑v4:Int) < (↑(List.length (qv4 m y)):Int))=true->((0:Int) <= (↑v4:Int)/\(↑v4:Int) < (↑(List.length (qv4 m y)):Int))/\(decide ((↑(List.length (Prod.fst (qa1 (Ty.prod (Ty.list (Ty.int .i64)) (Ty.list (Ty.prod (Ty.int .i64) (Ty.int .i64)))) (qv4 m y) (Int.toNat (↑v4:Int))))):Int) <= k)=true->((0:Nat) < List.length [(Prod.fst (qa1 (Ty.prod (Ty.list (Ty.int .i64)) (Ty.list (Ty.prod (Ty.int .i64) (Ty.int .i64)))) (qv4 m y) (Int.toNat (↑v4:Int))),Prod.snd (qa1 (Ty.prod (Ty.list (Ty.int .i64)) (Ty.list (Ty.prod (Ty.int .i64) (Ty.int .i64)))) (qv4 m y) (Int.toNat (↑v4:Int))))]/\Nat.le (List.length (qv0 k (List.take v4 (qv4 m y))) + List.length [(Prod.fst (qa1 (Ty.prod (Ty.list (Ty.int .i64)) (Ty.list (Ty.prod (Ty.int .i64) (Ty.int .i64)))) (qv4 m y) (Int.toNat (↑v4:Int))),Prod.snd (qa1 (Ty.prod (Ty.list (Ty.int .i64)) (Ty.list (Ty.prod (Ty.int .i64) (Ty.int .i64)))) (qv4 m y) (Int.toNat (↑v4:Int))))]) (1000000:Nat))/\fits .i64 ((↑v4:Int) + (1:Int))/\∃ (v8:Nat),Nat.le v8 (List.length (qv4 m y))/\List.length (qv4 m y) - v8 < List.length (qv4 m y) - v4/\(True/\(↑v4:Int) + (1:Int)=(↑v8:Int)/\True)/\qv0 k (List.take v4 (qv4 m y)) ++ [(Prod.fst (qa1 (Ty.prod (Ty.list (Ty.int .i64)) (Ty.list (Ty.prod (Ty.int .i64) (Ty.int .i64)))) (qv4 m y) (Int.toNat (↑v4:Int))),Prod.snd (qa1 (Ty.prod (Ty.list (Ty.int .i64)) (Ty.list (Ty.prod (Ty.int .i64) (Ty.int .i64)))) (qv4 m y) (Int.toNat (↑v4:Int))))]=qv0 k (List.take v8 (qv4 m y))/\True)/\(decide ((↑(List.length (Prod.fst (qa1 (Ty.prod (Ty.list (Ty.int .i64)) (Ty.list (Ty.prod (Ty.int .i64) (Ty.int .i64)))) (qv4 m y) (Int.toNat (↑v4:Int))))):Int) <= k)=false->fits .i64 ((↑v4:Int) + (1:Int))/\∃ (v8:Nat),Nat.le v8 (List.length (qv4 m y))/\List.length (qv4 m y) - v8 < List.length (qv4 m y) - v4/\(True/\(↑v4:Int) + (1:Int)=(↑v8:Int)/\True)/\qv0 k (List.take v4 (qv4 m y))=qv0 k (List.take v8 (qv4 m y))/\True))/\(decide ((↑v4:Int) < (↑(List.length (qv4 m y)):Int))=false->qv0 k (List.take v4 (qv4 m y))=Prod.fst (q1q m y k)/\(0:Int)=Prod.snd (q1q m y k)/\True)))) (by kernel_rfl) ?_
  try simp only [z0,z1,z2,z3,z4,z5,z6,z7,z8,z9,z10,Int.reduceEq,z11,z12,z13,z14,z15,z16,z17,z18,z19,z20,z21,z22,z23,z24,z25,z26,z27,z28,z29,z30,Int.reduceLE,Int.reduceLT,z31,z32,z33,z34,qa3]
  try simp only [qb4, qb5, qc9, List.set_cons_zero, List.cons.injEq, and_true, true_and]
  have hR : q1q m y k = if ql6 m y ≠ 0 then ([], ql6 m y) else if inB k 0 10 = false then ([], 7) else (qv0 k (qv4 m y), 0) := rfl
  simp only [w94]
  refine ⟨h.fit, fun he => by rw [hR, if_pos he]; exact ⟨rfl, rfl⟩, fun he => ⟨fun hk => by rw [hR, if_neg (fun q => q he), if_pos hk]; exact ⟨rfl, rfl⟩, fun hk => ?_⟩⟩
  have hA := h.all he
  have hlen := ws5 hA
  rw [hR, if_neg (fun q => q he), if_neg (by rw [hk]; decide)]
  generalize qv4 m y = L at hlen ⊢
  refine ⟨hA, (), 0, Nat.zero_le _, ⟨rfl, rfl⟩, fun c hc => ⟨fun hlt => ?_, fun hge => ?_⟩⟩
  · have hl := List.length_filter_le (fun f : Fit => decide ((f.1.length : Int) <= k)) (L.take c)
    rw [List.length_take] at hl
    have hl2 : (qv0 k (L.take c)).length <= c := by unfold qv0; omega
    have hs : qv0 k (L.take (c + 1)) = qv0 k (L.take c) ++ if ((nF L c).1.length : Int) <= k then [nF L c] else [] := by
      rw [w0n L c hlt, List.take_add_one, List.getElem?_eq_getElem hlt]
      unfold qv0
      rw [List.filter_append]
      congr 1
      by_cases hf : ((L[c]).1.length : Int) <= k
      · rw [if_pos hf]; simp [hf]
      · rw [if_neg hf]; simp; omega
    refine ⟨hlt, fun hf => ⟨by omega, qa8 (by omega) (by omega), c + 1, hlt, by omega, by omega, ?_⟩, fun hf => ⟨qa8 (by omega) (by omega), c + 1, hlt, by omega, by omega, ?_⟩⟩
    · rw [hs, if_pos hf]
    · rw [hs, if_neg (by omega), List.append_nil]
  · obtain rfl : c = L.length := by omega
    rw [List.take_length]
    exact ⟨rfl, rfl⟩
end Go.Proofs.Ytdibdlelmkcccaa
