/- Equal lists of lists; the example of the document. No condition. -/
import Derived.Test.YtdibdlelmkcccaaV32
import Derived.Test.YtdibdlelmkcccaaW8
set_option linter.unusedVariables false
set_option linter.unusedSimpArgs false
namespace Go.Proofs.Ytdibdlelmkcccaa
open Go Go.RowKit Eng
structure qx1 (l : List (List Int)) : Prop where
  len : l.length ≤ 1000000
  each : ∀ i, i < l.length → (nL l i).length ≤ 1000000
abbrev sSameL : FSpec := tspec true none [qd2, qd2] [.bool] (fun x => qx1 x.1) (fun x => (decide (x.1 = x.2.1), ()))
def ivSameL (a b : List (List Int)) : Nat → Option Inv
  | 0 => some (Inv.of [13] 0 (fun k : Nat => [(13, .lit (.int .i64 k))]) (fun _ => []) (fun k => k ≤ a.length ∧ ∀ i, i < k → nL a i = nL b i) (fun k => a.length - k))
  | _ => none
theorem q02 : Meets Try.prog 22 sSameL := by
  refine meets (snd (SpecsOk.cons qt8 (SpecsOk.nil _))) Try.func22 rfl rfl (fun x => ivSameL x.1 x.2.1) (fun _ => by kernel_rfl) (by decide) ?_
  rintro ⟨a, b, ⟨⟩⟩ h
  revert a b
  intro (a : List (List Int)) (b : List (List Int)) (h : qx1 a)
  refine by_vc (B := (((↑(List.length a) : Int) != (↑(List.length b) : Int)) = true->false = decide (a = b))/\(((↑(List.length a) : Int) != (↑(List.length b) : Int)) = false->∃ (v1 : Unit), ∃ (v2 : Nat), (v2 <= List.length a/\∀ (v3 : Nat), Nat.le (Nat.succ v3) v2->nL a v3 = nL b v3)/\(((0 : Int) = (↑v2 : Int)/\True)/\True)/\∀ (v3 : Nat), (v3 <= List.length a/\∀ (v5 : Nat), Nat.le (Nat.succ v5) v3->nL a v5 = nL b v5)->(decide ((↑v3 : Int) < (↑(List.length a) : Int)) = true->((0 : Int) <= (↑v3 : Int)/\(↑v3 : Int) < (↑(List.length a) : Int))/\((0 : Int) <= (↑v3 : Int)/\(↑v3 : Int) < (↑(List.length b) : Int))/\List.length (nthD (Ty.list (Ty.int .i64)) a (Int.toNat (↑v3 : Int))) <= (1000000 : Nat)/\((!decide (nthD (Ty.list (Ty.int .i64)) a (Int.toNat (↑v3 : Int)) = nthD (Ty.list (Ty.int .i64)) b (Int.toNat (↑v3 : Int)))) = true->false = decide (a = b))/\((!decide (nthD (Ty.list (Ty.int .i64)) a (Int.toNat (↑v3 : Int)) = nthD (Ty.list (Ty.int .i64)) b (Int.toNat (↑v3 : Int)))) = false->fits .i64 ((↑v3 : Int) + (1 : Int))/\∃ (v7 : Nat), (v7 <= List.length a/\∀ (v8 : Nat), Nat.le (Nat.succ v8) v7->nL a v8 = nL b v8)/\List.length a - v7 < List.length a - v3/\((↑v3 : Int) + (1 : Int) = (↑v7 : Int)/\True)/\True))/\(decide ((↑v3 : Int) < (↑(List.length a) : Int)) = false->true = decide (a = b)))) (by kernel_rfl) ?_
  try simp only [z0,z1,z2,z3,z4,z5,z6,z7,z8,z9,z10,Int.reduceEq,z11,z12,z13,z14,z15,z16,z17,z18,z19,z20,z21,z22,z23,z24,z25,z26,z27,z28,z29,z30,Int.reduceLE,Int.reduceLT,z31,z32,z33,z34,nilEq_true]
  try simp only [qa4, qa5, qa8, List.set_cons_zero, List.cons.injEq, and_true, true_and]
  have hlen := h.len
  refine ⟨fun hl => ?_, fun hl => ⟨(), 0, ⟨Nat.zero_le _, fun i hi => absurd hi (by omega)⟩, rfl, fun k ⟨hk, hall⟩ => ⟨fun hlt => ⟨hlt, by omega, h.each k hlt, fun hne => ?_, fun he => ⟨fits64 (by omega) (by omega), k + 1, ⟨by omega, fun i hi => ?_⟩, by omega, by omega⟩⟩, fun hge => ?_⟩⟩⟩
  · refine (decide_eq_false fun e => hl ?_).symm
    subst e; rfl
  · refine (decide_eq_false fun e => hne ?_).symm
    subst e; rfl
  · by_cases e : i = k
    · subst e; exact he
    · exact hall i (by omega)
  · exact (decide_eq_true (qv9 (.list (.int .i64)) a b (by omega) fun i hi => hall i (by omega))).symm
theorem q41 : Mk twoM := Mk.of (by decide +kernel)
theorem q42 {n : Nat} {s : List Int} {k : Nat} (h : s ∈ qb9 (n : Nat) (k : Nat)) : Named n s := by
  unfold qb9 at h
  split at h
  · have hi := q07 h
    refine ⟨fun j hj => ?_, fun i j hij hj => ?_⟩
    · have hj : j < (k : Int).toNat := by rw [← hi.len]; exact hj
      have h1 := hi.lo j hj
      have h2 := hi.hi j hj
      omega
    · have hk := hi.len
      induction j with
      | zero => omega
      | succ j ih =>
        have h1 := hi.asc (j + 1) (by omega) (by omega)
        rw [Nat.add_sub_cancel] at h1
        rcases Nat.lt_succ_iff_lt_or_eq.1 hij with q | q
        · have := ih q (by omega); omega
        · rw [q]; exact h1
  · cases h
theorem qu8 {m : List (List Int)} {pix : List Int} (hM : Mk m) (hn : Named (nL m 0).length pix) : Small m.length pix.length pix.length (qj0 m pix) := by
  have h6 := hM.rows6
  have hp10 := hM.pix10
  have hpl := hn.len
  have hat : ∀ i, i < m.length → nL (qj0 m pix) i = qf4 (nL m i) pix := fun i hi => by
    unfold qj0
    rw [qs9 _ _ _ i hi, List.append_nil]
  have hlo : ∀ i, i < m.length → ∀ c, c < pix.length → (nI (nL (qj0 m pix) i) c).natAbs ≤ 1 := fun i hi c hc => by
    rw [hat i hi, qo5 _ _ _ hc]
    have h1 := hn.at_ c hc
    have h2 := hM.small i hi (nI pix c).toNat (by omega)
    omega
  exact ⟨⟨qf1 _ _ _, fun i hi => by rw [hat i hi, qe7]⟩, h6, Nat.le_refl _, by omega, fun a c ha hc => hlo a ha c hc, fun a c ha hc => by have := hlo a ha c hc; omega⟩
theorem rankOk {m : List (List Int)} (hM : Mk m) : qy4 m := by
  have := qs2 (qu8 hM (Named.idx _))
  rw [qg7] at this
  exact ⟨this⟩
def kerB (r : List (List Int)) (piv : List Int) (n : Nat) : Bool :=
  ((List.range piv.length).all fun k => decide (nI (nL r k) (nI piv k).toNat ≠ 0) && (List.range n).all fun i => decide (qd1 BIG (nI (nL r k) i)))
  && (List.range n).all fun f => (piv.any fun e => (f : Int) == e) || (((List.range (piv.length + 1)).all fun k => decide (qd1 BIG (qc9 r piv f k) ∧ qc9 r piv f k ≠ 0))
  && (List.range piv.length).all fun k => decide (qd1 BIG ((0 - nI (nL r k) f) * qc9 r piv f piv.length)))
theorem kerB_ok {r : List (List Int)} {piv : List Int} {n : Nat} (h : kerB r piv n = true) : q5h r piv n := by
  unfold kerB at h
  simp only [Bool.and_eq_true, Bool.or_eq_true, List.all_eq_true, List.mem_range, decide_eq_true_eq] at h
  obtain ⟨h1, h2⟩ := h
  refine ⟨fun k hk => (h1 k hk).1, fun k hk => (h1 k hk).2, fun f hf hp k hk => ?_, fun f hf hp k hk => ?_⟩
  · rcases h2 f hf with q | q
    · rw [hp] at q; cases q
    · exact q.1 k (by omega)
  · rcases h2 f hf with q | q
    · rw [hp] at q; cases q
    · exact q.2 k hk
theorem two_ker : ((List.range 3).all fun k => (qb9 (3 : Nat) (k + 1 : Nat)).all fun s => kerB (qa3 twoM s).1 (qa3 twoM s).2 s.length) = true := by decide +kernel
theorem two_spk : q0q twoM := by
  refine ⟨fun _ => ⟨rankOk q41, fun k hk s hs => ?_⟩, ?_⟩
  · have hn : (nL twoM 0).length = 3 := rfl
    rw [hn] at hk hs
    have h1 := q42 hs
    have h2 := List.all_eq_true.1 (List.all_eq_true.1 two_ker k (List.mem_range.2 hk)) s hs
    exact ⟨ChoOk.of q41 h1 fun _ _ => ⟨trivial, Nat.zero_le _⟩, qs2 (qu8 q41 h1), kerB_ok h2⟩
  · decide +kernel
theorem two_len : qg0 twoM = true := by decide +kernel
theorem two_fit : FitM twoM := by
  have h : ∀ i, i < twoM.length → (nL twoM i).length ≤ 9223372036854775807 := by decide
  exact ⟨by decide, h⟩
theorem q1r : spsR twoM [1, 1] = (([1], [(1, 1)]), 0) := by decide +kernel
abbrev sAwake4 : FSpec := tspec true none [] [.bool] (fun _ => True) (fun _ => (true, ()))
theorem q0a : Meets Try.prog 10 sAwake4 := by
  refine meets (snd (SpecsOk.cons q4b (SpecsOk.cons q4e (SpecsOk.cons q2m (SpecsOk.cons q0j (SpecsOk.nil _)))))) Try.func10 rfl rfl (fun _ _ => none) (fun _ => by kernel_rfl) (by decide) ?_
  rintro ⟨⟩ -
  refine by_vc (B := True/\qr6 twoM [(1 : Int), (1 : Int)]/\True/\q0q twoM/\(((0 : Int) == (0 : Int)) = true->q33 (Prod.fst (Prod.fst (spsR twoM [(1 : Int), (1 : Int)])), Prod.snd (Prod.fst (spsR twoM [(1 : Int), (1 : Int)])))/\(q0i (Prod.fst (Prod.fst (spsR twoM [(1 : Int), (1 : Int)])), Prod.snd (Prod.fst (spsR twoM [(1 : Int), (1 : Int)]))) ([(1 : Int)], [((1 : Int), (1 : Int))]) = true->(((0 : Int) == (0 : Int)) = true->((1 : Int) == (1 : Int)) = true)/\(((0 : Int) == (0 : Int)) = false->false = true))/\(q0i (Prod.fst (Prod.fst (spsR twoM [(1 : Int), (1 : Int)])), Prod.snd (Prod.fst (spsR twoM [(1 : Int), (1 : Int)]))) ([(1 : Int)], [((1 : Int), (1 : Int))]) = false->false = true))/\(((0 : Int) == (0 : Int)) = false->false = true)) (by kernel_rfl) ?_
  try simp only [z0,z1,z2,z3,z4,z5,z6,z7,z8,z9,z10,Int.reduceEq,z11,z12,z13,z14,z15,z16,z17,z18,z19,z20,z21,z22,z23,z24,z25,z26,z27,z28,z29,z30,Int.reduceLE,Int.reduceLT,z31,z32,z33,z34,nilEq_true]
  try simp only [qa4, qa5, qa8, List.set_cons_zero, List.cons.injEq, and_true, true_and]
  refine ⟨sprPre two_fit two_len, two_spk, ⟨?_, fun _ h => absurd trivial h, fun h => ?_⟩, fun h => absurd trivial h⟩
  · rw [q1r]; exact ⟨by decide, by decide⟩
  · rw [q1r] at h; cases h
end Go.Proofs.Ytdibdlelmkcccaa
