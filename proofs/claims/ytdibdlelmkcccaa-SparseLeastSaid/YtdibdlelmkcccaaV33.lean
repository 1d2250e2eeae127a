/- Equal lists of lists; the example of the document. No condition. -/
import Derived.Test.YtdibdlelmkcccaaV32
import Derived.Test.YtdibdlelmkcccaaW8
set_option linter.unusedVariables false
set_option linter.unusedSimpArgs false
namespace Go.Proofs.Ytdibdlelmkcccaa
open Go Go.RowKit Eng
theorem two_mk : Mk twoM := Mk.of (by decide +kernel)
theorem asc_named {n : Nat} {s : List Int} {k : Nat} (h : s ∈ setsL (n : Nat) (k : Nat)) : Named n s := by
  unfold setsL at h
  split at h
  · have hi := combs_in h
    refine ⟨fun j hj => ?_, fun i j hij hj => ?_⟩
    · have hj : j < (k : Int).toNat := by rw [← hi.len]; exact hj
      have h1 := hi.lo j hj
      have h2 := hi.hi j hj
      omega
    · have hk := hi.len
      induction j with
      | zero => omega
      | succ j ih =>
        have h1 := hi.asc (j + 1) (by omega) (by omega)
        rw [Nat.add_sub_cancel] at h1
        rcases Nat.lt_succ_iff_lt_or_eq.1 hij with q | q
        · have := ih q (by omega); omega
        · rw [q]; exact h1
  · cases h
theorem small_choN {m : List (List Int)} {pix : List Int} (hM : Mk m) (hn : Named (nL m 0).length pix) : Small m.length pix.length pix.length (chosenN m pix) := by
  have h6 := hM.rows6
  have hp10 := hM.pix10
  have hpl := hn.len
  have hat : ∀ i, i < m.length → nL (chosenN m pix) i = pickL (nL m i) pix := fun i hi => by
    unfold chosenN
    rw [chosenL_at _ _ _ i hi, List.append_nil]
  have hlo : ∀ i, i < m.length → ∀ c, c < pix.length → (nI (nL (chosenN m pix) i) c).natAbs ≤ 1 := fun i hi c hc => by
    rw [hat i hi, pickL_at _ _ _ hc]
    have h1 := hn.at_ c hc
    have h2 := hM.small i hi (nI pix c).toNat (by omega)
    omega
  exact ⟨⟨chosenL_len _ _ _, fun i hi => by rw [hat i hi, pickL_len]⟩, h6, Nat.le_refl _, by omega, fun a c ha hc => hlo a ha c hc, fun a c ha hc => by have := hlo a ha c hc; omega⟩
theorem rankOk {m : List (List Int)} (hM : Mk m) : RankOk m := by
  have := small_red (small_choN hM (Named.idx _))
  rw [idxL_len] at this
  exact ⟨this⟩
def kerB (r : List (List Int)) (piv : List Int) (n : Nat) : Bool :=
  ((List.range piv.length).all fun k => decide (nI (nL r k) (nI piv k).toNat ≠ 0) && (List.range n).all fun i => decide (absLe BIG (nI (nL r k) i)))
  && (List.range n).all fun f => (piv.any fun e => (f : Int) == e) || (((List.range (piv.length + 1)).all fun k => decide (absLe BIG (timesTo r piv f k) ∧ timesTo r piv f k ≠ 0))
  && (List.range piv.length).all fun k => decide (absLe BIG ((0 - nI (nL r k) f) * timesTo r piv f piv.length)))
theorem kerB_ok {r : List (List Int)} {piv : List Int} {n : Nat} (h : kerB r piv n = true) : KerAr r piv n := by
  unfold kerB at h
  simp only [Bool.and_eq_true, Bool.or_eq_true, List.all_eq_true, List.mem_range, decide_eq_true_eq] at h
  obtain ⟨h1, h2⟩ := h
  refine ⟨fun k hk => (h1 k hk).1, fun k hk => (h1 k hk).2, fun f hf hp k hk => ?_, fun f hf hp k hk => ?_⟩
  · rcases h2 f hf with q | q
    · rw [hp] at q; cases q
    · exact q.1 k (by omega)
  · rcases h2 f hf with q | q
    · rw [hp] at q; cases q
    · exact q.2 k hk
theorem two_ker : ((List.range 3).all fun k => (setsL (3 : Nat) (k + 1 : Nat)).all fun s => kerB (kernR twoM s).1 (kernR twoM s).2 s.length) = true := by decide +kernel
theorem two_spk : SpkOk twoM := by
  refine ⟨fun _ => ⟨rankOk two_mk, fun k hk s hs => ?_⟩, ?_⟩
  · have hn : (nL twoM 0).length = 3 := rfl
    rw [hn] at hk hs
    have h1 := asc_named hs
    have h2 := List.all_eq_true.1 (List.all_eq_true.1 two_ker k (List.mem_range.2 hk)) s hs
    exact ⟨ChoOk.of two_mk h1 fun _ _ => ⟨trivial, Nat.zero_le _⟩, small_red (small_choN two_mk h1), kerB_ok h2⟩
  · decide +kernel
theorem two_len : lightB twoM = true := by decide +kernel
theorem two_fit : FitM twoM := by
  have h : ∀ i, i < twoM.length → (nL twoM i).length ≤ 9223372036854775807 := by decide
  exact ⟨by decide, h⟩
theorem two_read : spsR twoM [1, 1] = (([1], [(1, 1)]), 0) := by decide +kernel
abbrev sAwake4 : FSpec := tspec true none [] [.bool] (fun _ => True) (fun _ => (true, ()))
theorem awake4_meets : Meets Try.prog 10 sAwake4 := by
  refine meets (snd (SpecsOk.cons two_meets (SpecsOk.cons sps_meets (SpecsOk.cons sure_meets (SpecsOk.cons sameF_meets (SpecsOk.nil _)))))) Try.func10 rfl rfl (fun _ _ => none) (fun _ => by kernel_rfl) (by decide) ?_
  rintro ⟨⟩ -
  refine by_vc (B := True /\ SprPre twoM [(1 : Int), (1 : Int)] /\ True /\ SpkOk twoM /\ (((0 : Int) == (0 : Int)) = true -> FitLen (Prod.fst (Prod.fst (spsR twoM [(1 : Int), (1 : Int)])), Prod.snd (Prod.fst (spsR twoM [(1 : Int), (1 : Int)]))) /\ (sameF (Prod.fst (Prod.fst (spsR twoM [(1 : Int), (1 : Int)])), Prod.snd (Prod.fst (spsR twoM [(1 : Int), (1 : Int)]))) ([(1 : Int)], [((1 : Int), (1 : Int))]) = true -> (((0 : Int) == (0 : Int)) = true -> ((1 : Int) == (1 : Int)) = true) /\ (((0 : Int) == (0 : Int)) = false -> false = true)) /\ (sameF (Prod.fst (Prod.fst (spsR twoM [(1 : Int), (1 : Int)])), Prod.snd (Prod.fst (spsR twoM [(1 : Int), (1 : Int)]))) ([(1 : Int)], [((1 : Int), (1 : Int))]) = false -> false = true)) /\ (((0 : Int) == (0 : Int)) = false -> false = true)) (by kernel_rfl) ?_
  try simp only [z0, z1, z2, z3, z4, z5, z6, z7, z8, z9, z10, Int.reduceEq, z11, z12, z13, z14, z15, z16, z17, z18, z19, z20, z21, z22, z23, z24, z25, z26, z27, z28, z29, z30, Int.reduceLE, Int.reduceLT, z31, z32, z33, z34, nilEq_true]
  try simp only [nthD_nI, nthD_nL, nL_one, List.set_cons_zero, List.cons.injEq, and_true, true_and]
  refine ⟨sprPre two_fit two_len, two_spk, ⟨?_, fun _ h => absurd trivial h, fun h => ?_⟩, fun h => absurd trivial h⟩
  · rw [two_read]; exact ⟨by decide, by decide⟩
  · rw [two_read] at h; cases h
end Go.Proofs.Ytdibdlelmkcccaa
