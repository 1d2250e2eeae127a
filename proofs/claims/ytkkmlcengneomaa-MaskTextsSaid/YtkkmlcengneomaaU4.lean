/- strings.IndexRune at the three signs: a contract. No condition. -/
import Derived.Test.YtkkmlcengneomaaU3

set_option linter.unusedVariables false
set_option linter.unusedSimpArgs false
namespace Go.Proofs.Ytkkmlcengneomaa
open Go Go.RowKit Eng Ls

abbrev tRune : Ty := .int .i32
def vrR (r : Int) : Bool := (decide (0 ≤ r) && decide (r < 55296)) || (decide (57343 < r) && decide (r ≤ 1114111))
def sVr : FSpec := tspec true none [tRune] [.bool] (fun _ => True) (fun x => (vrR x.1, ()))
theorem vrR_iff (r : Int) : vrR r = true ↔ (0 ≤ r ∧ r < 55296) ∨ (57343 < r ∧ r ≤ 1114111) := by simp [vrR]
theorem validRune_meets : Meets Try.prog 120 sVr := by
  refine meets (snd (SpecsOk.nil _) []) Try.func120 rfl rfl (fun x _ => none) (fun _ => by kernel_rfl) (by decide) ?_
  rintro ⟨r, ⟨⟩⟩ -
  revert r
  intro (r : Int)
  refine by_vc (B := (Decidable.decide ((0 : Int) ≤ r) = Bool.true →
    (Decidable.decide (r < (55296 : Int)) = Bool.true → Bool.true = vrR r) ∧
      (Decidable.decide (r < (55296 : Int)) = Bool.false →
        (Decidable.decide ((57343 : Int) < r) = Bool.true → (Decidable.decide (r ≤ (1114111 : Int)) = Bool.true → Bool.true = vrR r) ∧ (Decidable.decide (r ≤ (1114111 : Int)) = Bool.false → Bool.false = vrR r)) ∧ (Decidable.decide ((57343 : Int) < r) = Bool.false → Bool.false = vrR r))) ∧
  (Decidable.decide ((0 : Int) ≤ r) = Bool.false →
    (Decidable.decide ((57343 : Int) < r) = Bool.true → (Decidable.decide (r ≤ (1114111 : Int)) = Bool.true → Bool.true = vrR r) ∧ (Decidable.decide (r ≤ (1114111 : Int)) = Bool.false → Bool.false = vrR r)) ∧ (Decidable.decide ((57343 : Int) < r) = Bool.false → Bool.false = vrR r))) (by kernel_rfl) ?_
  have h := vrR_iff r
  have yes : (0 ≤ r ∧ r < 55296) ∨ (57343 < r ∧ r ≤ 1114111) → true = vrR r := fun k => (h.2 k).symm
  have no : ¬((0 ≤ r ∧ r < 55296) ∨ (57343 < r ∧ r ≤ 1114111)) → false = vrR r := fun k => (Bool.eq_false_iff.2 fun e => k (h.1 e)).symm
  clear h
  simp only [ne_eq, true_and, and_true, eq_self, Bool.not_eq_true', Bool.not_eq_false', decide_eq_true_eq, decide_eq_false_iff_not, Nat.le_eq, Int.not_lt, Int.not_le, Int.reduceEq, not_false_eq_true, Bool.not_eq_eq_eq_not, Bool.not_true, Bool.not_false, Int.ofNat_lt, Int.ofNat_le, Int.toNat_natCast, Int.natCast_nonneg, nthD_nth, beq_iff_eq, bne_iff_ne, beq_eq_false_iff_ne, bne_eq_false_iff_eq, Classical.not_not, List.length_cons, List.length_nil, Nat.zero_add, List.nil_append, true_implies, Nat.lt_add_one, Nat.zero_lt_succ, Int.reduceLE, Int.reduceLT]
  refine ⟨fun h1 => ⟨fun h2 => yes (by omega), fun h2 => ⟨fun h3 => ⟨fun h4 => yes (by omega), fun h4 => no (by omega)⟩, fun h3 => no (by omega)⟩⟩, fun h1 => ⟨fun h3 => ⟨fun h4 => yes (by omega), fun h4 => no (by omega)⟩, fun h3 => no (by omega)⟩⟩
theorem byteAt_bd (s : ByteArray) (i : Nat) : 0 ≤ byteAt s i ∧ byteAt s i < 256 := by
  unfold byteAt
  split
  · rename_i b _; have := b.toNat_lt; omega
  · omega
/-- A rune's text: two to four bytes, the last above all signs. -/
theorem enc_last {r : Int} (hv : vrR r = true) (h : 128 ≤ r) : ∃ n : Nat, (Utf8.encode r).size = n + 1 ∧ 1 ≤ n ∧ n ≤ 3 ∧ 128 ≤ byteAt (Utf8.encode r) n := by
  have hv := (vrR_iff r).1 hv
  have hval : Utf8.valid r = true := by
    unfold Utf8.valid
    simp
    omega
  obtain ⟨k, rfl⟩ : ∃ k : Nat, r = k := ⟨r.toNat, by omega⟩
  have lastB : ∀ q : Nat, ((UInt8.ofNat (0x80 + q % 64)).toNat : Int) ≥ 128 := fun q => by
    rw [UInt8.toNat_ofNat']
    have : q % 64 < 64 := Nat.mod_lt _ (by decide)
    omega
  unfold Utf8.encode
  simp only [hval, if_true, Int.toNat_natCast]
  rw [if_neg (by omega)]
  split
  · exact ⟨1, rfl, by omega, by omega, lastB k⟩
  · split
    · exact ⟨2, rfl, by omega, by omega, lastB k⟩
    · exact ⟨3, rfl, by omega, by omega, lastB k⟩
theorem chkHi : ((List.range 128).all fun c => (List.range 4).all fun j => ixB (signsB.extract j 3) ((c + 128 : Nat) : Int) == -1) = true := by decide +kernel
theorem ix_hi {c : Int} (h : 128 ≤ c) (h1 : c < 256) {j : Nat} (hj : j ≤ 3) : ixB (signsB.extract j 3) c = -1 := by
  have k := List.all_eq_true.1 chkHi (c.toNat - 128) (List.mem_range.2 (by omega))
  have k := List.all_eq_true.1 k j (List.mem_range.2 (by omega))
  have k := eq_of_beq k
  rwa [show ((c.toNat - 128 + 128 : Nat) : Int) = c by omega] at k
theorem sgn_lo {x : Nat} (h : x < 3) : byteAt signsB x < 128 := by
  match x, h with
  | 0, _ => decide
  | 1, _ => decide
  | 2, _ => decide
theorem dec_sgn {x : Nat} (h : x < 3) : (Utf8.decode signsB x).1 ≠ 65533 ∧ (Utf8.decode signsB x).2 = 1 := by
  match x, h with
  | 0, _ => decide
  | 1, _ => decide
  | 2, _ => decide
/-- Where a rune is among the signs. -/
def irR (r : Int) : Int := if 0 ≤ r ∧ r < 128 then ixB signsB r else -1
def sIr : FSpec := tspec true none [.str, tRune] [tInt] (fun x => x.1 = signsB) (fun x => (irR x.2.1, ()))
def ivIr (r : Int) : Nat → Option Inv
  | 1 => some (Inv.of [9, 10] 0 (fun i : Nat => [(9, .lit (.int .i64 i)), (10, .lit (.int .i64 0))]) (fun _ => []) (fun i => (i : Int) + 1 = (Utf8.encode r).size) (fun _ => 0))
  | 0 => some (Inv.of [5, 6] 1 (fun p : Nat => [(5, .any), (6, .any)]) (fun p => [.sit signsB p]) (fun p => p ≤ 3) (fun p => 3 - p))
  | _ => none
theorem indexRune_meets : Meets Try.prog 100 sIr := by
  refine meets (snd (SpecsOk.cons validRune_meets (SpecsOk.cons indexByte_meets (SpecsOk.nil _))) []) Try.func100 rfl rfl (fun x => ivIr x.2.1) (fun _ => by kernel_rfl) (by decide) ?_
  rintro ⟨s, r, ⟨⟩⟩ h
  revert s r
  intro (s : ByteArray) (r : Int) (h : s = signsB)
  subst h
  refine by_vc (B := (Decidable.decide ((0 : Int) ≤ r) = Bool.true →
    (Decidable.decide (r < (128 : Int)) = Bool.true → Eng.fits Go.IntKind.u8 r ∧ True ∧ ixB signsB r = irR r) ∧
      (Decidable.decide (r < (128 : Int)) = Bool.false →
        ((r == (65533 : Int)) = Bool.true →
            ∃ (v3 : Unit),
              ∃ (v4 : Nat),
                Nat.le v4 (3 : Nat) ∧
                  ((True ∧ True ∧ True) ∧ (signsB = signsB ∧ (0 : Nat) = v4) ∧ True) ∧
                    ∀ (v5 : Nat),
                      Nat.le v5 (3 : Nat) →
                        (Decidable.decide (v5 < (3 : Nat)) = Bool.true →
                            (((↑(Prod.fst (Go.Utf8.decode signsB v5)) : Int) == (65533 : Int)) = Bool.true → (↑v5 : Int) = irR r) ∧
                              (((↑(Prod.fst (Go.Utf8.decode signsB v5)) : Int) == (65533 : Int)) = Bool.false → ∃ (v9 : Nat), Nat.le v9 (3 : Nat) ∧ (3 : Nat) - v9 < (3 : Nat) - v5 ∧ (True ∧ True ∧ True) ∧ (signsB = signsB ∧ v5 + Prod.snd (Go.Utf8.decode signsB v5) = v9) ∧ True)) ∧
                          (Decidable.decide (v5 < (3 : Nat)) = Bool.false → (-1 : Int) = irR r)) ∧
          ((r == (65533 : Int)) = Bool.false →
            True ∧
              ((!vrR r) = Bool.true → (-1 : Int) = irR r) ∧
                ((!vrR r) = Bool.false →
                  Eng.fits Go.IntKind.i64 ((↑(ByteArray.size (Go.Utf8.encode r)) : Int) - (1 : Int)) ∧
                    ∃ (v4 : Unit),
                      ∃ (v5 : Nat),
                        (↑v5 : Int) + (1 : Int) = (↑(ByteArray.size (Go.Utf8.encode r)) : Int) ∧
                          (((↑(ByteArray.size (Go.Utf8.encode r)) : Int) - (1 : Int) = (↑v5 : Int) ∧ (0 : Int) = (0 : Int) ∧ True) ∧ True) ∧
                            ∀ (v6 : Nat),
                              (↑v6 : Int) + (1 : Int) = (↑(ByteArray.size (Go.Utf8.encode r)) : Int) →
                                (Decidable.decide ((↑v6 : Int) < (↑(3 : Nat) : Int)) = Bool.true →
                                    ((0 : Int) ≤ (↑v6 : Int) ∧ (↑v6 : Int) < (↑(3 : Nat) : Int)) ∧
                                      ((0 : Int) ≤ (↑(ByteArray.size (Go.Utf8.encode r)) : Int) - (1 : Int) ∧ (↑(ByteArray.size (Go.Utf8.encode r)) : Int) - (1 : Int) < (↑(ByteArray.size (Go.Utf8.encode r)) : Int)) ∧
                                        ((Eng.byteAt signsB (Int.toNat (↑v6 : Int)) != Eng.byteAt (Go.Utf8.encode r) (Int.toNat ((↑(ByteArray.size (Go.Utf8.encode r)) : Int) - (1 : Int)))) = Bool.true →
                                            Eng.fits Go.IntKind.i64 ((↑v6 : Int) + (1 : Int)) ∧
                                              ((0 : Int) ≤ (↑v6 : Int) + (1 : Int) ∧ (↑v6 : Int) + (1 : Int) ≤ (↑(3 : Nat) : Int) ∧ (↑(3 : Nat) : Int) ≤ (↑(3 : Nat) : Int)) ∧
                                                ((0 : Int) ≤ (↑(ByteArray.size (Go.Utf8.encode r)) : Int) - (1 : Int) ∧ (↑(ByteArray.size (Go.Utf8.encode r)) : Int) - (1 : Int) < (↑(ByteArray.size (Go.Utf8.encode r)) : Int)) ∧
                                                  True ∧
                                                    (Decidable.decide (ixB (ByteArray.extract signsB (Int.toNat ((↑v6 : Int) + (1 : Int))) (3 : Nat)) (Eng.byteAt (Go.Utf8.encode r) (Int.toNat ((↑(ByteArray.size (Go.Utf8.encode r)) : Int) - (1 : Int)))) < (0 : Int)) = Bool.true → (-1 : Int) = irR r) ∧
                                                      (Decidable.decide (ixB (ByteArray.extract signsB (Int.toNat ((↑v6 : Int) + (1 : Int))) (3 : Nat)) (Eng.byteAt (Go.Utf8.encode r) (Int.toNat ((↑(ByteArray.size (Go.Utf8.encode r)) : Int) - (1 : Int)))) < (0 : Int)) = Bool.false →
                                                        Eng.fits Go.IntKind.i64 (ixB (ByteArray.extract signsB (Int.toNat ((↑v6 : Int) + (1 : Int))) (3 : Nat)) (Eng.byteAt (Go.Utf8.encode r) (Int.toNat ((↑(ByteArray.size (Go.Utf8.encode r)) : Int) - (1 : Int)))) + (1 : Int)) ∧
                                                          Eng.fits Go.IntKind.i64 ((↑v6 : Int) + (ixB (ByteArray.extract signsB (Int.toNat ((↑v6 : Int) + (1 : Int))) (3 : Nat)) (Eng.byteAt (Go.Utf8.encode r) (Int.toNat ((↑(ByteArray.size (Go.Utf8.encode r)) : Int) - (1 : Int)))) + (1 : Int))) ∧ False)) ∧
                                          ((Eng.byteAt signsB (Int.toNat (↑v6 : Int)) != Eng.byteAt (Go.Utf8.encode r) (Int.toNat ((↑(ByteArray.size (Go.Utf8.encode r)) : Int) - (1 : Int)))) = Bool.false → False)) ∧
                                  (Decidable.decide ((↑v6 : Int) < (↑(3 : Nat) : Int)) = Bool.false → (-1 : Int) = irR r))))) ∧
  (Decidable.decide ((0 : Int) ≤ r) = Bool.false →
    ((r == (65533 : Int)) = Bool.true →
        ∃ (v2 : Unit),
          ∃ (v3 : Nat),
            Nat.le v3 (3 : Nat) ∧
              ((True ∧ True ∧ True) ∧ (signsB = signsB ∧ (0 : Nat) = v3) ∧ True) ∧
                ∀ (v4 : Nat),
                  Nat.le v4 (3 : Nat) →
                    (Decidable.decide (v4 < (3 : Nat)) = Bool.true →
                        (((↑(Prod.fst (Go.Utf8.decode signsB v4)) : Int) == (65533 : Int)) = Bool.true → (↑v4 : Int) = irR r) ∧
                          (((↑(Prod.fst (Go.Utf8.decode signsB v4)) : Int) == (65533 : Int)) = Bool.false → ∃ (v8 : Nat), Nat.le v8 (3 : Nat) ∧ (3 : Nat) - v8 < (3 : Nat) - v4 ∧ (True ∧ True ∧ True) ∧ (signsB = signsB ∧ v4 + Prod.snd (Go.Utf8.decode signsB v4) = v8) ∧ True)) ∧
                      (Decidable.decide (v4 < (3 : Nat)) = Bool.false → (-1 : Int) = irR r)) ∧
      ((r == (65533 : Int)) = Bool.false →
        True ∧
          ((!vrR r) = Bool.true → (-1 : Int) = irR r) ∧
            ((!vrR r) = Bool.false →
              Eng.fits Go.IntKind.i64 ((↑(ByteArray.size (Go.Utf8.encode r)) : Int) - (1 : Int)) ∧
                ∃ (v3 : Unit),
                  ∃ (v4 : Nat),
                    (↑v4 : Int) + (1 : Int) = (↑(ByteArray.size (Go.Utf8.encode r)) : Int) ∧
                      (((↑(ByteArray.size (Go.Utf8.encode r)) : Int) - (1 : Int) = (↑v4 : Int) ∧ (0 : Int) = (0 : Int) ∧ True) ∧ True) ∧
                        ∀ (v5 : Nat),
                          (↑v5 : Int) + (1 : Int) = (↑(ByteArray.size (Go.Utf8.encode r)) : Int) →
                            (Decidable.decide ((↑v5 : Int) < (↑(3 : Nat) : Int)) = Bool.true →
                                ((0 : Int) ≤ (↑v5 : Int) ∧ (↑v5 : Int) < (↑(3 : Nat) : Int)) ∧
                                  ((0 : Int) ≤ (↑(ByteArray.size (Go.Utf8.encode r)) : Int) - (1 : Int) ∧ (↑(ByteArray.size (Go.Utf8.encode r)) : Int) - (1 : Int) < (↑(ByteArray.size (Go.Utf8.encode r)) : Int)) ∧
                                    ((Eng.byteAt signsB (Int.toNat (↑v5 : Int)) != Eng.byteAt (Go.Utf8.encode r) (Int.toNat ((↑(ByteArray.size (Go.Utf8.encode r)) : Int) - (1 : Int)))) = Bool.true →
                                        Eng.fits Go.IntKind.i64 ((↑v5 : Int) + (1 : Int)) ∧
                                          ((0 : Int) ≤ (↑v5 : Int) + (1 : Int) ∧ (↑v5 : Int) + (1 : Int) ≤ (↑(3 : Nat) : Int) ∧ (↑(3 : Nat) : Int) ≤ (↑(3 : Nat) : Int)) ∧
                                            ((0 : Int) ≤ (↑(ByteArray.size (Go.Utf8.encode r)) : Int) - (1 : Int) ∧ (↑(ByteArray.size (Go.Utf8.encode r)) : Int) - (1 : Int) < (↑(ByteArray.size (Go.Utf8.encode r)) : Int)) ∧
                                              True ∧
                                                (Decidable.decide (ixB (ByteArray.extract signsB (Int.toNat ((↑v5 : Int) + (1 : Int))) (3 : Nat)) (Eng.byteAt (Go.Utf8.encode r) (Int.toNat ((↑(ByteArray.size (Go.Utf8.encode r)) : Int) - (1 : Int)))) < (0 : Int)) = Bool.true → (-1 : Int) = irR r) ∧
                                                  (Decidable.decide (ixB (ByteArray.extract signsB (Int.toNat ((↑v5 : Int) + (1 : Int))) (3 : Nat)) (Eng.byteAt (Go.Utf8.encode r) (Int.toNat ((↑(ByteArray.size (Go.Utf8.encode r)) : Int) - (1 : Int)))) < (0 : Int)) = Bool.false →
                                                    Eng.fits Go.IntKind.i64 (ixB (ByteArray.extract signsB (Int.toNat ((↑v5 : Int) + (1 : Int))) (3 : Nat)) (Eng.byteAt (Go.Utf8.encode r) (Int.toNat ((↑(ByteArray.size (Go.Utf8.encode r)) : Int) - (1 : Int)))) + (1 : Int)) ∧
                                                      Eng.fits Go.IntKind.i64 ((↑v5 : Int) + (ixB (ByteArray.extract signsB (Int.toNat ((↑v5 : Int) + (1 : Int))) (3 : Nat)) (Eng.byteAt (Go.Utf8.encode r) (Int.toNat ((↑(ByteArray.size (Go.Utf8.encode r)) : Int) - (1 : Int)))) + (1 : Int))) ∧ False)) ∧
                                      ((Eng.byteAt signsB (Int.toNat (↑v5 : Int)) != Eng.byteAt (Go.Utf8.encode r) (Int.toNat ((↑(ByteArray.size (Go.Utf8.encode r)) : Int) - (1 : Int)))) = Bool.false → False)) ∧
                              (Decidable.decide ((↑v5 : Int) < (↑(3 : Nat) : Int)) = Bool.false → (-1 : Int) = irR r))))) (by kernel_rfl) ?_
  have hno : ¬(0 ≤ r ∧ r < 128) → -1 = irR r := fun h => by unfold irR; rw [if_neg h]
  simp only [ne_eq, true_and, and_true, eq_self, Bool.not_eq_true', Bool.not_eq_false', decide_eq_true_eq, decide_eq_false_iff_not, Nat.le_eq, Int.not_lt, Int.not_le, Int.reduceEq, not_false_eq_true, Bool.not_eq_eq_eq_not, Bool.not_true, Bool.not_false, Int.ofNat_lt, Int.ofNat_le, Int.toNat_natCast, Int.natCast_nonneg, nthD_nth, beq_iff_eq, bne_iff_ne, beq_eq_false_iff_ne, bne_eq_false_iff_eq, Classical.not_not, List.length_cons, List.length_nil, Nat.zero_add, List.nil_append, true_implies, Nat.lt_add_one, Nat.zero_lt_succ, Int.reduceLE, Int.reduceLT]
  refine ⟨fun h0 => ⟨fun h1 => ⟨?_, ?_⟩, fun h1 => ⟨fun h2 => ?_, fun h2 => ⟨fun h3 => hno (by omega), fun h3 => ?_⟩⟩⟩, fun h0 => ⟨fun h2 => by omega, fun h2 => ⟨fun h3 => hno (by omega), fun h3 => ?_⟩⟩⟩
  · unfold fits IntKind.wrap
    simp [IntKind.signed, IntKind.bits]
    omega
  · unfold irR; rw [if_pos ⟨h0, h1⟩]
  · refine ⟨(), 0, Nat.zero_le _, rfl, fun x hx => ⟨fun hlt => ⟨fun hd => ?_, fun hd => ?_⟩, fun hge => hno (by omega)⟩⟩
    · exfalso
      have := (dec_sgn hlt).1
      omega
    · have := (dec_sgn hlt).2
      exact ⟨x + 1, hlt, by omega, by omega⟩
  · obtain ⟨n, e1, e2, e3, e4⟩ := enc_last h3 h1
    have e5 := (byteAt_bd (Utf8.encode r) n).2
    rw [e1]
    refine ⟨fits64 (by omega) (by omega), (), n, by omega, by omega, fun x hx => ⟨fun hlt => ?_, fun hge => hno (by omega)⟩⟩
    obtain rfl : x = n := by omega
    have e6 : (((x + 1 : Nat) : Int) - 1).toNat = x := by omega
    have e7 : ((x : Int) + 1).toNat = x + 1 := by omega
    rw [e6, e7, ix_hi e4 e5 (by omega)]
    refine ⟨by show x + 1 ≤ 3; omega, ⟨by omega, by omega⟩, fun _ => ⟨fits64 (by omega) (by omega), ⟨by omega, by omega, by omega⟩, ⟨by omega, by omega⟩, ?_⟩, fun h => ?_⟩
    · exact ⟨fun _ => hno (by omega), fun h => by omega⟩
    · have := sgn_lo (x := x) (by omega)
      omega
  · have := (vrR_iff r).1 h3
    omega
end Go.Proofs.Ytkkmlcengneomaa
