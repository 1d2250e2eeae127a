/- The rows of a Walsh mask have the product 0; a longer seeded mask begins with the shorter one. No program in sight. No condition. -/
import Derived.Test.YtkkmlcengneomaaMSpec6
import Derived.Test.YtkkmlcengneomaaMNum
namespace Go.Proofs.Ytkkmlcengneomaa
open Go.RowKit Ls

def walZ : Bool := [1, 2, 4, 8].all fun p => (List.range p).all fun a => (List.range p).all fun b => a == b || wdot 0 (walRow a p) (walRow b p) == 0
theorem walZ_true : walZ = true := by decide +kernel
theorem wal_zero (p : Nat) (hp : p = 1 ∨ p = 2 ∨ p = 4 ∨ p = 8) (a : Nat) (ha : a < p) (b : Nat) (hb : b < p) (hab : a ≠ b) : wdot 0 (walRow a p) (walRow b p) = 0 := by
  have h := walZ_true
  unfold walZ at h
  have h1 := List.all_eq_true.1 h p (by simpa using hp)
  have h2 := List.all_eq_true.1 h1 a (List.mem_range.2 ha)
  have h3 := List.all_eq_true.1 h2 b (List.mem_range.2 hb)
  simpa [hab] using h3
theorem walsh_zero {p : Int} {l : List Int} (h : walshE p l = 0) (i k : Nat) (hi : i < l.length) (hk : k < i) : wdot 0 (nthL (walL l p.toNat) i) (nthL (walL l p.toNat) k) = 0 := by
  obtain ⟨h1, h2, h3, h4⟩ := walsh_in h
  have e : ∀ j, j < l.length → nthL (walL l p.toNat) j = walRow (nth l j) p.toNat := fun j hj => by
    rw [nthL_eq _ j (by rw [walL_len]; exact hj)]
    simp only [walL, List.getElem_map]
    rw [nth_eq l j hj]
  have hb : ∀ j, j < l.length → 0 ≤ nth l j ∧ nth l j ≤ p - 1 := fun j hj => by
    have := all_nth h4 j hj
    rwa [inB_iff] at this
  rw [e i hi, e k (by omega)]
  obtain ⟨a, ha⟩ := Int.eq_ofNat_of_zero_le (hb i hi).1
  obtain ⟨b, hbb⟩ := Int.eq_ofNat_of_zero_le (hb k (by omega)).1
  have hlt := asc_lt' h3 i hi k hk
  have h5 := hb i hi
  have h6 := hb k (by omega)
  unfold sideB at h1
  rw [decide_eq_true_iff] at h1
  rw [ha] at hlt h5 ⊢
  rw [hbb] at hlt h6 ⊢
  exact wal_zero p.toNat (by omega) a (by omega) b (by omega) (by omega)
where
  asc_lt' {l : List Int} (h : ascB l = true) (b : Nat) (hb : b < l.length) : ∀ a, a < b → nth l a < nth l b := by
    induction b with
    | zero => intro a ha; omega
    | succ b ih =>
      intro a ha
      have h1 := ascB_iff.1 h (b + 1) hb (by omega)
      simp only [Nat.add_sub_cancel] at h1
      by_cases e : a = b
      · subst e; exact h1
      · have := ih (by omega) a (by omega); omega
theorem walR_rows {p : Int} {l : List Int} (i : Nat) (hi : i < l.length) : (nthL (walL l p.toNat) i).length = p.toNat := by
  rw [nthL_eq _ i (by rw [walL_len]; exact hi)]
  simp only [walL, List.getElem_map, walRow_len]

theorem seed_more (s p n : Nat) : (seedL s p (n + 1)).take n = seedL s p n := by
  rw [seedL_snoc, List.take_left' (seedL_len s p n)]
theorem seeded_in {s n p : Int} (h : seededE s n p = 0) : 1 ≤ s ∧ s ≤ 2147483646 ∧ 1 ≤ n ∧ n ≤ 6 ∧ 1 ≤ p ∧ p ≤ 10 := by
  unfold seededE at h
  split at h
  · rename_i hh
    rw [Bool.and_eq_true, Bool.and_eq_true, inB_iff, inB_iff, inB_iff] at hh
    omega
  · omega
theorem seeded_next {s n p : Int} (h : seededE s n p = 0) (hn : n < 6) : seededE s (n + 1) p = 0 ∧ (seededR s (n + 1) p).take (seededR s n p).length = seededR s n p ∧ (seededR s (n + 1) p).length = (seededR s n p).length + 1 := by
  obtain ⟨h1, h2, h3, h4, h5, h6⟩ := seeded_in h
  have e : seededE s (n + 1) p = 0 := by
    unfold seededE
    rw [if_pos]
    rw [Bool.and_eq_true, Bool.and_eq_true, inB_iff, inB_iff, inB_iff]; omega
  have r1 : seededR s n p = seedL s.toNat p.toNat n.toNat := by unfold seededR; rw [if_pos h]
  have r2 : seededR s (n + 1) p = seedL s.toNat p.toNat (n.toNat + 1) := by unfold seededR; rw [if_pos e, show (n + 1).toNat = n.toNat + 1 by omega]
  rw [r1, r2, seedL_len, seedL_len]
  exact ⟨e, seed_more _ _ _, rfl⟩

end Go.Proofs.Ytkkmlcengneomaa
