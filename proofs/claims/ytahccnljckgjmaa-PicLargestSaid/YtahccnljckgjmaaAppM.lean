/- 'make' as a step of a region that draws its order; the mask of empty rows that it makes. No condition. -/
import Derived.Test.YtahccnljckgjmaaAppG
namespace Ls
open Go Go.RowKit

theorem step_make1 {P : Program} {w : World} {ops : Array Oper} {o : Oper} {a : Act} {K : Act → World → Prop} {Q : Exit → Act → World → Prop} {D : Prop} {t e : TypeId} {z : Value} {bytes : Nat}
    (E : Elt P t e z 1 bytes) (hz : z.cells = #[z]) (hgd : o.guard = none) (l c : Operand) (hop : o.op = Op.makeSlice t l c) (n : Nat)
    (hl : a.eval l = .int .i64 (n : Int)) (hc : a.eval c = .int .i64 (n : Int)) (hb : n ≤ 1000000) (hby : bytes ≤ 1000000)
    (hK : ∀ w', w'.ownsRow w.heap.size e 1 (.slice (some ⟨w.heap.size, 0, none⟩) n n) n (List.replicate n z) → Below w.heap.size w w' → w.heap.size < w'.heap.size → K (a.put o.dst (.slice (some ⟨w.heap.size, 0, none⟩) n n)) w') :
    if Region.wanted o (yielded ops a.tmps) = true then Oper.wp P o a w K Q else D := by
  have hw : Region.wanted o (yielded ops a.tmps) = true := by simp [Region.wanted, hgd]
  rw [if_pos hw]
  obtain ⟨i, hi, hz0, hz1, hz2⟩ := info_parts E.info
  have hbb : bytes * n ≤ 1000000 * 1000000 := Nat.mul_le_mul hby hb
  obtain ⟨w', hrun, h1, h2⟩ := run_make_full (P := P) w w.heap.size t e i z 1 E.under hi hz0 hz1 .i64 .i64 n (by rw [hz2]; omega) (by unfold maxLen; omega) (Nat.le_refl _)
  rw [made_one z hz] at h1
  have hlt := h1.lt w.heap.size rfl
  unfold Oper.wp
  simp [execOp, hop, hl, hc, hrun, Result.andThen]
  exact hK w' h1 (below_none h2) hlt.2

/-- What 'make' leaves, as a fact for the walk of a drawn region. -/
theorem make_run {P : Program} (w : World) {t e : TypeId} {z : Value} {bytes : Nat} (E : Elt P t e z 1 bytes) (hz : z.cells = #[z]) (n : Nat) (hb : n ≤ 1000000) (hby : bytes ≤ 1000000) :
    ∃ w', (Instr.makeSlice t (.int .i64 (n : Int)) (.int .i64 (n : Int))).run P w = .ok (.slice (some ⟨w.heap.size, 0, none⟩) n n) w' ∧
      w'.ownsRow w.heap.size e 1 (.slice (some ⟨w.heap.size, 0, none⟩) n n) n (List.replicate n z) ∧ Below w.heap.size w w' ∧ w.heap.size < w'.heap.size := by
  obtain ⟨i, hi, hz0, hz1, hz2⟩ := info_parts E.info
  have hbb : bytes * n ≤ 1000000 * 1000000 := Nat.mul_le_mul hby hb
  obtain ⟨w', hrun, h1, h2⟩ := run_make_full (P := P) w w.heap.size t e i z 1 E.under hi hz0 hz1 .i64 .i64 n (by rw [hz2]; omega) (by unfold maxLen; omega) (Nat.le_refl _)
  rw [made_one z hz] at h1
  exact ⟨w', hrun, h1, below_none h2, (h1.lt w.heap.size rfl).2⟩

/-- Rows that are all nil. -/
theorem nil_mask {w : World} {B e' n c : Nat} {A : Option Addr} (h : w.ownsRow B e' 1 (.slice A n c) n (List.replicate n (.slice none 0 0))) : SM w A n c (List.replicate n []) := by
  refine read_SM h ⟨by simp, fun k hk => ?_⟩
  have hk' : k < n := by simpa using hk
  have e1 : nthL (List.replicate n ([] : List Int)) k = [] := by simp [nthL, hk']
  rw [e1]
  exact ⟨none, 0, by simp [hk'], SI.nil _⟩

end Ls
