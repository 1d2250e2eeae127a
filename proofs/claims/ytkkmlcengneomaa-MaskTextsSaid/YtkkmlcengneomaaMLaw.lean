/- Plain laws of masks: reading and reading back are adjoint; what is read of a sum is the sum. No program in sight. No condition. -/
import Derived.Test.YtkkmlcengneomaaMNum
namespace Go.Proofs.Ytkkmlcengneomaa
open Go.RowKit Ls

theorem dotI_map_lin {α : Type} (f g : α → Int) (c : Int) (L : List α) (x : List Int) :
    dotI (L.map fun j => f j * c + g j) x = c * dotI (L.map f) x + dotI (L.map g) x := by
  induction L generalizing x with
  | nil => simp [dotI]
  | cons a L ih =>
    cases x with
    | nil => simp [dotI]
    | cons b x =>
      simp only [List.map_cons, dotI, ih]
      rw [Int.add_mul, Int.mul_add]
      have : f a * c * b = c * (f a * b) := by rw [Int.mul_comm (f a) c, Int.mul_assoc]
      omega
theorem map_range_nth (r : List Int) (p : Nat) (h : r.length = p) : (List.range p).map (nth r) = r := by
  subst h
  apply List.ext_getElem (by simp)
  intro i h1 h2
  simp only [List.getElem_map, List.getElem_range]
  rw [nth_eq r i h2]
theorem dotI_zero {α : Type} (L : List α) (x : List Int) : dotI (L.map fun _ => (0:Int)) x = 0 := by
  induction L generalizing x with
  | nil => simp [dotI]
  | cons a L ih => cases x with
    | nil => simp [dotI]
    | cons b x => simp [dotI, ih]
theorem dotI_comm (a b : List Int) : dotI a b = dotI b a := by
  induction a generalizing b with
  | nil => cases b <;> simp [dotI]
  | cons x l ih => cases b with
    | nil => simp [dotI]
    | cons y r => simp only [dotI]; rw [Int.mul_comm, ih]

theorem adj_plain (m : List (List Int)) (x y : List Int) (p : Nat) (h : ∀ r ∈ m, r.length = p) (hy : y.length = m.length) :
    dotI y (m.map fun r => dotI r x) = dotI ((List.range p).map fun j => dotI (colL m j) y) x := by
  induction m generalizing y with
  | nil =>
    have : y = [] := List.eq_nil_of_length_eq_zero (by simpa using hy)
    subst this
    simp only [List.map_nil, dotI, colL]
    exact (dotI_zero _ _).symm
  | cons r m ih =>
    cases y with
    | nil => simp at hy
    | cons y0 y =>
      have hr := h r (by simp)
      have e1 : ((List.range p).map fun j => dotI (colL (r :: m) j) (y0 :: y)) = (List.range p).map fun j => nth r j * y0 + dotI (colL m j) y := by
        apply List.map_congr_left; intro j _; simp [colL, dotI]
      rw [e1, dotI_map_lin (nth r) (fun j => dotI (colL m j) y) y0, map_range_nth r p hr]
      simp only [List.map_cons, dotI]
      rw [ih y (fun q hq => h q (by simp [hq])) (by simpa using hy)]

theorem nth_map_of {α : Type} (f : α → Int) (l : List α) (k : Nat) (h : k < l.length) : nth (l.map f) k = f l[k] := by
  rw [nth_eq _ _ (by simpa using h)]; simp

theorem IsMask.row_bd {m : List (List Int)} (h : IsMask m) (k : Nat) (hk : k < m.length) : Bd 1 m[k] ∧ m[k].length = (nthL m 0).length := by
  rw [← nthL_eq m k hk]
  exact ⟨fun j hj => h.small k hk j (by rw [← h.each k hk]; exact hj), h.each k hk⟩
theorem IsMask.row_dot {m : List (List Int)} (h : IsMask m) {x : List Int} (hx : Bd 1000000 x) (k : Nat) (hk : k < m.length) :
    wdot 0 m[k] x = dotI m[k] x ∧ -10000000 ≤ dotI m[k] x ∧ dotI m[k] x ≤ 10000000 := by
  obtain ⟨h1, h2⟩ := h.row_bd k hk
  have h10 := h.pix10
  have h3 := dotI_bd m[k] x (K := 1) (L := 1000000) (by omega) h1 hx
  have h4 := wdot_eq m[k] x 0 (K := 1) (L := 1000000) (by omega) h1 hx (by omega) (by omega)
  omega
theorem readL_eq {m : List (List Int)} (h : IsMask m) {x : List Int} (hx : Bd 1000000 x) : readL m x = m.map fun r => dotI r x := by
  apply List.ext_getElem (by simp [readL])
  intro i h1 h2
  simp only [readL, List.getElem_map]
  exact (h.row_dot hx i (by simpa [readL] using h1)).1
theorem readL_bd {m : List (List Int)} (h : IsMask m) {x : List Int} (hx : Bd 1000000 x) : Bd 10000000 (readL m x) := by
  intro k hk
  have hk' : k < m.length := by simpa [readL] using hk
  rw [readL, nth_map_of _ _ _ hk', (h.row_dot hx k hk').1]
  exact (h.row_dot hx k hk').2
theorem col_bd {m : List (List Int)} (h : IsMask m) {j : Nat} (hj : j < (nthL m 0).length) : Bd 1 (colL m j) := by
  intro k hk
  rw [colL_len] at hk
  rw [colL, nth_map_of _ _ _ hk, ← nthL_eq m k hk]
  exact h.small k hk j hj
theorem col_dot {m : List (List Int)} (h : IsMask m) {y : List Int} (hy : Bd 1000000000 y) {j : Nat} (hj : j < (nthL m 0).length) :
    wdot 0 (colL m j) y = dotI (colL m j) y ∧ -6000000000 ≤ dotI (colL m j) y ∧ dotI (colL m j) y ≤ 6000000000 := by
  have h1 := col_bd h hj
  have h6 := h.rows6
  have hl := colL_len m j
  have h3 := dotI_bd (colL m j) y (K := 1) (L := 1000000000) (by omega) h1 hy
  have h4 := wdot_eq (colL m j) y 0 (K := 1) (L := 1000000000) (by omega) h1 hy (by rw [hl]; omega) (by rw [hl]; omega)
  rw [hl] at h3
  omega
theorem backL_eq {m : List (List Int)} (h : IsMask m) {y : List Int} (hy : Bd 1000000000 y) : backL m y (nthL m 0).length = (List.range (nthL m 0).length).map fun j => dotI (colL m j) y := by
  unfold backL
  apply List.map_congr_left
  intro j hj
  exact (col_dot h hy (List.mem_range.1 hj)).1
theorem backL_bd {m : List (List Int)} (h : IsMask m) {y : List Int} (hy : Bd 1000000000 y) : Bd 6000000000 (backL m y (nthL m 0).length) := by
  intro k hk
  rw [backL_len] at hk
  have : nth (backL m y (nthL m 0).length) k = wdot 0 (colL m k) y := by
    unfold backL; rw [nth_map_of _ _ _ (by simpa using hk)]; simp
  rw [this, (col_dot h hy hk).1]
  exact (col_dot h hy hk).2

theorem adjoint {m : List (List Int)} {x y : List Int} (hE : shownE m x = 0) (hB : backE m y = 0) :
    wdot 0 y (readL m x) = wdot 0 (backL m y (nthL m 0).length) x := by
  obtain ⟨hM, hx, hbx⟩ := shown_mask hE
  obtain ⟨_, hy, hby⟩ := back_mask hB
  have h6 := hM.rows6
  have h10 := hM.pix10
  rw [wdot_eq y (readL m x) 0 (K := 1000000000) (L := 10000000) (by omega) hby (readL_bd hM hbx) (by omega) (by omega)]
  rw [wdot_eq (backL m y (nthL m 0).length) x 0 (K := 6000000000) (L := 1000000) (by omega) (backL_bd hM hby) hbx (by rw [backL_len]; omega) (by rw [backL_len]; omega)]
  rw [readL_eq hM hbx, backL_eq hM hby]
  rw [adj_plain m x y (nthL m 0).length (fun r hr => by
    obtain ⟨k, hk, rfl⟩ := List.getElem_of_mem hr
    exact (hM.row_bd k hk).2) hy]

theorem wrap_is (n : Int) : IntKind.i64.wrap n = wrap64 n := by rw [IntKind.wrap_i64]; unfold wrap64; omega

/-- The sum that the law makes: it wraps. -/
def sumW : List Int → List Int → List Int
  | a :: x, b :: z => wrap64 (a + b) :: sumW x z
  | _, _ => []
theorem sumW_len (x z : List Int) (h : x.length = z.length) : (sumW x z).length = x.length := by
  induction x generalizing z with
  | nil => cases z <;> simp [sumW]
  | cons a x ih => cases z with
    | nil => simp at h
    | cons b z => simp [sumW, ih z (by simpa using h)]
theorem sumW_snoc (x z : List Int) (k : Nat) (h : k < x.length) (h2 : k < z.length) : sumW (x.take (k + 1)) (z.take (k + 1)) = sumW (x.take k) (z.take k) ++ [wrap64 (nth x k + nth z k)] := by
  induction x generalizing z k with
  | nil => simp at h
  | cons a x ih =>
    cases z with
    | nil => simp at h2
    | cons b z =>
      cases k with
      | zero => simp [sumW, nth]
      | succ k =>
        simp only [List.take_succ_cons, sumW, List.cons_append]
        rw [ih z k (by simpa using h) (by simpa using h2)]
        simp [nth]
theorem dotI_sum (r x z : List Int) (h : x.length = z.length) (hx : Bd 1000000 x) (hz : Bd 1000000 z) : dotI r (sumW x z) = dotI r x + dotI r z := by
  induction x generalizing r z with
  | nil =>
    have : z = [] := List.eq_nil_of_length_eq_zero (by simpa using h.symm)
    subst this
    cases r <;> simp [sumW, dotI]
  | cons a x ih =>
    cases z with
    | nil => simp at h
    | cons b z =>
      cases r with
      | nil => simp [dotI]
      | cons c r =>
        obtain ⟨h1, h2⟩ := hx.cons
        obtain ⟨h3, h4⟩ := hz.cons
        simp only [sumW, dotI]
        rw [IntWalk.wrap64_in _ ⟨by omega, by omega⟩, ih r z (by simpa using h) h2 h4, Int.mul_add]
        omega
theorem sum_read {m : List (List Int)} {x z : List Int} (hx : shownE m x = 0) (hz : shownE m z = 0) (hs : shownE m (sumW x z) = 0) (hl : x.length = z.length) (k : Nat) (hk : k < m.length) :
    nth (readL m (sumW x z)) k = nth (readL m x) k + nth (readL m z) k ∧ -10000000 ≤ nth (readL m x) k ∧ nth (readL m x) k ≤ 10000000 ∧ -10000000 ≤ nth (readL m z) k ∧ nth (readL m z) k ≤ 10000000 := by
  obtain ⟨hM, _, bx⟩ := shown_mask hx
  obtain ⟨_, _, bz⟩ := shown_mask hz
  obtain ⟨_, _, bs⟩ := shown_mask hs
  have r1 := readL_bd hM bx k (by rw [readL_len]; exact hk)
  have r2 := readL_bd hM bz k (by rw [readL_len]; exact hk)
  refine ⟨?_, r1.1, r1.2, r2.1, r2.2⟩
  rw [readL_eq hM bs, readL_eq hM bx, readL_eq hM bz, nth_map_of _ _ _ hk, nth_map_of _ _ _ hk, nth_map_of _ _ _ hk, dotI_sum _ _ _ hl bx bz]

end Go.Proofs.Ytkkmlcengneomaa
