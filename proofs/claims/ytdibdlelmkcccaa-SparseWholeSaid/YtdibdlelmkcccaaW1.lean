/- Sums, small solutions of few equations: plain mathematics. No condition. -/
import Derived.Test.YtdibdlelmkcccaaV0
set_option linter.unusedVariables false
namespace Go.Proofs.Ytdibdlelmkcccaa
def sm : Nat → (Nat → Int) → Int
  | 0, _ => 0
  | n + 1, f => sm n f + f n
theorem qm4 {n : Nat} {f g : Nat → Int} (h : ∀ i, i < n → f i = g i) : sm n f = sm n g := by
  induction n with
  | zero => rfl
  | succ n ih => rw [sm, sm, ih fun i hi => h i (by omega), h n (by omega)]
theorem qn5 {n : Nat} {f : Nat → Int} (h : ∀ i, i < n → f i = 0) : sm n f = 0 := by
  induction n with
  | zero => rfl
  | succ n ih => rw [sm, ih fun i hi => h i (by omega), h n (by omega)]; rfl
theorem sm_add (n : Nat) (f g : Nat → Int) : sm n (fun i => f i + g i) = sm n f + sm n g := by
  induction n with
  | zero => rfl
  | succ n ih => simp only [sm, ih]; omega
theorem q59 (n : Nat) (f g : Nat → Int) : sm n (fun i => f i - g i) = sm n f - sm n g := by
  induction n with
  | zero => rfl
  | succ n ih => simp only [sm, ih]; omega
theorem qu4 (n : Nat) (c : Int) (f : Nat → Int) : sm n (fun i => c * f i) = c * sm n f := by
  induction n with
  | zero => simp [sm]
  | succ n ih => simp only [sm, ih, Int.mul_add]
theorem qr8 {n k : Nat} {f : Nat → Int} (hk : k < n) (h : ∀ i, i < n → i ≠ k → f i = 0) : sm n f = f k := by
  induction n with
  | zero => omega
  | succ n ih =>
    rw [sm]
    by_cases e : k = n
    · subst e
      rw [qn5 fun i hi => h i (by omega) (by omega)]; omega
    · rw [ih (by omega) fun i hi hne => h i (by omega) hne, h n (by omega) (Ne.symm e)]; omega
theorem q6a {n k l : Nat} {f : Nat → Int} (hk : k < n) (hl : l < n) (hkl : k ≠ l) (h : ∀ i, i < n → i ≠ k → i ≠ l → f i = 0) : sm n f = f k + f l := by
  have e : sm n f = sm n (fun i => if i = k then f k else 0) + sm n (fun i => if i = l then f l else 0) := by
    rw [← sm_add]
    refine qm4 fun i hi => ?_
    by_cases e1 : i = k
    · subst e1; rw [if_pos rfl, if_neg hkl]; omega
    · rw [if_neg e1]
      by_cases e2 : i = l
      · subst e2; rw [if_pos rfl]; omega
      · rw [if_neg e2, h i hi e1 e2]; rfl
  rw [e, qr8 hk fun i _ hne => if_neg hne, qr8 hl fun i _ hne => if_neg hne, if_pos rfl, if_pos rfl]
theorem sm_bd {n : Nat} {f : Nat → Int} {B : Nat} (h : ∀ i, i < n → (f i).natAbs ≤ B) : (sm n f).natAbs ≤ n * B := by
  induction n with
  | zero => simp [sm]
  | succ n ih =>
    have h1 := ih fun i hi => h i (by omega)
    have h2 := h n (by omega)
    rw [sm, Nat.succ_mul]
    omega
theorem qh0 (n : Nat) (x y : Int) (f g r : Nat → Int) : sm n (fun b => (x * f b - y * g b) * r b) = x * sm n (fun b => f b * r b) - y * sm n (fun b => g b * r b) := by
  rw [← qu4, ← qu4, ← q59]
  refine qm4 fun i _ => ?_
  rw [Int.sub_mul, Int.mul_assoc, Int.mul_assoc]
theorem q1e : ∀ (B A : Nat) (f : Nat → Nat), (∀ i, i < A → f i < B) → B < A → ∃ i j, i < j ∧ j < A ∧ f i = f j
  | 0, A, f, h, hA => absurd (h 0 hA) (Nat.not_lt_zero _)
  | B + 1, A, f, h, hA => by
    by_cases hx : ∃ i, i < A ∧ f i = B
    · obtain ⟨i0, h0, h1⟩ := hx
      by_cases hy : ∃ j, j < A ∧ j ≠ i0 ∧ f j = B
      · obtain ⟨j, k0, k1, k2⟩ := hy
        rcases Nat.lt_or_gt_of_ne k1 with q | q
        · exact ⟨j, i0, q, h0, by omega⟩
        · exact ⟨i0, j, q, k0, by omega⟩
      · have hn : ∀ j, j < A → j ≠ i0 → f j < B := fun j hj hne => by
          have := h j hj
          rcases Nat.lt_or_ge (f j) B with q | q
          · exact q
          · exact absurd ⟨j, hj, hne, by omega⟩ hy
        obtain ⟨i, j, q1, q2, q3⟩ := q1e B (A - 1) (fun i => f (if i < i0 then i else i + 1)) (fun i hi => hn _ (by split <;> omega) (by split <;> omega)) (by omega)
        refine ⟨if i < i0 then i else i + 1, if j < i0 then j else j + 1, ?_, ?_, q3⟩
        · split <;> split <;> omega
        · split <;> omega
    · obtain ⟨i, j, q1, q2, q3⟩ := q1e B A f (fun i hi => by
        have := h i hi
        rcases Nat.lt_or_ge (f i) B with q | q
        · exact q
        · exact absurd ⟨i, hi, by omega⟩ hx) (by omega)
      exact ⟨i, j, q1, q2, q3⟩
def dig (b : Nat) : Nat → Nat → Nat
  | 0, N => N % b
  | a + 1, N => dig b a (N / b)
theorem q6b {b : Nat} (hb : 0 < b) : ∀ a N, dig b a N < b
  | 0, N => Nat.mod_lt _ hb
  | a + 1, N => q6b hb a (N / b)
theorem q4o {b : Nat} (hb : 0 < b) : ∀ (n N M : Nat), N < b ^ n → M < b ^ n → (∀ a, a < n → dig b a N = dig b a M) → N = M
  | 0, N, M, h1, h2, _ => by simp at h1 h2; omega
  | n + 1, N, M, h1, h2, h => by
    have h0 := h 0 (by omega)
    have e := q4o hb n (N / b) (M / b) (Nat.div_lt_of_lt_mul (by rw [Nat.pow_succ, Nat.mul_comm] at h1; exact h1)) (Nat.div_lt_of_lt_mul (by rw [Nat.pow_succ, Nat.mul_comm] at h2; exact h2)) fun a ha => h (a + 1) (by omega)
    have h0 : N % b = M % b := h0
    rw [← Nat.div_add_mod N b, ← Nat.div_add_mod M b, e, h0]
def qm5 (B : Nat) : List Nat → Nat
  | [] => 0
  | x :: l => x + B * qm5 B l
theorem q1f {B : Nat} : ∀ (l : List Nat), (∀ x ∈ l, x < B) → qm5 B l < B ^ l.length
  | [], _ => by simp [qm5]
  | x :: l, h => by
    have h1 := q1f l fun y hy => h y (by simp [hy])
    have h2 := h x (by simp)
    rw [qm5, List.length_cons, Nat.pow_succ, Nat.mul_comm (B ^ l.length)]
    calc x + B * qm5 B l < B + B * qm5 B l := by omega
      _ = B * (qm5 B l + 1) := by rw [Nat.mul_add]; omega
      _ ≤ B * B ^ l.length := Nat.mul_le_mul (Nat.le_refl _) h1
theorem qz2 {B : Nat} (hB : 0 < B) : ∀ (l k : List Nat), l.length = k.length → (∀ x ∈ l, x < B) → (∀ x ∈ k, x < B) → qm5 B l = qm5 B k → l = k
  | [], [], _, _, _, _ => rfl
  | [], _ :: _, h, _, _, _ => by simp at h
  | _ :: _, [], h, _, _, _ => by simp at h
  | x :: l, y :: k, h, h1, h2, e => by
    have hx := h1 x (by simp)
    have hy := h2 y (by simp)
    rw [qm5, qm5] at e
    have e1 : x = y := by
      have := congrArg (· % B) e
      simpa [Nat.add_mul_mod_self_left, Nat.mod_eq_of_lt hx, Nat.mod_eq_of_lt hy] using this
    subst e1
    have e2 : qm5 B l = qm5 B k := Nat.eq_of_mul_eq_mul_left hB (by omega)
    rw [qz2 hB l k (by simpa using h) (fun z hz => h1 z (by simp [hz])) (fun z hz => h2 z (by simp [hz])) e2]
def smN : Nat → (Nat → Nat) → Nat
  | 0, _ => 0
  | n + 1, f => smN n f + f n
theorem smN_le {n C : Nat} {f : Nat → Nat} (h : ∀ i, i < n → f i ≤ C) : smN n f ≤ n * C := by
  induction n with
  | zero => simp [smN]
  | succ n ih =>
    have h1 := ih fun i hi => h i (by omega)
    have h2 := h n (by omega)
    rw [smN, Nat.succ_mul]; omega
def lhsN (n C : Nat) (f : Nat → Int) (z : Nat → Nat) : Nat := smN n fun a => if 0 < f a then z a else if f a < 0 then C - z a else 0
theorem lhsN_eq {n C : Nat} {f : Nat → Int} (hf : ∀ a, a < n → (f a).natAbs ≤ 1) {z y : Nat → Nat} (hz : ∀ a, a < n → z a ≤ C) (hy : ∀ a, a < n → y a ≤ C) : (lhsN n C f z : Int) - (lhsN n C f y : Int) = sm n fun a => f a * ((z a : Int) - (y a : Int)) := by
  unfold lhsN
  induction n with
  | zero => rfl
  | succ n ih =>
    have h1 := ih (fun a ha => hf a (by omega)) (fun a ha => hz a (by omega)) (fun a ha => hy a (by omega))
    have h2 := hf n (by omega)
    have h3 := hz n (by omega)
    have h4 := hy n (by omega)
    rw [smN, smN, sm, ← h1]
    rcases Int.lt_trichotomy (f n) 0 with q | q | q
    · have e : f n = -1 := by omega
      rw [if_neg (by omega), if_pos q, if_neg (by omega), if_pos q, e]
      omega
    · rw [q]; simp
    · have e : f n = 1 := by omega
      rw [if_pos q, if_pos q, e]
      omega
theorem siegel {n : Nat} (hn : 0 < n) (fs : List (Nat → Int)) (hlen : fs.length < n) (h1 : ∀ f ∈ fs, ∀ a, a < n → (f a).natAbs ≤ 1) : ∃ z : Nat → Int, (∃ a, a < n ∧ z a ≠ 0) ∧ (∀ a, a < n → (z a).natAbs ≤ n ^ (n - 1)) ∧ ∀ f ∈ fs, sm n (fun a => f a * z a) = 0 := by
  obtain ⟨C, hC⟩ : ∃ C, C = n ^ (n - 1) := ⟨_, rfl⟩
  have hb : 0 < C + 1 := by omega
  let code : Nat → Nat := fun N => qm5 (n * C + 1) (fs.map fun f => lhsN n C f fun a => dig (C + 1) a N)
  have hdig : ∀ N a, dig (C + 1) a N ≤ C := fun N a => by have := q6b hb a N; omega
  have hl : ∀ N, ∀ x ∈ fs.map (fun f => lhsN n C f fun a => dig (C + 1) a N), x < n * C + 1 := fun N x hx => by
    obtain ⟨f, hf, rfl⟩ := List.mem_map.1 hx
    have := smN_le (n := n) (C := C) (f := fun a => if 0 < f a then dig (C + 1) a N else if f a < 0 then C - dig (C + 1) a N else 0) fun i _ => by
      have := hdig N i
      split
      · exact this
      · split <;> omega
    exact Nat.lt_succ_of_le this
  obtain ⟨N, M, hNM, hM, he⟩ := q1e ((n * C + 1) ^ fs.length) ((C + 1) ^ n) code (fun N _ => by
    have := q1f _ (hl N)
    rw [List.length_map] at this
    exact this) (by
    calc (n * C + 1) ^ fs.length ≤ (n * C + 1) ^ (n - 1) := Nat.pow_le_pow_right (by omega) (by omega)
      _ ≤ (n * (C + 1)) ^ (n - 1) := Nat.pow_le_pow_left (by rw [Nat.mul_add]; omega) _
      _ = n ^ (n - 1) * (C + 1) ^ (n - 1) := Nat.mul_pow _ _ _
      _ = C * (C + 1) ^ (n - 1) := by rw [← hC]
      _ < (C + 1) * (C + 1) ^ (n - 1) := Nat.mul_lt_mul_of_pos_right (by omega) (Nat.pow_pos hb)
      _ = (C + 1) ^ n := by rw [Nat.mul_comm, ← Nat.pow_succ, show (n - 1).succ = n by omega])
  refine ⟨fun a => (dig (C + 1) a M : Int) - (dig (C + 1) a N : Int), Classical.byContradiction fun hno => ?_, fun a ha => ?_, fun f hf => ?_⟩
  · have := q4o hb n N M (by omega) hM fun a ha => by
      rcases Classical.em ((dig (C + 1) a M : Int) - (dig (C + 1) a N : Int) = 0) with q | q
      · omega
      · exact absurd ⟨a, ha, q⟩ hno
    omega
  · have q1 := hdig M a
    have q2 := hdig N a
    rw [← hC]
    dsimp only
    omega
  · have hll := qz2 (B := n * C + 1) (by omega) _ _ (by simp) (hl N) (hl M) he
    have hfe : lhsN n C f (fun a => dig (C + 1) a N) = lhsN n C f (fun a => dig (C + 1) a M) := List.map_inj_left.1 hll f hf
    rw [← lhsN_eq (h1 f hf) (fun a _ => hdig M a) (fun a _ => hdig N a), hfe]
    omega
end Go.Proofs.Ytdibdlelmkcccaa
