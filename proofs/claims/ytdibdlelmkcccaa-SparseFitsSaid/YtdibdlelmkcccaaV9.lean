/- The sets of so many numbers, one after another: what part.Sets hands over. No condition. -/
import Derived.Test.YtdibdlelmkcccaaV8
set_option linter.unusedVariables false
set_option linter.unusedSimpArgs false
namespace Go.Proofs.Ytdibdlelmkcccaa
open Go Go.RowKit Eng
def w3n (a : Int) : Nat -> List Int
  | 0 => []
  | k + 1 => a :: w3n (a + 1) k
theorem q4k (a : Int) (k : Nat) : (w3n a k).length = k := by
  induction k generalizing a with
  | zero => rfl
  | succ k ih => simp [w3n, ih]
def qp8 : Nat -> Nat -> Int -> List (List Int)
  | _, 0, _ => [[]]
  | 0, _ + 1, _ => []
  | m + 1, k + 1, a => (qp8 m k (a + 1)).map (a :: ·) ++ qp8 m (k + 1) (a + 1)
def q3g (n : Int) : List Int -> Option (List Int)
  | [] => none
  | x :: t => match q3g n t with
    | some t' => some (x :: t')
    | none => if x + t.length + 1 < n then some (w3n (x + 1) (t.length + 1)) else none
theorem wc5 {m k : Nat} {a : Int} {l : List Int} (h : l ∈ qp8 m k a) : l.length = k := by
  induction m generalizing k a l with
  | zero => cases k with
    | zero => simp [qp8] at h; simp [h]
    | succ k => cases h
  | succ m ih => cases k with
    | zero => simp [qp8] at h; simp [h]
    | succ k =>
      rcases List.mem_append.1 h with h | h
      · obtain ⟨t, ht, rfl⟩ := List.mem_map.1 h
        simp [ih ht]
      · exact ih h
structure InC (m k : Nat) (a : Int) (l : List Int) : Prop where
  len : l.length = k
  lo : ∀ i, i < k -> a + i <= nI l i
  hi : ∀ i, i < k -> nI l i + (k - i : Nat) <= a + m
  asc : ∀ i, 0 < i -> i < k -> nI l (i - 1) < nI l i
theorem q1l (x : Int) (t : List Int) : nI (x :: t) 0 = x := rfl
theorem qt8 (x : Int) (t : List Int) (i : Nat) : nI (x :: t) (i + 1) = nI t i := rfl
theorem wq9 {m k : Nat} {a : Int} {l : List Int} (h : l ∈ qp8 m k a) : InC m k a l := by
  induction m generalizing k a l with
  | zero => cases k with
    | zero => simp [qp8] at h; subst h; exact ⟨rfl, fun i hi => by omega, fun i hi => by omega, fun i _ hi => by omega⟩
    | succ k => cases h
  | succ m ih => cases k with
    | zero => simp [qp8] at h; subst h; exact ⟨rfl, fun i hi => by omega, fun i hi => by omega, fun i _ hi => by omega⟩
    | succ k =>
      rcases List.mem_append.1 h with h | h
      · obtain ⟨t, ht, rfl⟩ := List.mem_map.1 h
        have q := ih ht
        refine ⟨by simp [q.len], fun i hi => ?_, fun i hi => ?_, fun i h0 hi => ?_⟩
        · cases i with
          | zero => rw [q1l]; omega
          | succ i => rw [qt8]; have := q.lo i (by omega); omega
        · cases i with
          | zero =>
            rw [q1l]
            cases k with
            | zero => omega
            | succ k => have h1 := q.lo 0 (by omega); have h2 := q.hi 0 (by omega); omega
          | succ i => rw [qt8]; have := q.hi i (by omega); omega
        · obtain ⟨i, rfl⟩ : ∃ q, i = q + 1 := ⟨i - 1, by omega⟩
          rw [qt8, Nat.add_sub_cancel]
          cases i with
          | zero => rw [q1l]; have := q.lo 0 (by omega); omega
          | succ i => rw [qt8]; have := q.asc (i + 1) (by omega) (by omega); simpa using this
      · have q := ih h
        exact ⟨q.len, fun i hi => by have := q.lo i hi; omega, fun i hi => by have := q.hi i hi; omega, q.asc⟩
theorem wy8 {m k : Nat} {a : Int} (h : m < k) : qp8 m k a = [] := by
  induction m generalizing k a with
  | zero => cases k with
    | zero => omega
    | succ k => rfl
  | succ m ih => cases k with
    | zero => omega
    | succ k => simp [qp8, ih (k := k) (a := a + 1) (by omega), ih (k := k + 1) (a := a + 1) (by omega)]
theorem q7l {m k : Nat} {a : Int} (h : k <= m) : (qp8 m k a)[0]? = some (w3n a k) := by
  induction m generalizing k a with
  | zero =>
    obtain rfl : k = 0 := by omega
    rfl
  | succ m ih => cases k with
    | zero => rfl
    | succ k =>
      have := ih (k := k) (a := a + 1) (by omega)
      have hl : 0 < (qp8 m k (a + 1)).length := (List.getElem?_eq_some_iff.1 this).1
      rw [qp8, List.getElem?_append_left (by simpa using hl), List.getElem?_map, this]
      rfl
theorem wy9 {m k : Nat} {a n : Int} (hn : n = a + m) {c : Nat} {l : List Int} (h : (qp8 m k a)[c]? = some l) : q3g n l = (qp8 m k a)[c + 1]? := by
  induction m generalizing k a c l with
  | zero => cases k with
    | zero =>
      have hc := (List.getElem?_eq_some_iff.1 h).1
      simp [qp8] at hc
      subst hc
      simp [qp8] at h
      subst h
      rfl
    | succ k => simp [qp8] at h
  | succ m ih => cases k with
    | zero =>
      have hc := (List.getElem?_eq_some_iff.1 h).1
      simp [qp8] at hc
      subst hc
      simp [qp8] at h
      subst h
      rfl
    | succ k =>
      rw [qp8] at h ⊢
      rcases Nat.lt_or_ge c ((qp8 m k (a + 1)).map (a :: ·)).length with hlt | hge
      · rw [List.getElem?_append_left hlt, List.getElem?_map] at h
        obtain ⟨t, ht, rfl⟩ := Option.map_eq_some_iff.1 h
        have hi := ih (by omega) ht
        have htl := wc5 (List.mem_of_getElem? ht)
        have hcl : c < (qp8 m k (a + 1)).length := by simpa using hlt
        simp only [q3g, hi]
        rcases Nat.lt_or_ge (c + 1) (qp8 m k (a + 1)).length with h2 | h2
        · rw [List.getElem?_eq_getElem h2, List.getElem?_append_left (by simpa using h2), List.getElem?_map, List.getElem?_eq_getElem h2]
          rfl
        · rw [List.getElem?_eq_none h2, List.getElem?_append_right (by simpa using h2)]
          have e : c + 1 - ((qp8 m k (a + 1)).map (a :: ·)).length = 0 := by simp; omega
          rw [e, htl]
          simp only
          by_cases hk : k + 1 <= m
          · rw [q7l hk, if_pos (by omega)]
          · rw [wy8 (by omega), if_neg (by omega)]
            rfl
      · rw [List.getElem?_append_right hge] at h
        rw [List.getElem?_append_right (by omega)]
        have := ih (by omega) h
        rw [this]
        congr 1
        omega
def qe8 (n k : Int) : List (List Int) := if k <= n then qp8 n.toNat k.toNat 0 else []
theorem w3o (a : Int) (k i : Nat) (h : i < k) : nI (w3n a k) i = a + i := by
  induction k generalizing a i with
  | zero => omega
  | succ k ih => cases i with
    | zero => simp [w3n, q1l]
    | succ i => rw [w3n, qt8, ih _ _ (by omega)]; omega
theorem q3h {n : Int} : ∀ {l : List Int}, (∀ q : Nat, q < l.length -> nI l q = n - l.length + q) -> q3g n l = none
  | [], _ => rfl
  | x :: t, h => by
    have h0 := h 0 (by simp)
    rw [q1l] at h0
    have ht : q3g n t = none := q3h fun q hq => by
      have := h (q + 1) (by simpa using hq)
      rw [qt8] at this
      simp only [List.length_cons] at this
      omega
    simp only [q3g, ht]
    rw [if_neg]
    simp only [List.length_cons] at h0
    omega
theorem q7m {n : Int} : ∀ {l : List Int} {i : Nat}, i < l.length -> (∀ q : Nat, i < q -> q < l.length -> nI l q = n - l.length + q) -> nI l i < n - l.length + i -> q3g n l = some (l.take i ++ w3n (nI l i + 1) (l.length - i))
  | x :: t, 0, _, h, h0 => by
    rw [q1l] at h0
    have ht : q3g n t = none := q3h fun q hq => by
      have := h (q + 1) (by omega) (by simpa using hq)
      rw [qt8] at this
      simp only [List.length_cons] at this
      omega
    simp only [q3g, ht]
    simp only [List.length_cons] at h0
    rw [if_pos (by omega)]
    simp [q1l]
  | x :: t, i + 1, hi, h, h0 => by
    have := q7m (n := n) (l := t) (i := i) (by simpa using hi) (fun q h1 h2 => by
      have := h (q + 1) (by omega) (by simpa using h2)
      rw [qt8] at this
      simp only [List.length_cons] at this
      omega) (by
      rw [qt8] at h0
      simp only [List.length_cons] at h0
      omega)
    simp only [q3g, this, qt8, List.take_succ_cons, List.length_cons, Nat.add_sub_add_right, List.cons_append]
def w5f (l : List Int) (i : Nat) : List Int := l.take i ++ w3n (nI l i + 1) (l.length - i)
theorem wr0 (l : List Int) (i : Nat) (hi : i < l.length) : (w5f l i).length = l.length := by
  simp [w5f, q4k]; omega
theorem q88 (l : List Int) (i q : Nat) (hi : i < l.length) (hq : q < l.length) : nI (w5f l i) q = if q < i then nI l q else nI l i + 1 + (q - i : Nat) := by
  rw [qi1 _ _ (by rw [wr0 l i hi]; exact hq)]
  unfold w5f
  split
  · rename_i h
    rw [List.getElem_append_left (by simp; omega), List.getElem_take, qi1 l q hq]
  · rename_i h
    rw [List.getElem_append_right (by simp; omega)]
    have hl : (l.take i).length = i := by simp; omega
    have := w3o (nI l i + 1) (l.length - i) (q - i) (by omega)
    rw [qi1 _ _ (by rw [q4k]; omega)] at this
    rw [<- this]
    congr 1
    omega
def mkC (l : List Int) (i j : Nat) : List Int := ovr (.int .i64) (nI (w5f l i)) l j
theorem q5y (l : List Int) (i j : Nat) : (mkC l i j).length = l.length := qo5 (.int .i64) _ _ _
theorem wr1 (l : List Int) (i j q : Nat) (hq : q < l.length) : nI (mkC l i j) q = if q < j then nI (w5f l i) q else nI l q := q2n (.int .i64) _ _ _ _ hq
theorem w3p {a b : List Int} (h : a.length = b.length) (k : ∀ i, i < a.length -> nI a i = nI b i) : a = b := by
  apply List.ext_getElem h
  intro i h1 h2
  have := k i h1
  rwa [qi1 _ _ h1, qi1 _ _ h2] at this
theorem w3q (l : List Int) (i : Nat) (hi : i < l.length) : mkC l i (i + 1) = l.set i (nI l i + 1) := by
  apply w3p (by rw [q5y, List.length_set])
  intro q hq
  rw [q5y] at hq
  rw [wr1 _ _ _ _ hq, qi1 (l.set i (nI l i + 1)) q (by rw [List.length_set]; exact hq), List.getElem_set, q88 _ _ _ hi hq]
  by_cases e : i = q
  · subst e
    rw [if_pos (by omega), if_neg (Nat.lt_irrefl _), if_pos rfl]; simp
  · rw [if_neg e, <- qi1 l q hq]
    by_cases h : q < i
    · rw [if_pos (by omega), if_pos h]
    · rw [if_neg (by omega)]
theorem w6x (l : List Int) (i j : Nat) (hi : i < j) (hj : j < l.length) : (mkC l i j).set j (nI (mkC l i j) (j - 1) + 1) = mkC l i (j + 1) := by
  have e : nI (mkC l i j) (j - 1) + 1 = nI (w5f l i) j := by
    rw [wr1 _ _ _ _ (by omega), if_pos (by omega), q88 _ _ _ (by omega) (by omega), q88 _ _ _ (by omega) hj, if_neg (by omega)]
    split <;> omega
  rw [e]
  exact qp2 (.int .i64) _ _ _
theorem w9r (l : List Int) (i : Nat) (hi : i < l.length) : mkC l i l.length = w5f l i := by
  apply w3p (by rw [q5y, wr0 l i hi])
  intro q hq
  rw [q5y] at hq
  rw [wr1 _ _ _ _ hq, if_pos hq]
structure w3r (n k : Int) (c : Nat) (l : List Int) : Prop where
  len : l.length = k.toNat
  at_ : k <= n -> (qe8 n k)[c]? = some l
  cnt : n < k -> c = 0
structure w6y (n k : Int) (l : List Int) (i : Int) : Prop where
  lo : -1 <= i
  hi : i < k
  last : ∀ q : Nat, i < q -> q < l.length -> nI l q = n - k + q
structure w9s (l : List Int) (i j : Nat) (r : List Int) : Prop where
  lo : i < j
  hi : j <= l.length
  eq : r = mkC l i j
abbrev xg7 : q06 := w9f [qf9, qf9] [qe1] (fun x => (0 <= x.1 /\ x.1 <= 1000) /\ 0 <= x.2.1 /\ x.2.1 <= 1000) (fun x => (qe8 x.2.1 x.1).map fun l => (l, ())) (some 3)
def xg8 (n k : Int) : Nat -> Option Inv
  | 0 => some (Inv.of [4] 2 (fun _ : Nat × List Int => [(4, .own 1)]) (fun s => [.cnt (some s.1), .vec 3 (.int .i64) s.2]) (fun s => w3r n k s.1 s.2) (fun s => (qe8 n k).length + 1 - s.1))
  | 1 => some (Eng.Inv.mk (Nat × List Int) Int [4, 5] 2 (fun _ i => [(4, .own 1), (5, .lit (.int .i64 i))]) (fun q i => [.cnt (some q.1), .vec 3 (.int .i64) q.2]) (fun q i => w6y n k q.2 i) (fun q i => (i + 1).toNat))
  | 2 => some (Eng.Inv.mk (Nat × List Int × Nat) (Nat × List Int) [4, 6] 16 (fun _ s => [(4, .own 1), (6, .lit (.int .i64 s.1))]) (fun q s => [.cnt (some q.1), .vec 3 (.int .i64) s.2, .dead, .dead, .dead, .dead, .dead, .dead, .dead, .dead, .dead, .dead, .dead, .dead, .dead, .dead]) (fun q s => w9s q.2.1 q.2.2 s.1 s.2) (fun q s => q.2.1.length - s.1))
  | _ => none
theorem w6z (k : Nat) : w3n 0 k = q1v k := by
  apply w3p (by rw [q4k, qr0])
  intro i hi
  rw [q4k] at hi
  rw [w3o _ _ _ hi, q84 _ _ hi]; omega
theorem w3s {n k : Int} (hkn : k <= n) (hk : 0 <= k) {c : Nat} {l : List Int} (h : (qe8 n k)[c]? = some l) : q3g n l = (qe8 n k)[c + 1]? := by
  unfold qe8 at h ⊢
  rw [if_pos hkn] at h ⊢
  exact wy9 (by omega) h
theorem w9t {n k : Int} {l : List Int} (h : l ∈ qe8 n k) : InC n.toNat k.toNat 0 l := by
  unfold qe8 at h
  split at h
  · exact wq9 h
  · cases h
theorem q7n : q2d Try.prog 110 xg7 := by
  refine says (snd (SpecsOk.cons wc1 (SpecsOk.nil _))) Try.func110 rfl rfl rfl [12] (fun x => xg8 x.2.1 x.1) (fun _ => by kernel_rfl) (by decide) ?_
  rintro ⟨k, n, ⟨⟩⟩ l h
  revert k n
  intro (k : Int) (n : Int) (h : (0 <= k /\ k <= 1000) /\ 0 <= n /\ n <= 1000)
  refine qd7 (B := k <= (100000 : Ty.den qf9)/\∃ (v0:Unit),∃ (v1 : Nat × List Int),w3r n k (Prod.fst v1) (Prod.snd v1)/\((True/\True)/\some (0:Nat)=some (Prod.fst v1)/\q1v (Int.toNat k)=Prod.snd v1/\True)/\∀ (v2 : Nat × List Int),w3r n k (Prod.fst v2) (Prod.snd v2)->(decide (k <= n)=true->Value.func (Fn.yield l) #[] #[]=Value.func (Fn.yield (qj4.l (q6v [qf9,qf9] [qe1] [(12:Nat)] (k,n,PUnit.unit) (List.map (fun (v5 : List Int) => (v5,())) (qe8 n k)) l (some (3:Nat))))) #[] #[]/\(qj4.L (q6v [qf9,qf9] [qe1] [(12:Nat)] (k,n,PUnit.unit) (List.map (fun (v5 : List Int) => (v5,())) (qe8 n k)) l (some (3:Nat))))[Prod.fst v2]?=some (Prod.snd v2,())/\(fits .i64 (k - (1:Int))/\∃ (v5 : Nat × List Int),∃ (v6:Int),w6y n k (Prod.snd v5) v6/\((True/\k - (1:Int)=v6/\True)/\some (Prod.fst v2 + (1:Nat))=some (Prod.fst v5)/\Prod.snd v2=Prod.snd v5/\True)/\∀ (v7:Int),w6y n k (Prod.snd v5) v7->(decide ((0:Int) <= v7)=true->((0:Int) <= v7/\v7 < (↑(List.length (Prod.snd v5)):Int))/\Int.toNat v7 < List.length (Prod.snd v5)/\fits .i64 (n - k)/\fits .i64 (n - k + v7)/\((qa1 (Ty.int .i64) (Prod.snd v5) (Int.toNat v7) == n - k + v7)=true->fits .i64 (v7 - (1:Int))/\∃ (v11:Int),w6y n k (Prod.snd v5) v11/\Int.toNat (v11 + (1:Int)) < Int.toNat (v7 + (1:Int))/\(True/\v7 - (1:Int)=v11/\True)/\some (Prod.fst v5)=some (Prod.fst v5)/\Prod.snd v5=Prod.snd v5/\True)/\((qa1 (Ty.int .i64) (Prod.snd v5) (Int.toNat v7) == n - k + v7)=false->(decide (v7 < (0:Int))=true->Prod.fst v5=List.length (qj4.L (q6v [qf9,qf9] [qe1] [(12:Nat)] (k,n,PUnit.unit) (List.map (fun (v12 : List Int) => (v12,())) (qe8 n k)) l (some (3:Nat)))))/\(decide (v7 < (0:Int))=false->((0:Int) <= v7/\v7 < (↑(List.length (Prod.snd v5)):Int))/\Int.toNat v7 < List.length (Prod.snd v5)/\fits .i64 (qa1 (Ty.int .i64) (Prod.snd v5) (Int.toNat v7) + (1:Int))/\((0:Int) <= v7/\v7 < (↑(List.length (Prod.snd v5)):Int))/\Int.toNat v7 < List.length (Prod.snd v5)/\fits .i64 (v7 + (1:Int))/\∃ (v12 : Nat × List Int × Nat),∃ (v13 : Nat × List Int),w9s (Prod.fst (Prod.snd v12)) (Prod.snd (Prod.snd v12)) (Prod.fst v13) (Prod.snd v13)/\((True/\v7 + (1:Int)=(↑(Prod.fst v13):Int)/\True)/\some (Prod.fst v5)=some (Prod.fst v12)/\List.set (Prod.snd v5) (Int.toNat v7) (qa1 (Ty.int .i64) (Prod.snd v5) (Int.toNat v7) + (1:Int))=Prod.snd v13/\True/\True/\True/\True/\True/\True/\True/\True/\True/\True/\True/\True/\True/\True/\True)/\∀ (v14 : Nat × List Int),w9s (Prod.fst (Prod.snd v12)) (Prod.snd (Prod.snd v12)) (Prod.fst v14) (Prod.snd v14)->(decide ((↑(Prod.fst v14):Int) < k)=true->fits .i64 ((↑(Prod.fst v14):Int) - (1:Int))/\((0:Int) <= (↑(Prod.fst v14):Int) - (1:Int)/\(↑(Prod.fst v14):Int) - (1:Int) < (↑(List.length (Prod.snd v14)):Int))/\Int.toNat ((↑(Prod.fst v14):Int) - (1:Int)) < List.length (Prod.snd v14)/\fits .i64 (qa1 (Ty.int .i64) (Prod.snd v14) (Int.toNat ((↑(Prod.fst v14):Int) - (1:Int))) + (1:Int))/\((0:Int) <= (↑(Prod.fst v14):Int)/\(↑(Prod.fst v14):Int) < (↑(List.length (Prod.snd v14)):Int))/\Int.toNat (↑(Prod.fst v14):Int) < List.length (Prod.snd v14)/\fits .i64 ((↑(Prod.fst v14):Int) + (1:Int))/\∃ (v17 : Nat × List Int),w9s (Prod.fst (Prod.snd v12)) (Prod.snd (Prod.snd v12)) (Prod.fst v17) (Prod.snd v17)/\List.length (Prod.fst (Prod.snd v12)) - Prod.fst v17 < List.length (Prod.fst (Prod.snd v12)) - Prod.fst v14/\(True/\(↑(Prod.fst v14):Int) + (1:Int)=(↑(Prod.fst v17):Int)/\True)/\some (Prod.fst v12)=some (Prod.fst v12)/\List.set (Prod.snd v14) (Int.toNat (↑(Prod.fst v14):Int)) (qa1 (Ty.int .i64) (Prod.snd v14) (Int.toNat ((↑(Prod.fst v14):Int) - (1:Int))) + (1:Int))=Prod.snd v17/\True/\True/\True/\True/\True/\True/\True/\True/\True/\True/\True/\True/\True/\True/\True)/\(decide ((↑(Prod.fst v14):Int) < k)=false->∃ (v17 : Nat × List Int),w3r n k (Prod.fst v17) (Prod.snd v17)/\List.length (qe8 n k) + (1:Nat) - Prod.fst v17 < List.length (qe8 n k) + (1:Nat) - Prod.fst v2/\(True/\True)/\some (Prod.fst v12)=some (Prod.fst v17)/\Prod.snd v14=Prod.snd v17/\True))))/\(decide ((0:Int) <= v7)=false->(decide (v7 < (0:Int))=true->Prod.fst v5=List.length (qj4.L (q6v [qf9,qf9] [qe1] [(12:Nat)] (k,n,PUnit.unit) (List.map (fun (v11 : List Int) => (v11,())) (qe8 n k)) l (some (3:Nat)))))/\(decide (v7 < (0:Int))=false->((0:Int) <= v7/\v7 < (↑(List.length (Prod.snd v5)):Int))/\Int.toNat v7 < List.length (Prod.snd v5)/\fits .i64 (qa1 (Ty.int .i64) (Prod.snd v5) (Int.toNat v7) + (1:Int))/\((0:Int) <= v7/\v7 < (↑(List.length (Prod.snd v5)):Int))/\Int.toNat v7 < List.length (Prod.snd v5)/\fits .i64 (v7 + (1:Int))/\∃ (v11 : Nat × List Int × Nat),∃ (v12 : Nat × List Int),w9s (Prod.fst (Prod.snd v11)) (Prod.snd (Prod.snd v11)) (Prod.fst v12) (Prod.snd v12)/\((True/\v7 + (1:Int)=(↑(Prod.fst v12):Int)/\True)/\some (Prod.fst v5)=some (Prod.fst v11)/\List.set (Prod.snd v5) (Int.toNat v7) (qa1 (Ty.int .i64) (Prod.snd v5) (Int.toNat v7) + (1:Int))=Prod.snd v12/\True/\True/\True/\True/\True/\True/\True/\True/\True/\True/\True/\True/\True/\True/\True)/\∀ (v13 : Nat × List Int),w9s (Prod.fst (Prod.snd v11)) (Prod.snd (Prod.snd v11)) (Prod.fst v13) (Prod.snd v13)->(decide ((↑(Prod.fst v13):Int) < k)=true->fits .i64 ((↑(Prod.fst v13):Int) - (1:Int))/\((0:Int) <= (↑(Prod.fst v13):Int) - (1:Int)/\(↑(Prod.fst v13):Int) - (1:Int) < (↑(List.length (Prod.snd v13)):Int))/\Int.toNat ((↑(Prod.fst v13):Int) - (1:Int)) < List.length (Prod.snd v13)/\fits .i64 (qa1 (Ty.int .i64) (Prod.snd v13) (Int.toNat ((↑(Prod.fst v13):Int) - (1:Int))) + (1:Int))/\((0:Int) <= (↑(Prod.fst v13):Int)/\(↑(Prod.fst v13):Int) < (↑(List.length (Prod.snd v13)):Int))/\Int.toNat (↑(Prod.fst v13):Int) < List.length (Prod.snd v13)/\fits .i64 ((↑(Prod.fst v13):Int) + (1:Int))/\∃ (v16 : Nat × List Int),w9s (Prod.fst (Prod.snd v11)) (Prod.snd (Prod.snd v11)) (Prod.fst v16) (Prod.snd v16)/\List.length (Prod.fst (Prod.snd v11)) - Prod.fst v16 < List.length (Prod.fst (Prod.snd v11)) - Prod.fst v13/\(True/\(↑(Prod.fst v13):Int) + (1:Int)=(↑(Prod.fst v16):Int)/\True)/\some (Prod.fst v11)=some (Prod.fst v11)/\List.set (Prod.snd v13) (Int.toNat (↑(Prod.fst v13):Int)) (qa1 (Ty.int .i64) (Prod.snd v13) (Int.toNat ((↑(Prod.fst v13):Int) - (1:Int))) + (1:Int))=Prod.snd v16/\True/\True/\True/\True/\True/\True/\True/\True/\True/\True/\True/\True/\True/\True/\True)/\(decide ((↑(Prod.fst v13):Int) < k)=false->∃ (v16 : Nat × List Int),w3r n k (Prod.fst v16) (Prod.snd v16)/\List.length (qe8 n k) + (1:Nat) - Prod.fst v16 < List.length (qe8 n k) + (1:Nat) - Prod.fst v2/\(True/\True)/\some (Prod.fst v11)=some (Prod.fst v16)/\Prod.snd v13=Prod.snd v16/\True))))/\True)/\(decide (k <= n)=false->Prod.fst v2=List.length (qj4.L (q6v [qf9,qf9] [qe1] [(12:Nat)] (k,n,PUnit.unit) (List.map (fun (v5 : List Int) => (v5,())) (qe8 n k)) l (some (3:Nat)))))) (by kernel_rfl) ?_
  try simp only [z0,z1,z2,z3,z4,z5,z6,z7,z8,z9,z10,Int.reduceEq,z11,z12,z13,z14,z15,z16,z17,z18,z19,z20,z21,z22,z23,z24,z25,z26,z27,z28,z29,z30,Int.reduceLE,Int.reduceLT,z31,z32,z33,z34,qa3]
  try simp only [qb4, qb5, qc9, List.set_cons_zero, List.cons.injEq, and_true, true_and]
  obtain ⟨⟨hk0, hk1⟩, hn0, hn1⟩ := h
  refine ⟨by omega, (), (0, q1v k.toNat), ⟨qr0 _, fun hkn => ?_, fun _ => rfl⟩, ⟨rfl, rfl⟩, ?_⟩
  · unfold qe8
    rw [if_pos hkn, q7l (by omega), w6z]
  rintro ⟨c, s⟩ ⟨hl, ha, hz⟩
  dsimp only at hl ha hz ⊢
  refine ⟨fun hkn => ?_, fun hkn => ?_⟩
  · have hat := ha hkn
    have hc := (List.getElem?_eq_some_iff.1 hat).1
    have hin := w9t (List.mem_of_getElem? hat)
    have hnx := w3s hkn hk0 hat
    have hmap : ((qe8 n k).map fun v => ((v, ()) : qa6 [qe1])).length = (qe8 n k).length := List.length_map _
    refine ⟨rfl, ?_, qa8 (by omega) (by omega), (c + 1, s), k - 1, ⟨by omega, by omega, fun q h1 h2 => by dsimp only at h2; omega⟩, ⟨rfl, rfl, rfl⟩, ?_⟩
    · show ((qe8 n k).map fun v => ((v, ()) : qa6 [qe1]))[c]? = some (s, ())
      rw [List.getElem?_map, hat]; rfl
    rintro i ⟨lo, hi, last⟩
    dsimp only at lo hi last ⊢
    have fin : i < 0 -> c + 1 = ((qe8 n k).map fun v => ((v, ()) : qa6 [qe1])).length := fun hneg => by
      have hn : q3g n s = none := q3h fun q hq => by rw [last q (by omega) hq]; omega
      rw [hn] at hnx
      have := List.getElem?_eq_none_iff.1 hnx.symm
      omega
    refine ⟨fun hi0 => ?_, fun hi0 => ⟨fin, fun h => by omega⟩⟩
    have hb1 := hin.lo i.toNat (by omega)
    have hb2 := hin.hi i.toNat (by omega)
    refine ⟨by omega, by omega, qa8 (by omega) (by omega), qa8 (by omega) (by omega), fun heq => ⟨qa8 (by omega) (by omega), i - 1, ⟨by omega, by omega, fun q h1 h2 => ?_⟩, by omega, rfl⟩, fun hne => ⟨fin, fun _ => ?_⟩⟩
    · by_cases e : (q : Int) = i
      · have : i.toNat = q := by omega
        rw [this] at heq; rw [heq]; omega
      · exact last q (by omega) h2
    have hil : i.toNat < s.length := by omega
    refine ⟨by omega, hil, qa8 (by omega) (by omega), by omega, hil, qa8 (by omega) (by omega), (c + 1, s, i.toNat), (i.toNat + 1, s.set i.toNat (nI s i.toNat + 1)), ⟨Nat.lt_succ_self _, hil, (w3q s i.toNat hil).symm⟩, ⟨by dsimp only; omega, rfl, rfl⟩, ?_⟩
    rintro ⟨j, r⟩ ⟨h1, h2, h3⟩
    dsimp only at h1 h2 h3 ⊢
    have hrl : r.length = s.length := by rw [h3, q5y]
    refine ⟨fun hj => ?_, fun hj => ?_⟩
    · have e : ((j : Int) - 1).toNat = j - 1 := by omega
      rw [e]
      have hv : nI r (j - 1) = nI s i.toNat + 1 + (j - 1 - i.toNat : Nat) := by
        rw [h3, wr1 _ _ _ _ (by omega), if_pos (by omega), q88 _ _ _ hil (by omega), if_neg (by omega)]
      refine ⟨qa8 (by omega) (by omega), by omega, by omega, qa8 (by omega) (by omega), by omega, by omega, qa8 (by omega) (by omega), (j + 1, r.set j (nI r (j - 1) + 1)), ⟨by dsimp only; omega, by dsimp only; omega, ?_⟩, by dsimp only; omega, by dsimp only; omega, rfl⟩
      dsimp only
      rw [h3]
      exact w6x s i.toNat j h1 (by omega)
    · have hjl : j = s.length := by omega
      have hr : r = w5f s i.toNat := by rw [h3, hjl, w9r s i.toNat hil]
      have hlt2 : nI s i.toNat < n - s.length + i.toNat := by
        have h5 : nI s i.toNat < n - k + i := Int.lt_iff_le_and_ne.2 ⟨by omega, hne⟩
        omega
      have hst : q3g n s = some (w5f s i.toNat) := q7m hil (fun q h1 h2 => by rw [last q (by omega) h2]; omega) hlt2
      refine ⟨(c + 1, r), ⟨hrl.trans hl, fun _ => ?_, fun h => absurd (Int.lt_of_lt_of_le h hkn) (Int.lt_irrefl _)⟩, Nat.sub_lt_sub_left (Nat.lt_succ_of_lt hc) (Nat.lt_succ_self c), rfl, rfl⟩
      dsimp only
      rw [<- hnx, hst, hr]
  · show c = ((qe8 n k).map fun v => ((v, ()) : qa6 [qe1])).length
    rw [List.length_map, hz hkn]
    unfold qe8
    rw [if_neg (by omega)]
    rfl
end Go.Proofs.Ytdibdlelmkcccaa
