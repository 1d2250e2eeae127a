/- A copy of a mask whose rows lie apart, and the contract of lightsieveref02's Signed. No condition. -/
import Derived.Test.YtkkmlcengneomaaD6
import Derived.Test.YtkkmlcengneomaaC2
namespace Go.Proofs.Ytkkmlcengneomaa
open Go.RowKit Ls

/-- Slices that lie in different blocks. -/
def Apart (vs : List Value) : Prop := ∀ (i j : Nat) (u v : Value) (g : Nat), vs[i]? = some u → vs[j]? = some v → i ≠ j → u.ownBlock = some g → v.ownBlock ≠ some g
def Under (vs : List Value) (N : Nat) : Prop := ∀ u, u ∈ vs → ∀ g, u.ownBlock = some g → g < N
theorem Apart.nil : Apart [] := fun i j u v g h => by simp at h
theorem Under.nil (N : Nat) : Under [] N := fun u h => by simp at h
theorem Under.mono {vs : List Value} {N M : Nat} (h : Under vs N) (hn : N ≤ M) : Under vs M := fun u hu g hg => Nat.lt_of_lt_of_le (h u hu g hg) hn
theorem Under.snoc {vs : List Value} {N : Nat} {v : Value} (h : Under vs N) (hv : ∀ g, v.ownBlock = some g → g < N) : Under (vs ++ [v]) N := fun u hu g hg => by
  rcases List.mem_append.1 hu with h1 | h1
  · exact h u h1 g hg
  · rw [List.mem_singleton] at h1; subst h1; exact hv g hg
theorem Apart.snoc {vs : List Value} {N : Nat} {v : Value} (h : Apart vs) (hu : Under vs N) (hv : ∀ g, v.ownBlock = some g → N ≤ g) : Apart (vs ++ [v]) := by
  intro i j x y g hi hj hij hx hy
  by_cases h1 : i < vs.length
  · rw [List.getElem?_append_left h1] at hi
    by_cases h2 : j < vs.length
    · rw [List.getElem?_append_left h2] at hj
      exact h i j x y g hi hj hij hx hy
    · have hjl : j < (vs ++ [v]).length := (List.getElem?_eq_some_iff.1 hj).1
      rw [List.getElem?_append_right (by omega)] at hj
      have : j - vs.length = 0 := by simp at hjl; omega
      rw [this] at hj
      simp at hj
      subst hj
      have := hv g hy
      have := hu x (List.mem_of_getElem? hi) g hx
      omega
  · have hil : i < (vs ++ [v]).length := (List.getElem?_eq_some_iff.1 hi).1
    rw [List.getElem?_append_right (by omega)] at hi
    have : i - vs.length = 0 := by simp at hil; omega
    rw [this] at hi
    simp at hi
    subst hi
    have h2 : j < vs.length := by
      have hjl : j < (vs ++ [v]).length := (List.getElem?_eq_some_iff.1 hj).1
      simp at hil hjl; omega
    rw [List.getElem?_append_left h2] at hj
    have := hv g hx
    have := hu y (List.mem_of_getElem? hj) g hy
    omega
theorem own_over {w : World} {B e n : Nat} {v : Value} {xs : List Value} (h : w.ownsRow B e 1 v n xs) : ∀ g, v.ownBlock = some g → B ≤ g := fun g hg => (h.lt g hg).1

set_option maxHeartbeats 1000000 in
theorem rcopied2_any (A : Option Addr) (n c : Nat) (m : List (List Int)) (w : World) (hm : SM w A n c m) (hn : n ≤ 1000) (hl : ∀ k, k < n → (nthL m k).length ≤ 1000) :
    Calls Try.prog 81 #[.slice A n c] w fun e w' => ∃ A' c' vs, e = .returned (.slice A' n c') ∧ w'.ownsRow w.heap.size 24 1 (.slice A' n c') n vs ∧ RowsOwn w' w.heap.size 3 vs m ∧ Below w.heap.size w w' ∧ Apart vs := by
  have hmn := hm.nmax
  have Hl := hidx hl
  have hml := hidx hm.len
  clear hl
  go_enter Try.func81, Try.ntmps81
  go_wp2
  go_loopw [3, 5, 8] (fun s _ i wr => ∃ (k : Nat) (A' : Option Addr) (c' : Nat) (vs : List Value), k ≤ n ∧ i = .int .i64 k ∧ s = .slice A' k c' ∧ wr.ownsRow w.heap.size 24 1 (.slice A' k c') k vs ∧ RowsOwn wr w.heap.size 3 vs (m.take k) ∧ Below w.heap.size w wr ∧ Apart vs ∧ Under vs wr.heap.size) (fun _ _ i _ => n - (intOf i).toNat)
  case atStart => exact ⟨0, none, 0, [], Nat.zero_le _, rfl, rfl, World.ownsRow_nil _ _ _ _, RowsOwn.nil _ _ _, Below.refl _ _, Apart.nil, Under.nil _⟩
  case round =>
    obtain ⟨k, A', c', vs, hk, rfl, rfl, hown, hrows, hb, hap, hun⟩ := hrel
    have Hap := hidx hap
    have Hun := hidx hun
    clear hap hun
    by_cases hlt : k < n
    · obtain ⟨ad, rfl, hca⟩ := (hm.below hb).at_ (by omega)
      obtain ⟨A1, c1, h1, h2⟩ := hca k hlt
      have hle := Hl.out k hlt
      have HS := hidx (takeL_snoc m k (by have := hml.out; omega))
      have hsz := hb.size
      have hemp : ∀ (W : World) (t : TypeId), (W.alloc (.cells #[] t)).ownsRow W.heap.size t 1 (.slice (some ⟨W.heap.size, 0, none⟩) 0 0) 0 [] := fun W t => World.ownsRow_made W #[] 0 (Nat.le_refl _) (by unfold maxLen; omega) rfl
      have s2 := h2.values
      have o1 := ints_one (nthL m k)
      clear hca h2 hm
      go_wp2_with (first
        | (at_builtin; refine appN _ eltI rfl rfl (.tmp 13) (.tmp 14) rfl rfl rfl (hemp wr _) (below_alloc wr _) (Nat.le_refl _) (s2.below (below_alloc wr _)) o1 (by omega) (by omega) ?_; intro A2 c2 w2 hown2 hb2 _; have hk2 := own_below hown hb2; have hr2 := hrows.keep (KeepsT.of_below hb2); have hb3 := step_trans hb hb2; clear hown hrows hb h1)
        | (at_builtin; refine app1 eltM rfl rfl (.tmp 12) (.tmp 16) rfl rfl rfl hk2 hb3 (Nat.le_refl _) rfl (by omega) (by omega) ?_; intro A3 c3 w3 hown3 hb4 hg3 hc2 hc2'))
      go_roundw
      case rel =>
        have hk3 : KeepsT 3 w2 w3 := KeepsT.grown (by decide) hk2 hg3
        have hown2' : w2.ownsRow wr.heap.size 3 1 (.slice A2 (nthL m k).length c2) (nthL m k).length (ints (nthL m k)) := by simpa using hown2
        refine ⟨k + 1, A3, c3, _, by omega, by go_num, rfl, hown3, ?_, hb4, Hap.out.snoc Hun.out (own_over hown2'), ?_⟩
        · rw [HS.out]
          exact (hr2.keep hk3).snoc (by simp) (own_keeps (own_base (by simpa using hown2) hsz) hk3)
        · exact (Hun.out.mono (Nat.le_trans hb2.size hg3.size)).snoc (fun g hg => Nat.lt_of_lt_of_le (hown2'.lt g hg).2 hg3.size)
      case measure => simp [intOf]; omega
    · have hkk : k = n := by omega
      subst hkk
      go_wp2
      go_ret
      exact ⟨_, _, vs, rfl, hown, by rw [List.take_of_length_le (by have := hml.out; omega)] at hrows; exact hrows, hb, Hap.out⟩


/-- A store into one of some rows that lie apart. -/
theorem rows_write {w : World} {B e n : Nat} {vs : List Value} {F F' : Nat → List Int} (h : RowsOwn w B e vs ((List.range n).map F)) (hap : Apart vs) (q j : Nat) (hq : q < n) (hj : j < (F q).length) (x : Int)
    (hF : ∀ i, i ≠ q → F' i = F i) (hFq : F' q = (F q).set j x) :
    ∃ g c, vs[q]? = some (.slice (some ⟨g, 0, none⟩) (F q).length c) ∧ B ≤ g ∧ w.cell? ⟨g, j, none⟩ = some (.int .i64 (nth (F q) j)) ∧ w.frozen? ⟨g, j, none⟩ = false ∧
      RowsOwn (w.setCell ⟨g, j, none⟩ (.int .i64 x)) B e vs ((List.range n).map F') ∧ w.grownBy (w.setCell ⟨g, j, none⟩ (.int .i64 x)) (some g) ∧
      (∀ e', e' ≠ e → KeepsT e' w (w.setCell ⟨g, j, none⟩ (.int .i64 x))) := by
  have hn : ∀ (F : Nat → List Int) i, i < n → nthL ((List.range n).map F) i = F i := fun F i hi => by simp [nthL, hi]
  obtain ⟨A, c, h1, h2⟩ := h.2 q (by simpa using hq)
  rw [hn F q hq] at h1 h2
  obtain ⟨A', c', hv, _, _, h3⟩ := own_form h2
  injection hv with e1 _ e3
  subst e1; subst e3
  obtain ⟨g, rfl, hg, _⟩ := h3 (by omega)
  have hst := h2.stored j (.int .i64 x)
  refine ⟨g, c, h1, hg, ?_, h2.frozenAt j, ⟨by have := h.1; simpa using this, fun i hi => ?_⟩, hst.2, fun e' he' => KeepsT.stored he' h2 hst.2⟩
  · rw [h2.cellAt j (by omega)]
    exact ints_get _ _ hj
  · rw [List.length_map, List.length_range] at hi
    rw [hn F' i hi]
    by_cases hiq : i = q
    · subst hiq
      rw [hFq, List.length_set]
      refine ⟨_, c, h1, ?_⟩
      have := hst.1
      rwa [show (ints (F i)).set j (Value.int .i64 x) = ints ((F i).set j x) by simp [ints, List.map_set]] at this
    · rw [hF i hiq]
      obtain ⟨Ai, ci, h4, h5⟩ := h.2 i (by simpa using hi)
      rw [hn F i hi] at h4 h5
      refine ⟨Ai, ci, h4, ownsRow_setCell_other h5 ?_ _⟩
      intro hb
      exact hap i q _ _ g h4 h1 hiq hb rfl

end Go.Proofs.Ytkkmlcengneomaa
