/- Contracts of slices.IndexFunc and ContainsFunc at integers. No condition. -/
import Derived.Test.YtmijnbjlhnpokaaDoorProg
import Derived.Test.YtmijnbjlhnpokaaDoorPSpec
namespace Go.Proofs.YtmijnbjlhnpokaaDoor
open Go.RowKit Ls
def FokI (P : Program) (g : Nat) (lb : Array Value) (p : Int -> Bool) (w : World) : Prop :=
  (∀ args W, (callFunc g args).run P W = .ok (.enter g args) W) /\
  ∀ (x : Int) (W : World), Below w.heap.size w W -> Calls P g (#[.int .i64 x] ++ lb) W fun e W' => e = .returned (.bool (p x)) /\ Below W.heap.size W W'
theorem FokI.later {P : Program} {g : Nat} {lb : Array Value} {p : Int -> Bool} {w w' : World} (h : FokI P g lb p w) (hb : Below w.heap.size w w') : FokI P g lb p w' :=
  ⟨h.1, fun x W hW => h.2 x W (step_trans hb hW)⟩
def idxI (p : Int -> Bool) : List Int -> Int
  | [] => -1
  | a :: l => if p a then 0 else if idxI p l = -1 then -1 else idxI p l + 1
theorem idxI_ge (p : Int -> Bool) (l : List Int) : -1 <= idxI p l := by
  induction l with
  | nil => simp [idxI]
  | cons a l ih => unfold idxI; split <;> (try split) <;> omega
theorem idxI_hit (p : Int -> Bool) (l : List Int) (k : Nat) (h : k < l.length) (h1 : ∀ j, j < k -> p (nth l j) = false) (h2 : p (nth l k) = true) : idxI p l = k := by
  induction l generalizing k with
  | nil => simp at h
  | cons a l ih =>
    cases k with
    | zero => simp [nth] at h2; simp [idxI, h2]
    | succ k =>
      have h0 : p a = false := by simpa [nth] using h1 0 (by omega)
      have := ih k (by simpa using h) (fun j hj => by simpa [nth] using h1 (j + 1) (by omega)) (by simpa [nth] using h2)
      simp [idxI, h0, this]
theorem idxI_miss (p : Int -> Bool) (l : List Int) (h1 : ∀ j, j < l.length -> p (nth l j) = false) : idxI p l = -1 := by
  induction l with
  | nil => rfl
  | cons a l ih =>
    have h0 : p a = false := by simpa [nth] using h1 0 (by simp)
    have := ih (fun j hj => by simpa [nth] using h1 (j + 1) (by simpa using hj))
    simp [idxI, h0, this]
theorem idxI_any (p : Int -> Bool) (l : List Int) : decide (0 <= idxI p l) = l.any p := by
  induction l with
  | nil => simp [idxI]
  | cons a l ih =>
    have hg := idxI_ge p l
    unfold idxI
    cases ha : p a with
    | true => simp [ha]
    | false =>
      simp only [List.any_cons, ha, Bool.false_or, <- ih]
      by_cases h : idxI p l = -1
      · simp [h]
      · simp [h]; omega
set_option maxHeartbeats 400000 in
theorem indexFuncI (A : Option Addr) (n c g : Nat) (lb : Array Value) (p : Int -> Bool) (zs : List Int) (w : World)
    (h : SI w A n c zs) (hf : FokI Tryd.prog g lb p w) :
    Calls Tryd.prog 73 #[.slice A n c, .func (.func g) #[] lb] w fun e w' => e = .returned (.int .i64 (idxI p zs)) /\ Below w.heap.size w w' := by
  obtain rfl := h.len
  have hmx := h.nmax
  have eg := hf.1
  go_enter Tryd.func73, Tryd.ntmps73
  go_wp2
  go_loopw [5, 8] (fun _ i wr => ∃ k : Nat, k <= zs.length /\ i = .int .i64 k /\ Hid (∀ j, j < k -> p (nth zs j) = false) /\ Below w.heap.size w wr) (fun _ i _ => zs.length - (intOf i).toNat)
  case atStart => exact ⟨0, Nat.zero_le _, rfl, fun j hj => absurd hj (Nat.not_lt_zero _), Below.refl _ _⟩
  case round =>
    obtain ⟨k, hk, rfl, hno, hb⟩ := hrel
    by_cases hlt : k < zs.length
    · obtain ⟨ad, rfl, hca⟩ := (h.below hb).at_ (by omega)
      have h1 := hca k hlt
      have hcall := hf.2 (nth zs k) wr hb
      clear hca h hf
      cases hq : p (nth zs k) with
      | true =>
        have Hq := hidx hq
        rw [hq] at hcall
        clear hq
        go_wp2_with (go_at_fn g; refine hcall.mono ?_; rintro e w1 ⟨rfl, hb1⟩)
        go_ret
        exact ⟨ret_i64 (idxI_hit p zs k hlt hno.out Hq.out).symm, step_trans hb hb1⟩
      | false =>
        have Hq := hidx hq
        rw [hq] at hcall
        clear hq
        go_wp2_with (go_at_fn g; refine hcall.mono ?_; rintro e w1 ⟨rfl, hb1⟩)
        go_roundw
        case rel =>
          refine ⟨k + 1, by omega, by go_num, ?_, step_trans hb hb1⟩
          intro j hj
          by_cases e : j = k
          · subst e; exact Hq.out
          · exact hno.out j (by omega)
        case measure => simp [intOf]; omega
    · go_wp2
      go_ret
      exact ⟨ret_i64 (idxI_miss p zs (fun j hj => hno.out j (by omega))).symm, hb⟩
theorem containsFuncI (A : Option Addr) (n c g : Nat) (lb : Array Value) (p : Int -> Bool) (zs : List Int) (w : World)
    (h : SI w A n c zs) (hf : FokI Tryd.prog g lb p w) :
    Calls Tryd.prog 53 #[.slice A n c, .func (.func g) #[] lb] w fun e w' => e = .returned (.bool (zs.any p)) /\ Below w.heap.size w w' := by
  rw [<- idxI_any]
  go_enter Tryd.func53, Tryd.ntmps53
  go_wp2_with (go_at_call 73; refine (indexFuncI A n c g lb p zs w h hf).mono ?_; rintro e w1 ⟨rfl, hb1⟩)
  go_ret
  exact ⟨rfl, hb1⟩
end Go.Proofs.YtmijnbjlhnpokaaDoor
