/- The contracts of the pictures' functions that were proved by hand, in the engine's words; contracts under a table. No condition. -/
import Derived.Test.YtmijnbjlhnpokaaDoorTys
import Derived.Test.YtmijnbjlhnpokaaDoorEng3
import Derived.Test.YtmijnbjlhnpokaaDoorP8
set_option linter.unusedVariables false
set_option linter.unusedSimpArgs false
namespace Eng
open Go Go.RowKit
variable {P : Program} {m0 : View}
theorem meetsAt_of {f : Nat} {ins outs : List Ty} {pre : argsTy ins -> Prop} {g : argsTy ins -> argsTy outs} (hc : Callable P f)
    (h : ∀ (w : World) (m : View) (x : argsTy ins) (vs : List Value), m.on w -> m0.on w -> pre x -> RdArgs m ins x vs -> Calls P f vs.toArray w fun e w' => ∃ v, e = .returned v /\ Below w.heap.size w w' /\ RdRes (View.from w' w.heap.size) outs (g x) v) : MeetsAt P m0 f (tspec true none ins outs pre g) := by
  refine ⟨hc, fun w m args vs k hm hle hargs hrun => ?_⟩
  obtain ⟨x, ⟨hp, hk⟩, hx⟩ := takeArgs_rd hrun hargs
  refine (h w m x vs hm (fun b o hb => hm b o (hle b o hb)) hp hx).mono fun e w' ⟨v, e1, e2, us, e3, e4⟩ => ⟨v, View.from w' w.heap.size, e1, e2, View.from_on _ _, fun b o hb => ?_, ?_⟩
  · unfold View.from at hb
    split at hb
    · assumption
    · cases hb
  · obtain ⟨k1, k2⟩ := retsAV_ok (P := P) (m := _) e4
    exact ⟨_, hk, by rw [e3]; exact pack_ok k1 ⟨_, retsAV_len⟩⟩
theorem lawAt_walk {f : Nat} {ins : List Ty} {pre : argsTy ins -> Prop} {x : argsTy ins} {w : World} {vs : List Value} (h : MeetsAt P m0 f (tspec true none ins [.bool] pre (fun _ => (true, ())))) (h0 : m0.on w) (hp : pre x) (hx : RdArgs (fun b => w.heap[b]?) ins x vs) :
    Calls P f vs.toArray w fun e w' => e = .returned (.bool true) /\ Below w.heap.size w w' := by
  have := h.2 w (fun b => w.heap[b]?) (retsAV ins x) vs (fun r => r = retOne (retsAV [.bool] ((true, ()) : argsTy [.bool]))) (View.full_on w) h0 (retsAV_ok hx).1 (argsAV_of hx ⟨hp, rfl⟩)
  refine this.mono fun e w' ⟨v, m', e1, e2, _, _, r, e5, e6⟩ => ⟨?_, e2⟩
  subst e5
  have e6 : [v] = [.bool true] := e6
  rw [e1, (List.cons.inj e6).1]
end Eng
namespace Go.Proofs.YtmijnbjlhnpokaaDoor
open Go Go.RowKit Eng Ls
abbrev tInt : Ty := .int .i64
abbrev tInts : Ty := .list (.int .i64)
abbrev tPic : Ty := .prod tInt (.prod tInt tInts)
theorem nthD_nth (l : List Int) (i : Nat) : nthD (.int .i64) l i = nth l i := rfl
def ctx (specs : List (Nat × FSpec)) (wr : List Nat) : Ctx := { specs := specs, tys := tys, wr := wr }
theorem snd {specs : List (Nat × FSpec)} (h : SpecsOk Tryd.prog specs) (wr : List Nat) : Sound Tryd.prog (ctx specs wr) := SpecsOk.sound h tys_ok (by kernel_rfl)
theorem pic_of {m : View} {w : World} (hm : m.on w) {p : tPic.den} {v : Value} (h : RdV m tPic p v) : ∃ A c, v = .agg #[.int .i64 p.1, .int .i64 p.2.1, .slice A p.2.2.length c] /\ SI w A p.2.2.length c p.2.2 := by
  obtain ⟨cs, rfl, u, v, rfl, h1, u', v', rfl, h2, h3⟩ := h
  obtain rfl : u = [.int .i64 p.1] := h1
  obtain rfl : u' = [.int .i64 p.2.1] := h2
  obtain ⟨A, c, h4⟩ := id h3
  obtain ⟨A, c, e, hs⟩ := rd_SI hm (v := .slice A p.2.2.length c) (by rw [<- h4.1]; exact h3)
  have : v' = [.slice A p.2.2.length c] := by rw [h4.1, e]
  subst this
  exact ⟨A, c, rfl, hs⟩
theorem pic_mk0 {w : World} {W H : Int} {l : List Int} {A : Option Addr} {c : Nat} (h : SI w A l.length c l) : RdV (fun b => w.heap[b]?) tPic (W, H, l) (.agg #[.int .i64 W, .int .i64 H, .slice A l.length c]) :=
  ⟨[.int .i64 W, .int .i64 H, .slice A l.length c], rfl, [.int .i64 W], [.int .i64 H, .slice A l.length c], rfl, rfl, [.int .i64 H], [.slice A l.length c], rfl, rfl, SI_rd0 h⟩
def sPB (f : Int -> Int -> List Int -> Bool) : FSpec := tspec true none [tPic] [.bool] (fun _ => True) (fun x => (f x.1.1 x.1.2.1 x.1.2.2, ()))
def sPPB (f : Int -> Int -> List Int -> Int -> Int -> List Int -> Bool) : FSpec := tspec true none [tPic, tPic] [.bool] (fun _ => True) (fun x => (f x.1.1 x.1.2.1 x.1.2.2 x.2.1.1 x.2.1.2.1 x.2.1.2.2, ()))
theorem valid_meets : Meets Tryd.prog 19 (sPB validP) := meets_of ⟨_, _, Tryd.func19, rfl, rfl⟩ fun w m x vs hm _ hx => by
  obtain ⟨u, us, rfl, h1, h2⟩ := hx
  obtain rfl : us = [] := h2
  obtain ⟨A, c, rfl, hs⟩ := pic_of hm h1
  exact (Valid_any A _ c _ _ _ w hs).mono fun e w' ⟨h1, h2⟩ => ⟨_, h1, h2, [_], rfl, _, _, rfl, rfl, rfl⟩
theorem rvalid_meets : Meets Tryd.prog 11 (sPB validP) := meets_of ⟨_, _, Tryd.func11, rfl, rfl⟩ fun w m x vs hm _ hx => by
  obtain ⟨u, us, rfl, h1, h2⟩ := hx
  obtain rfl : us = [] := h2
  obtain ⟨A, c, rfl, hs⟩ := pic_of hm h1
  exact (rValid_any A _ c _ _ _ w hs).mono fun e w' ⟨h1, h2⟩ => ⟨_, h1, h2, [_], rfl, _, _, rfl, rfl, rfl⟩
theorem same_meets : Meets Tryd.prog 10 (sPPB samePB) := meets_of ⟨_, _, Tryd.func10, rfl, rfl⟩ fun w m x vs hm _ hx => by
  obtain ⟨u, us, rfl, h1, u', us', rfl, h2, h3⟩ := hx
  obtain rfl : us' = [] := h3
  obtain ⟨A, c, rfl, hs⟩ := pic_of hm h1
  obtain ⟨B, d, rfl, hs'⟩ := pic_of hm h2
  exact (Same_any A B _ _ c d _ _ _ _ _ _ w hs hs').mono fun e w' ⟨h1, h2⟩ => ⟨_, h1, h2, [_], rfl, _, _, rfl, rfl, rfl⟩
theorem awake_meets : Meets Tryd.prog 5 (tspec true none [] [.bool] (fun _ => True) (fun _ => (true, ()))) := meets_of ⟨_, _, Tryd.func5, rfl, rfl⟩ fun w m x vs hm _ hx => by
  obtain rfl : vs = [] := hx
  exact (awake_any w).mono fun e w' ⟨h1, h2⟩ => ⟨_, h1, h2, [_], rfl, _, _, rfl, rfl, rfl⟩
theorem sndAt {m0 : View} {specs : List (Nat × FSpec)} (h : SpecsAt Tryd.prog m0 specs) : SoundAt Tryd.prog (ctx specs []) m0 := SpecsAt.sound h tys_ok (by kernel_rfl)
def longB (l : List (List Int)) : Bool := l.any fun x => decide (600 < x.length)
def ivLong (l : List (List Int)) : Nat -> Option Inv
  | 0 => some (Inv.of [3, 4, 7] 0 (fun k : Nat => [(3, .any), (4, .any), (7, .lit (.int .i64 k))]) (fun _ => []) (fun k => k <= l.length /\ (l.take k).any (fun x => decide (600 < x.length)) = false) (fun k => l.length - k))
  | _ => none
theorem long_meets : Meets Tryd.prog 4 (tspec true none [.list tInts] [.bool] (fun x => x.1.length <= 1000) (fun x => (longB x.1, ()))) := by
  refine meets (snd (SpecsOk.nil _) []) Tryd.func4 rfl rfl (fun x => ivLong x.1) (fun _ => by kernel_rfl) (by decide) ?_
  rintro ⟨l, ⟨⟩⟩ hml
  revert l
  intro (l : List (List Int)) (hml : l.length <= 1000)
  refine @by_vc _ (∃ (v0:Unit),∃ (v1:Nat),(v1 <= List.length l/\(List.any (List.take v1 l) fun (v2 : List Int) => decide ((600:Nat) < List.length v2))=false)/\((True/\True/\(0:Int)=(↑v1:Int)/\True)/\True)/\∀ (v2:Nat),v2 <= List.length l/\(List.any (List.take v2 l) fun (v4 : List Int) => decide ((600:Nat) < List.length v4))=false->(decide ((↑v2:Int) < (↑(List.length l):Int))=true->((0:Int) <= (↑v2:Int)/\(↑v2:Int) < (↑(List.length l):Int))/\(decide ((600:Int) < (↑(List.length (nthD tInts l (Int.toNat (↑v2:Int)))):Int))=true->true=longB l)/\(decide ((600:Int) < (↑(List.length (nthD tInts l (Int.toNat (↑v2:Int)))):Int))=false->fits .i64 ((↑v2:Int) + (1:Int))/\∃ (v6:Nat),(v6 <= List.length l/\(List.any (List.take v6 l) fun (v7 : List Int) => decide ((600:Nat) < List.length v7))=false)/\List.length l - v6 < List.length l - v2/\(True/\True/\(↑v2:Int) + (1:Int)=(↑v6:Int)/\True)/\True))/\(decide ((↑v2:Int) < (↑(List.length l):Int))=false->false=longB l)) (by kernel_rfl) ?_
  simp only [ne_eq, true_and, and_true, eq_self, Bool.not_eq_true', Bool.not_eq_false', decide_eq_true_eq, decide_eq_false_iff_not, Nat.le_eq, Int.not_lt, Int.not_le, Int.reduceEq, not_false_eq_true, Bool.not_eq_eq_eq_not, Bool.not_true, Bool.not_false, Int.ofNat_lt, Int.ofNat_le, Int.toNat_natCast, Int.natCast_nonneg, nthD_nth, beq_iff_eq, bne_iff_ne, beq_eq_false_iff_ne, bne_eq_false_iff_eq, Classical.not_not, List.length_cons, List.length_nil, Nat.zero_add, List.nil_append, true_implies, Nat.lt_add_one, Nat.zero_lt_succ, Int.reduceLE, Int.reduceLT]
  refine ⟨(), 0, ⟨Nat.zero_le _, by simp⟩, rfl, fun k ⟨hk, hf⟩ => ⟨fun hlt => ⟨hlt, fun h => ?_, fun h => ⟨fits64 (by omega) (by omega), k + 1, ⟨by omega, ?_⟩, by omega, by omega⟩⟩, fun hge => ?_⟩⟩
  · unfold longB
    symm
    rw [List.any_eq_true]
    exact ⟨l[k], List.getElem_mem _, by rw [nthD_at (t := tInts) l k hlt] at h; simp; omega⟩
  · rw [List.take_succ_eq_append_getElem hlt, List.any_append, hf]
    rw [nthD_at (t := tInts) l k hlt] at h
    simp; omega
  · rw [List.take_of_length_le (by omega)] at hf
    exact hf.symm
end Go.Proofs.YtmijnbjlhnpokaaDoor
