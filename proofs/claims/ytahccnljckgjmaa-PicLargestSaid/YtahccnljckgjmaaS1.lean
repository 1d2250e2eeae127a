/- The contracts of the pictures' functions that were proved by hand, in the engine's words. No condition. -/
import Derived.Test.YtahccnljckgjmaaTys
import Derived.Test.YtahccnljckgjmaaEng3
import Derived.Test.YtahccnljckgjmaaP14
import Derived.Test.YtahccnljckgjmaaP8
import Derived.Test.YtahccnljckgjmaaP13
set_option linter.unusedVariables false
namespace Go.Proofs.Ytahccnljckgjmaa
open Go Go.RowKit Eng Ls

abbrev tInt : Ty := .int .i64
abbrev tInts : Ty := .list (.int .i64)
abbrev tPic : Ty := .prod tInt (.prod tInt tInts)
abbrev nilV : AV := .lit (.slice .none 0 0)
def ctx (specs : List (Nat × FSpec)) (wr : List Nat) : Ctx := { specs := specs, tys := tys, wr := wr }
theorem snd {specs : List (Nat × FSpec)} (h : SpecsOk Try.prog specs) (wr : List Nat) : Sound Try.prog (ctx specs wr) := SpecsOk.sound h tys_ok (by kernel_rfl)

theorem pic_of {m : View} {w : World} (hm : m.on w) {p : tPic.den} {v : Value} (h : RdV m tPic p v) : ∃ A c, v = .agg #[.int .i64 p.1, .int .i64 p.2.1, .slice A p.2.2.length c] ∧ SI w A p.2.2.length c p.2.2 := by
  obtain ⟨cs, rfl, u, v, rfl, h1, u', v', rfl, h2, h3⟩ := h
  obtain rfl : u = [.int .i64 p.1] := h1
  obtain rfl : u' = [.int .i64 p.2.1] := h2
  obtain ⟨A, c, h4⟩ := id h3
  obtain ⟨A, c, e, hs⟩ := rd_SI hm (v := .slice A p.2.2.length c) (by rw [← h4.1]; exact h3)
  have : v' = [.slice A p.2.2.length c] := by rw [h4.1, e]
  subst this
  exact ⟨A, c, rfl, hs⟩
theorem pic_mk {w : World} {B : Nat} {W H : Int} {l : List Int} {A : Option Addr} {c : Nat} (h : SI w A l.length c l) (hB : ∀ ad, A = some ad → B ≤ ad.block) : RdV (View.from w B) tPic (W, H, l) (.agg #[.int .i64 W, .int .i64 H, .slice A l.length c]) :=
  ⟨[.int .i64 W, .int .i64 H, .slice A l.length c], rfl, [.int .i64 W], [.int .i64 H, .slice A l.length c], rfl, rfl, [.int .i64 H], [.slice A l.length c], rfl, rfl, SI_rd h hB⟩

theorem pic_mk0 {w : World} {W H : Int} {l : List Int} {A : Option Addr} {c : Nat} (h : SI w A l.length c l) : RdV (fun b => w.heap[b]?) tPic (W, H, l) (.agg #[.int .i64 W, .int .i64 H, .slice A l.length c]) :=
  ⟨[.int .i64 W, .int .i64 H, .slice A l.length c], rfl, [.int .i64 W], [.int .i64 H, .slice A l.length c], rfl, rfl, [.int .i64 H], [.slice A l.length c], rfl, rfl, SI_rd0 h⟩
/-- One picture to a bool. -/
def sPB (f : Int → Int → List Int → Bool) : FSpec := tspec true none [tPic] [.bool] (fun _ => True) (fun x => (f x.1.1 x.1.2.1 x.1.2.2, ()))
/-- Two pictures to a bool. -/
def sPPB (f : Int → Int → List Int → Int → Int → List Int → Bool) : FSpec := tspec true none [tPic, tPic] [.bool] (fun _ => True) (fun x => (f x.1.1 x.1.2.1 x.1.2.2 x.2.1.1 x.2.1.2.1 x.2.1.2.2, ()))
/-- A list to a bool. -/
def sLB (f : List Int → Bool) : FSpec := tspec true none [tInts] [.bool] (fun _ => True) (fun x => (f x.1, ()))
/-- A picture to a picture and an error. -/
def sPP (fr : Bool) (f : Int → Int → List Int → Int × Int × List Int) (g : Int → Int → List Int → Int) : FSpec := tspec fr none [tPic] [tPic, tInt] (fun _ => True) (fun x => (f x.1.1 x.1.2.1 x.1.2.2, g x.1.1 x.1.2.1 x.1.2.2, ()))
/-- A picture and a number to a picture and an error. -/
def sPIP (fr : Bool) (f : Int → Int → Int → List Int → Int × Int × List Int) (g : Int → Int → List Int → Int) : FSpec := tspec fr none [tPic, tInt] [tPic, tInt] (fun _ => True) (fun x => (f x.2.1 x.1.1 x.1.2.1 x.1.2.2, g x.1.1 x.1.2.1 x.1.2.2, ()))

theorem valid_meets : Meets Try.prog 20 (sPB validP) := meets_of ⟨_, _, Try.func20, rfl, rfl⟩ fun w m x vs hm _ hx => by
  obtain ⟨u, us, rfl, h1, h2⟩ := hx
  obtain rfl : us = [] := h2
  obtain ⟨A, c, rfl, hs⟩ := pic_of hm h1
  exact (Valid_any A _ c _ _ _ w hs).mono fun e w' ⟨h1, h2⟩ => ⟨_, h1, h2, [_], rfl, _, _, rfl, rfl, rfl⟩
theorem rvalid_meets : Meets Try.prog 21 (sPB validP) := meets_of ⟨_, _, Try.func21, rfl, rfl⟩ fun w m x vs hm _ hx => by
  obtain ⟨u, us, rfl, h1, h2⟩ := hx
  obtain rfl : us = [] := h2
  obtain ⟨A, c, rfl, hs⟩ := pic_of hm h1
  exact (rValid_any A _ c _ _ _ w hs).mono fun e w' ⟨h1, h2⟩ => ⟨_, h1, h2, [_], rfl, _, _, rfl, rfl, rfl⟩
theorem same_meets : Meets Try.prog 36 (sPPB samePB) := meets_of ⟨_, _, Try.func36, rfl, rfl⟩ fun w m x vs hm _ hx => by
  obtain ⟨u, us, rfl, h1, u', us', rfl, h2, h3⟩ := hx
  obtain rfl : us' = [] := h3
  obtain ⟨A, c, rfl, hs⟩ := pic_of hm h1
  obtain ⟨B, d, rfl, hs'⟩ := pic_of hm h2
  exact (Same_any A B _ _ c d _ _ _ _ _ _ w hs hs').mono fun e w' ⟨h1, h2⟩ => ⟨_, h1, h2, [_], rfl, _, _, rfl, rfl, rfl⟩
theorem vlist_meets : Meets Try.prog 22 (sLB vlistB) := meets_of ⟨_, _, Try.func22, rfl, rfl⟩ fun w m x vs hm _ hx => by
  obtain ⟨u, us, rfl, h1, h2⟩ := hx
  obtain rfl : us = [] := h2
  obtain ⟨A, c, rfl, hs⟩ := rd_SI hm h1
  exact (validList_any A _ c _ w hs).mono fun e w' ⟨h1, h2⟩ => ⟨_, h1, h2, [_], rfl, _, _, rfl, rfl, rfl⟩
theorem rvlist_meets : Meets Try.prog 17 (sLB vlistB) := meets_of ⟨_, _, Try.func17, rfl, rfl⟩ fun w m x vs hm _ hx => by
  obtain ⟨u, us, rfl, h1, h2⟩ := hx
  obtain rfl : us = [] := h2
  obtain ⟨A, c, rfl, hs⟩ := rd_SI hm h1
  exact (rvalidList_any A _ c _ w hs).mono fun e w' ⟨h1, h2⟩ => ⟨_, h1, by subst h2; exact Below.refl _ _, [_], rfl, _, _, rfl, rfl, rfl⟩
theorem sameInts_meets : Meets Try.prog 27 (tspec true none [tInts, tInts] [.bool] (fun _ => True) (fun x => (sameB x.1 x.2.1, ()))) := meets_of ⟨_, _, Try.func27, rfl, rfl⟩ fun w m x vs hm _ hx => by
  obtain ⟨u, us, rfl, h1, u', us', rfl, h2, h3⟩ := hx
  obtain rfl : us' = [] := h3
  obtain ⟨A, c, rfl, hs⟩ := rd_SI hm h1
  obtain ⟨B, d, rfl, hs'⟩ := rd_SI hm h2
  exact (same_any A B _ _ c d _ _ w hs hs').mono fun e w' ⟨h1, h2⟩ => ⟨_, h1, h2, [_], rfl, _, _, rfl, rfl, rfl⟩
theorem awake_meets : Meets Try.prog 15 (tspec true none [] [.bool] (fun _ => True) (fun _ => (true, ()))) := meets_of ⟨_, _, Try.func15, rfl, rfl⟩ fun w m x vs hm _ hx => by
  obtain rfl : vs = [] := hx
  exact (awake_any w).mono fun e w' ⟨h1, h2⟩ => ⟨_, h1, h2, [_], rfl, _, _, rfl, rfl, rfl⟩
theorem mirrored_meets : Meets Try.prog 39 (sPP true (movR 4) movE) := meets_of ⟨_, _, Try.func39, rfl, rfl⟩ fun w m x vs hm _ hx => by
  obtain ⟨u, us, rfl, h1, h2⟩ := hx
  obtain rfl : us = [] := h2
  obtain ⟨A, c, rfl, hs⟩ := pic_of hm h1
  exact (Mirrored_any A _ c _ _ _ w hs).mono fun e w' ⟨A', c', h1, h2, h3, h4⟩ => ⟨_, h1, h4, [_, _], rfl, _, _, rfl, pic_mk h2 h3, _, _, rfl, rfl, rfl⟩
theorem rmirrored_meets : Meets Try.prog 40 (sPP true rmirR movE) := meets_of ⟨_, _, Try.func40, rfl, rfl⟩ fun w m x vs hm _ hx => by
  obtain ⟨u, us, rfl, h1, h2⟩ := hx
  obtain rfl : us = [] := h2
  obtain ⟨A, c, rfl, hs⟩ := pic_of hm h1
  exact (rMirrored_any A _ c _ _ _ w hs).mono fun e w' ⟨A', c', h1, h2, h3, h4⟩ => ⟨_, h1, h4, [_, _], rfl, _, _, rfl, pic_mk h2 h3, _, _, rfl, rfl, rfl⟩
theorem turned_meets : Meets Try.prog 37 (sPIP true (fun q => movR (quart q)) movE) := meets_of ⟨_, _, Try.func37, rfl, rfl⟩ fun w m x vs hm _ hx => by
  obtain ⟨u, us, rfl, h1, u', us', rfl, h2, h3⟩ := hx
  obtain rfl : us' = [] := h3
  obtain ⟨A, c, rfl, hs⟩ := pic_of hm h1
  obtain rfl : u' = .int .i64 x.2.1 := h2
  exact (Turned_any A _ c _ _ _ _ w hs).mono fun e w' ⟨A', c', h1, h2, h3, h4⟩ => ⟨_, h1, h4, [_, _], rfl, _, _, rfl, pic_mk h2 h3, _, _, rfl, rfl, rfl⟩
end Go.Proofs.Ytahccnljckgjmaa
