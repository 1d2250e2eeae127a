/- Appending a slice where the append is guarded. No condition. -/
import Derived.Test.YtahccnljckgjmaaApp
namespace Ls
open Go Go.RowKit

theorem appNg {P : Program} (w : World) {ops : Array Oper} {rest : List Oper} {o : Oper} {a : Act} {Q : Exit → Act → World → Prop} {w0 : World} {t e : TypeId} {z : Value} {bytes B n k c : Nat} {v : Value} {A : Option Addr} {xs us : List Value}
    (E : Elt P t e z 1 bytes) (hz : z.cells.size = 1) (hgd : Region.wanted o (yielded ops a.tmps) = true) (s x : Operand)
    (ho : o.op = .call { callee := .builtin .append, args := #[s, x], argTypes := #[t, t] })
    (hs : a.eval s = v) (hx : a.eval x = .slice A k c)
    (hown : w.ownsRow B e 1 v n xs) (hb : Below B w0 w) (hB : B ≤ w0.heap.size) (hsv : SV w A k us) (h1 : ∀ u ∈ us, u.oneCell' = true) (hnk : n + k < 1000000) (hby : bytes ≤ 1000000)
    (h : ∀ A' c' w', w'.ownsRow B e 1 (.slice A' (n + k) c') (n + k) (xs ++ us) → Below B w0 w' → w.grownBy w' v.ownBlock → wpList P ops Q rest (a.put o.dst (.slice A' (n + k) c')) w') :
    wpList P ops Q (o :: rest) a w := by
  obtain ⟨A', c', w', hrun, h2, h3, h4⟩ := run_appN (P := P) (ty := o.type) (c := c) w E hz hown hb hB hsv h1 hnk hby
  refine wpList_step fun K hK => ?_
  rw [if_pos hgd]
  exact Lib.wp_append_run w s x t t ho v (.slice A k c) hs hx _ w' hrun (hK _ _ (h A' c' w' h2 h3 h4))

end Ls
