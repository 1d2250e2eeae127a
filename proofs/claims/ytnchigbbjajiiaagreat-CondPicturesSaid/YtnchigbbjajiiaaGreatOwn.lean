/- Rows of the call's own that hold rows of the call's own: a slice of slices that is being built. No condition. -/
import Derived.Test.YtnchigbbjajiiaaGreatCore
import Derived.Deep.RegionLaw
set_option linter.unusedVariables false
set_option linter.unusedSimpArgs false
namespace Ls
open Go Go.RowKit
def KeepsT (e:TypeId) (w w':World):Prop:=∀(g:Nat) (cur:Array Value),w.heap[g]? = some (Obj.cells cur e (0,0))->w'.heap[g]? = some (Obj.cells cur e (0,0))
theorem KeepsT.of_below {e:TypeId} {w w':World} (h:Below w.heap.size w w'):KeepsT e w w':=λg _ hh=>(h.block g (zan.1 hh).1).trans hh
theorem q69 {w w':World} {B e size n:Nat} {v:Value} {xs:List Value} (h:w.ownsRow B e size v n xs) (hk:KeepsT e w w'):w'.ownsRow B e size v n xs:=by
 refine⟨h.1,?_⟩
 rcases h.2 with h0 | ⟨g,cap,cur,hv,hB,hg,r⟩
 ·grind
 ·exact .inr ⟨g,cap,cur,hv,hB,hk g cur hg,r⟩
theorem KeepsT.stored {w w':World} {B e e' size n c g:Nat} {xs:List Value} (hne:e≠e') (h:w.ownsRow B e' size (.slice (some ⟨g,0,none⟩) n c) n xs) (hg:w.grownBy w' (some g)):KeepsT e w w':=by
 intro k cur hk
 have hne':k≠g:=by
  rintro rfl
  rcases h.2 with⟨h0,_⟩ | ⟨g',cap,cur',hv,_,hh,_⟩
  all_goals grind
 exact(hg.block k (zan.1 hk).1 (by grind)).trans hk
def RowsOwn (w:World) (B e:Nat) (vs:List Value) (rs:List (List Int)):Prop:=
 vs.length=rs.length/\∀r,r<rs.length->∃A c,vs[r]? = some (.slice A (nthL rs r).length c)/\w.ownsRow B e 1 (.slice A (nthL rs r).length c) (nthL rs r).length (ints (nthL rs r))
theorem RowsOwn.keep {w w':World} {B e:Nat} {vs:List Value} {rs:List (List Int)} (h:RowsOwn w B e vs rs) (hk:KeepsT e w w'):RowsOwn w' B e vs rs:=
 ⟨h.1,λr hr=>by
  obtain⟨A,c,h1,h2⟩:=h.2 r hr
  grind [q69]⟩
theorem x63 {w:World} {B B' e e' n:Nat} {A:Option Addr} {c:Nat} {vs:List Value} {rs:List (List Int)} (h:w.ownsRow B e' 1 (.slice A n c) n vs) (hr:RowsOwn w B' e vs rs):SM w A n c rs:=by
 have hl:vs.length=n:=by have:=h.1; omega
 obtain⟨A',c',hv,h1,h2,h3⟩:=q3r h
 injection hv with e1 e2 e3
 subst e1; subst e3
 refine⟨by rw[<- hr.1]; omega,h1,h2,λhn=>?_⟩
 obtain⟨g,rfl,_,_⟩:=h3 hn
 refine⟨_,rfl,λk hk=>?_⟩
 obtain⟨A1,c1,h4,h5⟩:=hr.2 k (by rw[<- hr.1,hl]; omega)
 exact⟨A1,c1,h.cells (g:=g) rfl k _ h4,x1r h5⟩
theorem below_none {w w':World} (h:w.grownBy w' none):Below w.heap.size w w':=(zdl _ w).grown h (zab _) (λk e=>by cases e)
theorem w0i {w:World} {B e g n c:Nat} {xs:List Value} (h:w.ownsRow B e 1 (.slice (some ⟨g,0,none⟩) n c) n xs) (j:Nat) (hj:j<n) (v:Value) (hv:xs[j]? = some v):w.cell? ((⟨g,0,none⟩:Addr).add j)=some v:=by
 rw[<- hv]
 have ha:(⟨g,0,none⟩:Addr).add j=⟨g,j,none⟩:=by grind [Addr.add]
 rw[ha]
 exact h.cellAt j ow
theorem add_zero_lit (g j:Nat):(⟨g,0,none⟩:Addr).add j=⟨g,j,none⟩:=by grind [Addr.add]
end Ls
