/- Rows of the call's own that hold rows of the call's own: a slice of slices that is being built. No condition. -/
import Derived.Test.YtmijnbjlhnpokaaGreatCore
import Derived.Deep.RegionLaw
namespace Ls
open Go Go.RowKit
def KeepsT (e:TypeId) (w w':World):Prop:=∀(g:Nat) (cur:Array Value),w.heap[g]? = some (Obj.cells cur e (0,0))->w'.heap[g]? = some (Obj.cells cur e (0,0))
theorem KeepsT.refl (e:TypeId) (w:World):KeepsT e w w:=λ_ _ h=>h
theorem KeepsT.trans {e:TypeId} {a b c:World} (h:KeepsT e a b) (k:KeepsT e b c):KeepsT e a c:=λg cur hh=>k g cur (h g cur hh)
theorem KeepsT.of_below {e:TypeId} {w w':World} (h:Below w.heap.size w w'):KeepsT e w w':=λg _ hh=>(h.block g (Array.getElem?_eq_some_iff.1 hh).1).trans hh
theorem q6e {w w':World} {B e size n:Nat} {v:Value} {xs:List Value} (h:w.ownsRow B e size v n xs) (hk:KeepsT e w w'):w'.ownsRow B e size v n xs:=by
 refine⟨h.1,?_⟩
 rcases h.2 with h0 | ⟨g,cap,cur,hv,hB,hg,r⟩
 ·exact .inl h0
 ·exact .inr ⟨g,cap,cur,hv,hB,hk g cur hg,r⟩
theorem KeepsT.stored {w w':World} {B e e' size n c g:Nat} {xs:List Value} (hne:e≠e') (h:w.ownsRow B e' size (.slice (some ⟨g,0,none⟩) n c) n xs) (hg:w.grownBy w' (some g)):KeepsT e w w':=by
 intro k cur hk
 have hne':k≠g:=by
  rintro rfl
  rcases h.2 with⟨h0,_⟩ | ⟨g',cap,cur',hv,_,hh,_⟩
  ·simp at h0
  ·simp only[Value.slice.injEq,Option.some.injEq,Addr.mk.injEq,and_true,true_and] at hv
   obtain⟨rfl,_⟩:=hv
   rw[hk] at hh
   injection hh with hh
   injection hh with _ ht
   exact hne ht
 exact(hg.block k (Array.getElem?_eq_some_iff.1 hk).1 (by simpa using hne')).trans hk
theorem KeepsT.grown {w w':World} {B e e' size n:Nat} {v:Value} {xs:List Value} (hne:e≠e') (h:w.ownsRow B e' size v n xs) (hg:w.grownBy w' v.ownBlock):KeepsT e w w':=by
 intro k cur hk
 have hne':some k≠v.ownBlock:=by
  intro hkv
  rcases h.2 with⟨h0,_⟩ | ⟨g',cap,cur',hv,_,hh,_⟩
  ·subst h0; simp[Value.ownBlock] at hkv
  ·subst hv
   simp only[Value.ownBlock,Option.some.injEq] at hkv
   subst hkv
   rw[hk] at hh
   injection hh with hh
   injection hh with _ ht
   exact hne ht
 exact(hg.block k (Array.getElem?_eq_some_iff.1 hk).1 hne').trans hk
def RowsOwn (w:World) (B e:Nat) (vs:List Value) (rs:List (List Int)):Prop:=
 vs.length=rs.length/\∀r,r<rs.length->∃A c,vs[r]? = some (.slice A (nthL rs r).length c)/\w.ownsRow B e 1 (.slice A (nthL rs r).length c) (nthL rs r).length (ints (nthL rs r))
theorem RowsOwn.nil (w:World) (B e:Nat):RowsOwn w B e [] []:=⟨rfl,λr h=>absurd h (by simp)⟩
theorem RowsOwn.keep {w w':World} {B e:Nat} {vs:List Value} {rs:List (List Int)} (h:RowsOwn w B e vs rs) (hk:KeepsT e w w'):RowsOwn w' B e vs rs:=
 ⟨h.1,λr hr=>by
  obtain⟨A,c,h1,h2⟩:=h.2 r hr
  exact⟨A,c,h1,q6e h2 hk⟩⟩
theorem RowsOwn.snoc {w:World} {B e:Nat} {vs:List Value} {rs:List (List Int)} {A:Option Addr} {n c:Nat} {l:List Int} (h:RowsOwn w B e vs rs) (hn:l.length=n) (ho:w.ownsRow B e 1 (.slice A n c) n (ints l)):RowsOwn w B e (vs++[.slice A n c]) (rs++[l]):=by
 subst hn
 refine⟨by simp[h.1],λr hr=>?_⟩
 by_cases hlt:r<rs.length
 ·obtain⟨A',c',h1,h2⟩:=h.2 r hlt
  have e1:nthL (rs++[l]) r=nthL rs r:=by simp[nthL,List.getElem?_append_left hlt]
  rw[e1]
  exact⟨A',c',by rw[List.getElem?_append_left (by rw[h.1]; exact hlt)]; exact h1,h2⟩
 ·have hrr:r=rs.length:=by simp at hr; omega
  subst hrr
  have e1:nthL (rs++[l]) rs.length=l:=by simp[nthL]
  rw[e1]
  exact⟨A,c,by rw[<- h.1]; simp,ho⟩
theorem RowsOwn.base {w:World} {B B' e:Nat} {vs:List Value} {rs:List (List Int)} (h:RowsOwn w B e vs rs) (hB:B'<=B):RowsOwn w B' e vs rs:=
 ⟨h.1,λr hr=>by
  obtain⟨A,c,h1,h2⟩:=h.2 r hr
  exact⟨A,c,h1,own_base h2 hB⟩⟩
theorem below_none {w w':World} (h:w.grownBy w' none):Below w.heap.size w w':=(Below.refl _ w).grown h (Nat.le_refl _) (λk e=>by cases e)
theorem add_zero_lit (g j:Nat):(⟨g,0,none⟩:Addr).add j=⟨g,j,none⟩:=by unfold Addr.add; split <;> simp_all
theorem KeepsT.under {e:TypeId} {a b c:World} (h:KeepsT e a b) (hb:Below a.heap.size b c):KeepsT e a c:=λg cur hh=>
 (hb.block g (Array.getElem?_eq_some_iff.1 hh).1).trans (h g cur hh)
theorem S3.below {w w':World} {A:Option Addr} {n c:Nat} {m:List (List (List Int))} (h:S3 w A n c m) (hb:Below w.heap.size w w'):S3 w' A n c m:=
 ⟨h.1,h.2.1,h.2.2.1,λhn=>by
  obtain⟨ad,e,hc⟩:=h.2.2.2 hn
  refine⟨ad,e,λk hk=>?_⟩
  obtain⟨A',c',h1,h2⟩:=hc k hk
  exact⟨A',c',Below.cell_of hb h1,h2.below hb⟩⟩
end Ls
