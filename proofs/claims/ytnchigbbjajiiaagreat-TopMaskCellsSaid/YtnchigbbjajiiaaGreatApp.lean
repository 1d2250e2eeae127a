/- Appending a slice to a row of the call's own; cuts of slices of slices; the row that slices.Grow makes. No condition. -/
import Derived.Test.YtnchigbbjajiiaaGreatOwn
import Derived.Lib.AppendZeros
set_option linter.unusedVariables false
set_option linter.unusedSimpArgs false
namespace Ls
open Go Go.RowKit
def SV (w:World) (A:Option Addr) (k:Nat) (us:List Value):Prop:=us.length=k/\(0<k->∃ad,A=some ad/\∀j u,us[j]? = some u->w.cell? (ad.add j)=some u)
theorem SV.below {w w':World} {A:Option Addr} {k:Nat} {us:List Value} (h:SV w A k us) (hb:Below w.heap.size w w'):SV w' A k us:=
 ⟨h.1,λhk=>by
  obtain⟨ad,e,hc⟩:=h.2 hk
  exact⟨ad,e,λj u hu=>Below.cell_of hb (hc j u hu)⟩⟩
theorem SI.values {w:World} {A:Option Addr} {n c:Nat} {zs:List Int} (h:SI w A n c zs):SV w A n (ints zs):=
 ⟨by rw[q91]; exact h.len,λhn=>by
  obtain⟨ad,e,hc⟩:=h.at_ hn
  refine⟨ad,e,λj u hu=>?_⟩
  have hj:j<zs.length:=by
   rcases zav j zs.length with hlt | hge
   ·exact hlt
   ·rw[zc3 (by rw[q91]; exact hge)] at hu; cases hu
  rw[wz9 zs j hj] at hu
  cases hu
  exact hc j (by rw[<- h.len]; exact hj)⟩
section
variable {P : Program} (w : World)
theorem q4f (base:Nat) (t ty e:TypeId) (i:TypeInfo) (size:Nat) (ht:P.underlying t=some (.slice e)) (hi:P.info? e=some i)
  (v:Value) (n:Nat) (xs:List Value) (hown:w.ownsRow base e size v n xs) (c:Nat):(Builtin.append_ #[t,t] ty #[v,.slice none 0 c]).run P w=.ok v w:=by
 rcases hown.2 with⟨rfl,rfl⟩ | ⟨g,cap,cur,rfl,_,_,hnc,_⟩
 ·simp[Builtin.append_,run_underlying ht,Go.sizeOf,typeInfo,hi,Builtin.lenOf,Builtin.firstCells]
 ·simp[Builtin.append_,run_underlying ht,Go.sizeOf,typeInfo,hi,Builtin.lenOf,Builtin.firstCells,hnc,storeCells]
theorem xk8 {t ty e:TypeId} {z:Value} {bytes B n k c:Nat} {v:Value} {A:Option Addr} {xs us:List Value} {w0:World}
  (E:Elt P t e z 1 bytes) (hz:z.cells.size=1) (hown:w.ownsRow B e 1 v n xs) (hb:Below B w0 w) (hB:B<=w0.heap.size) (hs:SV w A k us) (h1:∀u∈us,u.oneCell'=true) (hnk:n+k<1000000) (hby:bytes<=1000000) :
  ∃A' c' w',(Builtin.append_ #[t,t] ty #[v,.slice A k c]).run P w=.ok (.slice A' (n+k) c') w'/\w'.ownsRow B e 1 (.slice A' (n+k) c') (n+k) (xs++us)/\Below B w0 w'/\w.grownBy w' v.ownBlock:=by
 obtain⟨i,hi,hz0,hz1,hz2⟩:=info_parts E.info
 have hsz:=hb.size
 have hbb:(n+k)*bytes<=1000000*1000000:=zbb ow hby
 cases A with
 | none=>
  have hk:k=0:=by
   rcases zb2 k with h0 | h0
   ·exact h0
   ·obtain⟨ad,h,_⟩:=hs.2 h0; cases h
  subst hk
  have hu:us=[]:=zay hs.1
  subst hu
  obtain⟨A',c',rfl,_,_,_⟩:=q92 hown
  exact⟨A',c',w,q4f w B t ty e i 1 E.under hi _ n xs hown c,by simpa using hown,hb,World.grownBy.refl w _⟩
 | some ad=>
  have hcells:∀j u,us[j]? = some u->w.cell? (ad.add j)=some u:=by
   intro j u hu
   rcases zb2 k with h0 | h0
   ·have:us=[]:=zay (by rw[hs.1]; exact h0)
    subst this; simp at hu
   ·obtain⟨ad',h,hc⟩:=hs.2 h0
    injection h with h
    subst h
    exact hc j u hu
  obtain⟨v',w',hrun,h2,h3,_⟩:=run_append_own (P:=P) w B t ty e i z 1 bytes E.under hi hz0 hz1 hz2 hz dc v n xs hown ad k c us (by rw[hs.1]; omega) hcells h1 (by unfold maxLen; omega) ow ow
  obtain⟨A',c',rfl,_,_,_⟩:=q92 h2
  exact⟨A',c',w',hrun,h2,hb.grown h3 ow (λg hg=>(hown.lt g hg).1),h3⟩
theorem yn4 {ops:Array Oper} {rest:List Oper} {o:Oper} {a:Act} {Q:Exit->Act->World->Prop} {w0:World} {t e:TypeId} {z:Value} {bytes B n k c:Nat} {v:Value} {A:Option Addr} {xs us:List Value}
  (E:Elt P t e z 1 bytes) (hz:z.cells.size=1) (hgd:o.guard=none) (s x:Operand)
  (ho:o.op=.call { callee:=.builtin .append,args:=#[s,x],argTypes:=#[t,t] })
  (hs:a.eval s=v) (hx:a.eval x=.slice A k c)
  (hown:w.ownsRow B e 1 v n xs) (hb:Below B w0 w) (hB:B<=w0.heap.size) (hsv:SV w A k us) (h1:∀u∈us,u.oneCell'=true) (hnk:n+k<1000000) (hby:bytes<=1000000)
  (h:∀A' c' w',w'.ownsRow B e 1 (.slice A' (n+k) c') (n+k) (xs++us)->Below B w0 w'->w.grownBy w' v.ownBlock->wpList P ops Q rest (a.put o.dst (.slice A' (n+k) c')) w') :
  wpList P ops Q (o :: rest) a w:=by
 obtain⟨A',c',w',hrun,h2,h3,h4⟩:=xk8 (P:=P) (ty:=o.type) (c:=c) w E hz hown hb hB hsv h1 hnk hby
 exact Lib.wpList_append_run w hgd s x t t ho v (.slice A k c) hs hx _ w' hrun (h A' c' w' h2 h3 h4)
end
theorem xk9 (zs:List Int):∀u∈ints zs,u.oneCell'=true:=by
 intro u hu
 simp only[ints,List.mem_map] at hu
 obtain⟨z,_,rfl⟩:=hu
 rfl
end Ls
