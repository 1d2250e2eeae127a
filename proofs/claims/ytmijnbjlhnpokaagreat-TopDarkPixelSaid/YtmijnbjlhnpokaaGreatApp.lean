/- Appending a slice to a row of the call's own; cuts of slices of slices; the row that slices.Grow makes. No condition. -/
import Derived.Test.YtmijnbjlhnpokaaGreatOwn
import Derived.Lib.AppendZeros
namespace Ls
open Go Go.RowKit
def SV (w:World) (A:Option Addr) (k:Nat) (us:List Value):Prop:=us.length=k/\(0<k->∃ad,A=some ad/\∀j u,us[j]? = some u->w.cell? (ad.add j)=some u)
theorem SV.below {w w':World} {A:Option Addr} {k:Nat} {us:List Value} (h:SV w A k us) (hb:Below w.heap.size w w'):SV w' A k us:=
 ⟨h.1,λhk=>by
  obtain⟨ad,e,hc⟩:=h.2 hk
  exact⟨ad,e,λj u hu=>Below.cell_of hb (hc j u hu)⟩⟩
theorem SI.values {w:World} {A:Option Addr} {n c:Nat} {zs:List Int} (h:SI w A n c zs):SV w A n (ints zs):=
 ⟨by rw[wa8]; exact h.len,λhn=>by
  obtain⟨ad,e,hc⟩:=h.at_ hn
  refine⟨ad,e,λj u hu=>?_⟩
  have hj:j<zs.length:=by
   rcases Nat.lt_or_ge j zs.length with hlt | hge
   ·exact hlt
   ·rw[List.getElem?_eq_none (by rw[wa8]; exact hge)] at hu; cases hu
  rw[w0r zs j hj] at hu
  cases hu
  exact hc j (by rw[<- h.len]; exact hj)⟩
def RowsRead (w:World) (us:List Value) (m:List (List Int)):Prop:=
 us.length=m.length/\∀k,k<m.length->∃A c,us[k]? = some (.slice A (nthL m k).length c)/\SI w A (nthL m k).length c (nthL m k)
theorem RowsRead.below {w w':World} {us:List Value} {m:List (List Int)} (h:RowsRead w us m) (hb:Below w.heap.size w w'):RowsRead w' us m:=
 ⟨h.1,λk hk=>by
  obtain⟨A,c,h1,h2⟩:=h.2 k hk
  exact⟨A,c,h1,h2.below hb⟩⟩
theorem RowsOwn.read {w:World} {B e:Nat} {us:List Value} {m:List (List Int)} (h:RowsOwn w B e us m):RowsRead w us m:=
 ⟨h.1,λk hk=>by
  obtain⟨A,c,h1,h2⟩:=h.2 k hk
  exact⟨A,c,h1,w6g h2⟩⟩
theorem wo6 (a b:List (List Int)) (k:Nat) (h:k<a.length):nthL (a++b) k=nthL a k:=by simp[nthL,List.getElem?_append_left h]
theorem q9s (a b:List (List Int)) (k:Nat) (h:a.length<=k):nthL (a++b) k=nthL b (k-a.length):=by simp[nthL,List.getElem?_append_right h]
theorem RowsRead.append {w:World} {us vs:List Value} {a b:List (List Int)} (h:RowsRead w us a) (k:RowsRead w vs b):RowsRead w (us++vs) (a++b):=by
 refine⟨by simp[h.1,k.1],λi hi=>?_⟩
 by_cases hlt:i<a.length
 ·rw[wo6 a b i hlt,List.getElem?_append_left (by rw[h.1]; exact hlt)]
  exact h.2 i hlt
 ·rw[q9s a b i (by omega),List.getElem?_append_right (by rw[h.1]; omega),h.1]
  exact k.2 (i-a.length) (by simp at hi; omega)
theorem RowsOwn.append {w:World} {B e:Nat} {us vs:List Value} {a b:List (List Int)} (h:RowsOwn w B e us a) (k:RowsOwn w B e vs b):RowsOwn w B e (us++vs) (a++b):=by
 refine⟨by simp[h.1,k.1],λi hi=>?_⟩
 by_cases hlt:i<a.length
 ·rw[wo6 a b i hlt,List.getElem?_append_left (by rw[h.1]; exact hlt)]
  exact h.2 i hlt
 ·rw[q9s a b i (by omega),List.getElem?_append_right (by rw[h.1]; omega),h.1]
  exact k.2 (i-a.length) (by simp at hi; omega)
theorem SM.values {w:World} {A:Option Addr} {n c:Nat} {m:List (List Int)} (h:SM w A n c m):∃us,SV w A n us/\RowsRead w us m:=by
 by_cases hn:0<n
 ·obtain⟨ad,rfl,hc⟩:=h.at_ hn
  refine⟨(List.range n).map λk=>(w.cell? (ad.add k)).getD undef,⟨by simp,λ_=>⟨ad,rfl,λj u hu=>?_⟩⟩,by simp[h.len],λk hk=>?_⟩
  ·have hj:j<n:=by
    rcases Nat.lt_or_ge j n with hlt | hge
    ·exact hlt
    ·rw[List.getElem?_eq_none (by simpa using hge)] at hu; cases hu
   obtain⟨A',c',h1,_⟩:=hc j hj
   simp[hj,h1] at hu
   rw[h1,hu]
  ·obtain⟨A',c',h1,h2⟩:=hc k (by rw[<- h.len]; exact hk)
   exact⟨A',c',by simp[h1,show k<n by rw[<- h.len]; exact hk],h2⟩
 ·have h0:n=0:=by omega
  subst h0
  have hm:m=[]:=List.eq_nil_of_length_eq_zero h.len
  subst hm
  exact⟨[],⟨rfl,λhk=>absurd hk (by omega)⟩,rfl,λk hk=>absurd hk (by simp)⟩
theorem SM.take {w:World} {A:Option Addr} {n c:Nat} {m:List (List Int)} (h:SM w A n c m) (k:Nat) (hk:k<=n):SM w A k c (m.take k):=by
 refine⟨by have:=h.len; simp; omega,Nat.le_trans hk h.cap,h.2.2.1,λh0=>?_⟩
 obtain⟨ad,rfl,hc⟩:=h.at_ (by omega)
 refine⟨ad,rfl,λi hi=>?_⟩
 have e:nthL (m.take k) i=nthL m i:=by simp[nthL,hi]
 rw[e]
 exact hc i (by omega)
theorem SM.drop {w:World} {A:Option Addr} {n c:Nat} {m:List (List Int)} (h:SM w A n c m) (k:Nat) (hk:k<=n):SM w (if c=k then A else A.map (·.add k)) (n-k) (c-k) (m.drop k):=by
 refine⟨by have:=h.len; simp; omega,by have:=h.cap; omega,Nat.le_trans (Nat.sub_le _ _) h.2.2.1,λh0=>?_⟩
 obtain⟨ad,rfl,hc⟩:=h.at_ (by omega)
 have hck:¬c=k:=by have:=h.cap; omega
 rw[if_neg hck]
 refine⟨ad.add k,rfl,λi hi=>?_⟩
 have e:nthL (m.drop k) i=nthL m (k+i):=by simp[nthL]
 rw[e,add_add]
 exact hc (k+i) (by omega)
section
variable {P : Program} (w : World)
theorem q4o (base:Nat) (t ty e:TypeId) (i:TypeInfo) (size:Nat) (ht:P.underlying t=some (.slice e)) (hi:P.info? e=some i)
  (v:Value) (n:Nat) (xs:List Value) (hown:w.ownsRow base e size v n xs) (c:Nat):(Builtin.append_ #[t,t] ty #[v,.slice none 0 c]).run P w=.ok v w:=by
 rcases hown.2 with⟨rfl,rfl⟩ | ⟨g,cap,cur,rfl,_,_,hnc,_⟩
 ·simp[Builtin.append_,run_underlying ht,Go.sizeOf,typeInfo,hi,Builtin.lenOf,Builtin.firstCells]
 ·simp[Builtin.append_,run_underlying ht,Go.sizeOf,typeInfo,hi,Builtin.lenOf,Builtin.firstCells,hnc,storeCells]
theorem xk5 {t ty e:TypeId} {z:Value} {bytes B n k c:Nat} {v:Value} {A:Option Addr} {xs us:List Value} {w0:World}
  (E:Elt P t e z 1 bytes) (hz:z.cells.size=1) (hown:w.ownsRow B e 1 v n xs) (hb:Below B w0 w) (hB:B<=w0.heap.size) (hs:SV w A k us) (h1:∀u∈us,u.oneCell'=true) (hnk:n+k<1000000) (hby:bytes<=1000000) :
  ∃A' c' w',(Builtin.append_ #[t,t] ty #[v,.slice A k c]).run P w=.ok (.slice A' (n+k) c') w'/\w'.ownsRow B e 1 (.slice A' (n+k) c') (n+k) (xs++us)/\Below B w0 w'/\w.grownBy w' v.ownBlock:=by
 obtain⟨i,hi,hz0,hz1,hz2⟩:=info_parts E.info
 have hsz:=hb.size
 have hbb:(n+k)*bytes<=1000000*1000000:=Nat.mul_le_mul (by omega) hby
 cases A with
 | none=>
  have hk:k=0:=by
   rcases Nat.eq_zero_or_pos k with h0 | h0
   ·exact h0
   ·obtain⟨ad,h,_⟩:=hs.2 h0; cases h
  subst hk
  have hu:us=[]:=List.eq_nil_of_length_eq_zero hs.1
  subst hu
  obtain⟨A',c',rfl,_,_,_⟩:=wa9 hown
  exact⟨A',c',w,q4o w B t ty e i 1 E.under hi _ n xs hown c,by simpa using hown,hb,World.grownBy.refl w _⟩
 | some ad=>
  have hcells:∀j u,us[j]? = some u->w.cell? (ad.add j)=some u:=by
   intro j u hu
   rcases Nat.eq_zero_or_pos k with h0 | h0
   ·have:us=[]:=List.eq_nil_of_length_eq_zero (by rw[hs.1]; exact h0)
    subst this; simp at hu
   ·obtain⟨ad',h,hc⟩:=hs.2 h0
    injection h with h
    subst h
    exact hc j u hu
  obtain⟨v',w',hrun,h2,h3,_⟩:=run_append_own (P:=P) w B t ty e i z 1 bytes E.under hi hz0 hz1 hz2 hz (by decide) v n xs hown ad k c us (by rw[hs.1]; omega) hcells h1 (by unfold maxLen; omega) (by omega) (by omega)
  obtain⟨A',c',rfl,_,_,_⟩:=wa9 h2
  exact⟨A',c',w',hrun,h2,hb.grown h3 (by omega) (λg hg=>(hown.lt g hg).1),h3⟩
theorem yi9 {ops:Array Oper} {rest:List Oper} {o:Oper} {a:Act} {Q:Exit->Act->World->Prop} {w0:World} {t e:TypeId} {z:Value} {bytes B n k c:Nat} {v:Value} {A:Option Addr} {xs us:List Value}
  (E:Elt P t e z 1 bytes) (hz:z.cells.size=1) (hgd:o.guard=none) (s x:Operand)
  (ho:o.op=.call { callee:=.builtin .append,args:=#[s,x],argTypes:=#[t,t] })
  (hs:a.eval s=v) (hx:a.eval x=.slice A k c)
  (hown:w.ownsRow B e 1 v n xs) (hb:Below B w0 w) (hB:B<=w0.heap.size) (hsv:SV w A k us) (h1:∀u∈us,u.oneCell'=true) (hnk:n+k<1000000) (hby:bytes<=1000000)
  (h:∀A' c' w',w'.ownsRow B e 1 (.slice A' (n+k) c') (n+k) (xs++us)->Below B w0 w'->w.grownBy w' v.ownBlock->wpList P ops Q rest (a.put o.dst (.slice A' (n+k) c')) w') :
  wpList P ops Q (o :: rest) a w:=by
 obtain⟨A',c',w',hrun,h2,h3,h4⟩:=xk5 (P:=P) (ty:=o.type) (c:=c) w E hz hown hb hB hsv h1 hnk hby
 exact Lib.wpList_append_run w hgd s x t t ho v (.slice A k c) hs hx _ w' hrun (h A' c' w' h2 h3 h4)
end
theorem xk6 (zs:List Int):∀u∈ints zs,u.oneCell'=true:=by
 intro u hu
 simp only[ints,List.mem_map] at hu
 obtain⟨z,_,rfl⟩:=hu
 rfl
end Ls
