/- Reduced rows as lists: one step of an elimination, whoever takes it. Plain mathematics. No condition. -/
import Derived.Test.YtmijnbjlhnpokaaGreatH8
import Derived.Test.YtmijnbjlhnpokaaGreatW2
set_option linter.unusedVariables false
set_option linter.unusedSimpArgs false
namespace Go.Proofs.YtmijnbjlhnpokaaGreat
open Go Go.RowKit Ls Eng
structure Pl (w:World) (B n g c:Nat) (vs:List Value) (rs:List (List Int)):Prop where
 head:w.ownsRow B 34 1 (.slice (some ⟨g,0,none⟩) n c) n vs
 rows:RowsOwn w B 3 vs rs
 apart:∀(i j:Nat) u v b,i≠j->vs[i]? = some u->vs[j]? = some v->u.ownBlock=some b->v.ownBlock=some b->False
theorem Pl.len {w:World} {B n g c:Nat} {vs:List Value} {rs:List (List Int)} (h:Pl w B n g c vs rs):vs.length=n/\rs.length=n:=by
 have h1:=h.head.1
 have h2:=h.rows.1
 omega
theorem qx0 {w:World} {B e size n:Nat} {v:Value} {xs:List Value} (h:w.ownsRow B e size v n xs) {b:Nat} (hb:v.ownBlock=some b):B<=b/\∃cur,w.heap[b]? = some (.cells cur e (0,0)):=by
 rcases h.2 with⟨h0,_⟩ | ⟨g,cap,cur,hv,hB,hg,_⟩
 ·subst h0; simp[Value.ownBlock] at hb
 ·subst hv
  simp only[Value.ownBlock,Option.some.injEq] at hb
  subst hb
  exact⟨hB,cur,hg⟩
theorem w94 {w w':World} {B e size n:Nat} {v:Value} {xs:List Value} (h:w.ownsRow B e size v n xs) (hk:∀b,v.ownBlock=some b->w'.heap[b]? = w.heap[b]?):w'.ownsRow B e size v n xs:=by
 refine⟨h.1,?_⟩
 rcases h.2 with h0 | ⟨g,cap,cur,hv,hB,hg,r⟩
 ·exact .inl h0
 ·exact .inr ⟨g,cap,cur,hv,hB,(hk g (by rw[hv]; rfl)).trans hg,r⟩
theorem Pl.step {w w3:World} {B n g c k:Nat} {vs:List Value} {rs:List (List Int)} {v v':Value} {l:List Int} {A':Option Addr} {c':Nat} (h:Pl w B n g c vs rs) (hk:k<n) (hv:vs[k]? = some v) (hl:nL rs k=l) (x:Int)
  (hv':v'=.slice A' (l.length+1) c') (hown:w3.ownsRow B 3 1 v' (l.length+1) (ints (l++[x]))) (hg:w.grownBy w3 v.ownBlock) (hb:∀b,v'.ownBlock=some b->v.ownBlock=some b\/w.heap.size<=b):Pl (w3.setCell ⟨g,k,none⟩ v') B n g c (vs.set k v') (rs.set k (l++[x]))/\w3.grownBy (w3.setCell ⟨g,k,none⟩ v') (some g):=by
 obtain⟨hvl,hrl⟩:=h.len
 obtain⟨A,cc,hvk,hvo⟩:=h.rows.2 k (by omega)
 rw[hv] at hvk
 obtain rfl:=Option.some.inj hvk
 have hgb:B<=g/\∃cur,w.heap[g]? = some (.cells cur 34 (0,0)):=qx0 h.head rfl
 have hgne:∀b,(Value.slice A (nthL rs k).length cc).ownBlock=some b->b≠g:=λb hb e=>by
  obtain⟨_,cur,h1⟩:=qx0 hvo hb
  obtain⟨_,cur2,h2⟩:=hgb
  subst e
  rw[h2] at h1
  injection h1 with h1
  injection h1 with _ h1
  exact absurd h1 (by decide)
 have hhead3:w3.ownsRow B 34 1 (.slice (some ⟨g,0,none⟩) n c) n vs:=w94 h.head λb hb=>by
  simp only[Value.ownBlock,Option.some.injEq] at hb
  subst hb
  obtain⟨_,cur,h2⟩:=hgb
  exact hg.block _ (Array.getElem?_eq_some_iff.1 h2).1 λe=>hgne _ e.symm rfl
 have hst:=hhead3.stored k v'
 have hkp:KeepsT 3 w3 (w3.setCell ⟨g,k,none⟩ v'):=KeepsT.stored (e:=3) (by decide) hhead3 hst.2
 refine⟨⟨hst.1,⟨by simp[h.rows.1],λr hr=>?_⟩,λi j u u' b hij hi hj hbi hbj=>?_⟩,hst.2⟩
 ·have hr2:r<rs.length:=by simpa using hr
  by_cases e:r=k
  ·subst e
   have e1:nthL (rs.set r (l++[x])) r=l++[x]:=(wd0 rs r (l++[x]) r hr2).trans (if_pos rfl)
   rw[e1]
   refine⟨A',c',by rw[List.getElem?_set_self (by omega),hv']; simp,?_⟩
   have h9:=q55 hown hkp
   rw[show(l++[x]).length=l.length+1 by simp,<- hv']
   exact h9
  ·obtain⟨A1,c1,q1,q2⟩:=h.rows.2 r hr2
   have e1:nthL (rs.set k (l++[x])) r=nthL rs r:=(wd0 rs k (l++[x]) r hr2).trans (if_neg e)
   rw[e1]
   refine⟨A1,c1,by rw[List.getElem?_set_ne (Ne.symm e)]; exact q1,q55 (w94 q2 λb hb=>?_) hkp⟩
   obtain⟨_,cur,h2⟩:=qx0 q2 hb
   exact hg.block _ (Array.getElem?_eq_some_iff.1 h2).1 λe2=>h.apart r k _ _ b e q1 hv hb e2.symm
 ·have old:∀(q:Nat) u,(vs.set k v')[q]? = some u->q≠k->vs[q]? = some u:=λq u hq hne=>by rwa [List.getElem?_set_ne (Ne.symm hne)] at hq
  have new:∀u,(vs.set k v')[k]? = some u->u=v':=λu hq=>by
   rw[List.getElem?_set_self (by omega)] at hq
   exact(Option.some.inj hq).symm
  have lt:∀(q:Nat) u,vs[q]? = some u->u.ownBlock=some b->b<w.heap.size:=λq u hq hb=>by
   have hql:=(List.getElem?_eq_some_iff.1 hq).1
   obtain⟨A1,c1,q1,q2⟩:=h.rows.2 q (by omega)
   rw[hq] at q1
   obtain rfl:=Option.some.inj q1
   obtain⟨_,cur,h2⟩:=qx0 q2 hb
   exact(Array.getElem?_eq_some_iff.1 h2).1
  by_cases ei:i=k
  ·subst ei
   have hj':=old j _ hj (Ne.symm hij)
   rw[new _ hi] at hbi
   rcases hb b hbi with q | q
   ·exact h.apart i j _ _ b hij hv hj' q hbj
   ·have:=lt j _ hj' hbj; omega
  ·have hi':=old i _ hi ei
   by_cases ej:j=k
   ·subst ej
    rw[new _ hj] at hbj
    rcases hb b hbj with q | q
    ·exact h.apart i j _ _ b hij hi' hv hbi q
    ·have:=lt i _ hi' hbi; omega
   ·exact h.apart i j _ _ b hij hi' (old j _ hj ej) hbi hbj
theorem Pl.below {w w':World} {B n g c:Nat} {vs:List Value} {rs:List (List Int)} (h:Pl w B n g c vs rs) (hb:Below w.heap.size w w'):Pl w' B n g c vs rs:=
 ⟨w94 h.head λb hbb=>by
  obtain⟨_,cur,h2⟩:=qx0 h.head hbb
  exact hb.block b (Array.getElem?_eq_some_iff.1 h2).1,h.rows.keep (KeepsT.of_below hb),h.apart⟩
theorem Pl.rd {w:World} {B n g c:Nat} {vs:List Value} {rs:List (List Int)} (h:Pl w B n g c vs rs):Rd (View.from w B) (.list (.list (.int .i64))) rs [.slice (some ⟨g,0,none⟩) n c]:=by
 obtain⟨hvl,hrl⟩:=h.len
 obtain⟨h1,h2,h3,h4⟩:=x13 h.head h.rows
 have hgb:=(qx0 h.head (b:=g) rfl).1
 refine⟨some ⟨g,0,none⟩,c,by rw[h1],by rw[h1]; exact h2,h3,λhl=>⟨_,rfl,λi hi=>?_⟩⟩
 have hi:i<rs.length:=hi
 obtain⟨A,c1,q1,q2⟩:=h.rows.2 i hi
 have hA:∀ad,A=some ad->B<=ad.block:=by
  intro ad e
  rcases q2.2 with⟨h0,_⟩ | ⟨g',cap,cur,hv,hB,_⟩
  ·injection h0 with h0
   rw[h0] at e
   cases e
  ·injection hv with hv
   rw[hv] at e
   obtain rfl:=Option.some.inj e
   exact hB
 refine⟨[.slice A (nthL rs i).length c1],xh8 (wh3 q2) hA,λj v hj=>?_⟩
 cases j with
 | succ j=>simp at hj
 | zero=>
  simp only[List.getElem?_cons_zero,Option.some.injEq] at hj
  subst hj
  simp only[Ty.size,Nat.mul_one,Nat.add_zero]
  have h6:=xt7 h.head i (by omega) _ q1
  have h7:(View.from w B).cell ((⟨g,0,none⟩:Addr).add i)=View.cell (λb=>w.heap[b]?) ((⟨g,0,none⟩:Addr).add i):=by
   unfold View.cell View.from
   rw[Ls.block_add,if_pos hgb]
  rw[h7]
  exact h6
section
variable {P : Program} {Q : Exit -> Act -> World -> Prop}
end
def qz5 (P:List Int) (n:Nat):Bool:=P.any λj=>j==(n:Int)
def q5k (n:Nat) (d:List (List Int)) (P:List Int):Nat->List (Int × Int)
 | 0=>List.replicate n (0,1)
 | i+1=>(q5k n d P i).set (nI P i).toNat (xz7 (nI (nL d i) n) (nI (nL d i) (nI P i).toNat))
def svD (m:List (List Int)) (pix y:List Int):List (List Int):=(qs4 (qf8 m pix y)).1
def svP (m:List (List Int)) (pix y:List Int):List Int:=(qs4 (qf8 m pix y)).2
def svR (m:List (List Int)) (pix y:List Int):List (Int × Int) × Int × Bool:=if qz5 (svP m pix y) pix.length=true then([],0,false) else(q5k pix.length (svD m pix y) (svP m pix y) (svP m pix y).length,(pix.length:Int)-(svP m pix y).length,true)
theorem q05 (n:Nat) (d:List (List Int)) (P:List Int):∀i,(q5k n d P i).length=n
 | 0=>by simp[q5k]
 | i+1=>by rw[q5k,List.length_set,q05 n d P i]
structure yp2 (d:List (List Int)) (P:List Int) (n:Nat):Prop where
 cnt:d.length=P.length
 lenP:P.length<=1000
 each:∀k,k<d.length->(nL d k).length=n+1
 pv:∀k,k<P.length->0<=nI P k/\nI P k<=n
 nz:∀k,k<P.length->nI (nL d k) (nI P k).toNat≠0
 bigD:∀k,k<P.length->qf0 BIG (nI (nL d k) (nI P k).toNat)
 bigN:∀k,k<P.length->qf0 BIG (nI (nL d k) n)
structure yp3 (m:List (List Int)) (pix y:List Int):Prop where
 one:0<m.length
 col:x8p m pix
 pl:pix.length<=1000
 yl:y.length=m.length
 rd:x8q (qf8 m pix y)
 ar:yp2 (svD m pix y) (svP m pix y) pix.length
theorem q7z (m:List (List Int)) (pix y:List Int):(qf8 m pix y).length=m.length:=qp5 _ _ _
theorem w5l (m:List (List Int)) (pix y:List Int) (k:Nat) (hk:k<m.length):nL (qf8 m pix y) k=nL (qq5 m pix) k++[nI y k]:=by
 rw[qm1 _ k (by rw[q7z]; exact hk),qz0 m pix k hk]
 simp[qf8,qb3]
open Go Go.RowKit Eng
def svT (m:List (List Int)) (pix y:List Int):List (Int × Int) × Int:=if(svR m pix y).2.2=false then([],8) else if 0<(svR m pix y).2.1 then([],11) else((svR m pix y).1,0)
def ya8 (m:List (List Int)) (pix y:List Int):List (Int × Int) × Int:=if q17 m y pix=0 then svT m pix y else([],q17 m y pix)
structure x5c (m:List (List Int)) (pix y:List Int):Prop where
 fit:x1v m
 len:pix.length<=100000
 ok:q17 m y pix=0->yp3 m pix y
def x5d (l:List (Int × Int)):Bool:=l.any λr=>r.1==0
def yg5 (s:List (Int × Int) × Int) (pix:List Int):Fit × Bool:=if s.2≠0\/x5d s.1=true then(([],[]),false) else((pix,s.1),true)
def x50 (m:List (List Int)) (y pix:List Int):Fit × Bool:=yg5 (ya8 m pix y) pix
theorem w2k {m:List (List Int)} {y:List Int} {pix:List Int} (h:wc9 m y=0):q17 m y pix=w4b (nL m 0).length pix/\qb9 m=true:=by
 have hC:q17 m y pix=if qb9 m=false then 1 else if ¬y.length=m.length then 9 else if xr6 y then 7 else w77 m pix:=rfl
 have hN:w77 m pix=if qb9 m=false then 1 else w4b (nL m 0).length pix:=rfl
 unfold wc9 at h
 split at h
 ·cases h
 ·rename_i hv
  unfold x74 at h
  split at h
  ·cases h
  ·rename_i hl
   split at h
   ·cases h
   ·rename_i ho
    exact⟨by rw[hC,if_neg hv,if_neg hl,if_neg ho,hN,if_neg hv],by simpa using hv⟩
theorem x0z {m:List (List Int)} {y:List Int} {pix:List Int} (h:wc9 m y≠0):q17 m y pix=wc9 m y:=by
 have hC:q17 m y pix=if qb9 m=false then 1 else if ¬y.length=m.length then 9 else if xr6 y then 7 else w77 m pix:=rfl
 unfold wc9 x74 at *
 split at h
 ·rename_i hv; rw[hC,if_pos hv,if_pos hv]
 ·rename_i hv
  split at h
  ·rename_i hl; rw[hC,if_neg hv,if_pos hl,if_neg hv,if_pos hl]
  ·rename_i hl
   split at h
   ·rename_i ho; rw[hC,if_neg hv,if_neg hl,if_pos ho,if_neg hv,if_neg hl,if_pos ho]
   ·exact absurd rfl h
def q51 (m:List (List Int)) (y:List Int) (s:List (List Int)):List Fit:=s.filterMap λpix=>if(x50 m y pix).2=true then some (x50 m y pix).1 else none
def x00 (m:List (List Int)) (y:List Int):List Fit:=q51 m y (w4p (nL m 0).length)
structure w95 (m:List (List Int)) (y:List Int):Prop where
 one:0<m.length
 pix:(nL m 0).length<=7
 each:∀s∈w4p (nL m 0).length,x5c m s y
theorem wr7 (m:List (List Int)) (y:List Int) (s:List (List Int)):(q51 m y s).length<=s.length:=List.length_filterMap_le _ s
def w96 (k:Int) (L:List Fit):List Fit:=L.filter λf=>decide ((f.1.length:Int)<=k)
theorem xn5 {m:List (List Int)} {y:List Int} (h:w95 m y):(x00 m y).length<=128:=by
 have h1:=wr7 m y (w4p (nL m 0).length)
 have h2:=(wn5 (n:=(nL m 0).length) (k:=128) h.pix (Nat.le_refl _)).1
 have e:w4p (nL m 0).length=qr6 (nL m 0).length 128:=rfl
 rw[e] at h1
 unfold x00
 rw[e]
 omega
def dt (W:Nat) (r:List Int) (z:Nat->Int):Int:=sm W λc=>nI r c*z c
theorem w2l {W:Nat} {r' r p:List Int} {z:Nat->Int} {α β γ:Int} (h:∀c,c<W->α*nI r' c=β*nI r c-γ*nI p c):α*dt W r' z=β*dt W r z-γ*dt W p z:=by
 unfold dt
 rw[<- qu0,<- qu0,<- qu0,<- xs5]
 refine qg7 λc hc=>?_
 have:=h c hc
 rw[<- Int.mul_assoc,this,Int.sub_mul,Int.mul_assoc,Int.mul_assoc]
theorem ql2 (P:List Int) (x:Int) {q:Nat} (h:q<P.length):nI (P++[x]) q=nI P q:=by
 rw[qh0 _ q (by rw[List.length_append]; omega),qh0 _ q h,List.getElem_append_left h]
theorem qq9 (P:List Int) (x:Int):nI (P++[x]) P.length=x:=by
 rw[qh0 _ _ (by rw[List.length_append]; exact Nat.lt_succ_self _),List.getElem_append_right (Nat.le_refl _)]
 simp
theorem q70 {a x:Int} (ha:0<a) (h:0<a*x):0<x:=Int.lt_of_mul_lt_mul_left (a:=a) (by rw[Int.mul_zero]; exact h) (by omega)
structure Elm (W j:Nat) (r' r p:List Int):Prop where
 zero:nI r' j=0
 rel:∃α β γ:Int,0<α/\0<β/\∀c,c<W->α*nI r' c=β*nI r c-γ*nI p c
 nice:∀f,x49 W f (nI r)->x49 W f (nI r')
structure St (n W:Nat) (R:Nat->Nat->Int) (j:Nat) (rows:List (List Int)) (P:List Int):Prop where
 len:rows.length=n
 each:∀i,i<n->(nL rows i).length=W
 tag:∃(ρ:Nat->Nat->Int) (pv:Nat->Option Nat) (τ:Nat->Nat),El n W R ρ pv/\(∀i,i<n->τ i<n)/\(∀i k,i<n->k<n->τ i=τ k->i=k)/\(∀a,a<n->∃i,i<n/\τ i=a)/\(∀i,i<n->∀c,c<W->ρ (τ i) c=nI (nL rows i) c)/\(∀q,q<n->pv (τ q)=if q<P.length then some (nI P q).toNat else none)/\∀i,i<n->x49 W (R (τ i)) (nI (nL rows i))
 sol:∀z:Nat->Int,(∀a,a<n->(sm W λc=>R a c*z c)=0)↔∀i,i<n->dt W (nL rows i) z=0
 pl:P.length<=n
 zero:∀i,P.length<=i->i<n->∀c,c<j->nI (nL rows i) c=0
 pos:∀q,q<P.length->0<=nI P q/\nI P q<j/\0<nI (nL rows q) (nI P q).toNat/\(∀c,c<(nI P q).toNat->nI (nL rows q) c=0)/\∀i,i<n->i≠q->nI (nL rows i) (nI P q).toNat=0
 asc:∀q k,q<k->k<P.length->nI P q<nI P k
theorem St.skip {n W:Nat} {R:Nat->Nat->Int} {j:Nat} {rows:List (List Int)} {P:List Int} (h:St n W R j rows P) (hz:∀i,P.length<=i->i<n->nI (nL rows i) j=0):St n W R (j+1) rows P:=by
 refine⟨h.len,h.each,h.tag,h.sol,h.pl,λi h1 h2 c hc=>?_,λq hq=>?_,h.asc⟩
 ·rcases Nat.lt_succ_iff_lt_or_eq.1 hc with e | e
  ·exact h.zero i h1 h2 c e
  ·rw[e]; exact hz i h1 h2
 ·obtain⟨q1,q2,q3,q4,q5⟩:=h.pos q hq
  exact⟨q1,by omega,q3,q4,q5⟩
theorem St.step {n W:Nat} {R:Nat->Nat->Int} {j:Nat} {rows rows':List (List Int)} {P:List Int} (h:St n W R j rows P) (hj:j<W) (hk:P.length<n) (hlen:rows'.length=n) (heach:∀i,i<n->(nL rows' i).length=W)
  (π:Nat->Nat) (hπ:∀i,i<n->π i<n) (hinj:∀i k,i<n->k<n->π i=π k->i=k) (hsur:∀i,i<n->∃k,k<n/\π k=i) (hfix:∀i,i<P.length->π i=i)
  (hx:∃s:Int,(s=1\/s=-1)/\∀c,c<W->nI (nL rows' P.length) c=s*nI (nL rows (π P.length)) c) (hpos:0<nI (nL rows' P.length) j)
  (ho:∀i,i<n->i≠P.length->Elm W j (nL rows' i) (nL rows (π i)) (nL rows' P.length)):St n W R (j+1) rows' (P++[(j:Int)]):=by
 obtain⟨s,hs,hsx⟩:=hx
 have hs0:s≠0:=by rcases hs with rfl | rfl <;> decide
 have hge:∀i,P.length<=i->i<n->P.length<=π i:=λi h1 h2=>by
  rcases Nat.lt_or_ge (π i) P.length with e | e
  ·have:=hinj (π i) i (hπ i h2) h2 (hfix _ e)
   omega
  ·exact e
 have hnx:nI (nL rows (π P.length)) j≠0:=λe=>by
  have:=hsx j hj
  rw[e,Int.mul_zero] at this
  omega
 have hpk:∀c,c<j->nI (nL rows' P.length) c=0:=λc hc=>by
  rw[hsx c (by omega),h.zero _ (hge _ (Nat.le_refl _) hk) (hπ _ hk) c hc,Int.mul_zero]
 have hpz:∀q,q<P.length->nI (nL rows' P.length) (nI P q).toNat=0:=λq hq=>by
  have:=h.pos q hq
  exact hpk _ (by omega)
 obtain⟨ρ,pv,τ,hE,t1,t2,t3,t4,t5,t6⟩:=h.tag
 have hsur2:∀a,∃i,a<n->i<n/\τ (π i)=a:=λa=>by
  by_cases ha:a<n
  ·obtain⟨i,hi,e⟩:=t3 a ha
   obtain⟨k,hk,e2⟩:=hsur i hi
   exact⟨k,λ_=>⟨hk,by rw[e2,e]⟩⟩
  ·exact⟨0,λq=>absurd q ha⟩
 obtain⟨σ,hσ⟩:=Classical.axiomOfChoice hsur2
 have hστ:∀i,i<n->σ (τ (π i))=i:=λi hi=>by
  obtain⟨q1,q2⟩:=hσ (τ (π i)) (t1 _ (hπ i hi))
  exact hinj _ _ q1 hi (t2 _ _ (hπ _ q1) (hπ _ hi) q2)
 refine⟨hlen,heach,⟨λa c=>nI (nL rows' (σ a)) c,λb=>if b=τ (π P.length) then some j else pv b,λi=>τ (π i),?_,λi hi=>t1 _ (hπ i hi),λi k hi hk e=>hinj _ _ hi hk (t2 _ _ (hπ i hi) (hπ k hk) e),λa ha=>⟨σ a,hσ a ha⟩,λi hi c hc=>by dsimp only; rw[hστ i hi],λq hq=>?_,λi hi=>?_⟩,λz=>?_,by rw[List.length_append]; exact hk,λi h1 h2 c hc=>?_,λq hq=>?_,λq k h1 h2=>?_⟩
 ·refine hE.step (t1 _ (hπ _ hk)) ?_ hj ?_ ⟨s,hs0,λc hc=>?_⟩ λa ha hne=>?_
  ·rw[t5 _ (hπ _ hk),if_neg (Nat.not_lt.2 (hge _ (Nat.le_refl _) hk))]
  ·rw[t4 _ (hπ _ hk) j hj]; exact hnx
  ·try dsimp only
   rw[hστ _ hk,hsx c hc,t4 _ (hπ _ hk) c hc]
  ·obtain⟨q1,q2⟩:=hσ a ha
   have hne2:σ a≠P.length:=λe=>hne (by rw[<- q2,e])
   have hel:=ho _ q1 hne2
   refine⟨hel.zero,?_⟩
   obtain⟨α,β,γ,hα,hβ,hr⟩:=hel.rel
   refine⟨α,β,γ,by omega,by omega,λc hc=>?_⟩
   try dsimp only
   rw[hστ _ hk,hr c hc]
   have:=t4 _ (hπ _ q1) c hc
   rw[q2] at this
   rw[this]
 ·dsimp only
  by_cases e:q=P.length
  ·subst e
   rw[if_pos rfl,if_pos (by rw[List.length_append]; exact Nat.lt_succ_self _),qq9]
   rfl
  ·rw[if_neg λq2=>e (hinj _ _ hq hk (t2 _ _ (hπ _ hq) (hπ _ hk) q2)),t5 _ (hπ _ hq),List.length_append]
   rcases Nat.lt_or_ge q P.length with e2 | e2
   ·rw[hfix _ e2,if_pos e2,if_pos (by omega),ql2 _ _ e2]
   ·rw[if_neg (Nat.not_lt.2 (hge _ e2 hq)),if_neg (by simp; omega)]
 ·dsimp only
  by_cases e:i=P.length
  ·subst e
   rcases t6 _ (hπ _ hi) with⟨u,hu,hr⟩ | hr | hr
   ·refine .inl ⟨s*u,?_,λc hc=>by rw[hsx c hc,hr c hc,Int.mul_assoc]⟩
    rcases hs with rfl | rfl <;> rcases hu with rfl | rfl <;> simp
   ·exact .inr (.inl λc hc=>by rw[hsx c hc,hr c hc,Int.mul_zero])
   ·refine .inr (.inr λd hd=>hr d λc hc=>?_)
    have:=hd c hc
    rw[hsx c hc,Int.natAbs_mul] at this
    have h1:s.natAbs=1:=by rcases hs with rfl | rfl <;> rfl
    rwa [h1,Nat.one_mul] at this
  ·exact(ho i hi e).nice _ (t6 _ (hπ _ hi))
 ·rw[h.sol z]
  have hdk:dt W (nL rows' P.length) z=s*dt W (nL rows (π P.length)) z:=by
   have:=w2l (W:=W) (r':=nL rows' P.length) (r:=nL rows (π P.length)) (p:=[]) (z:=z) (α:=1) (β:=s) (γ:=0) λc hc=>by rw[hsx c hc]; simp
   simpa using this
  constructor
  ·intro hz i hi
   have hzk:dt W (nL rows' P.length) z=0:=by rw[hdk,hz _ (hπ _ hk),Int.mul_zero]
   by_cases e:i=P.length
   ·rw[e]; exact hzk
   ·obtain⟨α,β,γ,hα,hβ,hr⟩:=(ho i hi e).rel
    have:=w2l (z:=z) hr
    rw[hzk,hz _ (hπ _ hi),Int.mul_zero,Int.mul_zero] at this
    exact qd2 (by omega) (show α≠0 by omega)
  ·intro hz i' hi'
   obtain⟨i,hi,rfl⟩:=hsur i' hi'
   by_cases e:i=P.length
   ·have:=hz _ hk
    rw[hdk] at this
    rw[e]
    exact qd2 this hs0
   ·obtain⟨α,β,γ,hα,hβ,hr⟩:=(ho i hi e).rel
    have:=w2l (z:=z) hr
    rw[hz _ hk,hz _ hi,Int.mul_zero,Int.mul_zero] at this
    exact qd2 (a:=β) (by omega) (by omega)
 ·rw[List.length_append] at h1
  have h1:P.length+1<=i:=h1
  have hel:=ho i h2 (by omega)
  rcases Nat.lt_succ_iff_lt_or_eq.1 hc with e | e
  ·obtain⟨α,β,γ,hα,hβ,hr⟩:=hel.rel
   have:=hr c (by omega)
   rw[hpk c e,h.zero _ (hge _ (by omega) h2) (hπ _ h2) c e] at this
   exact qd2 (a:=α) (by simpa using this) (by omega)
  ·rw[e]; exact hel.zero
 ·rw[List.length_append] at hq
  have hq:q<P.length+1:=hq
  rcases Nat.lt_succ_iff_lt_or_eq.1 hq with e | e
  ·rw[ql2 _ _ e]
   obtain⟨q1,q2,q3,q4,q5⟩:=h.pos q e
   have hel:=ho q (by omega) (by omega)
   obtain⟨α,β,γ,hα,hβ,hr⟩:=hel.rel
   refine⟨q1,by omega,q70 hα ?_,λc hc=>?_,λi hi hne=>?_⟩
   ·rw[hr _ (by omega),hpz q e,hfix _ e,Int.mul_zero,Int.sub_zero]
    exact Int.mul_pos hβ q3
   ·have:=hr c (by omega)
    rw[hpk c (by omega),hfix _ e,q4 c hc] at this
    exact qd2 (a:=α) (by simpa using this) (by omega)
   ·by_cases e3:i=P.length
    ·rw[e3]; exact hpz q e
    ·obtain⟨α,β,γ,hα,hβ,hr⟩:=(ho i hi e3).rel
     have:=hr (nI P q).toNat (by omega)
     rw[hpz q e,q5 (π i) (hπ _ hi) λe4=>hne (hinj _ _ hi (by omega) (by rw[e4,hfix _ e]))] at this
     exact qd2 (a:=α) (by simpa using this) (by omega)
  ·subst e
   rw[qq9]
   refine⟨by omega,by omega,hpos,λc hc=>hpk c hc,λi hi hne=>(ho i hi hne).zero⟩
 ·rw[List.length_append] at h2
  have h2:k<P.length+1:=h2
  rcases Nat.lt_succ_iff_lt_or_eq.1 h2 with e | e
  ·rw[ql2 _ _ e,ql2 _ _ (by omega)]; exact h.asc q k h1 e
  ·subst e
   rw[qq9,ql2 _ _ h1]
   have:=h.pos q h1
   omega
theorem St.bound {n W:Nat} {R:Nat->Nat->Int} {j:Nat} {rows:List (List Int)} {P:List Int} (h:St n W R j rows P) (hone:∀a c,a<n->c<j->(R a c).natAbs<=1) {i c B:Nat} (hi:i<n) (hc:c<W) (hB:∀b,b<n->(R b c).natAbs<=B):(nI (nL rows i) c).natAbs<=n ^ n*B:=by
 obtain⟨ρ,pv,τ,hE,t1,t2,t3,t4,t5,t6⟩:=h.tag
 rw[<- t4 i hi c hc]
 refine hE.bound (λt p ht hp b hb=>?_) (t1 i hi) ?_ hc hB
 ·obtain⟨q,hq,rfl⟩:=t3 t ht
  rw[t5 q hq] at hp
  split at hp
  ·rename_i hqP
   obtain rfl:=Option.some.inj hp
   have:=h.pos q hqP
   exact hone b _ hb (by omega)
  ·cases hp
 ·rcases t6 i hi with⟨s,hs,hr⟩ | hr | hr
  ·exact .inl ⟨s,hs,λc hc=>by rw[t4 i hi c hc]; exact hr c hc⟩
  ·exact .inr (.inl λc hc=>by rw[t4 i hi c hc]; exact hr c hc)
  ·exact .inr (.inr λd hd=>hr d λc hc=>by rw[<- t4 i hi c hc]; exact hd c hc)
end Go.Proofs.YtmijnbjlhnpokaaGreat
