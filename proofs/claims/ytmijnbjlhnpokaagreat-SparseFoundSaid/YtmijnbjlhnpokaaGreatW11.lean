/- The program's test of a fit is the reference's: its fractions are small. Plain mathematics. No condition. -/
import Derived.Test.YtmijnbjlhnpokaaGreatV26
import Derived.Test.YtmijnbjlhnpokaaGreatW10
set_option linter.unusedVariables false
set_option linter.unusedSimpArgs false
namespace Go.Proofs.YtmijnbjlhnpokaaGreat
open Go Go.RowKit Eng
open Go Go.RowKit Ls Eng
structure Pl (w:World) (B n g c:Nat) (vs:List Value) (rs:List (List Int)):Prop where
 head:w.ownsRow B 34 1 (.slice (some ⟨g,0,none⟩) n c) n vs
 rows:RowsOwn w B 3 vs rs
 apart:∀(i j:Nat) u v b,i≠j->vs[i]? = some u->vs[j]? = some v->u.ownBlock=some b->v.ownBlock=some b->False
theorem Pl.len {w:World} {B n g c:Nat} {vs:List Value} {rs:List (List Int)} (h:Pl w B n g c vs rs):vs.length=n/\rs.length=n:=by
 have h1:=h.head.1
 have h2:=h.rows.1
 omega
theorem qx3 {w:World} {B e size n:Nat} {v:Value} {xs:List Value} (h:w.ownsRow B e size v n xs) {b:Nat} (hb:v.ownBlock=some b):B<=b/\∃cur,w.heap[b]? = some (.cells cur e (0,0)):=by
 rcases h.2 with⟨h0,_⟩ | ⟨g,cap,cur,hv,hB,hg,_⟩
 ·subst h0; simp[Value.ownBlock] at hb
 ·subst hv
  simp only[Value.ownBlock,Option.some.injEq] at hb
  subst hb
  exact⟨hB,cur,hg⟩
theorem w87 {w w':World} {B e size n:Nat} {v:Value} {xs:List Value} (h:w.ownsRow B e size v n xs) (hk:∀b,v.ownBlock=some b->w'.heap[b]? = w.heap[b]?):w'.ownsRow B e size v n xs:=by
 refine⟨h.1,?_⟩
 rcases h.2 with h0 | ⟨g,cap,cur,hv,hB,hg,r⟩
 ·exact .inl h0
 ·exact .inr ⟨g,cap,cur,hv,hB,(hk g (by rw[hv]; rfl)).trans hg,r⟩
theorem Pl.step {w w3:World} {B n g c k:Nat} {vs:List Value} {rs:List (List Int)} {v v':Value} {l:List Int} {A':Option Addr} {c':Nat} (h:Pl w B n g c vs rs) (hk:k<n) (hv:vs[k]? = some v) (hl:nL rs k=l) (x:Int)
  (hv':v'=.slice A' (l.length+1) c') (hown:w3.ownsRow B 3 1 v' (l.length+1) (ints (l++[x]))) (hg:w.grownBy w3 v.ownBlock) (hb:∀b,v'.ownBlock=some b->v.ownBlock=some b\/w.heap.size<=b):Pl (w3.setCell ⟨g,k,none⟩ v') B n g c (vs.set k v') (rs.set k (l++[x]))/\w3.grownBy (w3.setCell ⟨g,k,none⟩ v') (some g):=by
 obtain⟨hvl,hrl⟩:=h.len
 obtain⟨A,cc,hvk,hvo⟩:=h.rows.2 k (by omega)
 rw[hv] at hvk
 obtain rfl:=Option.some.inj hvk
 have hgb:B<=g/\∃cur,w.heap[g]? = some (.cells cur 34 (0,0)):=qx3 h.head rfl
 have hgne:∀b,(Value.slice A (nthL rs k).length cc).ownBlock=some b->b≠g:=λb hb e=>by
  obtain⟨_,cur,h1⟩:=qx3 hvo hb
  obtain⟨_,cur2,h2⟩:=hgb
  subst e
  rw[h2] at h1
  injection h1 with h1
  injection h1 with _ h1
  exact absurd h1 (by decide)
 have hhead3:w3.ownsRow B 34 1 (.slice (some ⟨g,0,none⟩) n c) n vs:=w87 h.head λb hb=>by
  simp only[Value.ownBlock,Option.some.injEq] at hb
  subst hb
  obtain⟨_,cur,h2⟩:=hgb
  exact hg.block _ (Array.getElem?_eq_some_iff.1 h2).1 λe=>hgne _ e.symm rfl
 have hst:=hhead3.stored k v'
 have hkp:KeepsT 3 w3 (w3.setCell ⟨g,k,none⟩ v'):=KeepsT.stored (e:=3) (by decide) hhead3 hst.2
 refine⟨⟨hst.1,⟨by simp[h.rows.1],λr hr=>?_⟩,λi j u u' b hij hi hj hbi hbj=>?_⟩,hst.2⟩
 ·have hr2:r<rs.length:=by simpa using hr
  by_cases e:r=k
  ·subst e
   have e1:nthL (rs.set r (l++[x])) r=l++[x]:=(wh4 rs r (l++[x]) r hr2).trans (if_pos rfl)
   rw[e1]
   refine⟨A',c',by rw[List.getElem?_set_self (by omega),hv']; simp,?_⟩
   have h9:=q6h hown hkp
   rw[show(l++[x]).length=l.length+1 by simp,<- hv']
   exact h9
  ·obtain⟨A1,c1,q1,q2⟩:=h.rows.2 r hr2
   have e1:nthL (rs.set k (l++[x])) r=nthL rs r:=(wh4 rs k (l++[x]) r hr2).trans (if_neg e)
   rw[e1]
   refine⟨A1,c1,by rw[List.getElem?_set_ne (Ne.symm e)]; exact q1,q6h (w87 q2 λb hb=>?_) hkp⟩
   obtain⟨_,cur,h2⟩:=qx3 q2 hb
   exact hg.block _ (Array.getElem?_eq_some_iff.1 h2).1 λe2=>h.apart r k _ _ b e q1 hv hb e2.symm
 ·have old:∀(q:Nat) u,(vs.set k v')[q]? = some u->q≠k->vs[q]? = some u:=λq u hq hne=>by rwa [List.getElem?_set_ne (Ne.symm hne)] at hq
  have new:∀u,(vs.set k v')[k]? = some u->u=v':=λu hq=>by
   rw[List.getElem?_set_self (by omega)] at hq
   exact(Option.some.inj hq).symm
  have lt:∀(q:Nat) u,vs[q]? = some u->u.ownBlock=some b->b<w.heap.size:=λq u hq hb=>by
   have hql:=(List.getElem?_eq_some_iff.1 hq).1
   obtain⟨A1,c1,q1,q2⟩:=h.rows.2 q (by omega)
   rw[hq] at q1
   obtain rfl:=Option.some.inj q1
   obtain⟨_,cur,h2⟩:=qx3 q2 hb
   exact(Array.getElem?_eq_some_iff.1 h2).1
  by_cases ei:i=k
  ·subst ei
   have hj':=old j _ hj (Ne.symm hij)
   rw[new _ hi] at hbi
   rcases hb b hbi with q | q
   ·exact h.apart i j _ _ b hij hv hj' q hbj
   ·have:=lt j _ hj' hbj; omega
  ·have hi':=old i _ hi ei
   by_cases ej:j=k
   ·subst ej
    rw[new _ hj] at hbj
    rcases hb b hbj with q | q
    ·exact h.apart i j _ _ b hij hi' hv hbi q
    ·have:=lt i _ hi' hbi; omega
   ·exact h.apart i j _ _ b hij hi' (old j _ hj ej) hbi hbj
theorem Pl.below {w w':World} {B n g c:Nat} {vs:List Value} {rs:List (List Int)} (h:Pl w B n g c vs rs) (hb:Below w.heap.size w w'):Pl w' B n g c vs rs:=
 ⟨w87 h.head λb hbb=>by
  obtain⟨_,cur,h2⟩:=qx3 h.head hbb
  exact hb.block b (Array.getElem?_eq_some_iff.1 h2).1,h.rows.keep (KeepsT.of_below hb),h.apart⟩
theorem Pl.rd {w:World} {B n g c:Nat} {vs:List Value} {rs:List (List Int)} (h:Pl w B n g c vs rs):Rd (View.from w B) (.list (.list (.int .i64))) rs [.slice (some ⟨g,0,none⟩) n c]:=by
 obtain⟨hvl,hrl⟩:=h.len
 obtain⟨h1,h2,h3,h4⟩:=x1m h.head h.rows
 have hgb:=(qx3 h.head (b:=g) rfl).1
 refine⟨some ⟨g,0,none⟩,c,by rw[h1],by rw[h1]; exact h2,h3,λhl=>⟨_,rfl,λi hi=>?_⟩⟩
 have hi:i<rs.length:=hi
 obtain⟨A,c1,q1,q2⟩:=h.rows.2 i hi
 have hA:∀ad,A=some ad->B<=ad.block:=by
  intro ad e
  rcases q2.2 with⟨h0,_⟩ | ⟨g',cap,cur,hv,hB,_⟩
  ·injection h0 with h0
   rw[h0] at e
   cases e
  ·injection hv with hv
   rw[hv] at e
   obtain rfl:=Option.some.inj e
   exact hB
 refine⟨[.slice A (nthL rs i).length c1],x2p (w5u q2) hA,λj v hj=>?_⟩
 cases j with
 | succ j=>simp at hj
 | zero=>
  simp only[List.getElem?_cons_zero,Option.some.injEq] at hj
  subst hj
  simp only[Ty.size,Nat.mul_one,Nat.add_zero]
  have h6:=xt2 h.head i (by omega) _ q1
  have h7:(View.from w B).cell ((⟨g,0,none⟩:Addr).add i)=View.cell (λb=>w.heap[b]?) ((⟨g,0,none⟩:Addr).add i):=by
   unfold View.cell View.from
   rw[Ls.block_add,if_pos hgb]
  rw[h7]
  exact h6
section
variable {P : Program} {Q : Exit -> Act -> World -> Prop}
end
def q0e (P:List Int) (n:Nat):Bool:=P.any λj=>j==(n:Int)
def q5r (n:Nat) (d:List (List Int)) (P:List Int):Nat->List (Int × Int)
 | 0=>List.replicate n (0,1)
 | i+1=>(q5r n d P i).set (nI P i).toNat (q91 (nI (nL d i) n) (nI (nL d i) (nI P i).toNat))
def svD (m:List (List Int)) (pix y:List Int):List (List Int):=(qf0 (qc8 m pix y)).1
def svP (m:List (List Int)) (pix y:List Int):List Int:=(qf0 (qc8 m pix y)).2
def svR (m:List (List Int)) (pix y:List Int):List (Int × Int) × Int × Bool:=if q0e (svP m pix y) pix.length=true then([],0,false) else(q5r pix.length (svD m pix y) (svP m pix y) (svP m pix y).length,(pix.length:Int)-(svP m pix y).length,true)
theorem q1f (n:Nat) (d:List (List Int)) (P:List Int):∀i,(q5r n d P i).length=n
 | 0=>by simp[q5r]
 | i+1=>by rw[q5r,List.length_set,q1f n d P i]
structure yf2 (d:List (List Int)) (P:List Int) (n:Nat):Prop where
 cnt:d.length=P.length
 lenP:P.length<=1000
 each:∀k,k<d.length->(nL d k).length=n+1
 pv:∀k,k<P.length->0<=nI P k/\nI P k<=n
 nz:∀k,k<P.length->nI (nL d k) (nI P k).toNat≠0
 bigD:∀k,k<P.length->qd6 BIG (nI (nL d k) (nI P k).toNat)
 bigN:∀k,k<P.length->qd6 BIG (nI (nL d k) n)
structure yf3 (m:List (List Int)) (pix y:List Int):Prop where
 one:0<m.length
 col:x7j m pix
 pl:pix.length<=1000
 yl:y.length=m.length
 rd:x7k (qc8 m pix y)
 ar:yf2 (svD m pix y) (svP m pix y) pix.length
theorem q70 (m:List (List Int)) (pix y:List Int):(qc8 m pix y).length=m.length:=ql8 _ _ _
theorem qx4 (m:List (List Int)) (pix y:List Int) (k:Nat) (hk:k<m.length):nL (qc8 m pix y) k=nL (qg3 m pix) k++[nI y k]:=by
 rw[qp9 _ k (by rw[q70]; exact hk),qj6 m pix k hk]
 simp[qc8,qa8]
open Go Go.RowKit Eng
def svT (m:List (List Int)) (pix y:List Int):List (Int × Int) × Int:=if(svR m pix y).2.2=false then([],8) else if 0<(svR m pix y).2.1 then([],11) else((svR m pix y).1,0)
def x7x (m:List (List Int)) (pix y:List Int):List (Int × Int) × Int:=if qr5 m y pix=0 then svT m pix y else([],qr5 m y pix)
structure x37 (m:List (List Int)) (pix y:List Int):Prop where
 fit:q5g m
 len:pix.length<=100000
 ok:qr5 m y pix=0->yf3 m pix y
def x4a (l:List (Int × Int)):Bool:=l.any λr=>r.1==0
def ya7 (s:List (Int × Int) × Int) (pix:List Int):Fit × Bool:=if s.2≠0\/x4a s.1=true then(([],[]),false) else((pix,s.1),true)
def x1g (m:List (List Int)) (y pix:List Int):Fit × Bool:=ya7 (x7x m pix y) pix
theorem w2f {m:List (List Int)} {y:List Int} {pix:List Int} (h:qv9 m y=0):qr5 m y pix=w15 (nL m 0).length pix/\validB m=true:=by
 have hC:qr5 m y pix=if validB m=false then 1 else if ¬y.length=m.length then 9 else if w5m y then 7 else w5l m pix:=rfl
 have hN:w5l m pix=if validB m=false then 1 else w15 (nL m 0).length pix:=rfl
 unfold qv9 at h
 split at h
 ·cases h
 ·rename_i hv
  unfold w8e at h
  split at h
  ·cases h
  ·rename_i hl
   split at h
   ·cases h
   ·rename_i ho
    exact⟨by rw[hC,if_neg hv,if_neg hl,if_neg ho,hN,if_neg hv],by simpa using hv⟩
theorem xy7 {m:List (List Int)} {y:List Int} {pix:List Int} (h:qv9 m y≠0):qr5 m y pix=qv9 m y:=by
 have hC:qr5 m y pix=if validB m=false then 1 else if ¬y.length=m.length then 9 else if w5m y then 7 else w5l m pix:=rfl
 unfold qv9 w8e at *
 split at h
 ·rename_i hv; rw[hC,if_pos hv,if_pos hv]
 ·rename_i hv
  split at h
  ·rename_i hl; rw[hC,if_neg hv,if_pos hl,if_neg hv,if_pos hl]
  ·rename_i hl
   split at h
   ·rename_i ho; rw[hC,if_neg hv,if_neg hl,if_pos ho,if_neg hv,if_neg hl,if_pos ho]
   ·exact absurd rfl h
def w88 (m:List (List Int)) (y:List Int) (f:Fit):Bool:=decide (qr5 m y f.1=0) && (x1g m y f.1).2 && q1d f (x1g m y f.1).1
abbrev yf4:qb9:=qg2 true none [tMask,tInts] [.bool] (λx=>q5g x.1) (λx=>(qv9 x.1 x.2.1==0,()))
theorem w89:Meets Tryz.prog 45 yf4:=by
 refine meets (snd (SpecsOk.cons wx3 (SpecsOk.nil _))) Tryz.func45 rfl rfl (λ_ _=>none) (λ_=>by kernel_rfl) (by decide) ?_
 rintro⟨m,y,⟨⟩⟩ h
 revert m y
 intro(m:List (List Int)) (y:List Int) (h:q5g m)
 refine @qe1 _ (q5g m/\(qv9 m y==(0:Int))=(qv9 m y==(0:Int))) (by kernel_rfl) ?_
 try simp only[z0,z1,z2,z3,z4,z5,z6,z7,z8,z9,z10,Int.reduceEq,z11,z12,z13,z14,z15,z16,z17,z18,z19,z20,z21,z22,z23,z24,z25,z26,z27,z28,z29,z30,Int.reduceLE,Int.reduceLT,z31,z32,z33,z34,qa3]
 try simp only[qb5,qb6,qd0,z31,z32,z2,z1]
 exact h
def q59 (m:List (List Int)) (y:List Int) (s:List (List Int)):List Fit:=s.filterMap λpix=>if(x1g m y pix).2=true then some (x1g m y pix).1 else none
def xy8 (m:List (List Int)) (y:List Int):List Fit:=q59 m y (w4t (nL m 0).length)
structure w9a (m:List (List Int)) (y:List Int):Prop where
 one:0<m.length
 pix:(nL m 0).length<=7
 each:∀s∈w4t (nL m 0).length,x37 m s y
theorem wq4 (m:List (List Int)) (y:List Int) (s:List (List Int)):(q59 m y s).length<=s.length:=List.length_filterMap_le _ s
def w9b (k:Int) (L:List Fit):List Fit:=L.filter λf=>decide ((f.1.length:Int)<=k)
theorem xl8 {m:List (List Int)} {y:List Int} (h:w9a m y):(xy8 m y).length<=128:=by
 have h1:=wq4 m y (w4t (nL m 0).length)
 have h2:=(wp7 (n:=(nL m 0).length) (k:=128) h.pix (Nat.le_refl _)).1
 have e:w4t (nL m 0).length=qs3 (nL m 0).length 128:=rfl
 rw[e] at h1
 unfold xy8
 rw[e]
 omega
def dt (W:Nat) (r:List Int) (z:Nat->Int):Int:=sm W λc=>nI r c*z c
theorem w2g {W:Nat} {r' r p:List Int} {z:Nat->Int} {α β γ:Int} (h:∀c,c<W->α*nI r' c=β*nI r c-γ*nI p c):α*dt W r' z=β*dt W r z-γ*dt W p z:=by
 unfold dt
 rw[<- qf7,<- qf7,<- qf7,<- w1u]
 refine qa7 λc hc=>?_
 have:=h c hc
 rw[<- Int.mul_assoc,this,Int.sub_mul,Int.mul_assoc,Int.mul_assoc]
theorem qi0 (P:List Int) (x:Int) {q:Nat} (h:q<P.length):nI (P++[x]) q=nI P q:=by
 rw[qg1 _ q (by rw[List.length_append]; omega),qg1 _ q h,List.getElem_append_left h]
theorem qj7 (P:List Int) (x:Int):nI (P++[x]) P.length=x:=by
 rw[qg1 _ _ (by rw[List.length_append]; exact Nat.lt_succ_self _),List.getElem_append_right (Nat.le_refl _)]
 simp
theorem q33 {a x:Int} (ha:0<a) (h:0<a*x):0<x:=Int.lt_of_mul_lt_mul_left (a:=a) (by rw[Int.mul_zero]; exact h) (by omega)
structure Elm (W j:Nat) (r' r p:List Int):Prop where
 zero:nI r' j=0
 rel:∃α β γ:Int,0<α/\0<β/\∀c,c<W->α*nI r' c=β*nI r c-γ*nI p c
 nice:∀f,x1f W f (nI r)->x1f W f (nI r')
structure St (n W:Nat) (R:Nat->Nat->Int) (j:Nat) (rows:List (List Int)) (P:List Int):Prop where
 len:rows.length=n
 each:∀i,i<n->(nL rows i).length=W
 tag:∃(ρ:Nat->Nat->Int) (pv:Nat->Option Nat) (τ:Nat->Nat),El n W R ρ pv/\(∀i,i<n->τ i<n)/\(∀i k,i<n->k<n->τ i=τ k->i=k)/\(∀a,a<n->∃i,i<n/\τ i=a)/\(∀i,i<n->∀c,c<W->ρ (τ i) c=nI (nL rows i) c)/\(∀q,q<n->pv (τ q)=if q<P.length then some (nI P q).toNat else none)/\∀i,i<n->x1f W (R (τ i)) (nI (nL rows i))
 sol:∀z:Nat->Int,(∀a,a<n->(sm W λc=>R a c*z c)=0)↔∀i,i<n->dt W (nL rows i) z=0
 pl:P.length<=n
 zero:∀i,P.length<=i->i<n->∀c,c<j->nI (nL rows i) c=0
 pos:∀q,q<P.length->0<=nI P q/\nI P q<j/\0<nI (nL rows q) (nI P q).toNat/\(∀c,c<(nI P q).toNat->nI (nL rows q) c=0)/\∀i,i<n->i≠q->nI (nL rows i) (nI P q).toNat=0
 asc:∀q k,q<k->k<P.length->nI P q<nI P k
theorem St.skip {n W:Nat} {R:Nat->Nat->Int} {j:Nat} {rows:List (List Int)} {P:List Int} (h:St n W R j rows P) (hz:∀i,P.length<=i->i<n->nI (nL rows i) j=0):St n W R (j+1) rows P:=by
 refine⟨h.len,h.each,h.tag,h.sol,h.pl,λi h1 h2 c hc=>?_,λq hq=>?_,h.asc⟩
 ·rcases Nat.lt_succ_iff_lt_or_eq.1 hc with e | e
  ·exact h.zero i h1 h2 c e
  ·rw[e]; exact hz i h1 h2
 ·obtain⟨q1,q2,q3,q4,q5⟩:=h.pos q hq
  exact⟨q1,by omega,q3,q4,q5⟩
theorem St.step {n W:Nat} {R:Nat->Nat->Int} {j:Nat} {rows rows':List (List Int)} {P:List Int} (h:St n W R j rows P) (hj:j<W) (hk:P.length<n) (hlen:rows'.length=n) (heach:∀i,i<n->(nL rows' i).length=W)
  (π:Nat->Nat) (hπ:∀i,i<n->π i<n) (hinj:∀i k,i<n->k<n->π i=π k->i=k) (hsur:∀i,i<n->∃k,k<n/\π k=i) (hfix:∀i,i<P.length->π i=i)
  (hx:∃s:Int,(s=1\/s=-1)/\∀c,c<W->nI (nL rows' P.length) c=s*nI (nL rows (π P.length)) c) (hpos:0<nI (nL rows' P.length) j)
  (ho:∀i,i<n->i≠P.length->Elm W j (nL rows' i) (nL rows (π i)) (nL rows' P.length)):St n W R (j+1) rows' (P++[(j:Int)]):=by
 obtain⟨s,hs,hsx⟩:=hx
 have hs0:s≠0:=by rcases hs with rfl | rfl <;> decide
 have hge:∀i,P.length<=i->i<n->P.length<=π i:=λi h1 h2=>by
  rcases Nat.lt_or_ge (π i) P.length with e | e
  ·have:=hinj (π i) i (hπ i h2) h2 (hfix _ e)
   omega
  ·exact e
 have hnx:nI (nL rows (π P.length)) j≠0:=λe=>by
  have:=hsx j hj
  rw[e,Int.mul_zero] at this
  omega
 have hpk:∀c,c<j->nI (nL rows' P.length) c=0:=λc hc=>by
  rw[hsx c (by omega),h.zero _ (hge _ (Nat.le_refl _) hk) (hπ _ hk) c hc,Int.mul_zero]
 have hpz:∀q,q<P.length->nI (nL rows' P.length) (nI P q).toNat=0:=λq hq=>by
  have:=h.pos q hq
  exact hpk _ (by omega)
 obtain⟨ρ,pv,τ,hE,t1,t2,t3,t4,t5,t6⟩:=h.tag
 have hsur2:∀a,∃i,a<n->i<n/\τ (π i)=a:=λa=>by
  by_cases ha:a<n
  ·obtain⟨i,hi,e⟩:=t3 a ha
   obtain⟨k,hk,e2⟩:=hsur i hi
   exact⟨k,λ_=>⟨hk,by rw[e2,e]⟩⟩
  ·exact⟨0,λq=>absurd q ha⟩
 obtain⟨σ,hσ⟩:=Classical.axiomOfChoice hsur2
 have hστ:∀i,i<n->σ (τ (π i))=i:=λi hi=>by
  obtain⟨q1,q2⟩:=hσ (τ (π i)) (t1 _ (hπ i hi))
  exact hinj _ _ q1 hi (t2 _ _ (hπ _ q1) (hπ _ hi) q2)
 refine⟨hlen,heach,⟨λa c=>nI (nL rows' (σ a)) c,λb=>if b=τ (π P.length) then some j else pv b,λi=>τ (π i),?_,λi hi=>t1 _ (hπ i hi),λi k hi hk e=>hinj _ _ hi hk (t2 _ _ (hπ i hi) (hπ k hk) e),λa ha=>⟨σ a,hσ a ha⟩,λi hi c hc=>by dsimp only; rw[hστ i hi],λq hq=>?_,λi hi=>?_⟩,λz=>?_,by rw[List.length_append]; exact hk,λi h1 h2 c hc=>?_,λq hq=>?_,λq k h1 h2=>?_⟩
 ·refine hE.step (t1 _ (hπ _ hk)) ?_ hj ?_ ⟨s,hs0,λc hc=>?_⟩ λa ha hne=>?_
  ·rw[t5 _ (hπ _ hk),if_neg (Nat.not_lt.2 (hge _ (Nat.le_refl _) hk))]
  ·rw[t4 _ (hπ _ hk) j hj]; exact hnx
  ·try dsimp only
   rw[hστ _ hk,hsx c hc,t4 _ (hπ _ hk) c hc]
  ·obtain⟨q1,q2⟩:=hσ a ha
   have hne2:σ a≠P.length:=λe=>hne (by rw[<- q2,e])
   have hel:=ho _ q1 hne2
   refine⟨hel.zero,?_⟩
   obtain⟨α,β,γ,hα,hβ,hr⟩:=hel.rel
   refine⟨α,β,γ,by omega,by omega,λc hc=>?_⟩
   try dsimp only
   rw[hστ _ hk,hr c hc]
   have:=t4 _ (hπ _ q1) c hc
   rw[q2] at this
   rw[this]
 ·dsimp only
  by_cases e:q=P.length
  ·subst e
   rw[if_pos rfl,if_pos (by rw[List.length_append]; exact Nat.lt_succ_self _),qj7]
   rfl
  ·rw[if_neg λq2=>e (hinj _ _ hq hk (t2 _ _ (hπ _ hq) (hπ _ hk) q2)),t5 _ (hπ _ hq),List.length_append]
   rcases Nat.lt_or_ge q P.length with e2 | e2
   ·rw[hfix _ e2,if_pos e2,if_pos (by omega),qi0 _ _ e2]
   ·rw[if_neg (Nat.not_lt.2 (hge _ e2 hq)),if_neg (by simp; omega)]
 ·dsimp only
  by_cases e:i=P.length
  ·subst e
   rcases t6 _ (hπ _ hi) with⟨u,hu,hr⟩ | hr | hr
   ·refine .inl ⟨s*u,?_,λc hc=>by rw[hsx c hc,hr c hc,Int.mul_assoc]⟩
    rcases hs with rfl | rfl <;> rcases hu with rfl | rfl <;> simp
   ·exact .inr (.inl λc hc=>by rw[hsx c hc,hr c hc,Int.mul_zero])
   ·refine .inr (.inr λd hd=>hr d λc hc=>?_)
    have:=hd c hc
    rw[hsx c hc,Int.natAbs_mul] at this
    have h1:s.natAbs=1:=by rcases hs with rfl | rfl <;> rfl
    rwa [h1,Nat.one_mul] at this
  ·exact(ho i hi e).nice _ (t6 _ (hπ _ hi))
 ·rw[h.sol z]
  have hdk:dt W (nL rows' P.length) z=s*dt W (nL rows (π P.length)) z:=by
   have:=w2g (W:=W) (r':=nL rows' P.length) (r:=nL rows (π P.length)) (p:=[]) (z:=z) (α:=1) (β:=s) (γ:=0) λc hc=>by rw[hsx c hc]; simp
   simpa using this
  constructor
  ·intro hz i hi
   have hzk:dt W (nL rows' P.length) z=0:=by rw[hdk,hz _ (hπ _ hk),Int.mul_zero]
   by_cases e:i=P.length
   ·rw[e]; exact hzk
   ·obtain⟨α,β,γ,hα,hβ,hr⟩:=(ho i hi e).rel
    have:=w2g (z:=z) hr
    rw[hzk,hz _ (hπ _ hi),Int.mul_zero,Int.mul_zero] at this
    exact qc7 (by omega) (show α≠0 by omega)
  ·intro hz i' hi'
   obtain⟨i,hi,rfl⟩:=hsur i' hi'
   by_cases e:i=P.length
   ·have:=hz _ hk
    rw[hdk] at this
    rw[e]
    exact qc7 this hs0
   ·obtain⟨α,β,γ,hα,hβ,hr⟩:=(ho i hi e).rel
    have:=w2g (z:=z) hr
    rw[hz _ hk,hz _ hi,Int.mul_zero,Int.mul_zero] at this
    exact qc7 (a:=β) (by omega) (by omega)
 ·rw[List.length_append] at h1
  have h1:P.length+1<=i:=h1
  have hel:=ho i h2 (by omega)
  rcases Nat.lt_succ_iff_lt_or_eq.1 hc with e | e
  ·obtain⟨α,β,γ,hα,hβ,hr⟩:=hel.rel
   have:=hr c (by omega)
   rw[hpk c e,h.zero _ (hge _ (by omega) h2) (hπ _ h2) c e] at this
   exact qc7 (a:=α) (by simpa using this) (by omega)
  ·rw[e]; exact hel.zero
 ·rw[List.length_append] at hq
  have hq:q<P.length+1:=hq
  rcases Nat.lt_succ_iff_lt_or_eq.1 hq with e | e
  ·rw[qi0 _ _ e]
   obtain⟨q1,q2,q3,q4,q5⟩:=h.pos q e
   have hel:=ho q (by omega) (by omega)
   obtain⟨α,β,γ,hα,hβ,hr⟩:=hel.rel
   refine⟨q1,by omega,q33 hα ?_,λc hc=>?_,λi hi hne=>?_⟩
   ·rw[hr _ (by omega),hpz q e,hfix _ e,Int.mul_zero,Int.sub_zero]
    exact Int.mul_pos hβ q3
   ·have:=hr c (by omega)
    rw[hpk c (by omega),hfix _ e,q4 c hc] at this
    exact qc7 (a:=α) (by simpa using this) (by omega)
   ·by_cases e3:i=P.length
    ·rw[e3]; exact hpz q e
    ·obtain⟨α,β,γ,hα,hβ,hr⟩:=(ho i hi e3).rel
     have:=hr (nI P q).toNat (by omega)
     rw[hpz q e,q5 (π i) (hπ _ hi) λe4=>hne (hinj _ _ hi (by omega) (by rw[e4,hfix _ e]))] at this
     exact qc7 (a:=α) (by simpa using this) (by omega)
  ·subst e
   rw[qj7]
   refine⟨by omega,by omega,hpos,λc hc=>hpk c hc,λi hi hne=>(ho i hi hne).zero⟩
 ·rw[List.length_append] at h2
  have h2:k<P.length+1:=h2
  rcases Nat.lt_succ_iff_lt_or_eq.1 h2 with e | e
  ·rw[qi0 _ _ e,qi0 _ _ (by omega)]; exact h.asc q k h1 e
  ·subst e
   rw[qj7,qi0 _ _ h1]
   have:=h.pos q h1
   omega
theorem St.bound {n W:Nat} {R:Nat->Nat->Int} {j:Nat} {rows:List (List Int)} {P:List Int} (h:St n W R j rows P) (hone:∀a c,a<n->c<j->(R a c).natAbs<=1) {i c B:Nat} (hi:i<n) (hc:c<W) (hB:∀b,b<n->(R b c).natAbs<=B):(nI (nL rows i) c).natAbs<=n ^ n*B:=by
 obtain⟨ρ,pv,τ,hE,t1,t2,t3,t4,t5,t6⟩:=h.tag
 rw[<- t4 i hi c hc]
 refine hE.bound (λt p ht hp b hb=>?_) (t1 i hi) ?_ hc hB
 ·obtain⟨q,hq,rfl⟩:=t3 t ht
  rw[t5 q hq] at hp
  split at hp
  ·rename_i hqP
   obtain rfl:=Option.some.inj hp
   have:=h.pos q hqP
   exact hone b _ hb (by omega)
  ·cases hp
 ·rcases t6 i hi with⟨s,hs,hr⟩ | hr | hr
  ·exact .inl ⟨s,hs,λc hc=>by rw[t4 i hi c hc]; exact hr c hc⟩
  ·exact .inr (.inl λc hc=>by rw[t4 i hi c hc]; exact hr c hc)
  ·exact .inr (.inr λd hd=>hr d λc hc=>by rw[<- t4 i hi c hc]; exact hd c hc)
theorem q1g (l:List Int) {c:Nat} (h:l.length<=c):nI l c=0:=by
 unfold nI qd4
 simp[List.getElem?_eq_none h]
 rfl
theorem q71 {l:List Int} {f:Int->Int} {c:Nat} (h:c<l.length):nI (l.map f) c=f (nI l c):=by
 rw[qg1 _ _ (by simpa using h),qg1 _ _ h,List.getElem_map]
theorem q5i {l:List Int} {c:Nat} (h:c<l.length):nI l c∈l:=by rw[qg1 _ _ h]; exact List.getElem_mem h
theorem q5j {l:List Int} {x:Int} (h:x∈l):∃c,c<l.length/\x=nI l c:=by
 obtain⟨c,hc,rfl⟩:=List.mem_iff_getElem.1 h
 exact⟨c,hc,(qg1 l c hc).symm⟩
theorem wq5 (a b:Int):(qd8 a b).natAbs=Nat.gcd a.natAbs b.natAbs:=rfl
theorem x4b:∀(l:List Int) (a:Int),(l.foldl qd8 a).natAbs∣a.natAbs/\(∀x∈l,(l.foldl qd8 a).natAbs∣x.natAbs)/\∀d:Nat,d∣a.natAbs->(∀x∈l,d∣x.natAbs)->d∣(l.foldl qd8 a).natAbs
 | [],a=>⟨Nat.dvd_refl _,λx hx=>(by cases hx),λd h _=>h⟩
 | y :: l,a=>by
  obtain⟨h1,h2,h3⟩:=x4b l (qd8 a y)
  rw[List.foldl_cons]
  rw[wq5] at h1 h3
  refine⟨Nat.dvd_trans h1 (Nat.gcd_dvd_left _ _),λx hx=>?_,λd ha hx=>h3 d (Nat.dvd_gcd ha (hx y (by simp))) λx hx'=>hx x (by simp[hx'])⟩
  rcases List.mem_cons.1 hx with rfl | hx
  ·exact Nat.dvd_trans h1 (Nat.gcd_dvd_right _ _)
  ·exact h2 x hx
theorem q72:∀(l:List Int) (a:Int),0<=a->0<=l.foldl qd8 a
 | [],a,h=>h
 | y :: l,a,_=>q72 l _ (q7g _ _)
theorem q2y (l:List Int):0<=gcdL l:=q72 l 0 (by decide)
theorem q5k (l:List Int):qe2 l=qr7 l:=by
 have h0:=q2y l
 unfold qe2 qr7
 split
 ·rename_i h
  rw[show max (gcdL l) 1=gcdL l by omega]
 ·rename_i h
  rw[show max (gcdL l) 1=1 by omega]
  simp
theorem qx5 (l:List Int) {c:Nat} (hc:c<l.length):max (gcdL l) 1*nI (qr7 l) c=nI l c:=by
 have h0:=q2y l
 unfold qr7
 rw[q71 hc]
 apply Int.mul_tdiv_cancel'
 rcases Int.lt_or_le 0 (gcdL l) with h | h
 ·rw[show max (gcdL l) 1=gcdL l by omega]
  exact Int.natAbs_dvd_natAbs.1 ((x4b l 0).2.1 _ (q5i hc))
 ·rw[show max (gcdL l) 1=1 by omega]
  exact Int.one_dvd _
def Prim (l:List Int):Prop:=(∀c,c<l.length->nI l c=0)\/∀d:Nat,(∀c,c<l.length->d∣(nI l c).natAbs)->d=1
theorem qm6 (l:List Int):Prim (qr7 l):=by
 have h0:=q2y l
 unfold Prim
 rw[qt9]
 rcases Int.lt_or_le 0 (gcdL l) with h | h
 ·refine .inr λd hd=>?_
  have hm:max (gcdL l) 1=gcdL l:=by omega
  have h1:(gcdL l).natAbs*d∣(gcdL l).natAbs:=(x4b l 0).2.2 _ (Nat.dvd_zero _) λx hx=>by
   obtain⟨c,hc,rfl⟩:=q5j hx
   rw[<- qx5 l hc,hm,Int.natAbs_mul]
   exact Nat.mul_dvd_mul_left _ (hd c hc)
  have h2:(gcdL l).natAbs*d∣(gcdL l).natAbs*1:=by rw[Nat.mul_one]; exact h1
  exact Nat.dvd_one.1 (Nat.dvd_of_mul_dvd_mul_left (by omega) h2)
 ·refine .inl λc hc=>?_
  have h1:nI l c=0:=by
   have:=(x4b l 0).2.1 _ (q5i hc)
   have e:(l.foldl qd8 0).natAbs=0:=by
    have:gcdL l=0:=by omega
    unfold gcdL at this; rw[this]; rfl
   rw[e] at this
   have:=Nat.eq_zero_of_zero_dvd this
   omega
  have:=qx5 l hc
  rw[h1,show max (gcdL l) 1=1 by omega,Int.one_mul] at this
  exact this
theorem Prim.nice {l:List Int} {W:Nat} (h:Prim l) (hl:l.length=W) (f:Nat->Int):x1f W f (nI l):=by
 subst hl
 exact .inr (h.imp id id)
theorem xl9 (l:List Int) (c:Nat):(nI (qr7 l) c).natAbs<=(nI l c).natAbs:=by
 rcases Nat.lt_or_ge c l.length with h | h
 ·unfold qr7
  rw[q71 h,Int.natAbs_tdiv]; exact Nat.div_le_self _ _
 ·rw[q1g _ (by rw[qt9]; exact h)]; simp
theorem xs0 {W j:Nat} {u r p:List Int} {β γ:Int} (hj:j<W) (hu:u.length=W) (h0:nI u j=0) (hβ:0<β) (h:∀c,c<W->nI u c=β*nI r c-γ*nI p c):Elm W j (qr7 u) r p:=by
 subst hu
 have hG:0<max (gcdL u) 1:=by omega
 refine⟨?_,⟨max (gcdL u) 1,β,γ,hG,hβ,λc hc=>by rw[qx5 u hc]; exact h c hc⟩,λf _=>(qm6 u).nice (qt9 u) f⟩
 have:=qx5 u hj
 rw[h0] at this
 exact qc7 this (by omega)
theorem xm0 {W j:Nat} {r p:List Int} (h0:nI r j=0):Elm W j r r p:=⟨h0,⟨1,1,0,by decide,by decide,λc _=>by simp⟩,λ_ h=>h⟩
theorem wq6 (r b:List Int) (j:Nat) {c:Nat} (hc:c<r.length):nI (q5f r b j) c=xx6 r b j c:=by
 rw[qg1 _ _ (by rw[q14]; exact hc)]
 simp[q5f]
theorem w9c {W j:Nat} {r p:List Int} (hj:j<W) (hr:r.length=W) (hp:0<nI p j):Elm W j (qw8 r p j) r p:=by
 have hg:0<qd8 (nI r j) (nI p j):=qm5 (.inr (by omega))
 have e1:qd8 (nI r j) (nI p j)*q1 r p j=nI p j:=Int.mul_tdiv_cancel' (Int.natAbs_dvd_natAbs.1 (Nat.gcd_dvd_right _ _))
 have e2:qd8 (nI r j) (nI p j)*q2 r p j=nI r j:=Int.mul_tdiv_cancel' (Int.natAbs_dvd_natAbs.1 (Nat.gcd_dvd_left _ _))
 unfold qw8
 rw[q5k]
 refine xs0 (β:=q1 r p j) (γ:=q2 r p j) hj (by rw[q14]; exact hr) ?_ (q33 hg (by omega)) λc hc=>?_
 ·rw[wq6 r p j (by omega)]
  unfold xx6
  have h3:nI r j*q1 r p j=nI p j*q2 r p j:=by
   generalize qd8 (nI r j) (nI p j)=g at e1 e2
   rw[<- e1,<- e2]
   grind
  omega
 ·rw[wq6 r p j (by omega)]
  unfold xx6
  grind
theorem wi4 (r p:List Int) (j:Nat) {c:Nat} (hc:c<r.length):nI (wp5 r p j) c=nI r c*nI p j-nI p c*nI r j:=by
 rw[qg1 _ _ (by simp[wp5]; exact hc)]
 simp[wp5]
theorem w9d (r p:List Int) (j:Nat):(wp5 r p j).length=r.length:=by simp[wp5]
theorem q73 {W j:Nat} {r p:List Int} (hj:j<W) (hr:r.length=W) (hp:0<nI p j):Elm W j (qi6 r p j) r p:=by
 unfold qi6
 refine xs0 (β:=nI p j) (γ:=nI r j) hj (by rw[w9d]; exact hr) ?_ hp λc hc=>?_
 ·rw[wi4 r p j (by omega)]; grind
 ·rw[wi4 r p j (by omega)]; grind
structure Mat (n W:Nat) (M:List (List Int)):Prop where
 len:M.length=n
 each:∀i,i<n->(nL M i).length=W
def rowOf (M:List (List Int)):Nat->Nat->Int:=λa c=>nI (nL M a) c
theorem q98 (r:List Int) (c:Nat):nI (xk3 r) c=- nI r c:=by
 rcases Nat.lt_or_ge c r.length with h | h
 ·rw[qg1 _ _ (by rw[q55]; exact h)]
  simp[xk3]
 ·rw[q1g _ h,q1g _ (by rw[q55]; exact h)]; rfl
theorem w9e (r:List (List Int)) (k i:Nat):nL (r.drop k) i=nL r (k+i):=by
 unfold nL qd4
 rw[List.getD_eq_getElem?_getD,List.getD_eq_getElem?_getD,List.getElem?_drop]
theorem w9f {r:List (List Int)} {k j:Nat} (h:qs6 r k j<0):∀i,k<=i->i<r.length->nI (nL r i) j=0:=λi h1 h2=>by
 unfold qs6 ixT at h
 split at h
 ·omega
 ·rename_i hn
  have:=List.any_eq_false.1 (Bool.eq_false_iff.2 hn) (nL r i) (by
   have:=w9e r k (i-k)
   rw[show k+(i-k)=i by omega] at this
   rw[<- this]
   exact qs2 _ _ (by rw[List.length_drop]; omega))
  simpa using this
theorem w2h {r:List (List Int)} {k j:Nat} (h:0<=qs6 r k j):nI (nL r (k+(qs6 r k j).toNat)) j≠0:=by
 unfold qs6 ixT at h ⊢
 split at h
 ·rename_i ha
  rw[if_pos ha]
  have h1:=List.findIdx_getElem (xs:=r.drop k) (p:=λr=>nI r j != 0) (w:=List.findIdx_lt_length.2 (by simpa using ha))
  have h2:(r.drop k).findIdx (λr=>nI r j != 0)<(r.drop k).length:=List.findIdx_lt_length.2 (by simpa using ha)
  rw[<- qp9 _ _ h2,w9e] at h1
  simpa using h1
 ·omega
theorem St.zero_ {n W:Nat} {M:List (List Int)} (h:Mat n W M):St n W (rowOf M) 0 M []:=by
 refine⟨h.len,h.each,⟨rowOf M,λ_=>none,id,El.start λa _=>⟨1,by decide,λj _=>Int.one_mul _⟩,λi hi=>hi,λi k _ _ e=>e,λa ha=>⟨a,ha,rfl⟩,λi _ c _=>rfl,λq _=>by simp,λi _=>.inl ⟨1,.inl rfl,λc _=>(Int.one_mul _).symm⟩⟩,λz=>Iff.rfl,Nat.zero_le _,λi _ _ c hc=>absurd hc (Nat.not_lt_zero _),λq hq=>absurd hq (Nat.not_lt_zero _),λq k _ hk=>absurd hk (Nat.not_lt_zero _)⟩
theorem q99 {n W j:Nat} {R:Nat->Nat->Int} {s:List (List Int) × List Int} (hj:j<W) (h:St n W R j s.1 s.2):St n W R (j+1) (qw0 s j).1 (qw0 s j).2:=by
 obtain⟨r,P⟩:=s
 have h:St n W R j r P:=h
 unfold qw0
 split
 ·rename_i hn
  exact h.skip λi h1 h2=>w9f hn i h1 (by rw[h.len]; exact h2)
 ·rename_i hn
  have hn:0<=qs6 r P.length j:=Int.not_lt.1 hn
  have hlen:=h.len
  have hpl:=h.pl
  have hb:=q18 r P.length j (by omega) hn
  have hk:P.length<n:=by omega
  have hne:=w2h hn
  show St n W R (j+1) (xd6 (qj3 r P.length j) P.length j) (P++[(j:Int)])
  obtain⟨b,hbd⟩:∃b,b=P.length+(qs6 r P.length j).toNat:=⟨_,rfl⟩
  rw[<- hbd] at hb hne
  have hsw:∀i,i<n->nL (q17 r P.length j) i=nL r (if i=P.length then b else if i=b then P.length else i):=λi hi=>by
   unfold q17
   rw[<- hbd,q3t _ _ _ (by omega) hb i (by omega)]
   by_cases e1:i=b
   ·rw[if_pos e1]
    by_cases e2:i=P.length
    ·rw[if_pos e2,<- e1,e2]
    ·rw[if_neg e2,if_pos e1]
   ·rw[if_neg e1]
    by_cases e2:i=P.length
    ·rw[if_pos e2,if_pos e2]
    ·rw[if_neg e2,if_neg e2,if_neg e1]
  have hpr:∀i,i<n->i≠P.length->nL (qj3 r P.length j) i=nL (q17 r P.length j) i:=λi hi hne=>by
   rw[q3u _ _ _ _ (by omega),if_neg λq=>hne q.1]
  have hpk:∃s:Int,(s=1\/s=-1)/\(∀c,nI (nL (qj3 r P.length j) P.length) c=s*nI (nL r b) c)/\0<nI (nL (qj3 r P.length j) P.length) j:=by
   have e:=hsw P.length hk
   rw[if_pos rfl] at e
   rw[q3u _ _ _ _ (by omega),e]
   by_cases q:nI (nL r b) j<0
   ·rw[if_pos ⟨rfl,q⟩]
    refine⟨-1,.inr rfl,λc=>by rw[q98]; omega,by rw[q98]; omega⟩
   ·rw[if_neg λk=>q k.2]
    exact⟨1,.inl rfl,λc=>by omega,by omega⟩
  obtain⟨s,hs,hsx,hpos⟩:=hpk
  have hcl:xd6 (qj3 r P.length j) P.length j=xd6 (qj3 r P.length j) P.length j:=rfl
  have hat:∀i,i<n->nL (xd6 (qj3 r P.length j) P.length j) i=wj7 (qj3 r P.length j) P.length j i:=λi hi=>w8k _ _ _ _ (by rw[qj1]; omega)
  have heach:=q19 (r:=r) (k:=P.length) (j:=j) (W:=W) (by omega) hn λi hi=>h.each i (by omega)
  have hatk:nL (xd6 (qj3 r P.length j) P.length j) P.length=nL (qj3 r P.length j) P.length:=by
   rw[hat _ hk]; unfold wj7; rw[if_neg λq=>q.1 rfl]
  refine h.step hj hk (by rw[wh5,qj1]; exact hlen) (λi hi=>?_) (λi=>if i=P.length then b else if i=b then P.length else i) (λi hi=>?_) (λi k hi hk2 e=>?_) (λi hi=>?_) (λi hi=>?_) ⟨s,hs,λc hc=>?_⟩ ?_ λi hi hne2=>?_
  ·rw[hat i hi]; unfold wj7
   split
   ·rw[q9s]; exact heach i (by omega)
   ·exact heach i (by omega)
  ·(try dsimp only); split
   ·omega
   ·split <;> omega
  ·try dsimp only at e
   split at e <;> split at e <;> (try split at e) <;> (try split at e) <;> omega
  ·refine⟨if i=P.length then b else if i=b then P.length else i,?_,?_⟩
   ·split
    ·omega
    ·split <;> omega
   ·try dsimp only
    by_cases e1:i=P.length
    ·rw[if_pos e1]
     by_cases e3:b=P.length
     ·rw[if_pos e3]; omega
     ·rw[if_neg e3,if_pos rfl]; omega
    ·rw[if_neg e1]
     by_cases e2:i=b
     ·rw[if_pos e2,if_pos rfl]; omega
     ·rw[if_neg e2,if_neg e1,if_neg e2]
  ·try dsimp only
   rw[if_neg (by omega),if_neg (by omega)]
  ·rw[hatk,if_pos rfl]; exact hsx c
  ·rw[hatk]; exact hpos
  ·rw[hatk,hat i hi]
   try dsimp only
   rw[<- hsw i hi,<- hpr i hi hne2]
   unfold wj7
   by_cases q:nI (nL (qj3 r P.length j) i) j=0
   ·rw[if_neg λk=>k.2 q]
    exact xm0 q
   ·rw[if_pos ⟨hne2,q⟩]
    exact w9c hj (heach i (by omega)) hpos
theorem qn3 {n W:Nat} {M:List (List Int)} (h:Mat n W M):∀j,j<=W->St n W (rowOf M) j (qa4 M j).1 (qa4 M j).2
 | 0,_=>St.zero_ h
 | j+1,hj=>q99 (by omega) (qn3 h j (by omega))
structure Small (n C W:Nat) (M:List (List Int)):Prop extends Mat n W M where
 n6:n<=6
 cw:C<=W
 w:W<=1000
 one:∀a c,a<n->c<C->(nI (nL M a) c).natAbs<=1
 read:∀a c,a<n->c<W->(nI (nL M a) c).natAbs<=1000000
theorem yf5 {n:Nat} (h:n<=6):n ^ n<=46656:=by
 have:∀k:Fin 7,k.val ^ k.val<=46656:=by decide
 exact this ⟨n,by omega⟩
theorem St.small {n C W j:Nat} {M rows:List (List Int)} {P:List Int} (hM:Small n C W M) (h:St n W (rowOf M) j rows P) (hj:j<=C) {i:Nat} (hi:i<n):(∀c,c<C->(nI (nL rows i) c).natAbs<=46656)/\∀c,c<W->(nI (nL rows i) c).natAbs<=46656000000:=by
 have h6:=yf5 hM.n6
 have hcw:=hM.cw
 refine⟨λc hc=>?_,λc hc=>?_⟩
 ·have:=h.bound (λa c ha hc=>hM.one a c ha (by omega)) hi (show c<W by omega) (B:=1) λb hb=>hM.one b c hb hc
  omega
 ·have:=h.bound (λa c ha hc=>hM.one a c ha (by omega)) hi hc (B:=1000000) λb hb=>hM.read b c hb hc
  omega
theorem q1h {a b:Int} {A B:Nat} (ha:a.natAbs<=A) (hb:b.natAbs<=B):(a*b).natAbs<=A*B:=by
 rw[Int.natAbs_mul]; exact Nat.mul_le_mul ha hb
theorem q6a (a b:Int):(a.tdiv b).natAbs<=a.natAbs:=by rw[Int.natAbs_tdiv]; exact Nat.div_le_self _ _
structure Sml (n C W K B:Nat) (M:List (List Int)):Prop extends Mat n W M where
 n6:n<=6
 cw:C<=W
 w:W<=1000
 k1:1<=K
 kk:K*K<=B
 kB:K<=691200
 bB:B<=700000000000
 read:∀a c,a<n->c<W->(nI (nL M a) c).natAbs<=B
 small:∀j rows P,j<=C->St n W (rowOf M) j rows P->∀i,i<n->(∀c,c<C->(nI (nL rows i) c).natAbs<=K)/\∀c,c<W->(nI (nL rows i) c).natAbs<=B
theorem Small.sml {n C W:Nat} {M:List (List Int)} (h:Small n C W M):Sml n C W 46656 46656000000 M:=
 ⟨h.toMat,h.n6,h.cw,h.w,by decide,by decide,by decide,by decide,λa c ha hc=>by have:=h.read a c ha hc; omega,λj rows P hj hs i hi=>hs.small h hj hi⟩
theorem w9g {n C W K B:Nat} {M:List (List Int)} (hM:Sml n C W K B M):qz8 M C W:=by
 have hkB:=hM.kB
 have hbB:=hM.bB
 have hBK:B*K<=700000000000*691200:=Nat.mul_le_mul hbB hkB
 have hn:=hM.n6
 have hl:=hM.len
 have hw:=hM.w
 have hcw:=hM.cw
 refine⟨by omega,hw,hM.cw,λi hi=>hM.each i (by omega),λj hj hp=>?_⟩
 have hst:=qn3 hM.toMat j (by omega)
 have hsm:=λ{i} (hi:i<n)=>hM.small _ _ _ (by omega) hst i hi
 have hlen:=hst.len
 have hpl:=hst.pl
 generalize qa4 M j=s at hp hst hsm hlen hpl ⊢
 obtain⟨r,P⟩:=s
 simp only[] at hp hst hsm hlen hpl ⊢
 have hb:=q18 r P.length j (by omega) hp
 have heachS:=q7m (r:=r) (k:=P.length) (j:=j) (W:=W) (by omega) hp λi hi=>hst.each i (by omega)
 have heach:=q19 (r:=r) (k:=P.length) (j:=j) (W:=W) (by omega) hp λi hi=>hst.each i (by omega)
 have hsw:∀i,i<n->(∀c,c<C->(nI (nL (q17 r P.length j) i) c).natAbs<=K)/\∀c,c<W->(nI (nL (q17 r P.length j) i) c).natAbs<=B:=λi hi=>by
  unfold q17
  rw[q3t _ _ _ (by omega) hb i (by omega)]
  split
  ·exact hsm (by omega)
  ·split
   ·exact hsm (by omega)
   ·exact hsm hi
 have hpr:∀i,i<n->(∀c,c<C->(nI (nL (qj3 r P.length j) i) c).natAbs<=K)/\∀c,c<W->(nI (nL (qj3 r P.length j) i) c).natAbs<=B:=λi hi=>by
  rw[q3u _ _ _ _ (by omega)]
  split
  ·refine⟨λc hc=>?_,λc hc=>?_⟩
   ·rw[q98,Int.natAbs_neg]; exact(hsw _ (by omega)).1 c hc
   ·rw[q98,Int.natAbs_neg]; exact(hsw _ (by omega)).2 c hc
  ·exact hsw i hi
 have hst2:=q99 (j:=j) (by omega) (show St n W (rowOf M) j (r,P).1 (r,P).2 from hst)
 have hpk:nI (nL (qj3 r P.length j) P.length) j≠0:=by
  have e:=w2h hp
  have hs:nL (q17 r P.length j) P.length=nL r (P.length+(qs6 r P.length j).toNat):=by
   unfold q17
   rw[q3t _ _ _ (by omega) hb _ (by omega)]
   split
   ·rename_i q; rw[<- q]
   ·rw[if_pos rfl]
  rw[q3u _ _ _ _ (by omega)]
  split
  ·rw[q98,hs]; omega
  ·rw[hs]; exact e
 have hB:BIG=4000000000000000000:=rfl
 have hB2:x2z=2000000000000000000:=rfl
 refine⟨λx hx=>?_,λi hi hne hz=>⟨?_,?_,?_,hpk,?_,?_,λc hc=>?_,λc hc=>?_⟩⟩
 ·obtain⟨c,hc,rfl⟩:=q5j hx
  have h1:=heachS P.length (by omega)
  have:=(hsw P.length (by omega)).2 c (by omega)
  constructor <;> omega
 ·rw[heach i (by omega)]; omega
 ·rw[heach i (by omega),heach P.length (by omega)]
 ·rw[heach i (by omega)]; exact hw
 ·have:=(hpr i (by omega)).1 j hj
  constructor <;> omega
 ·have:=(hpr P.length (by omega)).1 j hj
  constructor <;> omega
 ·rw[heach i (by omega)] at hc
  have h1:=(hpr i (by omega)).2 c hc
  have h2:=(hpr P.length (by omega)).1 j hj
  have h3:(q1 (nL (qj3 r P.length j) i) (nL (qj3 r P.length j) P.length) j).natAbs<=K:=Nat.le_trans (q6a _ _) h2
  have:=q1h h1 h3
  constructor <;> omega
 ·rw[heach i (by omega)] at hc
  have h1:=(hpr P.length (by omega)).2 c hc
  have h2:=(hpr i (by omega)).1 j hj
  have h3:(q2 (nL (qj3 r P.length j) i) (nL (qj3 r P.length j) P.length) j).natAbs<=K:=Nat.le_trans (q6a _ _) h2
  have:=q1h h1 h3
  constructor <;> omega
theorem q1i {n C W:Nat} {M:List (List Int)} (hM:Small n C W M):qz8 M C W:=w9g hM.sml
theorem qm1 (a b:List (List Int)) {i:Nat} (h:i<a.length):nL (a++b) i=nL a i:=by
 rw[qp9 _ i (by rw[List.length_append]; omega),qp9 _ i h,List.getElem_append_left h]
theorem qx6 (a b:List (List Int)) (i:Nat):nL (a++b) (a.length+i)=nL b i:=by
 unfold nL qd4
 rw[List.getD_eq_getElem?_getD,List.getD_eq_getElem?_getD,List.getElem?_append_right (by omega)]
 congr 2; omega
theorem w9h {f:List Int->List Int} {l:List (List Int)} {i:Nat} (h:i<l.length):nL (l.map f) i=f (nL l i):=by
 rw[qp9 _ i (by simpa using h),qp9 _ i h,List.getElem_map]
theorem wq7 (left:List (List Int)) (p:List Int) (j a:Nat):∀K,(qr2 left p j a K).length=(if a<K then K-1 else K)/\∀i,i<(qr2 left p j a K).length->nL (qr2 left p j a K) i=qi6 (nL left (if i<a then i else i+1)) p j
 | 0=>⟨by rw[if_neg (Nat.not_lt_zero _)]; rfl,λi hi=>absurd hi (Nat.not_lt_zero _)⟩
 | K+1=>by
  obtain⟨h1,h2⟩:=wq7 left p j a K
  rw[qr2]
  by_cases e:K=a
  ·subst e
   rw[if_neg (λq=>q rfl)]
   rw[if_neg (Nat.lt_irrefl _)] at h1
   exact⟨by rw[h1,if_pos (Nat.lt_succ_self _)]; rfl,h2⟩
  ·rw[if_pos (by omega)]
   refine⟨?_,λi hi=>?_⟩
   ·rw[List.length_append,h1]
    show _+1=_
    split <;> split <;> omega
   ·rw[List.length_append] at hi
    have hi:i<(qr2 left p j a K).length+1:=hi
    rcases Nat.lt_succ_iff_lt_or_eq.1 hi with q | q
    ·rw[qm1 _ _ q]; exact h2 i q
    ·rw[q]
     have:=qx6 (qr2 left p j a K) [qi6 (nL left K) p j] 0
     rw[Nat.add_zero] at this
     rw[this,qd0,h1]
     congr 2
     split <;> split <;> omega
theorem wa0 {left:List (List Int)} {j:Nat}:∀K,lastTo left j K<0->∀i,i<K->nI (nL left i) j=0
 | 0,_,i,hi=>absurd hi (Nat.not_lt_zero _)
 | K+1,h,i,hi=>by
  rw[lastTo] at h
  split at h
  ·omega
  ·rename_i hz
   rcases Nat.lt_succ_iff_lt_or_eq.1 hi with q | q
   ·exact wa0 K h i q
   ·rw[q]; exact Classical.not_not.1 hz
theorem q74 {left:List (List Int)} {j:Nat}:∀K,0<=lastTo left j K->nI (nL left (lastTo left j K).toNat) j≠0
 | 0,h=>by have:(0:Int)<=-1:=h; omega
 | K+1,h=>by
  rw[lastTo] at h ⊢
  split at h
  ·rename_i hz
   rw[if_pos hz]
   simpa using hz
  ·rename_i hz
   rw[if_neg hz]
   exact q74 K h
theorem q2b (l:List Int) (n:Int) (c:Nat):nI (q7q l n) c=nI l c*n:=by
 rcases Nat.lt_or_ge c l.length with h | h
 ·unfold q7q; rw[q71 h]
 ·rw[q1g _ h,q1g _ (by rw[qo1]; exact h),Int.zero_mul]
structure Rst (n W:Nat) (R:Nat->Nat->Int) (j:Nat) (s:RS):Prop where
 st:St n W R j (s.done_++s.left) s.piv
 cnt:s.done_.length=s.piv.length
 prim:∀x∈s.left,Prim x
theorem w2i (left:List (List Int)) (j:Nat) (a:Int) (hne:nI (nL left a.toNat) j≠0):∃s:Int,(s=1\/s=-1)/\(∀c,nI (q26 left j a) c=s*nI (nL left a.toNat) c)/\0<nI (q26 left j a) j:=by
 unfold q26
 by_cases q:nI (nL left a.toNat) j<0
 ·rw[if_pos q]
  exact⟨-1,.inr rfl,λc=>by rw[q2b]; omega,by rw[q2b]; omega⟩
 ·rw[if_neg q]
  exact⟨1,.inl rfl,λc=>by omega,by omega⟩
theorem xm1 {n W j:Nat} {R:Nat->Nat->Int} {s:RS} (hj:j<W) (h:Rst n W R j s):Rst n W R (j+1) (q8r s j):=by
 obtain⟨left,dn,P⟩:=s
 obtain⟨hst,hcnt,hprim⟩:=h
 have hst:St n W R j (dn++left) P:=hst
 have hcnt:dn.length=P.length:=hcnt
 have hprim:∀x∈left,Prim x:=hprim
 have hlen:=hst.len
 rw[List.length_append] at hlen
 have hL:∀i,i<left.length->nL (dn++left) (P.length+i)=nL left i:=λi hi=>by rw[<- hcnt]; exact qx6 _ _ _
 have hD:∀i,i<P.length->nL (dn++left) i=nL dn i:=λi hi=>qm1 _ _ (by omega)
 unfold q8r
 dsimp only
 split
 ·rename_i hn
  refine⟨hst.skip λi h1 h2=>?_,hcnt,hprim⟩
  have:=hL (i-P.length) (by omega)
  rw[show P.length+(i-P.length)=i by omega] at this
  rw[this]
  exact wa0 _ hn _ (by omega)
 ·rename_i hn
  have hn:0<=lastTo left j left.length:=Int.not_lt.1 hn
  have hlt:=(q1c left j left.length).1
  have hne:=q74 _ hn
  obtain⟨sg,hs,hsx,hpos⟩:=w2i left j (lastTo left j left.length) hne
  have hplen:(q26 left j (lastTo left j left.length)).length=(nL left (lastTo left j left.length).toNat).length:=by
   unfold q26; split
   ·exact qo1 _ _
   ·rfl
  generalize hA:q26 left j (lastTo left j left.length)=p at hsx hpos hplen ⊢
  obtain⟨a,ha⟩:∃a:Nat,lastTo left j left.length=(a:Int):=⟨(lastTo left j left.length).toNat,by omega⟩
  rw[ha] at hlt hne hsx hplen ⊢
  rw[Int.toNat_natCast] at hne hsx hplen
  have halt:a<left.length:=by omega
  obtain⟨r1,r2⟩:=wq7 left p j a left.length
  rw[if_pos halt] at r1
  have hW:∀i,i<left.length->(nL left i).length=W:=λi hi=>by rw[<- hL i hi]; exact hst.each _ (by omega)
  have hWd:∀i,i<P.length->(nL dn i).length=W:=λi hi=>by rw[<- hD i hi]; exact hst.each _ (by omega)
  have hdl:(dn.map λr=>qi6 r p j).length=P.length:=by simp[hcnt]
  have hA1:∀i,i<P.length->nL (((dn.map λr=>qi6 r p j)++[p])++qr2 left p j a left.length) i=qi6 (nL dn i) p j:=λi hi=>by
   rw[qm1 _ _ (by rw[List.length_append]; omega),qm1 _ _ (by omega),w9h (by omega)]
  have hA2:nL (((dn.map λr=>qi6 r p j)++[p])++qr2 left p j a left.length) P.length=p:=by
   rw[qm1 _ _ (by rw[List.length_append,hdl]; exact Nat.lt_succ_self _)]
   have:=qx6 (dn.map λr=>qi6 r p j) [p] 0
   rw[hdl,Nat.add_zero] at this
   rw[this,qd0]
  have hA3:∀i,i<left.length-1->nL (((dn.map λr=>qi6 r p j)++[p])++qr2 left p j a left.length) (P.length+1+i)=qi6 (nL left (if i<a then i else i+1)) p j:=λi hi=>by
   have e:((dn.map λr=>qi6 r p j)++[p]).length=P.length+1:=by rw[List.length_append,hdl]; rfl
   have:=qx6 ((dn.map λr=>qi6 r p j)++[p]) (qr2 left p j a left.length) i
   rw[e] at this
   rw[this,r2 i (by omega)]
  refine⟨?_,by rw[List.length_append,List.length_append,hdl]; rfl,λx hx=>?_⟩
  ·refine hst.step hj (by omega) ?_ (λi hi=>?_) (λi=>if i<P.length then i else if i=P.length then P.length+a else if i-P.length-1<a then i-1 else i) (λi hi=>?_) (λi k hi hk e=>?_) (λi hi=>?_) (λi hi=>?_) ⟨sg,hs,λc hc=>?_⟩ ?_ λi hi hne2=>?_
   ·rw[List.length_append,List.length_append,hdl,r1]
    show P.length+1+_=n
    omega
   ·rcases Nat.lt_trichotomy i P.length with q | q | q
    ·rw[hA1 i q,qv3]; exact hWd i q
    ·rw[q,hA2,hplen]; exact hW a halt
    ·have:=hA3 (i-P.length-1) (by omega)
     rw[show P.length+1+(i-P.length-1)=i by omega] at this
     rw[this,qv3]
     exact hW _ (by split <;> omega)
   ·(try dsimp only); split
    ·omega
    ·split
     ·omega
     ·split <;> omega
   ·try dsimp only at e
    split at e <;> split at e <;> (try split at e) <;> (try split at e) <;> (try split at e) <;> (try split at e) <;> omega
   ·rcases Nat.lt_or_ge i P.length with q | q
    ·exact⟨i,hi,by(try dsimp only); rw[if_pos q]⟩
    ·rcases Nat.lt_trichotomy i (P.length+a) with k | k | k
     ·exact⟨i+1,by omega,by(try dsimp only); rw[if_neg (by omega),if_neg (by omega),if_pos (by omega)]; omega⟩
     ·exact⟨P.length,by omega,by(try dsimp only); rw[if_neg (by omega),if_pos rfl]; omega⟩
     ·exact⟨i,hi,by(try dsimp only); rw[if_neg (by omega),if_neg (by omega),if_neg (by omega)]⟩
   ·(try dsimp only); rw[if_pos hi]
   ·rw[hA2,if_neg (Nat.lt_irrefl _),if_pos rfl,hL a halt]; exact hsx c
   ·rw[hA2]; exact hpos
   ·rw[hA2]
    try dsimp only
    rcases Nat.lt_or_ge i P.length with q | q
    ·rw[hA1 i q,if_pos q,hD i q]
     exact q73 hj (hWd i q) hpos
    ·have:=hA3 (i-P.length-1) (by omega)
     rw[show P.length+1+(i-P.length-1)=i by omega] at this
     have hπi:(if i<P.length then i else if i=P.length then P.length+a else if i-P.length-1<a then i-1 else i)=(if i-P.length-1<a then i-1 else i):=by rw[if_neg (by omega),if_neg hne2]
     rw[this,hπi]
     have e:nL (dn++left) (if i-P.length-1<a then i-1 else i)=nL left (if i-P.length-1<a then i-P.length-1 else i-P.length-1+1):=by
      have:=hL (if i-P.length-1<a then i-P.length-1 else i-P.length-1+1) (by split <;> omega)
      rw[<- this]
      congr 1
      split <;> omega
     rw[e]
     exact q73 hj (hW _ (by split <;> omega)) hpos
  ·obtain⟨i,_,_,rfl⟩:=q2a _ _ _ _ _ x hx
   exact qm6 _
theorem qs9 {n W:Nat} {M:List (List Int)} (h:Mat n W M):∀j,j<=W->Rst n W (rowOf M) j (qg7 M j)
 | 0,_=>by
  have hl:(M.map qr7).length=n:=by rw[List.length_map]; exact h.len
  have ha:∀i,i<n->nL (M.map qr7) i=qr7 (nL M i):=λi hi=>w9h (by rw[h.len]; exact hi)
  have hm:∀i,i<n->∀c,c<W->max (gcdL (nL M i)) 1*nI (qr7 (nL M i)) c=nI (nL M i) c:=λi hi c hc=>qx5 _ (by rw[h.each i hi]; exact hc)
  refine⟨?_,rfl,λx hx=>?_⟩
  ·show St n W (rowOf M) 0 (M.map qr7) []
   refine⟨hl,λi hi=>by rw[ha i hi,qt9]; exact h.each i hi,⟨rowOf (M.map qr7),λ_=>none,id,El.start λa ha'=>⟨max (gcdL (nL M a)) 1,by omega,λj hj=>?_⟩,λi hi=>hi,λi k _ _ e=>e,λa ha=>⟨a,ha,rfl⟩,λi _ c _=>rfl,λq _=>by simp,λi hi=>?_⟩,λz=>?_,Nat.zero_le _,λi _ _ c hc=>absurd hc (Nat.not_lt_zero _),λq hq=>absurd hq (Nat.not_lt_zero _),λq k _ hk=>absurd hk (Nat.not_lt_zero _)⟩
   ·unfold rowOf
    rw[ha a ha']; exact hm a ha' j hj
   ·rw[ha i hi]
    exact(qm6 _).nice (by rw[qt9]; exact h.each i hi) _
   ·have hd:∀i,i<n->max (gcdL (nL M i)) 1*dt W (nL (M.map qr7) i) z=dt W (nL M i) z:=λi hi=>by
     have:=w2g (W:=W) (r':=nL (M.map qr7) i) (r:=nL M i) (p:=[]) (z:=z) (α:=max (gcdL (nL M i)) 1) (β:=1) (γ:=0) λc hc=>by rw[ha i hi,hm i hi c hc]; omega
     omega
    constructor
    ·intro hz i hi
     have h1:=hd i hi
     have h2:dt W (nL M i) z=0:=hz i hi
     rw[h2] at h1
     exact qc7 h1 (by omega)
    ·intro hz i hi
     have h1:=hd i hi
     rw[hz i hi,Int.mul_zero] at h1
     exact h1.symm
  ·obtain⟨u,_,rfl⟩:=List.mem_map.1 hx
   exact qm6 u
 | j+1,hj=>xm1 (by omega) (qs9 h j (by omega))
theorem Prim.last {l:List Int} {N:Nat} (h:Prim l) (hl:l.length=N+1) (hz:∀c,c<N->nI l c=0):(nI l N).natAbs<=1:=by
 rcases h with h | h
 ·rw[h N (by omega)]; decide
 ·have:=h (nI l N).natAbs λc hc=>by
   rcases Nat.lt_or_ge c N with q | q
   ·rw[hz c q]; exact Nat.dvd_zero _
   ·rw[show c=N by omega]; exact Nat.dvd_refl _
  omega
theorem x4c {n N K B:Nat} {M:List (List Int)} (hM:Sml n N (N+1) K B M) (h0:0<n):x7k M/\∀k,k<(qg7 M (N+1)).done_.length->∀c,c<N+1->(nI (nL (qg7 M (N+1)).done_ k) c).natAbs<=B:=by
 have hB:BIG=4000000000000000000:=rfl
 have hk1:=hM.k1
 have hkk:=hM.kk
 have hkB:=hM.kB
 have hbB:=hM.bB
 have hBK:B*K<=700000000000*691200:=Nat.mul_le_mul hbB hkB
 have hn:=hM.n6
 have hl:=hM.len
 have hw:=hM.w
 have hW:rdW M=N+1:=hM.each 0 h0
 -- the numbers at a step
 have key:∀j,j<N+1->0<=lastTo (qg7 M j).left j (qg7 M j).left.length->x3m (qg7 M j) j/\((∀c,c<N+1->(nI (q26 (qg7 M j).left j (lastTo (qg7 M j).left j (qg7 M j).left.length)) c).natAbs<=B)/\∀i,i<(qg7 M j).done_.length->j=N->∀c,c<N+1->(nI (wp5 (nL (qg7 M j).done_ i) (q26 (qg7 M j).left j (lastTo (qg7 M j).left j (qg7 M j).left.length)) j) c).natAbs<=B):=by
  intro j hj hp
  have hst:=qs9 hM.toMat j (by omega)
  generalize qg7 M j=s at hp hst ⊢
  obtain⟨left,dn,P⟩:=s
  obtain⟨hst,hcnt,hprim⟩:=hst
  have hst:St n (N+1) (rowOf M) j (dn++left) P:=hst
  have hcnt:dn.length=P.length:=hcnt
  have hprim:∀x∈left,Prim x:=hprim
  simp only[] at hp ⊢
  have hlen:=hst.len
  rw[List.length_append] at hlen
  have hL:∀i,i<left.length->nL (dn++left) (P.length+i)=nL left i:=λi hi=>by rw[<- hcnt]; exact qx6 _ _ _
  have hD:∀i,i<P.length->nL (dn++left) i=nL dn i:=λi hi=>qm1 _ _ (by omega)
  have hlt:=(q1c left j left.length).1
  have hne:=q74 _ hp
  obtain⟨sg,hs,hsx,hpos⟩:=w2i left j (lastTo left j left.length) hne
  have hsm:=λ{i} (hi:i<n)=>hM.small _ _ _ (show j<=N by omega) hst i hi
  obtain⟨a,ha⟩:∃a:Nat,lastTo left j left.length=(a:Int):=⟨(lastTo left j left.length).toNat,by omega⟩
  have hplen:(q26 left j (lastTo left j left.length)).length=(nL left a).length:=by
   unfold q26; rw[ha]; split
   ·exact qo1 _ _
   ·rfl
  have ea:(lastTo left j left.length).toNat=a:=by omega
  rw[ea] at hne hsx
  have halt:a<left.length:=by omega
  have hWl:∀i,i<left.length->(nL left i).length=N+1:=λi hi=>by rw[<- hL i hi]; exact hst.each _ (by omega)
  have hWd:∀i,i<P.length->(nL dn i).length=N+1:=λi hi=>by rw[<- hD i hi]; exact hst.each _ (by omega)
  have bl:∀i,i<left.length->(∀c,c<N->(nI (nL left i) c).natAbs<=K)/\∀c,c<N+1->(nI (nL left i) c).natAbs<=B:=λi hi=>by rw[<- hL i hi]; exact hsm (by omega)
  have bd:∀i,i<P.length->(∀c,c<N->(nI (nL dn i) c).natAbs<=K)/\∀c,c<N+1->(nI (nL dn i) c).natAbs<=B:=λi hi=>by rw[<- hD i hi]; exact hsm (by omega)
  have hab:∀c,(nI (q26 left j (lastTo left j left.length)) c).natAbs=(nI (nL left a) c).natAbs:=λc=>by
   rw[hsx c,Int.natAbs_mul]
   rcases hs with rfl | rfl <;> simp
  -- the numbers in the column,and in a row
  have zl:∀i,i<left.length->j=N->∀c,c<N->nI (nL left i) c=0:=λi hi e c hc=>by
   rw[<- hL i hi]
   exact hst.zero _ (by omega) (by omega) c (by omega)
  have cl:∀i,i<left.length->(nI (nL left i) j).natAbs<=K:=λi hi=>by
   rcases Nat.lt_or_ge j N with q | q
   ·exact(bl i hi).1 j q
   ·have e:j=N:=by omega
    have:=(hprim _ (qs2 left i hi)).last (hWl i hi) (zl i hi e)
    rw[e]; omega
  have hpj:(nI (q26 left j (lastTo left j left.length)) j).natAbs<=K:=by rw[hab]; exact cl a halt
  have hpc:∀c,c<N+1->(nI (q26 left j (lastTo left j left.length)) c).natAbs<=B:=λc hc=>by rw[hab]; exact(bl a halt).2 c hc
  have rowB:∀r:List Int,r.length=N+1->(∀c,c<N+1->(nI r c).natAbs<=B)->((nI r j).natAbs<=K\/j=N)->x7i r (q26 left j (lastTo left j left.length)) j:=λr hr hb hc0=>by
   have b1:∀k,k<N+1->(nI r k*nI (q26 left j (lastTo left j left.length)) j).natAbs<=B*K:=λk hk=>q1h (hb k hk) hpj
   have b2:∀k,k<N+1->(nI (q26 left j (lastTo left j left.length)) k*nI r j).natAbs<=B*K:=λk hk=>by
    rcases hc0 with q | q
    ·exact q1h (hpc k hk) q
    ·rcases Nat.lt_or_ge k N with q2 | q2
     ·have e0:nI (q26 left j (lastTo left j left.length)) k=0:=by
       have:=hab k
       rw[zl a halt q k q2] at this
       omega
      rw[e0,Int.zero_mul]; exact Nat.zero_le _
     ·have e1:k=j:=by omega
      rw[e1,Int.mul_comm]
      exact q1h (hb j (by omega)) hpj
   refine⟨by omega,by rw[hplen,hWl a halt,hr],by omega,λk hk=>?_,λk hk=>?_,λk hk=>?_⟩
   ·have:=b1 k (by omega); constructor <;> omega
   ·have:=b2 k (by omega); constructor <;> omega
   ·have h1:=b1 k (by omega)
    have h2:=b2 k (by omega)
    constructor <;> omega
  refine⟨⟨λ_=>⟨by rw[ha,Int.toNat_natCast,hWl a halt]; exact hw,λc hc=>?_⟩,λi hi _=>rowB _ (hWl i hi) (bl i hi).2 (.inl (cl i hi)),λi hi=>?_⟩,hpc,λi hi e c hc=>?_⟩
  ·rw[ha,Int.toNat_natCast] at hc ⊢
   have hc:c<(nL left a).length:=hc
   rw[hWl a halt] at hc
   have:=(bl a halt).2 c hc
   show qd6 BIG (nI (nL left a) c*(-1))
   constructor <;> omega
  ·have hi:i<dn.length:=hi
   have hi2:i<P.length:=by omega
   refine rowB _ (hWd i hi2) (bd i hi2).2 ?_
   rcases Nat.lt_or_ge j N with q | q
   ·exact .inl ((bd i hi2).1 j q)
   ·exact .inr (by omega)
  ·have hi2:i<P.length:=by omega
   rw[wi4 _ _ _ (by rw[hWd i hi2]; exact hc)]
   rcases Nat.lt_or_ge c N with q | q
   ·have e0:nI (q26 left j (lastTo left j left.length)) c=0:=by
     have:=hab c
     rw[zl a halt e c q] at this
     omega
    have e1:(nI (q26 left j (lastTo left j left.length)) j).natAbs<=K:=hpj
    have:=q1h ((bd i hi2).1 c q) e1
    rw[e0,Int.zero_mul,Int.sub_zero]
    omega
   ·have e1:c=j:=by omega
    rw[e1,Int.mul_comm,Int.sub_self]; exact Nat.zero_le _
 refine⟨⟨by omega,by omega,λi hi=>by rw[hW]; exact hM.each i (by omega),λi hi=>⟨by rw[hM.each i (by omega)]; exact hw,λx hx=>?_⟩,λj hj hp=>(key j (by omega) hp).1⟩,λk hk c hc=>?_⟩
 ·obtain⟨c,hc,rfl⟩:=q5j hx
  have:=hM.read i c (by omega) (by rw[hM.each i (by omega)] at hc; exact hc)
  constructor <;> omega
 ·have hst:=qs9 hM.toMat N (by omega)
  have hk2:k<(q8r (qg7 M N) N).done_.length:=hk
  show(nI (nL (q8r (qg7 M N) N).done_ k) c).natAbs<=B
  have key:=key N (by omega)
  unfold q8r at hk2 ⊢
  split at hk2
  ·rename_i hn
   rw[if_pos hn]
   have hlen:=hst.st.len
   rw[List.length_append] at hlen
   rw[<- qm1 _ (qg7 M N).left hk2]
   exact(hM.small _ _ _ (Nat.le_refl _) hst.st _ (by omega)).2 c hc
  ·rename_i hn
   rw[if_neg hn]
   obtain⟨_,k1,k2⟩:=key (Int.not_lt.1 hn)
   rw[List.length_append,List.length_map] at hk2
   have hk2:k<(qg7 M N).done_.length+1:=hk2
   try dsimp only
   rcases Nat.lt_succ_iff_lt_or_eq.1 hk2 with q | q
   ·rw[qm1 _ _ (by rw[List.length_map]; exact q),w9h q]
    exact Nat.le_trans (xl9 _ _) (k2 k q rfl c hc)
   ·rw[q]
    have:=qx6 ((qg7 M N).done_.map λr=>qi6 r (q26 (qg7 M N).left N (lastTo (qg7 M N).left N (qg7 M N).left.length)) N) [q26 (qg7 M N).left N (lastTo (qg7 M N).left N (qg7 M N).left.length)] 0
    rw[List.length_map,Nat.add_zero] at this
    rw[this,qd0]
    exact k1 c hc
theorem xm2 {n N:Nat} {M:List (List Int)} (hM:Small n N (N+1) M) (h0:0<n):x7k M/\∀k,k<(qg7 M (N+1)).done_.length->∀c,c<N+1->(nI (nL (qg7 M (N+1)).done_ k) c).natAbs<=46656000000:=x4c hM.sml h0
theorem exL:∀(k:Nat) (p:Nat->Int),(∀q,q<k->p q≠0)->∃(L:Int) (u:Nat->Int),L≠0/\∀q,q<k->L=p q*u q
 | 0,p,_=>⟨1,λ_=>0,by decide,λq h=>absurd h (Nat.not_lt_zero _)⟩
 | k+1,p,h=>by
  obtain⟨L,u,h1,h2⟩:=exL k p λq hq=>h q (by omega)
  refine⟨L*p k,λq=>if q=k then L else u q*p k,ql7 h1 (h k (by omega)),λq hq=>?_⟩
  try dsimp only
  by_cases e:q=k
  ·rw[if_pos e,e,Int.mul_comm]
  ·rw[if_neg e,<- Int.mul_assoc,<- h2 q (by omega)]
def Sol (n W:Nat) (R:Nat->Nat->Int) (z:Nat->Int):Prop:=∀a,a<n->(sm W λc=>R a c*z c)=0
theorem St.inj {n W:Nat} {R:Nat->Nat->Int} {j:Nat} {rows:List (List Int)} {P:List Int} (h:St n W R j rows P) {q k:Nat} (hq:q<P.length) (hk:k<P.length) (e:nI P q=nI P k):q=k:=by
 rcases Nat.lt_trichotomy q k with q1 | q1 | q1
 ·have:=h.asc q k q1 hk; omega
 ·exact q1
 ·have:=h.asc k q q1 hq; omega
theorem St.free {n W:Nat} {R:Nat->Nat->Int} {j:Nat} {rows:List (List Int)} {P:List Int} (h:St n W R j rows P) (hj:j<=W) {f:Nat} (hf:f<W) (hnp:∀q,q<P.length->nI P q≠(f:Int)) (hz:∀i,P.length<=i->i<n->nI (nL rows i) f=0) :
  ∃z,Sol n W R z/\z f≠0/\∀c,c<W->c≠f->(∀q,q<P.length->nI P q≠(c:Int))->z c=0:=by
 obtain⟨L,u,hL,hu⟩:=exL P.length (λq=>nI (nL rows q) (nI P q).toNat) λq hq=>by have:=(h.pos q hq).2.2.1; (try dsimp only); omega
 have hpl:=h.pl
 have hzf:(if f=f then L else sm P.length λq=>if nI P q=(f:Int) then-u q*nI (nL rows q) f else 0)=L:=if_pos rfl
 obtain⟨z,hzd⟩:∃z:Nat->Int,∀c,z c=if c=f then L else sm P.length λq=>if nI P q=(c:Int) then-u q*nI (nL rows q) f else 0:=⟨_,λ_=>rfl⟩
 have z1:z f=L:=by rw[hzd,if_pos rfl]
 have z2:∀c,c≠f->(∀q,q<P.length->nI P q≠(c:Int))->z c=0:=λc hc hq=>by
  rw[hzd,if_neg hc]
  exact sm_zero λq h=>if_neg (hq q h)
 have z3:∀q,q<P.length->z (nI P q).toNat=- u q*nI (nL rows q) f:=λq hq=>by
  have hp:=h.pos q hq
  have e:((nI P q).toNat:Int)=nI P q:=by omega
  rw[hzd,if_neg (λk=>hnp q hq (by omega)),qk1 hq λi hi hne=>by
   try dsimp only
   rw[if_neg λk=>hne (h.inj hi hq (by omega))]]
  try dsimp only
  rw[if_pos e.symm]
 refine⟨z,(h.sol z).2 λi hi=>?_,by rw[z1]; exact hL,λc hc=>z2 c⟩
 unfold dt
 rcases Nat.lt_or_ge i P.length with q | q
 ·have hp:=h.pos i q
  rw[q3o (k:=f) (l:=(nI P i).toNat) hf (by omega) (λk=>hnp i q (by omega)) λc hc h1 h2=>?_]
  ·try dsimp only
   rw[z1,z3 i q]
   have:=hu i q
   try dsimp only at this
   rw[this]
   grind
  ·try dsimp only
   by_cases hx:∃q,q<P.length/\nI P q=(c:Int)
   ·obtain⟨q2,hq2,e⟩:=hx
    have hp2:=h.pos q2 hq2
    have:nI (nL rows i) (nI P q2).toNat=0:=hp2.2.2.2.2 i hi λk=>h2 (by rw[k,e]; rfl)
    rw[e,Int.toNat_natCast] at this
    rw[this,Int.zero_mul]
   ·rw[z2 c h1 λq hq e=>hx ⟨q,hq,e⟩,Int.mul_zero]
 ·refine sm_zero λc hc=>?_
  try dsimp only
  by_cases e:c=f
  ·rw[e,hz i q hi,Int.zero_mul]
  ·by_cases hx:∃q,q<P.length/\nI P q=(c:Int)
   ·obtain⟨q2,hq2,e⟩:=hx
    have hp2:=h.pos q2 hq2
    have:nI (nL rows i) (nI P q2).toNat=0:=hp2.2.2.2.2 i hi (by omega)
    rw[e,Int.toNat_natCast] at this
    rw[this,Int.zero_mul]
   ·rw[z2 c e λq hq e=>hx ⟨q,hq,e⟩,Int.mul_zero]
structure Asc (N:Nat) (P:List Int):Prop where
 at_:∀q,q<P.length->0<=nI P q/\nI P q<N
 asc:∀q k,q<k->k<P.length->nI P q<nI P k
theorem Asc.ge {N:Nat} {P:List Int} (h:Asc N P):∀q,q<P.length->(q:Int)<=nI P q
 | 0,hq=>(h.at_ 0 hq).1
 | q+1,hq=>by
  have h1:=h.ge q (by omega)
  have h2:=h.asc q (q+1) (by omega) hq
  omega
theorem Asc.le {N:Nat} {P:List Int} (h:Asc N P):P.length<=N:=by
 rcases Nat.eq_zero_or_pos P.length with q | q
 ·omega
 ·have h1:=h.ge (P.length-1) (by omega)
  have h2:=h.at_ (P.length-1) (by omega)
  omega
theorem Asc.up {N:Nat} {P:List Int} (h:Asc N P):∀d,d<P.length->nI P (P.length-1-d)+d<N
 | 0,hd=>by have:=(h.at_ (P.length-1-0) (by omega)).2; omega
 | d+1,hd=>by
  have h1:=h.up d (by omega)
  have h2:=h.asc (P.length-1-(d+1)) (P.length-1-d) (by omega) (by omega)
  omega
theorem Asc.id {N:Nat} {P:List Int} (h:Asc N P) (hl:P.length=N) {q:Nat} (hq:q<N):nI P q=q:=by
 have h1:=h.ge q (by omega)
 have h2:=h.up (P.length-1-q) (by omega)
 rw[show P.length-1-(P.length-1-q)=q by omega] at h2
 omega
theorem Asc.free {N:Nat} {P:List Int} (hl:P.length<N):∃f,f<N/\∀q,q<P.length->nI P q≠(f:Int):=by
 refine Classical.byContradiction λhno=>?_
 have hx:∀f,∃q,f<N->q<P.length/\nI P q=(f:Int):=λf=>by
  by_cases hf:f<N
  ·refine Classical.byContradiction λh2=>hno ⟨f,hf,λq hq e=>h2 ⟨q,λ_=>⟨hq,e⟩⟩⟩
  ·exact⟨0,λh=>absurd h hf⟩
 obtain⟨g,hg⟩:=Classical.axiomOfChoice hx
 obtain⟨i,k,h1,h2,h3⟩:=q7a P.length N g (λi hi=>(hg i hi).1) hl
 have e1:=(hg i (by omega)).2
 have e2:=(hg k h2).2
 rw[h3] at e1
 omega
structure Good (n N:Nat) (R:Nat->Nat->Int) (rows:List (List Int)) (P:List Int):Prop where
 st:∃j,N<=j/\j<=N+1/\St n (N+1) R j rows P
 lt:∀q,q<P.length->nI P q<N
 no:∀i,P.length<=i->i<n->nI (nL rows i) N=0
theorem Good.asc {n N:Nat} {R:Nat->Nat->Int} {rows:List (List Int)} {P:List Int} (h:Good n N R rows P):Asc N P:=by
 obtain⟨j,_,_,hs⟩:=h.st
 exact⟨λq hq=>⟨(hs.pos q hq).1,h.lt q hq⟩,hs.asc⟩
theorem Good.last {n N:Nat} {R:Nat->Nat->Int} {rows:List (List Int)} {P:List Int} (h:Good n N R rows P):∃z,Sol n (N+1) R z/\z N≠0:=by
 obtain⟨j,_,h2,hs⟩:=h.st
 obtain⟨z,z1,z2,_⟩:=hs.free h2 (f:=N) (by omega) (λq hq=>by have:=h.lt q hq; omega) h.no
 exact⟨z,z1,z2⟩
theorem Good.more {n N:Nat} {R:Nat->Nat->Int} {rows:List (List Int)} {P:List Int} (h:Good n N R rows P) (hl:P.length<N):∃z f,Sol n (N+1) R z/\f<N/\z f≠0/\z N=0:=by
 obtain⟨j,h1,h2,hs⟩:=h.st
 obtain⟨f,hf,hq⟩:=Asc.free hl
 obtain⟨z,z1,z2,z3⟩:=hs.free h2 (f:=f) (by omega) hq λi h3 h4=>hs.zero i h3 h4 f (by omega)
 exact⟨z,f,z1,hf,z2,z3 N (by omega) (by omega) λq hq=>by have:=h.lt q hq; omega⟩
theorem Good.row {n N:Nat} {R:Nat->Nat->Int} {rows:List (List Int)} {P:List Int} (h:Good n N R rows P) (hl:P.length=N) {z:Nat->Int} (hz:Sol n (N+1) R z) {k:Nat} (hk:k<N):0<nI (nL rows k) k/\nI (nL rows k) k*z k+nI (nL rows k) N*z N=0:=by
 obtain⟨j,h1,h2,hs⟩:=h.st
 have hid:=λ{q} (hq:q<N)=>h.asc.id hl hq
 have hp:=hs.pos k (by omega)
 have hpl:=hs.pl
 rw[hid hk,Int.toNat_natCast] at hp
 refine⟨hp.2.2.1,?_⟩
 have:=(hs.sol z).1 hz k (by omega)
 unfold dt at this
 rw[q3o (k:=k) (l:=N) (by omega) (by omega) (by omega) λc hc h1 h2=>?_] at this
 ·exact this
 ·have hp2:=(hs.pos c (by omega)).2.2.2.2 k (by omega) (by omega)
  rw[hid (by omega),Int.toNat_natCast] at hp2
  try dsimp only
  rw[hp2,Int.zero_mul]
theorem Good.len {n N:Nat} {R:Nat->Nat->Int} {rows rows':List (List Int)} {P P':List Int} (h:Good n N R rows P) (h':Good n N R rows' P') (hl:P.length<N):P'.length<N:=by
 rcases Nat.lt_or_ge P'.length N with q | q
 ·exact q
 ·have hl':P'.length=N:=by have:=h'.asc.le; omega
  obtain⟨z,f,z1,z2,z3,z4⟩:=h.more hl
  obtain⟨k1,k2⟩:=h'.row hl' z1 z2
  rw[z4,Int.mul_zero,Int.add_zero] at k2
  exact absurd (qc7 k2 (by omega)) z3
theorem Good.val {n N:Nat} {R:Nat->Nat->Int} {rows rows':List (List Int)} {P P':List Int} (h:Good n N R rows P) (h':Good n N R rows' P') (hl:P.length=N) (hl':P'.length=N) {k:Nat} (hk:k<N):nI (nL rows k) N*nI (nL rows' k) k=nI (nL rows' k) N*nI (nL rows k) k:=by
 obtain⟨z,z1,z2⟩:=h.last
 obtain⟨a1,a2⟩:=h.row hl z1 hk
 obtain⟨b1,b2⟩:=h'.row hl' z1 hk
 have:z N*(nI (nL rows k) N*nI (nL rows' k) k-nI (nL rows' k) N*nI (nL rows k) k)=0:=by grind
 have:=qc7 this z2
 omega
theorem wy0 {a b c d:Int} (hb:0<b) (hd:0<d) (h:a*d=c*b):q91 a b=q91 c d:=by
 have hg:0<qd8 a b:=qm5 (.inr (by omega))
 have hk:0<qd8 c d:=qm5 (.inr (by omega))
 have a1:qd8 a b*a.tdiv (qd8 a b)=a:=Int.mul_tdiv_cancel' (Int.natAbs_dvd_natAbs.1 (Nat.gcd_dvd_left _ _))
 have b1:qd8 a b*b.tdiv (qd8 a b)=b:=Int.mul_tdiv_cancel' (Int.natAbs_dvd_natAbs.1 (Nat.gcd_dvd_right _ _))
 have c1:qd8 c d*c.tdiv (qd8 c d)=c:=Int.mul_tdiv_cancel' (Int.natAbs_dvd_natAbs.1 (Nat.gcd_dvd_left _ _))
 have d1:qd8 c d*d.tdiv (qd8 c d)=d:=Int.mul_tdiv_cancel' (Int.natAbs_dvd_natAbs.1 (Nat.gcd_dvd_right _ _))
 have cop:∀x y:Int,0<qd8 x y->Nat.Coprime (x.tdiv (qd8 x y)).natAbs (y.tdiv (qd8 x y)).natAbs:=λx y h=>by
  have e1:(x.tdiv (qd8 x y)).natAbs=x.natAbs / Nat.gcd x.natAbs y.natAbs:=Int.natAbs_tdiv _ _
  have e2:(y.tdiv (qd8 x y)).natAbs=y.natAbs / Nat.gcd x.natAbs y.natAbs:=Int.natAbs_tdiv _ _
  rw[e1,e2]
  exact Nat.coprime_div_gcd_div_gcd (by have:(0:Int)<(Nat.gcd x.natAbs y.natAbs:Nat):=h; omega)
 have h1:=cop a b hg
 have h2:=cop c d hk
 unfold q91
 generalize qd8 a b=g at *
 generalize qd8 c d=k at *
 generalize a.tdiv g=x at *
 generalize b.tdiv g=y at *
 generalize c.tdiv k=u at *
 generalize d.tdiv k=v at *
 have hy:0<y:=q33 hg (by omega)
 have hv:0<v:=q33 hk (by omega)
 have e:x*v=u*y:=by
  have:(g*k)*(x*v-u*y)=0:=by rw[<- a1,<- b1,<- c1,<- d1] at h; grind
  have:=qc7 this (ql7 (by omega) (by omega))
  omega
 have en:x.natAbs*v.natAbs=u.natAbs*y.natAbs:=by rw[<- Int.natAbs_mul,<- Int.natAbs_mul,e]
 have q1:y.natAbs∣v.natAbs:=h1.symm.dvd_of_dvd_mul_left ⟨u.natAbs,by rw[en,Nat.mul_comm]⟩
 have q2:v.natAbs∣y.natAbs:=h2.symm.dvd_of_dvd_mul_left ⟨x.natAbs,by rw[<- en,Nat.mul_comm]⟩
 have q3:y.natAbs=v.natAbs:=Nat.dvd_antisymm q1 q2
 have q4:y=v:=by omega
 subst q4
 have:y*(x-u)=0:=by grind
 have:=qc7 this (by omega)
 rw[show x=u by omega]
theorem wi5 {a b:Int} (hb:0<b):ofR a b=q91 a b:=by
 unfold ofR q91
 rw[if_neg (by omega)]
theorem w2j (N:Nat) (d:List (List Int)) (P:List Int) (hP:∀q,q<N->nI P q=q):∀i,i<=N->∀k (hk:k<(q5r N d P i).length),(q5r N d P i)[k]=if k<i then q91 (nI (nL d k) N) (nI (nL d k) k) else(0,1)
 | 0,_,k,hk=>by simp[q5r]
 | i+1,hi,k,hk=>by
  have h1:=hP i (by omega)
  simp only[q5r,h1,Int.toNat_natCast,List.getElem_set]
  by_cases e:i=k
  ·subst e
   rw[if_pos rfl,if_pos (Nat.lt_succ_self _)]
  ·rw[if_neg e,w2j N d P hP i (by omega) k (by rw[q1f] at hk ⊢; exact hk)]
   by_cases e2:k<i
   ·rw[if_pos e2,if_pos (by omega)]
   ·rw[if_neg e2,if_neg (by omega)]
theorem x4d {n N:Nat} {M:List (List Int)} (hM:Mat n (N+1) M):wu0 (qa4 M N).1 (qa4 M N).2 N=(if(if q0e (qg7 M (N+1)).piv N=true then(([],0,false):List (Int × Int) × Int × Bool) else(q5r N (qg7 M (N+1)).done_ (qg7 M (N+1)).piv (qg7 M (N+1)).piv.length,(N:Int)-(qg7 M (N+1)).piv.length,true)).2.2=false then([],8) else if 0<(if q0e (qg7 M (N+1)).piv N=true then(([],0,false):List (Int × Int) × Int × Bool) else(q5r N (qg7 M (N+1)).done_ (qg7 M (N+1)).piv (qg7 M (N+1)).piv.length,(N:Int)-(qg7 M (N+1)).piv.length,true)).2.1 then([],11) else((if q0e (qg7 M (N+1)).piv N=true then(([],0,false):List (Int × Int) × Int × Bool) else(q5r N (qg7 M (N+1)).done_ (qg7 M (N+1)).piv (qg7 M (N+1)).piv.length,(N:Int)-(qg7 M (N+1)).piv.length,true)).1,0)):=by
 have hst:=qn3 hM N (by omega)
 obtain⟨hrs,hcnt,_⟩:=qs9 hM (N+1) (by omega)
 generalize qa4 M N=r at *
 generalize qg7 M (N+1)=s at *
 obtain⟨rows,P⟩:=r
 obtain⟨left,dn,P3⟩:=s
 have hst:St n (N+1) (rowOf M) N rows P:=hst
 have hrs:St n (N+1) (rowOf M) (N+1) (dn++left) P3:=hrs
 have hcnt:dn.length=P3.length:=hcnt
 simp only[]
 have hD:∀i,i<P3.length->nL (dn++left) i=nL dn i:=λi hi=>qm1 _ _ (by omega)
 have hlen:=hst.len
 have hplt:∀q,q<P.length->nI P q<N:=λq hq=>(hst.pos q hq).2.1
 -- the third list's pivots
 have g1:q2x rows P N=true->∀z,Sol n (N+1) (rowOf M) z->z N=0:=λh z hz=>by
  unfold q2x at h
  rw[List.any_eq_true] at h
  obtain⟨i,hi,hb⟩:=h
  have hi:=List.mem_range.1 hi
  simp only[Bool.and_eq_true,decide_eq_true_eq,bne_iff_ne,ne_eq] at hb
  have:=(hst.sol z).1 hz i (by omega)
  unfold dt at this
  rw[qk1 (k:=N) (by omega) λc hc hne=>by
   try dsimp only
   rw[hst.zero i hb.1 (by omega) c (by omega),Int.zero_mul]] at this
  exact qc7 this hb.2
 have g2:q2x rows P N=false->Good n N (rowOf M) rows P:=λh=>by
  refine⟨⟨N,Nat.le_refl _,by omega,hst⟩,hplt,λi h1 h2=>?_⟩
  unfold q2x at h
  have:=List.any_eq_false.1 h i (List.mem_range.2 (by omega))
  simpa[h1] using this
 have g3:q0e P3 N=true->∀z,Sol n (N+1) (rowOf M) z->z N=0:=λh z hz=>by
  unfold q0e at h
  rw[List.any_eq_true] at h
  obtain⟨x,hx,hb⟩:=h
  obtain⟨q,hq,rfl⟩:=q5j hx
  have e:nI P3 q=(N:Int):=by simpa using hb
  obtain⟨p1,p2,p3,p4,p5⟩:=hrs.pos q hq
  rw[e,Int.toNat_natCast] at p3 p4
  have hpl:=hrs.pl
  have:=(hrs.sol z).1 hz q (by omega)
  unfold dt at this
  rw[qk1 (k:=N) (by omega) λc hc hne=>by
   try dsimp only
   rw[p4 c (by omega),Int.zero_mul]] at this
  exact qc7 this (by omega)
 have g4:q0e P3 N=false->Good n N (rowOf M) (dn++left) P3:=λh=>by
  refine⟨⟨N+1,by omega,Nat.le_refl _,hrs⟩,λq hq=>?_,λi h1 h2=>hrs.zero i h1 h2 N (by omega)⟩
  unfold q0e at h
  have:=List.any_eq_false.1 h _ (q5i hq)
  have p:=hrs.pos q hq
  have hne:nI P3 q≠(N:Int):=by simpa using this
  omega
 unfold wu0
 cases hn:q2x rows P N with
 | true=>
  have:q0e P3 N=true:=by
   cases e:q0e P3 N with
   | true=>rfl
   | false=>
    obtain⟨z,z1,z2⟩:=(g4 e).last
    exact absurd (g1 hn z z1) z2
  simp[this]
 | false=>
  have hg:=g2 hn
  have e3:q0e P3 N=false:=by
   cases e:q0e P3 N with
   | false=>rfl
   | true=>
    obtain⟨z,z1,z2⟩:=hg.last
    exact absurd (g3 e z z1) z2
  have hg3:=g4 e3
  have hle:=hg.asc.le
  have hle3:=hg3.asc.le
  simp only[e3,Bool.false_eq_true,if_false,Bool.true_eq_false]
  by_cases hl:P.length<N
  ·have:=hg.len hg3 hl
   rw[if_pos hl,if_pos (by omega)]
  ·have hl3:¬P3.length<N:=λh=>hl (hg3.len hg h)
   rw[if_neg hl,if_neg (by omega)]
   have eP:P.length=N:=by omega
   have eP3:P3.length=N:=by omega
   have i1:=λq (hq:q<N)=>hg.asc.id eP hq
   have i3:=λq (hq:q<N)=>hg3.asc.id eP3 hq
   congr 1
   apply List.ext_getElem
   ·rw[q1f,List.length_map,List.length_range]; exact eP
   intro k h1 h2
   rw[q1f] at h2
   rw[w2j N dn P3 i3 _ (by omega) k (by rw[q1f]; exact h2),if_pos (by omega),List.getElem_map,List.getElem_range]
   unfold w5n
   rw[i1 k h2,Int.toNat_natCast]
   obtain⟨z,z1,_⟩:=hg.last
   have p1:=(hg.row eP z1 h2).1
   have p3:=(hg3.row eP3 z1 h2).1
   have hv:=hg.val hg3 eP eP3 h2
   rw[hD k (by omega)] at p3 hv
   rw[wi5 p1]
   exact wy0 p1 p3 hv
theorem qu0 {m:List (List Int)} {y pix:List Int} (h:Asked m y pix):Small m.length pix.length (pix.length+1) (qc8 m pix y):=by
 have hM:=h.msk
 have h6:=hM.rows6
 have hp10:=hM.pix10
 have hpl:=h.nam.len
 have hat:∀i,i<m.length->nL (qc8 m pix y) i=qu4 (nL m i) pix++[nI y i]:=λi hi=>by
  rw[qx4 m pix y i hi,qj6 m pix i hi]
 have hlo:∀i,i<m.length->∀c,c<pix.length->(nI (nL (qc8 m pix y) i) c).natAbs<=1:=λi hi c hc=>by
  rw[hat i hi,qi0 _ _ (by rw[qj0]; exact hc),qn2 _ _ _ hc]
  have h1:=h.nam.at_ c hc
  have h2:=hM.small i hi (nI pix c).toNat (by omega)
  omega
 refine⟨⟨q70 m pix y,λi hi=>by rw[hat i hi,List.length_append,qj0]; rfl⟩,h6,by omega,by omega,λa c ha hc=>hlo a ha c hc,λa c ha hc=>?_⟩
 rcases Nat.lt_or_ge c pix.length with q | q
 ·have:=hlo a ha c q; omega
 ·have e:nI (nL (qc8 m pix y) a) c=nI y a:=by
   rw[hat a ha,show c=(qu4 (nL m a) pix).length by rw[qj0]; omega,qj7]
  have:=h.at_ a ha
  rw[e]
  omega
theorem xy9 (m:List (List Int)) (pix y:List Int):x7x m pix y=q1a m pix y:=by
 unfold x7x q1a
 split
 ·rename_i h
  have hA:=Asked.of h
  have hS:=qu0 hA
  have hW:rdW (qc8 m pix y)=pix.length+1:=hS.each 0 (by have:=hA.msk.rows1; omega)
  unfold svT svR svP svD qf0 q0c
  rw[hW]
  exact(x4d hS.toMat).symm
 ·rfl
theorem wy1 (m:List (List Int)) (y pix:List Int):x1g m y pix=qp2 m y pix:=by
 unfold x1g qp2 ya7 x4a
 rw[xy9]
theorem xs1 {m:List (List Int)} {pix y:List Int} (hl:pix.length<=100000):q3w m pix y:=by
 refine⟨by omega,λh=>?_⟩
 have hA:=Asked.of h
 have hS:=qu0 hA
 refine⟨q1i hS,?_⟩
 have hst:=qn3 hS.toMat pix.length (by omega)
 have hpl:=hst.pl
 have hlen:=hst.len
 have hB:BIG=4000000000000000000:=rfl
 refine⟨λk hk=>?_,λk hk=>?_,λk hk=>?_⟩
 ·have:=(hst.pos k hk).2.2.1
  show nI (nL (qa4 (qc8 m pix y) pix.length).1 k) (nI (qa4 (qc8 m pix y) pix.length).2 k).toNat≠0
  omega
 ·have hk:k<(qa4 (qc8 m pix y) pix.length).2.length:=hk
  have h1:=hst.pos k hk
  have:=(hst.small hS (Nat.le_refl _) (i:=k) (by omega)).2 (nI (qa4 (qc8 m pix y) pix.length).2 k).toNat (by omega)
  show qd6 BIG (nI (nL (qa4 (qc8 m pix y) pix.length).1 k) (nI (qa4 (qc8 m pix y) pix.length).2 k).toNat)
  constructor <;> omega
 ·have hk:k<(qa4 (qc8 m pix y) pix.length).2.length:=hk
  have:=(hst.small hS (Nat.le_refl _) (i:=k) (by omega)).2 pix.length (by omega)
  show qd6 BIG (nI (nL (qa4 (qc8 m pix y) pix.length).1 k) pix.length)
  constructor <;> omega
theorem x7y {m:List (List Int)} {pix y:List Int} (hf:q5g m) (hl:pix.length<=100000):x37 m pix y:=by
 refine⟨hf,hl,λh=>?_⟩
 have hA:=Asked.of h
 have hS:=qu0 hA
 have hM:=hA.msk
 have h1:=hM.rows1
 have h6:=hM.rows6
 have hp10:=hM.pix10
 have hpl:=hA.nam.len
 have hW:rdW (qc8 m pix y)=pix.length+1:=hS.each 0 (by omega)
 obtain⟨r1,r2⟩:=xm2 hS (by omega)
 have hrst:=qs9 hS.toMat (pix.length+1) (Nat.le_refl _)
 have hB:BIG=4000000000000000000:=rfl
 have e1:svD m pix y=(qg7 (qc8 m pix y) (pix.length+1)).done_:=by unfold svD qf0; rw[hW]
 have e2:svP m pix y=(qg7 (qc8 m pix y) (pix.length+1)).piv:=by unfold svP qf0; rw[hW]
 refine⟨by omega,⟨by omega,by omega,λi hi j hj=>?_⟩,by omega,hA.len,r1,?_⟩
 ·have:=hA.nam.at_ j hj
  rw[hM.each i hi]; exact this
 ·rw[e1,e2]
  obtain⟨hst,hcnt,_⟩:=hrst
  have hlen:=hst.len
  have hpl2:=hst.pl
  rw[List.length_append] at hlen
  have hD:∀i,i<(qg7 (qc8 m pix y) (pix.length+1)).piv.length->nL ((qg7 (qc8 m pix y) (pix.length+1)).done_++(qg7 (qc8 m pix y) (pix.length+1)).left) i=nL (qg7 (qc8 m pix y) (pix.length+1)).done_ i:=λi hi=>qm1 _ _ (by omega)
  refine⟨hcnt,by omega,λk hk=>?_,λk hk=>?_,λk hk=>?_,λk hk=>?_,λk hk=>?_⟩
  ·rw[<- hD k (by omega)]; exact hst.each k (by omega)
  ·have:=hst.pos k hk; omega
  ·have:=(hst.pos k hk).2.2.1
   rw[hD k hk] at this
   omega
  ·have:=hst.pos k hk
   have:=r2 k (by omega) (nI (qg7 (qc8 m pix y) (pix.length+1)).piv k).toNat (by omega)
   constructor <;> omega
  ·have:=r2 k (by omega) pix.length (by omega)
   constructor <;> omega
structure xm3 (m:List (List Int)) (y pix:List Int):Prop where
 chk:qr5 m y pix=0
 rows:pix.length<=m.length
 fst:(qp2 m y pix).1.1=pix
 len:(qp2 m y pix).1.2.length=pix.length
theorem q0f {m:List (List Int)} {y pix:List Int} (h:(qp2 m y pix).2=true):xm3 m y pix:=by
 unfold qp2 at h
 split at h
 ·cases h
 ·rename_i hno
  have h0:(q1a m pix y).2=0:=Classical.byContradiction λq=>hno (.inl q)
  have ef:qp2 m y pix=((pix,(q1a m pix y).1),true):=by unfold qp2; rw[if_neg hno]
  rw[show xm3 m y pix↔xm3 m y pix from Iff.rfl]
  have hc:qr5 m y pix=0:=Classical.byContradiction λq=>by
   unfold q1a at h0
   rw[if_neg q] at h0
   exact q h0
  have hA:=Asked.of hc
  have hS:=qu0 hA
  have hst:=qn3 hS.toMat pix.length (by omega)
  have hpl:=hst.pl
  have es:q1a m pix y=wu0 (qa4 (qc8 m pix y) pix.length).1 (qa4 (qc8 m pix y) pix.length).2 pix.length:=by unfold q1a; rw[if_pos hc]; rfl
  have hle:(qa4 (qc8 m pix y) pix.length).2.length<=pix.length:=(⟨λq hq=>⟨(hst.pos q hq).1,(hst.pos q hq).2.1⟩,hst.asc⟩:Asc pix.length _).le
  rw[es] at h0
  unfold wu0 at h0
  split at h0
  ·cases h0
  ·rename_i hn
   split at h0
   ·cases h0
   ·rename_i hl
    refine⟨hc,by omega,by rw[ef],?_⟩
    rw[ef]
    show(q1a m pix y).1.length=_
    rw[es]
    unfold wu0
    rw[if_neg hn,if_neg hl]
    show(List.map _ (List.range _)).length=_
    rw[List.length_map,List.length_range]
    omega
theorem xm4:((List.range 8).all λn=>decide (w4t n=(List.range (n+1)).flatMap λ(k:Nat)=>qe7 (n:Nat) (k:Nat)))=true:=by decide +kernel
theorem xz0 {n:Nat} (h:n<=7):w4t n=(List.range (n+1)).flatMap λ(k:Nat)=>qe7 (n:Nat) (k:Nat):=by
 have:=List.all_eq_true.1 xm4 n (List.mem_range.2 (by omega))
 exact of_decide_eq_true this
theorem q75 {n k:Nat} {s:List Int} (h:s∈qe7 (n:Nat) (k:Nat)):s.length=k/\k<=n:=by
 unfold qe7 at h
 split at h
 ·have:=wp0 h
  exact⟨by omega,by omega⟩
 ·cases h
theorem wy2 (m:List (List Int)) (y:List Int) (s t:List (List Int)):qg0 m y (s++t)=qg0 m y s++qg0 m y t:=List.filterMap_append
theorem wy3 (m:List (List Int)) (y:List Int) (s:List (List Int)):q59 m y s=qg0 m y s:=by
 unfold q59 qg0
 congr 1
 funext pix
 rw[wy1]
theorem q76 (m:List (List Int)) (y:List Int):∀K,qh9 m y K=qg0 m y ((List.range K).flatMap λ(k:Nat)=>qe7 (nL m 0).length (k:Nat))
 | 0=>rfl
 | K+1=>by
  rw[qh9,q76 m y K,List.range_succ,List.flatMap_append,wy2]
  simp
theorem xz1 {m:List (List Int)} (y:List Int) (h:(nL m 0).length<=7):xy8 m y=qh9 m y ((nL m 0).length+1):=by
 unfold xy8
 rw[wy3,xz0 h,q76]
theorem wy4 {m:List (List Int)} {y:List Int} {s:List (List Int)} {f:Fit} (h:f∈qg0 m y s):∃pix∈s,xm3 m y pix/\f=(qp2 m y pix).1:=by
 unfold qg0 at h
 rw[List.mem_filterMap] at h
 obtain⟨pix,h1,h2⟩:=h
 split at h2
 ·rename_i h3
  exact⟨pix,h1,q0f h3,(Option.some.inj h2).symm⟩
 ·cases h2
theorem qq0 {m:List (List Int)} {y:List Int} {k:Nat} {f:Fit} (h:f∈qg0 m y (qe7 (nL m 0).length (k:Nat))):f.1.length=k/\k<=m.length/\k<=(nL m 0).length:=by
 obtain⟨pix,h1,h2,rfl⟩:=wy4 h
 have h3:=q75 h1
 have h4:=h2.rows
 rw[h2.fst]
 omega
theorem q77 {m:List (List Int)} {y:List Int}:∀K,∀f∈qh9 m y K,f.1.length<K
 | 0,f,h=>by cases h
 | K+1,f,h=>by
  rcases List.mem_append.1 h with h | h
  ·have:=q77 K f h; omega
  ·have:=qq0 h; omega
theorem w9i (m:List (List Int)) (y:List Int) {k:Int} (hk:0<=k):∀K,w9b k (qh9 m y K)=qh9 m y (min K (fitsN m k))
 | 0=>by rw[Nat.zero_min]; rfl
 | K+1=>by
  have hN:fitsN m k=(min (min k (nL m 0).length) m.length+1).toNat:=rfl
  rw[qh9]
  unfold w9b
  rw[List.filter_append]
  have ih:=w9i m y hk K
  unfold w9b at ih
  rw[ih]
  by_cases e:K<fitsN m k
  ·rw[show min K (fitsN m k)=K by omega,show min (K+1) (fitsN m k)=K+1 by omega,qh9]
   congr 1
   rw[List.filter_eq_self]
   intro f hf
   have:=qq0 hf
   exact decide_eq_true (by omega)
  ·rw[show min K (fitsN m k)=fitsN m k by omega,show min (K+1) (fitsN m k)=fitsN m k by omega]
   rw[List.filter_eq_nil_iff.2 λf hf=>?_,List.append_nil]
   have:=qq0 hf
   rw[decide_eq_true_eq]
   omega
theorem xm5 {m:List (List Int)} (y:List Int) {k:Int} (hk:0<=k) (h7:(nL m 0).length<=7):qi8 m y k=w9b k (xy8 m y):=by
 rw[xz1 y h7,w9i m y hk]
 have hN:fitsN m k=(min (min k (nL m 0).length) m.length+1).toNat:=rfl
 unfold qi8
 rw[show min ((nL m 0).length+1) (fitsN m k)=fitsN m k by omega]
theorem xz2 {m:List (List Int)} {y:List Int} (hf:q5g m) (hM:Mk m) (h7:(nL m 0).length<=7):w9a m y:=by
 have h1:=hM.rows1
 refine⟨by omega,h7,λs hs=>x7y hf ?_⟩
 have:=((wp7 (n:=(nL m 0).length) (k:=128) h7 (Nat.le_refl _)).2 s hs).1
 omega
theorem xz3 {m:List (List Int)} {y:List Int} (h:qv9 m y=0):Mk m:=Mk.of (w2f (pix:=[]) h).2
theorem wy5 (m:List (List Int)) (y:List Int):qr5 m y []=qv9 m y:=by
 by_cases h:qv9 m y=0
 ·rw[(w2f h).1,h]; rfl
 ·exact xy7 h
theorem xm6 {m:List (List Int)} {y:List Int} {k:Int} (hf:q5g m) (hM:Mk m) (h7:(nL m 0).length<=7) (h0:0<=k) (h1:k<=10):w2c m y k:=by
 have r1:=hM.rows1
 have r6:=hM.rows6
 refine⟨⟨h0,by omega,by omega,by omega,by omega,λj hj s hs=>?_⟩,?_⟩
 ·have:=q75 hs
  exact⟨xs1 (by omega),by omega⟩
 ·rw[xm5 y h0 h7]
  have e1:=xl8 (xz2 (y:=y) hf hM h7)
  have e2:(w9b k (xy8 m y)).length<=(xy8 m y).length:=List.length_filter_le _ _
  omega
theorem xs2 {m:List (List Int)} {y:List Int} (hf:q5g m) (hl:qp1 m=true):q0d m y:=by
 refine⟨λh=>?_⟩
 rw[wy5] at h
 have hM:=xz3 h
 exact xm6 hf hM (wi2 hl hM) (by decide) (by decide)
theorem wa1 (m:List (List Int)) (y:List Int):∀K,(qh9 m y K).Pairwise λf g=>f.1.length<=g.1.length
 | 0=>List.Pairwise.nil
 | K+1=>by
  rw[qh9,List.pairwise_append]
  refine⟨wa1 m y K,?_,λf hf g hg=>?_⟩
  ·rw[List.pairwise_iff_getElem]
   intro i j hi hj _
   have h1:=qq0 (List.getElem_mem hi)
   have h2:=qq0 (List.getElem_mem hj)
   omega
  ·have h1:=q77 K f hf
   have h2:=qq0 hg
   omega
theorem q78 (l:List Int) {p:Nat} (hp:p<l.length) (x:Int) (q:Nat):nI (l.set p x) q=if q=p then x else nI l q:=by
 by_cases e:q=p
 ·subst e
  rw[if_pos rfl,qg1 _ _ (by rw[List.length_set]; exact hp),List.getElem_set_self]
 ·rw[if_neg e]
  unfold nI qd4
  rw[List.getD_eq_getElem?_getD,List.getD_eq_getElem?_getD,List.getElem?_set_ne (Ne.symm e)]
theorem qv4:∀(N:Nat) {n:Nat} {f:Nat->Int} {τ:Nat->Nat},(∀q,q<N->τ q<n)->(∀q k,q<N->k<N->τ q=τ k->q=k)->(∀b,b<n->(∀q,q<N->τ q≠b)->f b=0)->sm n f=sm N λq=>f (τ q)
 | 0,n,f,τ,_,_,h=>sm_zero λb hb=>h b hb λq hq=>absurd hq (Nat.not_lt_zero _)
 | N+1,n,f,τ,h1,h2,h3=>by
  have e:sm n f=sm n (λb=>if b=τ N then 0 else f b)+sm n (λb=>if b=τ N then f b else 0):=by
   rw[<- q3n]
   refine qa7 λb _=>?_
   by_cases q:b=τ N
   ·rw[if_pos q,if_pos q]; omega
   ·rw[if_neg q,if_neg q]; omega
  have ih:=qv4 N (n:=n) (f:=λb=>if b=τ N then 0 else f b) (τ:=τ) (λq hq=>h1 q (by omega)) (λq k hq hk=>h2 q k (by omega) (by omega)) λb hb hq=>by
   try dsimp only
   by_cases q:b=τ N
   ·rw[if_pos q]
   ·rw[if_neg q]
    refine h3 b hb λk hk=>?_
    rcases Nat.lt_succ_iff_lt_or_eq.1 hk with q2 | q2
    ·exact hq k q2
    ·rw[q2]; exact Ne.symm q
  rw[e,ih,qk1 (k:=τ N) (h1 N (by omega)) λb _ hne=>if_neg hne,if_pos rfl,sm]
  congr 1
  refine qa7 λq hq=>?_
  try dsimp only
  rw[if_neg λk=>by have:=h2 q N (by omega) (by omega) k; omega]
theorem x4e {n N j:Nat} {R:Nat->Nat->Int} {rows:List (List Int)} {P:List Int} (h:St n (N+1) R j rows P) (hP:P.length=N) (hid:∀q,q<N->nI P q=q) (hN:N<=6) (h1:∀a c,a<n->c<N->(R a c).natAbs<=1) (hy:∀a,a<n->(R a N).natAbs<=1000000) {k:Nat} (hk:k<N) :
  ∃X D:Int,D≠0/\D.natAbs<=400/\X.natAbs<=2400000000/\nI (nL rows k) N*D=X*nI (nL rows k) k:=by
 obtain⟨ρ,pv,τ,hE,t1,t2,t3,t4,t5,t6⟩:=h.tag
 have hpl:=h.pl
 have hcomb:∀k,k<N->∃(c:Int) (lam:Nat->Int),c≠0/\∀col,col<N+1->(sm N λq=>lam q*R (τ q) col)=c*nI (nL rows k) col:=λk hk=>by
  obtain⟨c,l,hc,hl,hs,_⟩:=hE.comb (τ k) (t1 k (by omega))
  refine⟨c,λq=>l (τ q),hc,λcol hcol=>?_⟩
  rw[<- t4 k (by omega) col hcol,hl col hcol]
  refine(qv4 N (f:=λb=>l b*R b col) (λq hq=>t1 q (by omega)) (λq k hq hk=>t2 q k (by omega) (by omega)) λb hb hq=>?_).symm
  try dsimp only
  obtain⟨i,hi,rfl⟩:=t3 b hb
  have hiN:¬i<P.length:=λq=>hq i (by omega) rfl
  have hl0:l (τ i)=0:=Classical.byContradiction λq=>by
   rcases hs (τ i) hb q with q2 | q2
   ·rw[t5 i hi,if_neg hiN] at q2; exact q2 rfl
   ·exact hq k hk q2.symm
  rw[hl0,Int.zero_mul]
 have hrow:∀k,k<N->∀col,col<N->nI (nL rows k) col=if k=col then nI (nL rows k) k else 0:=λk hk col hcol=>by
  by_cases q:k=col
  ·rw[if_pos q,<- q]
  ·rw[if_neg q]
   have:=(h.pos col (by omega)).2.2.2.2 k (by omega) q
   rw[hid col hcol,Int.toNat_natCast] at this
   exact this
 have hpp:∀k,k<N->0<nI (nL rows k) k:=λk hk=>by
  have:=(h.pos k (by omega)).2.2.1
  rw[hid k hk,Int.toNat_natCast] at this
  exact this
 obtain⟨A,hA⟩:∃A:Nat->Nat->Int,A=λi c=>R (τ i) c:=⟨_,rfl⟩
 have hD:det N A≠0:=xq9 λk hk=>by
  obtain⟨c,lam,hc,hl⟩:=hcomb k hk
  refine⟨c*nI (nL rows k) k,lam,ql7 hc (by have:=hpp k hk; omega),λcol hcol=>?_⟩
  rw[hA]
  try dsimp only
  rw[hl col (by omega),hrow k hk col hcol]
  by_cases q:k=col
  ·rw[if_pos q,if_pos q]
  ·rw[if_neg q,if_neg q,Int.mul_zero]
 have hA1:∀i c,i<N->c<N->(A i c).natAbs<=1:=λi c hi hc=>by rw[hA]; exact h1 _ _ (t1 i (by omega)) hc
 obtain⟨c,lam,hc,hl⟩:=hcomb k hk
 obtain⟨E,hEd⟩:∃E:Nat->Int,∀r,E r=det N (upd A r λcol=>if k=col then 1 else 0):=⟨_,λ_=>rfl⟩
 have hEb:∀r,r<N->(E r).natAbs<=400:=λr hr=>by
  rw[hEd]
  refine w7x hN λi col hi hcol=>?_
  unfold upd
  split
  ·show(if k=col then(1:Int) else 0).natAbs<=1
   split <;> decide
  ·exact hA1 i col hi hcol
 have hlam:∀r,r<N->lam r*det N A=(c*nI (nL rows k) k)*E r:=λr hr=>by
  have e1:=wg6 A hr lam N (Nat.le_refl _)
  rw[if_pos hr] at e1
  rw[<- e1,hEd]
  have e2:=qn7 N A r hr (c*nI (nL rows k) k) 0 (λcol=>if k=col then 1 else 0) (λ_=>0)
  have e3:=e2.trans (show(c*nI (nL rows k) k)*det N (upd A r λcol=>if k=col then 1 else 0)+0*det N (upd A r λ_=>0)=(c*nI (nL rows k) k)*det N (upd A r λcol=>if k=col then 1 else 0) by rw[Int.zero_mul,Int.add_zero])
  rw[<- e3]
  refine qf2 N λi col hi hcol=>?_
  unfold upd
  by_cases q:i=r
  ·rw[if_pos q,if_pos q,hA]
   try dsimp only
   rw[hl col (by omega),hrow k hk col hcol]
   by_cases q2:k=col
   ·rw[if_pos q2,if_pos q2]; first | omega | simp | grind
   ·rw[if_neg q2,if_neg q2]; first | omega | simp | grind
  ·rw[if_neg q,if_neg q]
 refine⟨sm N λr=>E r*R (τ r) N,det N A,hD,w7x hN hA1,?_,?_⟩
 ·refine Nat.le_trans (wf6 (B:=400000000) λr hr=>?_) (by omega)
  have:=q1h (hEb r hr) (hy _ (t1 r (by omega)))
  omega
 ·have e1:=hl N (by omega)
  have e2:c*(nI (nL rows k) N*det N A)=c*((sm N λr=>E r*R (τ r) N)*nI (nL rows k) k):=by
   have:det N A*(sm N λq=>lam q*R (τ q) N)=(c*nI (nL rows k) k)*sm N λr=>E r*R (τ r) N:=by
    rw[<- qf7,<- qf7]
    refine qa7 λr hr=>?_
    have:=hlam r hr
    try dsimp only
    rw[<- Int.mul_assoc,<- Int.mul_assoc,<- this,Int.mul_comm (det N A)]
   rw[e1] at this
   grind
  exact Int.eq_of_mul_eq_mul_left hc e2
theorem w41 {x p X D:Int} (hp:0<p) (hD:D≠0) (h:x*D=X*p):1<=(q91 x p).2/\(q91 x p).2.natAbs<=D.natAbs/\(q91 x p).1.natAbs<=X.natAbs/\qd8 (q91 x p).1 (q91 x p).2=1:=by
 have hg:0<qd8 x p:=qm5 (.inr (by omega))
 have a1:qd8 x p*x.tdiv (qd8 x p)=x:=Int.mul_tdiv_cancel' (Int.natAbs_dvd_natAbs.1 (Nat.gcd_dvd_left _ _))
 have b1:qd8 x p*p.tdiv (qd8 x p)=p:=Int.mul_tdiv_cancel' (Int.natAbs_dvd_natAbs.1 (Nat.gcd_dvd_right _ _))
 have hco:Nat.Coprime (x.tdiv (qd8 x p)).natAbs (p.tdiv (qd8 x p)).natAbs:=by
  have e1:(x.tdiv (qd8 x p)).natAbs=x.natAbs / Nat.gcd x.natAbs p.natAbs:=Int.natAbs_tdiv _ _
  have e2:(p.tdiv (qd8 x p)).natAbs=p.natAbs / Nat.gcd x.natAbs p.natAbs:=Int.natAbs_tdiv _ _
  rw[e1,e2]
  exact Nat.coprime_div_gcd_div_gcd (by have:(0:Int)<(Nat.gcd x.natAbs p.natAbs:Nat):=hg; omega)
 unfold q91
 try dsimp only
 generalize qd8 x p=g at *
 generalize x.tdiv g=a at *
 generalize p.tdiv g=d at *
 have hd:0<d:=q33 hg (by omega)
 have e:a*D=X*d:=by
  have:g*(a*D-X*d)=0:=by rw[<- a1,<- b1] at h; grind
  have:=qc7 this (by omega)
  omega
 have en:a.natAbs*D.natAbs=X.natAbs*d.natAbs:=by rw[<- Int.natAbs_mul,<- Int.natAbs_mul,e]
 refine⟨by omega,?_,?_,?_⟩
 ·exact Nat.le_of_dvd (by omega) (hco.symm.dvd_of_dvd_mul_left ⟨X.natAbs,by rw[en,Nat.mul_comm]⟩)
 ·rcases Nat.eq_zero_or_pos X.natAbs with q | q
  ·rw[q,Nat.zero_mul] at en
   rcases Nat.mul_eq_zero.1 en with q2 | q2
   ·omega
   ·omega
  ·exact Nat.le_of_dvd q (hco.dvd_of_dvd_mul_right ⟨D.natAbs,by rw[<- en]⟩)
 ·show((Nat.gcd a.natAbs d.natAbs:Nat):Int)=1
  rw[hco]; rfl
theorem xz4 {r:Int × Int} (h1:1<=r.2) (h2:r.2.natAbs<=400) (h3:r.1.natAbs<=10000000000) (h4:qd8 r.1 r.2=1):x3k r=true:=by
 unfold x3k
 simp only[Bool.and_eq_true,decide_eq_true_eq,beq_iff_eq]
 exact⟨⟨⟨⟨h1,by omega⟩,by omega⟩,by omega⟩,h4⟩
theorem wy6 {m:List (List Int)} {y pix:List Int} (h:(qp2 m y pix).2=true):∀r∈(qp2 m y pix).1.2,x3k r=true/\r.1≠0:=by
 have hI:=q0f h
 have hA:=Asked.of hI.chk
 have hS:=qu0 hA
 have hst:=qn3 hS.toMat pix.length (by omega)
 have hpl:=hst.pl
 have h6:=hA.msk.rows6
 unfold qp2 at h
 split at h
 ·cases h
 ·rename_i hno
  have ef:qp2 m y pix=((pix,(q1a m pix y).1),true):=by unfold qp2; rw[if_neg hno]
  have h0:(q1a m pix y).2=0:=Classical.byContradiction λq=>hno (.inl q)
  have hz:((q1a m pix y).1.any λr=>r.1==0)=false:=by
   cases e:((q1a m pix y).1.any λr=>r.1==0) with
   | false=>rfl
   | true=>exact absurd (.inr e) hno
  have es:q1a m pix y=wu0 (qa4 (qc8 m pix y) pix.length).1 (qa4 (qc8 m pix y) pix.length).2 pix.length:=by unfold q1a; rw[if_pos hI.chk]; rfl
  have hasc:Asc pix.length (qa4 (qc8 m pix y) pix.length).2:=⟨λq hq=>⟨(hst.pos q hq).1,(hst.pos q hq).2.1⟩,hst.asc⟩
  have hle:=hasc.le
  intro r hr
  rw[ef] at hr
  have hr:r∈(q1a m pix y).1:=hr
  have hr1:r.1≠0:=by
   have:=List.any_eq_false.1 hz r hr
   simpa using this
  refine⟨?_,hr1⟩
  rw[es] at hr h0
  unfold wu0 at hr h0
  split at h0
  ·cases h0
  ·rename_i hn
   rw[if_neg hn] at hr
   split at h0
   ·cases h0
   ·rename_i hl
    rw[if_neg hl] at hr
    have hlen:(qa4 (qc8 m pix y) pix.length).2.length=pix.length:=by omega
    obtain⟨k,hk,rfl⟩:=List.mem_map.1 hr
    have hk:=List.mem_range.1 hk
    have hid:=λq (hq:q<pix.length)=>hasc.id hlen hq
    unfold w5n
    rw[hid k (by omega),Int.toNat_natCast]
    have hp:=(hst.pos k hk).2.2.1
    rw[hid k (by omega),Int.toNat_natCast] at hp
    rw[wi5 hp]
    obtain⟨X,D,d1,d2,d3,d4⟩:=x4e hst hlen hid (by omega) (λa c ha hc=>hS.one a c ha hc) (λa ha=>hS.read a pix.length ha (by omega)) (show k<pix.length by omega)
    obtain⟨q1,q2,q3,q4⟩:=w41 hp d1 d4
    exact xz4 q1 (by omega) (by omega) q4
theorem xm7 (m:List (List Int)) (y:List Int) (f:Fit):q90 m y f=w88 m y f:=by
 rw[Bool.eq_iff_iff]
 unfold q90 w88 q1d
 rw[wy1]
 simp only[Bool.and_eq_true,decide_eq_true_eq]
 constructor
 ·rintro⟨⟨⟨hv,hc⟩,h2⟩,hval⟩
  exact⟨⟨hc,h2⟩,(q0f h2).fst.symm,hval.symm⟩
 ·rintro⟨⟨hc,h2⟩,h3,h4⟩
  refine⟨⟨⟨?_,hc⟩,h2⟩,h4.symm⟩
  have hI:=q0f h2
  have hA:=Asked.of hc
  unfold ya6
  simp only[Bool.and_eq_true,decide_eq_true_eq,Bool.not_eq_true']
  refine⟨⟨by rw[h4]; exact hI.len.symm,?_⟩,?_⟩
  ·unfold xr9
   rw[List.any_eq_false]
   intro r hr
   rw[h4] at hr
   obtain⟨q1,q2⟩:=wy6 h2 r hr
   simp[q1,q2]
  ·rw[q3s]
   exact λi hi hl=>hA.nam.asc (i-1) i (by omega) hl
end Go.Proofs.YtmijnbjlhnpokaaGreat
