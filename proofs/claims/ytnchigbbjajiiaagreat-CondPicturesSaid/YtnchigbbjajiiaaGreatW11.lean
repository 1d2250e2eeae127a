/- The program's test of a fit is the reference's: its fractions are small. Plain mathematics. No condition. -/
import Derived.Test.YtnchigbbjajiiaaGreatW5
import Derived.Test.YtnchigbbjajiiaaGreatW10
set_option linter.unusedVariables false
namespace Go.Proofs.YtnchigbbjajiiaaGreat
open Go Go.RowKit Eng
theorem exL:∀(k:Nat) (p:Nat->Int),(∀q,q<k->p q≠0)->∃(L:Int) (u:Nat->Int),L≠0/\∀q,q<k->L=p q*u q
 | 0,p,_=>⟨1,λ_=>0,dc,λq h=>absurd h (zat _)⟩
 | k+1,p,h=>by
  obtain⟨L,u,h1,h2⟩:=exL k p λq hq=>h q ow
  refine⟨L*p k,λq=>if q=k then L else u q*p k,q03 h1 (h k ow),λq hq=>?_⟩
  grind
def Sol (n W:Nat) (R:Nat->Nat->Int) (z:Nat->Int):Prop:=∀a,a<n->(sm W λc=>R a c*z c)=0
theorem St.inj {n W:Nat} {R:Nat->Nat->Int} {j:Nat} {rows:List (List Int)} {P:List Int} (h:St n W R j rows P) {q k:Nat} (hq:q<P.length) (hk:k<P.length) (e:nI P q=nI P k):q=k:=by
 rcases zcv q k with q1 | q1 | q1
 ·have:=h.asc q k q1 hk; omega
 ·omega
 ·have:=h.asc k q q1 hq; omega
theorem St.free {n W:Nat} {R:Nat->Nat->Int} {j:Nat} {rows:List (List Int)} {P:List Int} (h:St n W R j rows P) (hj:j<=W) {f:Nat} (hf:f<W) (hnp:∀q,q<P.length->nI P q≠(f:Int)) (hz:∀i,P.length<=i->i<n->nI (nL rows i) f=0) :
  ∃z,Sol n W R z/\z f≠0/\∀c,c<W->c≠f->(∀q,q<P.length->nI P q≠(c:Int))->z c=0:=by
 obtain⟨L,u,hL,hu⟩:=exL P.length (λq=>nI (nL rows q) (nI P q).toNat) λq hq=>by have:=(h.pos q hq).2.2.1; (try dsimp only); omega
 have hpl:=h.pl
 have hzf:(if f=f then L else sm P.length λq=>if nI P q=(f:Int) then-u q*nI (nL rows q) f else 0)=L:=zaj rfl
 obtain⟨z,hzd⟩:∃z:Nat->Int,∀c,z c=if c=f then L else sm P.length λq=>if nI P q=(c:Int) then-u q*nI (nL rows q) f else 0:=⟨_,λ_=>rfl⟩
 have z1:z f=L:=by rw[hzd,zaj rfl]
 have z2:∀c,c≠f->(∀q,q<P.length->nI P q≠(c:Int))->z c=0:=λc hc hq=>by
  rw[hzd,zag hc]
  exact qm5 λq h=>zag (hq q h)
 have z3:∀q,q<P.length->z (nI P q).toNat=- u q*nI (nL rows q) f:=λq hq=>by
  have hp:=h.pos q hq
  have e:((nI P q).toNat:Int)=nI P q:=ow
  rw[hzd,zag (λk=>hnp q hq ow),qr0 hq λi hi hne=>by
   try dsimp only
   rw[zag λk=>hne (h.inj hi hq ow)]]
  try dsimp only
  rw[zaj e.symm]
 refine⟨z,(h.sol z).2 λi hi=>?_,by rw[z1]; exact hL,λc hc=>z2 c⟩
 unfold dt
 rcases zaq i P.length with q | q
 ·have hp:=h.pos i q
  rw[q58 (k:=f) (l:=(nI P i).toNat) hf ow (λk=>hnp i q ow) λc hc h1 h2=>?_]
  ·try dsimp only
   rw[z1,z3 i q]
   have:=hu i q
   try dsimp only at this
   rw[this]
   grind
  ·try dsimp only
   by_cases hx:∃q,q<P.length/\nI P q=(c:Int)
   ·obtain⟨q2,hq2,e⟩:=hx
    have hp2:=h.pos q2 hq2
    have:nI (nL rows i) (nI P q2).toNat=0:=hp2.2.2.2.2 i hi λk=>h2 (by rw[k,e]; rfl)
    rw[e,zap] at this
    rw[this,zbv]
   ·rw[z2 c h1 λq hq e=>hx ⟨q,hq,e⟩,zbb]
 ·refine qm5 λc hc=>?_
  try dsimp only
  by_cases e:c=f
  ·rw[e,hz i q hi,zbv]
  ·by_cases hx:∃q,q<P.length/\nI P q=(c:Int)
   ·obtain⟨q2,hq2,e⟩:=hx
    have hp2:=h.pos q2 hq2
    have:nI (nL rows i) (nI P q2).toNat=0:=hp2.2.2.2.2 i hi ow
    rw[e,zap] at this
    rw[this,zbv]
   ·rw[z2 c e λq hq e=>hx ⟨q,hq,e⟩,zbb]
structure Asc (N:Nat) (P:List Int):Prop where
 at_:∀q,q<P.length->0<=nI P q/\nI P q<N
 asc:∀q k,q<k->k<P.length->nI P q<nI P k
theorem Asc.ge {N:Nat} {P:List Int} (h:Asc N P):∀q,q<P.length->(q:Int)<=nI P q
 | 0,hq=>(h.at_ 0 hq).1
 | q+1,hq=>by
  have h1:=h.ge q ow
  have h2:=h.asc q (q+1) ow hq
  omega
theorem Asc.le {N:Nat} {P:List Int} (h:Asc N P):P.length<=N:=by
 rcases zb7 P.length with q | q
 ·omega
 ·have h1:=h.ge (P.length-1) ow
  have h2:=h.at_ (P.length-1) ow
  omega
theorem Asc.up {N:Nat} {P:List Int} (h:Asc N P):∀d,d<P.length->nI P (P.length-1-d)+d<N
 | 0,hd=>by have:=(h.at_ (P.length-1-0) ow).2; omega
 | d+1,hd=>by
  have h1:=h.up d ow
  have h2:=h.asc (P.length-1-(d+1)) (P.length-1-d) ow ow
  omega
theorem Asc.id {N:Nat} {P:List Int} (h:Asc N P) (hl:P.length=N) {q:Nat} (hq:q<N):nI P q=q:=by
 have h1:=h.ge q ow
 have h2:=h.up (P.length-1-q) ow
 rw[show P.length-1-(P.length-1-q)=q by omega] at h2
 omega
theorem Asc.free {N:Nat} {P:List Int} (hl:P.length<N):∃f,f<N/\∀q,q<P.length->nI P q≠(f:Int):=by
 refine zaf λhno=>?_
 have hx:∀f,∃q,f<N->q<P.length/\nI P q=(f:Int):=λf=>by
  by_cases hf:f<N
  ·refine zaf λh2=>hno ⟨f,hf,λq hq e=>h2 ⟨q,λ_=>⟨hq,e⟩⟩⟩
  ·exact⟨0,λh=>absurd h hf⟩
 obtain⟨g,hg⟩:=zbs hx
 obtain⟨i,k,h1,h2,h3⟩:=q8q P.length N g (λi hi=>(hg i hi).1) hl
 have e1:=(hg i ow).2
 have e2:=(hg k h2).2
 rw[h3] at e1
 omega
structure Good (n N:Nat) (R:Nat->Nat->Int) (rows:List (List Int)) (P:List Int):Prop where
 st:∃j,N<=j/\j<=N+1/\St n (N+1) R j rows P
 lt:∀q,q<P.length->nI P q<N
 no:∀i,P.length<=i->i<n->nI (nL rows i) N=0
theorem Good.asc {n N:Nat} {R:Nat->Nat->Int} {rows:List (List Int)} {P:List Int} (h:Good n N R rows P):Asc N P:=by
 obtain⟨j,_,_,hs⟩:=h.st
 exact⟨λq hq=>⟨(hs.pos q hq).1,h.lt q hq⟩,hs.asc⟩
theorem Good.last {n N:Nat} {R:Nat->Nat->Int} {rows:List (List Int)} {P:List Int} (h:Good n N R rows P):∃z,Sol n (N+1) R z/\z N≠0:=by
 obtain⟨j,_,h2,hs⟩:=h.st
 obtain⟨z,z1,z2,_⟩:=hs.free h2 (f:=N) ow (λq hq=>by have:=h.lt q hq; omega) h.no
 exact⟨z,z1,z2⟩
theorem Good.more {n N:Nat} {R:Nat->Nat->Int} {rows:List (List Int)} {P:List Int} (h:Good n N R rows P) (hl:P.length<N):∃z f,Sol n (N+1) R z/\f<N/\z f≠0/\z N=0:=by
 obtain⟨j,h1,h2,hs⟩:=h.st
 obtain⟨f,hf,hq⟩:=Asc.free hl
 obtain⟨z,z1,z2,z3⟩:=hs.free h2 (f:=f) ow hq λi h3 h4=>hs.zero i h3 h4 f ow
 exact⟨z,f,z1,hf,z2,z3 N ow ow λq hq=>by have:=h.lt q hq; omega⟩
theorem Good.row {n N:Nat} {R:Nat->Nat->Int} {rows:List (List Int)} {P:List Int} (h:Good n N R rows P) (hl:P.length=N) {z:Nat->Int} (hz:Sol n (N+1) R z) {k:Nat} (hk:k<N):0<nI (nL rows k) k/\nI (nL rows k) k*z k+nI (nL rows k) N*z N=0:=by
 obtain⟨j,h1,h2,hs⟩:=h.st
 have hid:=λ{q} (hq:q<N)=>h.asc.id hl hq
 have hp:=hs.pos k ow
 have hpl:=hs.pl
 rw[hid hk,zap] at hp
 refine⟨hp.2.2.1,?_⟩
 have:=(hs.sol z).1 hz k ow
 unfold dt at this
 rw[q58 (k:=k) (l:=N) ow ow ow λc hc h1 h2=>?_] at this
 ·exact this
 ·have hp2:=(hs.pos c ow).2.2.2.2 k ow ow
  rw[hid ow,zap] at hp2
  try dsimp only
  rw[hp2,zbv]
theorem Good.len {n N:Nat} {R:Nat->Nat->Int} {rows rows':List (List Int)} {P P':List Int} (h:Good n N R rows P) (h':Good n N R rows' P') (hl:P.length<N):P'.length<N:=by
 rcases zaq P'.length N with q | q
 ·exact q
 ·have hl':P'.length=N:=by have:=h'.asc.le; omega
  obtain⟨z,f,z1,z2,z3,z4⟩:=h.more hl
  obtain⟨k1,k2⟩:=h'.row hl' z1 z2
  rw[z4,zbb,ze8] at k2
  exact absurd (qc9 k2 ow) z3
theorem Good.val {n N:Nat} {R:Nat->Nat->Int} {rows rows':List (List Int)} {P P':List Int} (h:Good n N R rows P) (h':Good n N R rows' P') (hl:P.length=N) (hl':P'.length=N) {k:Nat} (hk:k<N):nI (nL rows k) N*nI (nL rows' k) k=nI (nL rows' k) N*nI (nL rows k) k:=by
 obtain⟨z,z1,z2⟩:=h.last
 obtain⟨a1,a2⟩:=h.row hl z1 hk
 obtain⟨b1,b2⟩:=h'.row hl' z1 hk
 have:z N*(nI (nL rows k) N*nI (nL rows' k) k-nI (nL rows' k) N*nI (nL rows k) k)=0:=by grind
 have:=qc9 this z2
 omega
theorem xj0 {a b c d:Int} (hb:0<b) (hd:0<d) (h:a*d=c*b):q4n a b=q4n c d:=by
 have hg:0<gcdI a b:=ql9 (.inr ow)
 have hk:0<gcdI c d:=ql9 (.inr ow)
 have a1:gcdI a b*a.tdiv (gcdI a b)=a:=za9 (za7.1 (zb1 _ _))
 have b1:gcdI a b*b.tdiv (gcdI a b)=b:=za9 (za7.1 (zb4 _ _))
 have c1:gcdI c d*c.tdiv (gcdI c d)=c:=za9 (za7.1 (zb1 _ _))
 have d1:gcdI c d*d.tdiv (gcdI c d)=d:=za9 (za7.1 (zb4 _ _))
 have cop:∀x y:Int,0<gcdI x y->Nat.Coprime (x.tdiv (gcdI x y)).natAbs (y.tdiv (gcdI x y)).natAbs:=λx y h=>by
  have e1:(x.tdiv (gcdI x y)).natAbs=x.natAbs / Nat.gcd x.natAbs y.natAbs:=zck _ _
  have e2:(y.tdiv (gcdI x y)).natAbs=y.natAbs / Nat.gcd x.natAbs y.natAbs:=zck _ _
  rw[e1,e2]
  exact zdv (by have:(0:Int)<(Nat.gcd x.natAbs y.natAbs:Nat):=h; omega)
 have h1:=cop a b hg
 have h2:=cop c d hk
 unfold q4n
 generalize gcdI a b=g at *
 generalize gcdI c d=k at *
 generalize a.tdiv g=x at *
 generalize b.tdiv g=y at *
 generalize c.tdiv k=u at *
 generalize d.tdiv k=v at *
 have hy:0<y:=q4q hg ow
 have hv:0<v:=q4q hk ow
 have e:x*v=u*y:=by
  have:(g*k)*(x*v-u*y)=0:=by rw[<- a1,<- b1,<- c1,<- d1] at h; grind
  have:=qc9 this (q03 ow ow)
  omega
 have en:x.natAbs*v.natAbs=u.natAbs*y.natAbs:=by rw[<- zbq,<- zbq,e]
 have q1:y.natAbs∣v.natAbs:=h1.symm.dvd_of_dvd_mul_left ⟨u.natAbs,by rw[en,zcs]⟩
 have q2:v.natAbs∣y.natAbs:=h2.symm.dvd_of_dvd_mul_left ⟨x.natAbs,by rw[<- en,zcs]⟩
 have q3:y.natAbs=v.natAbs:=Nat.dvd_antisymm q1 q2
 have q4:y=v:=ow
 subst q4
 have:y*(x-u)=0:=by grind
 have:=qc9 this ow
 rw[show x=u by omega]
theorem q83 {a b:Int} (hb:0<b):ofR a b=q4n a b:=by
 unfold ofR q4n
 rw[zag ow]
theorem w4s (N:Nat) (d:List (List Int)) (P:List Int) (hP:∀q,q<N->nI P q=q):∀i,i<=N->∀k (hk:k<(qw5 N d P i).length),(qw5 N d P i)[k]=if k<i then q4n (nI (nL d k) N) (nI (nL d k) k) else(0,1)
 | 0,_,k,hk=>by simp[qw5]
 | i+1,hi,k,hk=>by
  have h1:=hP i ow
  simp only[qw5,h1,Int.toNat_natCast,List.getElem_set]
  by_cases e:i=k
  ·subst e
   rw[zaj rfl,zaj (zcn _)]
  ·rw[zag e,w4s N d P hP i ow k (by rw[qw0] at hk ⊢; exact hk)]
   by_cases e2:k<i
   ·rw[zaj e2,zaj ow]
   ·rw[zag e2,zag ow]
theorem x92 {n N:Nat} {M:List (List Int)} (hM:Mat n (N+1) M):xe1 (qb7 M N).1 (qb7 M N).2 N=(if(if qt7 (qf8 M (N+1)).piv N=true then(([],0,false):List (Int × Int) × Int × Bool) else(qw5 N (qf8 M (N+1)).done_ (qf8 M (N+1)).piv (qf8 M (N+1)).piv.length,(N:Int)-(qf8 M (N+1)).piv.length,true)).2.2=false then([],8) else if 0<(if qt7 (qf8 M (N+1)).piv N=true then(([],0,false):List (Int × Int) × Int × Bool) else(qw5 N (qf8 M (N+1)).done_ (qf8 M (N+1)).piv (qf8 M (N+1)).piv.length,(N:Int)-(qf8 M (N+1)).piv.length,true)).2.1 then([],11) else((if qt7 (qf8 M (N+1)).piv N=true then(([],0,false):List (Int × Int) × Int × Bool) else(qw5 N (qf8 M (N+1)).done_ (qf8 M (N+1)).piv (qf8 M (N+1)).piv.length,(N:Int)-(qf8 M (N+1)).piv.length,true)).1,0)):=by
 have hst:=qt2 hM N ow
 obtain⟨hrs,hcnt,_⟩:=qx4 hM (N+1) ow
 generalize qb7 M N=r at *
 generalize qf8 M (N+1)=s at *
 obtain⟨rows,P⟩:=r
 obtain⟨left,dn,P3⟩:=s
 have hst:St n (N+1) (rowOf M) N rows P:=hst
 have hrs:St n (N+1) (rowOf M) (N+1) (dn++left) P3:=hrs
 have hcnt:dn.length=P3.length:=hcnt
 simp only[]
 have hD:∀i,i<P3.length->nL (dn++left) i=nL dn i:=λi hi=>qo0 _ _ ow
 have hlen:=hst.len
 have hplt:∀q,q<P.length->nI P q<N:=λq hq=>(hst.pos q hq).2.1
 -- the third list's pivots
 have g1:q8f rows P N=true->∀z,Sol n (N+1) (rowOf M) z->z N=0:=λh z hz=>by
  unfold q8f at h
  rw[zbn] at h
  obtain⟨i,hi,hb⟩:=h
  have hi:=za2.1 hi
  simp only[Bool.and_eq_true,decide_eq_true_eq,bne_iff_ne,ne_eq] at hb
  have:=(hst.sol z).1 hz i ow
  unfold dt at this
  rw[qr0 (k:=N) ow λc hc hne=>by
   try dsimp only
   rw[hst.zero i hb.1 ow c ow,zbv]] at this
  exact qc9 this hb.2
 have g2:q8f rows P N=false->Good n N (rowOf M) rows P:=λh=>by
  refine⟨⟨N,zab _,ow,hst⟩,hplt,λi h1 h2=>?_⟩
  unfold q8f at h
  have:=zbp.1 h i (za2.2 ow)
  simpa[h1] using this
 have g3:qt7 P3 N=true->∀z,Sol n (N+1) (rowOf M) z->z N=0:=λh z hz=>by
  unfold qt7 at h
  rw[zbn] at h
  obtain⟨x,hx,hb⟩:=h
  obtain⟨q,hq,rfl⟩:=q8z hx
  have e:nI P3 q=(N:Int):=by simpa using hb
  obtain⟨p1,p2,p3,p4,p5⟩:=hrs.pos q hq
  rw[e,zap] at p3 p4
  have hpl:=hrs.pl
  have:=(hrs.sol z).1 hz q ow
  unfold dt at this
  rw[qr0 (k:=N) ow λc hc hne=>by
   try dsimp only
   rw[p4 c ow,zbv]] at this
  exact qc9 this ow
 have g4:qt7 P3 N=false->Good n N (rowOf M) (dn++left) P3:=λh=>by
  refine⟨⟨N+1,ow,zab _,hrs⟩,λq hq=>?_,λi h1 h2=>hrs.zero i h1 h2 N ow⟩
  unfold qt7 at h
  have:=zbp.1 h _ (q8y hq)
  have p:=hrs.pos q hq
  have hne:nI P3 q≠(N:Int):=by simpa using this
  omega
 unfold xe1
 cases hn:q8f rows P N with
 | true=>
  have:qt7 P3 N=true:=by
   cases e:qt7 P3 N with
   | true=>rfl
   | false=>
    obtain⟨z,z1,z2⟩:=(g4 e).last
    exact absurd (g1 hn z z1) z2
  simp[this]
 | false=>
  have hg:=g2 hn
  have e3:qt7 P3 N=false:=by
   cases e:qt7 P3 N with
   | false=>rfl
   | true=>
    obtain⟨z,z1,z2⟩:=hg.last
    exact absurd (g3 e z z1) z2
  have hg3:=g4 e3
  have hle:=hg.asc.le
  have hle3:=hg3.asc.le
  simp only[e3,Bool.false_eq_true,if_false,Bool.true_eq_false]
  by_cases hl:P.length<N
  ·have:=hg.len hg3 hl
   rw[zaj hl,zaj ow]
  ·have hl3:¬P3.length<N:=λh=>hl (hg3.len hg h)
   rw[zag hl,zag ow]
   have eP:P.length=N:=ow
   have eP3:P3.length=N:=ow
   have i1:=λq (hq:q<N)=>hg.asc.id eP hq
   have i3:=λq (hq:q<N)=>hg3.asc.id eP3 hq
   congr 1
   apply zbd
   ·rw[qw0,za4,zdd]; exact eP
   intro k h1 h2
   rw[qw0] at h2
   rw[w4s N dn P3 i3 _ ow k (by rw[qw0]; exact h2),zaj ow,zek,List.getElem_range]
   unfold wo5
   rw[i1 k h2,zap]
   obtain⟨z,z1,_⟩:=hg.last
   have p1:=(hg.row eP z1 h2).1
   have p3:=(hg3.row eP3 z1 h2).1
   have hv:=hg.val hg3 eP eP3 h2
   rw[hD k ow] at p3 hv
   rw[q83 p1]
   exact xj0 p1 p3 hv
theorem qw1 {m:List (List Int)} {y pix:List Int} (h:Asked m y pix):Small m.length pix.length (pix.length+1) (qa7 m pix y):=by
 have hM:=h.msk
 have h6:=hM.rows6
 have hp10:=hM.pix10
 have hpl:=h.nam.len
 have hat:∀i,i<m.length->nL (qa7 m pix y) i=qm0 (nL m i) pix++[nI y i]:=λi hi=>by
  rw[qv1 m pix y i hi,qk5 m pix i hi]
 have hlo:∀i,i<m.length->∀c,c<pix.length->(nI (nL (qa7 m pix y) i) c).natAbs<=1:=λi hi c hc=>by
  rw[hat i hi,qk9 _ _ (by rw[qi0]; exact hc),qq6 _ _ _ hc]
  have h1:=h.nam.at_ c hc
  have h2:=hM.small i hi (nI pix c).toNat ow
  omega
 refine⟨⟨q3m m pix y,λi hi=>by rw[hat i hi,zay,qi0]; rfl⟩,h6,ow,ow,λa c ha hc=>hlo a ha c hc,λa c ha hc=>?_⟩
 rcases zaq c pix.length with q | q
 ·have:=hlo a ha c q; omega
 ·have e:nI (nL (qa7 m pix y) a) c=nI y a:=by
   rw[hat a ha,show c=(qm0 (nL m a) pix).length by rw[qi0]; omega,qn9]
  have:=h.at_ a ha
  rw[e]
  omega
theorem x5i (m:List (List Int)) (pix y:List Int):w7k m pix y=q6i m pix y:=by
 unfold w7k q6i
 split
 ·rename_i h
  have hA:=Asked.of h
  have hS:=qw1 hA
  have hW:rdW (qa7 m pix y)=pix.length+1:=hS.each 0 (by have:=hA.msk.rows1; omega)
  unfold svT svR svP svD qb5 qz1
  rw[hW]
  exact(x92 hS.toMat).symm
 ·rfl
theorem x5j (m:List (List Int)) (y pix:List Int):wo6 m y pix=qj5 m y pix:=by
 unfold wo6 qj5 x60 w7l
 rw[x5i]
theorem x94 {m:List (List Int)} {pix y:List Int} (hl:pix.length<=100000):x8s m pix y:=by
 refine⟨ow,λh=>?_⟩
 have hA:=Asked.of h
 have hS:=qw1 hA
 refine⟨wx1 hS,?_⟩
 have hst:=qt2 hS.toMat pix.length ow
 have hpl:=hst.pl
 have hlen:=hst.len
 have hB:BIG=4000000000000000000:=rfl
 refine⟨λk hk=>?_,λk hk=>?_,λk hk=>?_⟩
 ·have:=(hst.pos k hk).2.2.1
  show nI (nL (qb7 (qa7 m pix y) pix.length).1 k) (nI (qb7 (qa7 m pix y) pix.length).2 k).toNat≠0
  omega
 ·have hk:k<(qb7 (qa7 m pix y) pix.length).2.length:=hk
  have h1:=hst.pos k hk
  have:=(hst.small hS (zab _) (i:=k) ow).2 (nI (qb7 (qa7 m pix y) pix.length).2 k).toNat ow
  show qc0 BIG (nI (nL (qb7 (qa7 m pix y) pix.length).1 k) (nI (qb7 (qa7 m pix y) pix.length).2 k).toNat)
  constructor <;> omega
 ·have hk:k<(qb7 (qa7 m pix y) pix.length).2.length:=hk
  have:=(hst.small hS (zab _) (i:=k) ow).2 pix.length ow
  show qc0 BIG (nI (nL (qb7 (qa7 m pix y) pix.length).1 k) pix.length)
  constructor <;> omega
theorem yn2 {m:List (List Int)} {pix y:List Int} (hf:q6g m) (hl:pix.length<=100000):wm4 m pix y:=by
 refine⟨hf,hl,λh=>?_⟩
 have hA:=Asked.of h
 have hS:=qw1 hA
 have hM:=hA.msk
 have h1:=hM.rows1
 have h6:=hM.rows6
 have hp10:=hM.pix10
 have hpl:=hA.nam.len
 have hW:rdW (qa7 m pix y)=pix.length+1:=hS.each 0 ow
 obtain⟨r1,r2⟩:=w4r hS ow
 have hrst:=qx4 hS.toMat (pix.length+1) (zab _)
 have hB:BIG=4000000000000000000:=rfl
 have e1:svD m pix y=(qf8 (qa7 m pix y) (pix.length+1)).done_:=by unfold svD qb5; rw[hW]
 have e2:svP m pix y=(qf8 (qa7 m pix y) (pix.length+1)).piv:=by unfold svP qb5; rw[hW]
 refine⟨ow,⟨ow,ow,λi hi j hj=>?_⟩,ow,hA.len,r1,?_⟩
 ·have:=hA.nam.at_ j hj
  rw[hM.each i hi]; exact this
 ·rw[e1,e2]
  obtain⟨hst,hcnt,_⟩:=hrst
  have hlen:=hst.len
  have hpl2:=hst.pl
  rw[zay] at hlen
  have hD:∀i,i<(qf8 (qa7 m pix y) (pix.length+1)).piv.length->nL ((qf8 (qa7 m pix y) (pix.length+1)).done_++(qf8 (qa7 m pix y) (pix.length+1)).left) i=nL (qf8 (qa7 m pix y) (pix.length+1)).done_ i:=λi hi=>qo0 _ _ ow
  refine⟨hcnt,ow,λk hk=>?_,λk hk=>?_,λk hk=>?_,λk hk=>?_,λk hk=>?_⟩
  ·rw[<- hD k ow]; exact hst.each k ow
  ·have:=hst.pos k hk; omega
  ·have:=(hst.pos k hk).2.2.1
   rw[hD k hk] at this
   omega
  ·have:=hst.pos k hk
   have:=r2 k ow (nI (qf8 (qa7 m pix y) (pix.length+1)).piv k).toNat ow
   constructor <;> omega
  ·have:=r2 k ow pix.length ow
   constructor <;> omega
structure x0r (m:List (List Int)) (y pix:List Int):Prop where
 chk:q4j m y pix=0
 rows:pix.length<=m.length
 fst:(qj5 m y pix).1.1=pix
 len:(qj5 m y pix).1.2.length=pix.length
theorem qw2 {m:List (List Int)} {y pix:List Int} (h:(qj5 m y pix).2=true):x0r m y pix:=by
 unfold qj5 at h
 split at h
 ·cases h
 ·rename_i hno
  have h0:(q6i m pix y).2=0:=zaf λq=>hno (.inl q)
  have ef:qj5 m y pix=((pix,(q6i m pix y).1),true):=by unfold qj5; rw[zag hno]
  rw[show x0r m y pix↔x0r m y pix from zeq]
  have hc:q4j m y pix=0:=zaf λq=>by
   unfold q6i at h0
   rw[zag q] at h0
   exact q h0
  have hA:=Asked.of hc
  have hS:=qw1 hA
  have hst:=qt2 hS.toMat pix.length ow
  have hpl:=hst.pl
  have es:q6i m pix y=xe1 (qb7 (qa7 m pix y) pix.length).1 (qb7 (qa7 m pix y) pix.length).2 pix.length:=by unfold q6i; rw[zaj hc]; rfl
  have hle:(qb7 (qa7 m pix y) pix.length).2.length<=pix.length:=(⟨λq hq=>⟨(hst.pos q hq).1,(hst.pos q hq).2.1⟩,hst.asc⟩:Asc pix.length _).le
  rw[es] at h0
  unfold xe1 at h0
  split at h0
  ·cases h0
  ·rename_i hn
   split at h0
   ·cases h0
   ·rename_i hl
    refine⟨hc,ow,by rw[ef],?_⟩
    rw[ef]
    show(q6i m pix y).1.length=_
    rw[es]
    unfold xe1
    rw[zag hn,zag hl]
    show(List.map _ (List.range _)).length=_
    rw[za4,zdd]
    omega
theorem x0s:((List.range 8).all λn=>decide (qc8 n=(List.range (n+1)).flatMap λ(k:Nat)=>qg4 (n:Nat) (k:Nat)))=true:=by decide +kernel
theorem w1r {n:Nat} (h:n<=7):qc8 n=(List.range (n+1)).flatMap λ(k:Nat)=>qg4 (n:Nat) (k:Nat):=by
 have:=zar.1 x0s n (za2.2 ow)
 exact zbg this
theorem wx3 {n k:Nat} {s:List Int} (h:s∈qg4 (n:Nat) (k:Nat)):s.length=k/\k<=n:=by
 unfold qg4 at h
 split at h
 ·have:=wv3 h
  exact⟨ow,ow⟩
 ·cases h
theorem w1s (m:List (List Int)) (y:List Int) (s t:List (List Int)):qr2 m y (s++t)=qr2 m y s++qr2 m y t:=zdg
theorem w1t (m:List (List Int)) (y:List Int) (s:List (List Int)):qk6 m y s=qr2 m y s:=by
 unfold qk6 qr2
 congr 1
 funext pix
 rw[x5j]
theorem q84 (m:List (List Int)) (y:List Int):∀K,qz2 m y K=qr2 m y ((List.range K).flatMap λ(k:Nat)=>qg4 (nL m 0).length (k:Nat))
 | 0=>rfl
 | K+1=>by
  rw[qz2,q84 m y K,zc9,zcm,w1s]
  simp
theorem xj1 {m:List (List Int)} (y:List Int) (h:(nL m 0).length<=7):q5n m y=qz2 m y ((nL m 0).length+1):=by
 unfold q5n
 rw[w1t,w1r h,q84]
theorem w1u {m:List (List Int)} {y:List Int} {s:List (List Int)} {f:Fit} (h:f∈qr2 m y s):∃pix∈s,x0r m y pix/\f=(qj5 m y pix).1:=by
 unfold qr2 at h
 rw[zcp] at h
 obtain⟨pix,h1,h2⟩:=h
 split at h2
 ·rename_i h3
  exact⟨pix,h1,qw2 h3,(zaa h2).symm⟩
 ·cases h2
theorem q3o {m:List (List Int)} {y:List Int} {k:Nat} {f:Fit} (h:f∈qr2 m y (qg4 (nL m 0).length (k:Nat))):f.1.length=k/\k<=m.length/\k<=(nL m 0).length:=by
 obtain⟨pix,h1,h2,rfl⟩:=w1u h
 have h3:=wx3 h1
 have h4:=h2.rows
 rw[h2.fst]
 omega
theorem wx4 {m:List (List Int)} {y:List Int}:∀K,∀f∈qz2 m y K,f.1.length<K
 | 0,f,h=>by cases h
 | K+1,f,h=>by
  rcases zam.1 h with h | h
  ·have:=wx4 K f h; omega
  ·have:=q3o h; omega
theorem xj2 (m:List (List Int)) (y:List Int) {k:Int} (hk:0<=k):∀K,xi1 k (qz2 m y K)=qz2 m y (min K (q06 m k))
 | 0=>by rw[Nat.zero_min]; rfl
 | K+1=>by
  have hN:q06 m k=(min (min k (nL m 0).length) m.length+1).toNat:=rfl
  rw[qz2]
  unfold xi1
  rw[List.filter_append]
  have ih:=xj2 m y hk K
  unfold xi1 at ih
  rw[ih]
  by_cases e:K<q06 m k
  ·rw[show min K (q06 m k)=K by omega,show min (K+1) (q06 m k)=K+1 by omega,qz2]
   congr 1
   rw[List.filter_eq_self]
   intro f hf
   have:=q3o hf
   exact zc1 ow
  ·rw[show min K (q06 m k)=q06 m k by omega,show min (K+1) (q06 m k)=q06 m k by omega]
   rw[List.filter_eq_nil_iff.2 λf hf=>?_,zch]
   have:=q3o hf
   rw[zbc]
   omega
theorem x0t {m:List (List Int)} (y:List Int) {k:Int} (hk:0<=k) (h7:(nL m 0).length<=7):q1x m y k=xi1 k (q5n m y):=by
 rw[xj1 y h7,xj2 m y hk]
 have hN:q06 m k=(min (min k (nL m 0).length) m.length+1).toNat:=rfl
 unfold q1x
 rw[show min ((nL m 0).length+1) (q06 m k)=q06 m k by omega]
theorem x5k {m:List (List Int)} {y:List Int} (hf:q6g m) (hM:Mk m) (h7:(nL m 0).length<=7):q5o m y:=by
 have h1:=hM.rows1
 refine⟨ow,h7,λs hs=>yn2 hf ?_⟩
 have:=((q1s (n:=(nL m 0).length) (k:=128) h7 (zab _)).2 s hs).1
 omega
theorem x5l {m:List (List Int)} {y:List Int} (h:qn5 m y=0):Mk m:=Mk.of (w4l (pix:=[]) h).2
theorem x5m (m:List (List Int)) (y:List Int):q4j m y []=qn5 m y:=by
 by_cases h:qn5 m y=0
 ·rw[(w4l h).1,h]; rfl
 ·exact x5g h
theorem q85 (l:List Int) {p:Nat} (hp:p<l.length) (x:Int) (q:Nat):nI (l.set p x) q=if q=p then x else nI l q:=by
 by_cases e:q=p
 ·subst e
  rw[zaj rfl,qf1 _ _ (by rw[za6]; exact hp),zdf]
 ·rw[zag e]
  unfold nI qe0
  rw[zaw,zaw,zc0 (zc6 e)]
theorem qx5:∀(N:Nat) {n:Nat} {f:Nat->Int} {τ:Nat->Nat},(∀q,q<N->τ q<n)->(∀q k,q<N->k<N->τ q=τ k->q=k)->(∀b,b<n->(∀q,q<N->τ q≠b)->f b=0)->sm n f=sm N λq=>f (τ q)
 | 0,n,f,τ,_,_,h=>qm5 λb hb=>h b hb λq hq=>absurd hq (zat _)
 | N+1,n,f,τ,h1,h2,h3=>by
  have e:sm n f=sm n (λb=>if b=τ N then 0 else f b)+sm n (λb=>if b=τ N then f b else 0):=by
   rw[<- q8p]
   refine qe1 λb _=>?_
   omega
  have ih:=qx5 N (n:=n) (f:=λb=>if b=τ N then 0 else f b) (τ:=τ) (λq hq=>h1 q ow) (λq k hq hk=>h2 q k ow ow) λb hb hq=>by
   grind
  rw[e,ih,qr0 (k:=τ N) (h1 N ow) λb _ hne=>zag hne,zaj rfl,sm]
  congr 1
  refine qe1 λq hq=>?_
  grind
theorem x97 {n N j:Nat} {R:Nat->Nat->Int} {rows:List (List Int)} {P:List Int} (h:St n (N+1) R j rows P) (hP:P.length=N) (hid:∀q,q<N->nI P q=q) (hN:N<=6) (h1:∀a c,a<n->c<N->(R a c).natAbs<=1) (hy:∀a,a<n->(R a N).natAbs<=1000000) {k:Nat} (hk:k<N) :
  ∃X D:Int,D≠0/\D.natAbs<=400/\X.natAbs<=2400000000/\nI (nL rows k) N*D=X*nI (nL rows k) k:=by
 obtain⟨ρ,pv,τ,hE,t1,t2,t3,t4,t5,t6⟩:=h.tag
 have hpl:=h.pl
 have hcomb:∀k,k<N->∃(c:Int) (lam:Nat->Int),c≠0/\∀col,col<N+1->(sm N λq=>lam q*R (τ q) col)=c*nI (nL rows k) col:=λk hk=>by
  obtain⟨c,l,hc,hl,hs,_⟩:=hE.comb (τ k) (t1 k ow)
  refine⟨c,λq=>l (τ q),hc,λcol hcol=>?_⟩
  rw[<- t4 k ow col hcol,hl col hcol]
  refine(qx5 N (f:=λb=>l b*R b col) (λq hq=>t1 q ow) (λq k hq hk=>t2 q k ow ow) λb hb hq=>?_).symm
  try dsimp only
  obtain⟨i,hi,rfl⟩:=t3 b hb
  grind
 have hrow:∀k,k<N->∀col,col<N->nI (nL rows k) col=if k=col then nI (nL rows k) k else 0:=λk hk col hcol=>by
  by_cases q:k=col
  ·grind
  ·rw[zag q]
   have:=(h.pos col ow).2.2.2.2 k ow q
   simp_all
 have hpp:∀k,k<N->0<nI (nL rows k) k:=λk hk=>by
  have:=(h.pos k ow).2.2.1
  grind [Int.toNat_natCast]
 obtain⟨A,hA⟩:∃A:Nat->Nat->Int,A=λi c=>R (τ i) c:=⟨_,rfl⟩
 have hD:det N A≠0:=x2n λk hk=>by
  obtain⟨c,lam,hc,hl⟩:=hcomb k hk
  refine⟨c*nI (nL rows k) k,lam,q03 hc (by grind),λcol hcol=>?_⟩
  rw[hA]
  try dsimp only
  rw[hl col ow,hrow k hk col hcol]
  by_cases q:k=col
  ·rw[zaj q,zaj q]
  ·rw[zag q,zag q,zbb]
 have hA1:∀i c,i<N->c<N->(A i c).natAbs<=1:=λi c hi hc=>by grind
 obtain⟨c,lam,hc,hl⟩:=hcomb k hk
 obtain⟨E,hEd⟩:∃E:Nat->Int,∀r,E r=det N (upd A r λcol=>if k=col then 1 else 0):=⟨_,λ_=>rfl⟩
 have hEb:∀r,r<N->(E r).natAbs<=400:=λr hr=>by
  rw[hEd]
  refine xh1 hN λi col hi hcol=>?_
  unfold upd
  split
  ·show(if k=col then(1:Int) else 0).natAbs<=1
   split <;> decide
  ·exact hA1 i col hi hcol
 have hlam:∀r,r<N->lam r*det N A=(c*nI (nL rows k) k)*E r:=λr hr=>by
  have e1:=wm0 A hr lam N (zab _)
  rw[zaj hr] at e1
  rw[<- e1,hEd]
  have e2:=qs6 N A r hr (c*nI (nL rows k) k) 0 (λcol=>if k=col then 1 else 0) (λ_=>0)
  have e3:=e2.trans (show(c*nI (nL rows k) k)*det N (upd A r λcol=>if k=col then 1 else 0)+0*det N (upd A r λ_=>0)=(c*nI (nL rows k) k)*det N (upd A r λcol=>if k=col then 1 else 0) by simp)
  rw[<- e3]
  refine qi6 N λi col hi hcol=>?_
  unfold upd
  by_cases q:i=r
  ·rw[zaj q,zaj q,hA]
   try dsimp only
   rw[hl col ow,hrow k hk col hcol]
   by_cases q2:k=col
   ·rw[zaj q2,zaj q2]; first | omega | simp | grind
   ·rw[zag q2,zag q2]; first | omega | simp | grind
  omega
 refine⟨sm N λr=>E r*R (τ r) N,det N A,hD,xh1 hN hA1,?_,?_⟩
 ·refine zal (x4x (B:=400000000) λr hr=>?_) ow
  have:=q0w (hEb r hr) (hy _ (t1 r ow))
  omega
 ·have e1:=hl N ow
  have e2:c*(nI (nL rows k) N*det N A)=c*((sm N λr=>E r*R (τ r) N)*nI (nL rows k) k):=by
   have:det N A*(sm N λq=>lam q*R (τ q) N)=(c*nI (nL rows k) k)*sm N λr=>E r*R (τ r) N:=by
    rw[<- qk8,<- qk8]
    refine qe1 λr hr=>?_
    grind
   grind
  grind [Int.eq_of_mul_eq_mul_left]
theorem w7o {x p X D:Int} (hp:0<p) (hD:D≠0) (h:x*D=X*p):1<=(q4n x p).2/\(q4n x p).2.natAbs<=D.natAbs/\(q4n x p).1.natAbs<=X.natAbs/\gcdI (q4n x p).1 (q4n x p).2=1:=by
 have hg:0<gcdI x p:=ql9 (.inr ow)
 have a1:gcdI x p*x.tdiv (gcdI x p)=x:=za9 (za7.1 (zb1 _ _))
 have b1:gcdI x p*p.tdiv (gcdI x p)=p:=za9 (za7.1 (zb4 _ _))
 have hco:Nat.Coprime (x.tdiv (gcdI x p)).natAbs (p.tdiv (gcdI x p)).natAbs:=by
  have e1:(x.tdiv (gcdI x p)).natAbs=x.natAbs / Nat.gcd x.natAbs p.natAbs:=zck _ _
  have e2:(p.tdiv (gcdI x p)).natAbs=p.natAbs / Nat.gcd x.natAbs p.natAbs:=zck _ _
  grind [Nat.coprime_div_gcd_div_gcd,Nat.gcd]
 unfold q4n
 try dsimp only
 generalize gcdI x p=g at *
 generalize x.tdiv g=a at *
 generalize p.tdiv g=d at *
 have hd:0<d:=q4q hg ow
 have e:a*D=X*d:=by
  have:g*(a*D-X*d)=0:=by grind
  have:=qc9 this ow
  omega
 have en:a.natAbs*D.natAbs=X.natAbs*d.natAbs:=by rw[<- zbq,<- zbq,e]
 refine⟨ow,?_,?_,?_⟩
 ·exact zeh ow (hco.symm.dvd_of_dvd_mul_left ⟨X.natAbs,by grind⟩)
 ·rcases zb7 X.natAbs with q | q
  ·simp_all [Nat.zero_mul,Nat.mul_eq_zero,q2]
  ·exact zeh q (hco.dvd_of_dvd_mul_right ⟨D.natAbs,ow⟩)
 ·show((Nat.gcd a.natAbs d.natAbs:Nat):Int)=1
  omega
theorem x5n {r:Int × Int} (h1:1<=r.2) (h2:r.2.natAbs<=400) (h3:r.1.natAbs<=10000000000) (h4:gcdI r.1 r.2=1):x6w r=true:=by
 unfold x6w
 grind
theorem xj3 {m:List (List Int)} {y pix:List Int} (h:(qj5 m y pix).2=true):∀r∈(qj5 m y pix).1.2,x6w r=true/\r.1≠0:=by
 have hI:=qw2 h
 have hA:=Asked.of hI.chk
 have hS:=qw1 hA
 have hst:=qt2 hS.toMat pix.length ow
 have hpl:=hst.pl
 have h6:=hA.msk.rows6
 unfold qj5 at h
 split at h
 ·cases h
 ·rename_i hno
  have ef:qj5 m y pix=((pix,(q6i m pix y).1),true):=by simp_all [qj5,if_neg]
  have h0:(q6i m pix y).2=0:=zaf λq=>hno (.inl q)
  have hz:((q6i m pix y).1.any λr=>r.1==0)=false:=by
   grind
  have es:q6i m pix y=xe1 (qb7 (qa7 m pix y) pix.length).1 (qb7 (qa7 m pix y) pix.length).2 pix.length:=by unfold q6i; rw[zaj hI.chk]; rfl
  have hasc:Asc pix.length (qb7 (qa7 m pix y) pix.length).2:=⟨λq hq=>⟨(hst.pos q hq).1,(hst.pos q hq).2.1⟩,hst.asc⟩
  have hle:=hasc.le
  intro r hr
  rw[ef] at hr
  have hr:r∈(q6i m pix y).1:=hr
  have hr1:r.1≠0:=by
   grind
  refine⟨?_,hr1⟩
  rw[es] at hr h0
  unfold xe1 at hr h0
  split at h0
  ·omega
  ·rename_i hn
   rw[zag hn] at hr
   split at h0
   ·omega
   ·rename_i hl
    rw[zag hl] at hr
    have hlen:(qb7 (qa7 m pix y) pix.length).2.length=pix.length:=ow
    obtain⟨k,hk,rfl⟩:=zba.1 hr
    have hk:=za2.1 hk
    have hid:=λq (hq:q<pix.length)=>hasc.id hlen hq
    unfold wo5
    rw[hid k ow,zap]
    have hp:=(hst.pos k hk).2.2.1
    rw[hid k ow,zap] at hp
    rw[q83 hp]
    obtain⟨X,D,d1,d2,d3,d4⟩:=x97 hst hlen hid ow (λa c ha hc=>hS.one a c ha hc) (λa ha=>hS.read a pix.length ha ow) (show k<pix.length by omega)
    grind [q1,q2,w7o,x5n]
end Go.Proofs.YtnchigbbjajiiaaGreat
