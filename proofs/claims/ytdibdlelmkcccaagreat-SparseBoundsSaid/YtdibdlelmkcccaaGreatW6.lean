/- Two eliminations of the same rows say the same: plain mathematics. No condition. -/
import Derived.Test.YtdibdlelmkcccaaGreatW5
set_option linter.unusedVariables false
namespace Go.Proofs.YtdibdlelmkcccaaGreat
open Go Go.RowKit Eng
theorem exL:∀(k:Nat) (p:Nat->Int),(∀q,q<k->p q≠0)->∃(L:Int) (u:Nat->Int),L≠0/\∀q,q<k->L=p q*u q
 | 0,p,_=>⟨1,λ_=>0,by decide,λq h=>absurd h (Nat.not_lt_zero _)⟩
 | k+1,p,h=>by
  obtain⟨L,u,h1,h2⟩:=exL k p λq hq=>h q (by omega)
  refine⟨L*p k,λq=>if q=k then L else u q*p k,qu2 h1 (h k (by omega)),λq hq=>?_⟩
  try dsimp only
  by_cases e:q=k
  ·rw[if_pos e,e,Int.mul_comm]
  ·rw[if_neg e,<- Int.mul_assoc,<- h2 q (by omega)]
def Sol (n W:Nat) (R:Nat->Nat->Int) (z:Nat->Int):Prop:=∀a,a<n->(sm W λc=>R a c*z c)=0
theorem St.inj {n W:Nat} {R:Nat->Nat->Int} {j:Nat} {rows:List (List Int)} {P:List Int} (h:St n W R j rows P) {q k:Nat} (hq:q<P.length) (hk:k<P.length) (e:nI P q=nI P k):q=k:=by
 rcases Nat.lt_trichotomy q k with q1 | q1 | q1
 ·have:=h.asc q k q1 hk; omega
 ·exact q1
 ·have:=h.asc k q q1 hq; omega
theorem St.free {n W:Nat} {R:Nat->Nat->Int} {j:Nat} {rows:List (List Int)} {P:List Int} (h:St n W R j rows P) (hj:j<=W) {f:Nat} (hf:f<W) (hnp:∀q,q<P.length->nI P q≠(f:Int)) (hz:∀i,P.length<=i->i<n->nI (nL rows i) f=0) :
  ∃z,Sol n W R z/\z f≠0/\∀c,c<W->c≠f->(∀q,q<P.length->nI P q≠(c:Int))->z c=0:=by
 obtain⟨L,u,hL,hu⟩:=exL P.length (λq=>nI (nL rows q) (nI P q).toNat) λq hq=>by have:=(h.pos q hq).2.2.1; (try dsimp only); omega
 have hpl:=h.pl
 have hzf:(if f=f then L else sm P.length λq=>if nI P q=(f:Int) then-u q*nI (nL rows q) f else 0)=L:=if_pos rfl
 obtain⟨z,hzd⟩:∃z:Nat->Int,∀c,z c=if c=f then L else sm P.length λq=>if nI P q=(c:Int) then-u q*nI (nL rows q) f else 0:=⟨_,λ_=>rfl⟩
 have z1:z f=L:=by rw[hzd,if_pos rfl]
 have z2:∀c,c≠f->(∀q,q<P.length->nI P q≠(c:Int))->z c=0:=λc hc hq=>by
  rw[hzd,if_neg hc]
  exact qr9 λq h=>if_neg (hq q h)
 have z3:∀q,q<P.length->z (nI P q).toNat=- u q*nI (nL rows q) f:=λq hq=>by
  have hp:=h.pos q hq
  have e:((nI P q).toNat:Int)=nI P q:=by omega
  rw[hzd,if_neg (λk=>hnp q hq (by omega)),qs3 hq λi hi hne=>by
   try dsimp only
   rw[if_neg λk=>hne (h.inj hi hq (by omega))]]
  try dsimp only
  rw[if_pos e.symm]
 refine⟨z,(h.sol z).2 λi hi=>?_,by rw[z1]; exact hL,λc hc=>z2 c⟩
 unfold dt
 rcases Nat.lt_or_ge i P.length with q | q
 ·have hp:=h.pos i q
  rw[q9e (k:=f) (l:=(nI P i).toNat) hf (by omega) (λk=>hnp i q (by omega)) λc hc h1 h2=>?_]
  ·try dsimp only
   rw[z1,z3 i q]
   have:=hu i q
   try dsimp only at this
   rw[this]
   grind
  ·try dsimp only
   by_cases hx:∃q,q<P.length/\nI P q=(c:Int)
   ·obtain⟨q2,hq2,e⟩:=hx
    have hp2:=h.pos q2 hq2
    have:nI (nL rows i) (nI P q2).toNat=0:=hp2.2.2.2.2 i hi λk=>h2 (by rw[k,e]; rfl)
    rw[e,Int.toNat_natCast] at this
    rw[this,Int.zero_mul]
   ·rw[z2 c h1 λq hq e=>hx ⟨q,hq,e⟩,Int.mul_zero]
 ·refine qr9 λc hc=>?_
  try dsimp only
  by_cases e:c=f
  ·rw[e,hz i q hi,Int.zero_mul]
  ·by_cases hx:∃q,q<P.length/\nI P q=(c:Int)
   ·obtain⟨q2,hq2,e⟩:=hx
    have hp2:=h.pos q2 hq2
    have:nI (nL rows i) (nI P q2).toNat=0:=hp2.2.2.2.2 i hi (by omega)
    rw[e,Int.toNat_natCast] at this
    rw[this,Int.zero_mul]
   ·rw[z2 c e λq hq e=>hx ⟨q,hq,e⟩,Int.mul_zero]
structure Asc (N:Nat) (P:List Int):Prop where
 at_:∀q,q<P.length->0<=nI P q/\nI P q<N
 asc:∀q k,q<k->k<P.length->nI P q<nI P k
theorem Asc.ge {N:Nat} {P:List Int} (h:Asc N P):∀q,q<P.length->(q:Int)<=nI P q
 | 0,hq=>(h.at_ 0 hq).1
 | q+1,hq=>by
  have h1:=h.ge q (by omega)
  have h2:=h.asc q (q+1) (by omega) hq
  omega
theorem Asc.le {N:Nat} {P:List Int} (h:Asc N P):P.length<=N:=by
 rcases Nat.eq_zero_or_pos P.length with q | q
 ·omega
 ·have h1:=h.ge (P.length-1) (by omega)
  have h2:=h.at_ (P.length-1) (by omega)
  omega
theorem Asc.up {N:Nat} {P:List Int} (h:Asc N P):∀d,d<P.length->nI P (P.length-1-d)+d<N
 | 0,hd=>by have:=(h.at_ (P.length-1-0) (by omega)).2; omega
 | d+1,hd=>by
  have h1:=h.up d (by omega)
  have h2:=h.asc (P.length-1-(d+1)) (P.length-1-d) (by omega) (by omega)
  omega
theorem Asc.id {N:Nat} {P:List Int} (h:Asc N P) (hl:P.length=N) {q:Nat} (hq:q<N):nI P q=q:=by
 have h1:=h.ge q (by omega)
 have h2:=h.up (P.length-1-q) (by omega)
 rw[show P.length-1-(P.length-1-q)=q by omega] at h2
 omega
theorem Asc.free {N:Nat} {P:List Int} (hl:P.length<N):∃f,f<N/\∀q,q<P.length->nI P q≠(f:Int):=by
 refine Classical.byContradiction λhno=>?_
 have hx:∀f,∃q,f<N->q<P.length/\nI P q=(f:Int):=λf=>by
  by_cases hf:f<N
  ·refine Classical.byContradiction λh2=>hno ⟨f,hf,λq hq e=>h2 ⟨q,λ_=>⟨hq,e⟩⟩⟩
  ·exact⟨0,λh=>absurd h hf⟩
 obtain⟨g,hg⟩:=Classical.axiomOfChoice hx
 obtain⟨i,k,h1,h2,h3⟩:=q69 P.length N g (λi hi=>(hg i hi).1) hl
 have e1:=(hg i (by omega)).2
 have e2:=(hg k h2).2
 rw[h3] at e1
 omega
structure Good (n N:Nat) (R:Nat->Nat->Int) (rows:List (List Int)) (P:List Int):Prop where
 st:∃j,N<=j/\j<=N+1/\St n (N+1) R j rows P
 lt:∀q,q<P.length->nI P q<N
 no:∀i,P.length<=i->i<n->nI (nL rows i) N=0
theorem Good.asc {n N:Nat} {R:Nat->Nat->Int} {rows:List (List Int)} {P:List Int} (h:Good n N R rows P):Asc N P:=by
 obtain⟨j,_,_,hs⟩:=h.st
 exact⟨λq hq=>⟨(hs.pos q hq).1,h.lt q hq⟩,hs.asc⟩
theorem Good.last {n N:Nat} {R:Nat->Nat->Int} {rows:List (List Int)} {P:List Int} (h:Good n N R rows P):∃z,Sol n (N+1) R z/\z N≠0:=by
 obtain⟨j,_,h2,hs⟩:=h.st
 obtain⟨z,z1,z2,_⟩:=hs.free h2 (f:=N) (by omega) (λq hq=>by have:=h.lt q hq; omega) h.no
 exact⟨z,z1,z2⟩
theorem Good.more {n N:Nat} {R:Nat->Nat->Int} {rows:List (List Int)} {P:List Int} (h:Good n N R rows P) (hl:P.length<N):∃z f,Sol n (N+1) R z/\f<N/\z f≠0/\z N=0:=by
 obtain⟨j,h1,h2,hs⟩:=h.st
 obtain⟨f,hf,hq⟩:=Asc.free hl
 obtain⟨z,z1,z2,z3⟩:=hs.free h2 (f:=f) (by omega) hq λi h3 h4=>hs.zero i h3 h4 f (by omega)
 exact⟨z,f,z1,hf,z2,z3 N (by omega) (by omega) λq hq=>by have:=h.lt q hq; omega⟩
theorem Good.row {n N:Nat} {R:Nat->Nat->Int} {rows:List (List Int)} {P:List Int} (h:Good n N R rows P) (hl:P.length=N) {z:Nat->Int} (hz:Sol n (N+1) R z) {k:Nat} (hk:k<N):0<nI (nL rows k) k/\nI (nL rows k) k*z k+nI (nL rows k) N*z N=0:=by
 obtain⟨j,h1,h2,hs⟩:=h.st
 have hid:=λ{q} (hq:q<N)=>h.asc.id hl hq
 have hp:=hs.pos k (by omega)
 have hpl:=hs.pl
 rw[hid hk,Int.toNat_natCast] at hp
 refine⟨hp.2.2.1,?_⟩
 have:=(hs.sol z).1 hz k (by omega)
 unfold dt at this
 rw[q9e (k:=k) (l:=N) (by omega) (by omega) (by omega) λc hc h1 h2=>?_] at this
 ·exact this
 ·have hp2:=(hs.pos c (by omega)).2.2.2.2 k (by omega) (by omega)
  rw[hid (by omega),Int.toNat_natCast] at hp2
  try dsimp only
  rw[hp2,Int.zero_mul]
theorem Good.len {n N:Nat} {R:Nat->Nat->Int} {rows rows':List (List Int)} {P P':List Int} (h:Good n N R rows P) (h':Good n N R rows' P') (hl:P.length<N):P'.length<N:=by
 rcases Nat.lt_or_ge P'.length N with q | q
 ·exact q
 ·have hl':P'.length=N:=by have:=h'.asc.le; omega
  obtain⟨z,f,z1,z2,z3,z4⟩:=h.more hl
  obtain⟨k1,k2⟩:=h'.row hl' z1 z2
  rw[z4,Int.mul_zero,Int.add_zero] at k2
  exact absurd (qd0 k2 (by omega)) z3
theorem Good.val {n N:Nat} {R:Nat->Nat->Int} {rows rows':List (List Int)} {P P':List Int} (h:Good n N R rows P) (h':Good n N R rows' P') (hl:P.length=N) (hl':P'.length=N) {k:Nat} (hk:k<N):nI (nL rows k) N*nI (nL rows' k) k=nI (nL rows' k) N*nI (nL rows k) k:=by
 obtain⟨z,z1,z2⟩:=h.last
 obtain⟨a1,a2⟩:=h.row hl z1 hk
 obtain⟨b1,b2⟩:=h'.row hl' z1 hk
 have:z N*(nI (nL rows k) N*nI (nL rows' k) k-nI (nL rows' k) N*nI (nL rows k) k)=0:=by grind
 have:=qd0 this z2
 omega
theorem xt1 {a b c d:Int} (hb:0<b) (hd:0<d) (h:a*d=c*b):xs1 a b=xs1 c d:=by
 have hg:0<qf2 a b:=qq7 (.inr (by omega))
 have hk:0<qf2 c d:=qq7 (.inr (by omega))
 have a1:qf2 a b*a.tdiv (qf2 a b)=a:=Int.mul_tdiv_cancel' (Int.natAbs_dvd_natAbs.1 (Nat.gcd_dvd_left _ _))
 have b1:qf2 a b*b.tdiv (qf2 a b)=b:=Int.mul_tdiv_cancel' (Int.natAbs_dvd_natAbs.1 (Nat.gcd_dvd_right _ _))
 have c1:qf2 c d*c.tdiv (qf2 c d)=c:=Int.mul_tdiv_cancel' (Int.natAbs_dvd_natAbs.1 (Nat.gcd_dvd_left _ _))
 have d1:qf2 c d*d.tdiv (qf2 c d)=d:=Int.mul_tdiv_cancel' (Int.natAbs_dvd_natAbs.1 (Nat.gcd_dvd_right _ _))
 have cop:∀x y:Int,0<qf2 x y->Nat.Coprime (x.tdiv (qf2 x y)).natAbs (y.tdiv (qf2 x y)).natAbs:=λx y h=>by
  have e1:(x.tdiv (qf2 x y)).natAbs=x.natAbs / Nat.gcd x.natAbs y.natAbs:=Int.natAbs_tdiv _ _
  have e2:(y.tdiv (qf2 x y)).natAbs=y.natAbs / Nat.gcd x.natAbs y.natAbs:=Int.natAbs_tdiv _ _
  rw[e1,e2]
  exact Nat.coprime_div_gcd_div_gcd (by have:(0:Int)<(Nat.gcd x.natAbs y.natAbs:Nat):=h; omega)
 have h1:=cop a b hg
 have h2:=cop c d hk
 unfold xs1
 generalize qf2 a b=g at *
 generalize qf2 c d=k at *
 generalize a.tdiv g=x at *
 generalize b.tdiv g=y at *
 generalize c.tdiv k=u at *
 generalize d.tdiv k=v at *
 have hy:0<y:=q7a hg (by omega)
 have hv:0<v:=q7a hk (by omega)
 have e:x*v=u*y:=by
  have:(g*k)*(x*v-u*y)=0:=by rw[<- a1,<- b1,<- c1,<- d1] at h; grind
  have:=qd0 this (qu2 (by omega) (by omega))
  omega
 have en:x.natAbs*v.natAbs=u.natAbs*y.natAbs:=by rw[<- Int.natAbs_mul,<- Int.natAbs_mul,e]
 have q1:y.natAbs∣v.natAbs:=h1.symm.dvd_of_dvd_mul_left ⟨u.natAbs,by rw[en,Nat.mul_comm]⟩
 have q2:v.natAbs∣y.natAbs:=h2.symm.dvd_of_dvd_mul_left ⟨x.natAbs,by rw[<- en,Nat.mul_comm]⟩
 have q3:y.natAbs=v.natAbs:=Nat.dvd_antisymm q1 q2
 have q4:y=v:=by omega
 subst q4
 have:y*(x-u)=0:=by grind
 have:=qd0 this (by omega)
 rw[show x=u by omega]
theorem xt2 {a b:Int} (hb:0<b):ofR a b=xs1 a b:=by
 unfold ofR xs1
 rw[if_neg (by omega)]
theorem w1q (N:Nat) (d:List (List Int)) (P:List Int) (hP:∀q,q<N->nI P q=q):∀i,i<=N->∀k (hk:k<(q45 N d P i).length),(q45 N d P i)[k]=if k<i then xs1 (nI (nL d k) N) (nI (nL d k) k) else(0,1)
 | 0,_,k,hk=>by simp[q45]
 | i+1,hi,k,hk=>by
  have h1:=hP i (by omega)
  simp only[q45,h1,Int.toNat_natCast,List.getElem_set]
  by_cases e:i=k
  ·subst e
   rw[if_pos rfl,if_pos (Nat.lt_succ_self _)]
  ·rw[if_neg e,w1q N d P hP i (by omega) k (by rw[q0q] at hk ⊢; exact hk)]
   by_cases e2:k<i
   ·rw[if_pos e2,if_pos (by omega)]
   ·rw[if_neg e2,if_neg (by omega)]
theorem x1t {n N:Nat} {M:List (List Int)} (hM:Mat n (N+1) M):w7j (qc7 M N).1 (qc7 M N).2 N=(if(if qy7 (qg0 M (N+1)).piv N=true then(([],0,false):List (Int × Int) × Int × Bool) else(q45 N (qg0 M (N+1)).done_ (qg0 M (N+1)).piv (qg0 M (N+1)).piv.length,(N:Int)-(qg0 M (N+1)).piv.length,true)).2.2=false then([],8) else if 0<(if qy7 (qg0 M (N+1)).piv N=true then(([],0,false):List (Int × Int) × Int × Bool) else(q45 N (qg0 M (N+1)).done_ (qg0 M (N+1)).piv (qg0 M (N+1)).piv.length,(N:Int)-(qg0 M (N+1)).piv.length,true)).2.1 then([],11) else((if qy7 (qg0 M (N+1)).piv N=true then(([],0,false):List (Int × Int) × Int × Bool) else(q45 N (qg0 M (N+1)).done_ (qg0 M (N+1)).piv (qg0 M (N+1)).piv.length,(N:Int)-(qg0 M (N+1)).piv.length,true)).1,0)):=by
 have hst:=qy4 hM N (by omega)
 obtain⟨hrs,hcnt,_⟩:=qv4 hM (N+1) (by omega)
 generalize qc7 M N=r at *
 generalize qg0 M (N+1)=s at *
 obtain⟨rows,P⟩:=r
 obtain⟨left,dn,P3⟩:=s
 have hst:St n (N+1) (rowOf M) N rows P:=hst
 have hrs:St n (N+1) (rowOf M) (N+1) (dn++left) P3:=hrs
 have hcnt:dn.length=P3.length:=hcnt
 simp only[]
 have hD:∀i,i<P3.length->nL (dn++left) i=nL dn i:=λi hi=>ql2 _ _ (by omega)
 have hlen:=hst.len
 have hplt:∀q,q<P.length->nI P q<N:=λq hq=>(hst.pos q hq).2.1
 -- the third list's pivots
 have g1:q78 rows P N=true->∀z,Sol n (N+1) (rowOf M) z->z N=0:=λh z hz=>by
  unfold q78 at h
  rw[List.any_eq_true] at h
  obtain⟨i,hi,hb⟩:=h
  have hi:=List.mem_range.1 hi
  simp only[Bool.and_eq_true,decide_eq_true_eq,bne_iff_ne,ne_eq] at hb
  have:=(hst.sol z).1 hz i (by omega)
  unfold dt at this
  rw[qs3 (k:=N) (by omega) λc hc hne=>by
   try dsimp only
   rw[hst.zero i hb.1 (by omega) c (by omega),Int.zero_mul]] at this
  exact qd0 this hb.2
 have g2:q78 rows P N=false->Good n N (rowOf M) rows P:=λh=>by
  refine⟨⟨N,Nat.le_refl _,by omega,hst⟩,hplt,λi h1 h2=>?_⟩
  unfold q78 at h
  have:=List.any_eq_false.1 h i (List.mem_range.2 (by omega))
  simpa[h1] using this
 have g3:qy7 P3 N=true->∀z,Sol n (N+1) (rowOf M) z->z N=0:=λh z hz=>by
  unfold qy7 at h
  rw[List.any_eq_true] at h
  obtain⟨x,hx,hb⟩:=h
  obtain⟨q,hq,rfl⟩:=q7c hx
  have e:nI P3 q=(N:Int):=by simpa using hb
  obtain⟨p1,p2,p3,p4,p5⟩:=hrs.pos q hq
  rw[e,Int.toNat_natCast] at p3 p4
  have hpl:=hrs.pl
  have:=(hrs.sol z).1 hz q (by omega)
  unfold dt at this
  rw[qs3 (k:=N) (by omega) λc hc hne=>by
   try dsimp only
   rw[p4 c (by omega),Int.zero_mul]] at this
  exact qd0 this (by omega)
 have g4:qy7 P3 N=false->Good n N (rowOf M) (dn++left) P3:=λh=>by
  refine⟨⟨N+1,by omega,Nat.le_refl _,hrs⟩,λq hq=>?_,λi h1 h2=>hrs.zero i h1 h2 N (by omega)⟩
  unfold qy7 at h
  have:=List.any_eq_false.1 h _ (q7b hq)
  have p:=hrs.pos q hq
  have hne:nI P3 q≠(N:Int):=by simpa using this
  omega
 unfold w7j
 cases hn:q78 rows P N with
 | true=>
  have:qy7 P3 N=true:=by
   cases e:qy7 P3 N with
   | true=>rfl
   | false=>
    obtain⟨z,z1,z2⟩:=(g4 e).last
    exact absurd (g1 hn z z1) z2
  simp[this]
 | false=>
  have hg:=g2 hn
  have e3:qy7 P3 N=false:=by
   cases e:qy7 P3 N with
   | false=>rfl
   | true=>
    obtain⟨z,z1,z2⟩:=hg.last
    exact absurd (g3 e z z1) z2
  have hg3:=g4 e3
  have hle:=hg.asc.le
  have hle3:=hg3.asc.le
  simp only[e3,Bool.false_eq_true,if_false,Bool.true_eq_false]
  by_cases hl:P.length<N
  ·have:=hg.len hg3 hl
   rw[if_pos hl,if_pos (by omega)]
  ·have hl3:¬P3.length<N:=λh=>hl (hg3.len hg h)
   rw[if_neg hl,if_neg (by omega)]
   have eP:P.length=N:=by omega
   have eP3:P3.length=N:=by omega
   have i1:=λq (hq:q<N)=>hg.asc.id eP hq
   have i3:=λq (hq:q<N)=>hg3.asc.id eP3 hq
   congr 1
   apply List.ext_getElem
   ·rw[q0q,List.length_map,List.length_range]; exact eP
   intro k h1 h2
   rw[q0q] at h2
   rw[w1q N dn P3 i3 _ (by omega) k (by rw[q0q]; exact h2),if_pos (by omega),List.getElem_map,List.getElem_range]
   unfold x2w
   rw[i1 k h2,Int.toNat_natCast]
   obtain⟨z,z1,_⟩:=hg.last
   have p1:=(hg.row eP z1 h2).1
   have p3:=(hg3.row eP3 z1 h2).1
   have hv:=hg.val hg3 eP eP3 h2
   rw[hD k (by omega)] at p3 hv
   rw[xt2 p1]
   exact xt1 p1 p3 hv
end Go.Proofs.YtdibdlelmkcccaaGreat
