/- Kernel vectors: how great they are, and that there is one way to write them. Plain mathematics. No condition. -/
import Derived.Test.YtmijnbjlhnpokaaGreatW5
import Derived.Test.YtmijnbjlhnpokaaGreatW10
import Derived.Test.YtmijnbjlhnpokaaGreatV5
set_option linter.unusedVariables false
namespace Go.Proofs.YtmijnbjlhnpokaaGreat
open Go Go.RowKit Eng
theorem exL:∀(k:Nat) (p:Nat->Int),(∀q,q<k->p q≠0)->∃(L:Int) (u:Nat->Int),L≠0/\∀q,q<k->L=p q*u q
 | 0,p,_=>⟨1,λ_=>0,by decide,λq h=>absurd h (Nat.not_lt_zero _)⟩
 | k+1,p,h=>by
  obtain⟨L,u,h1,h2⟩:=exL k p λq hq=>h q (by omega)
  refine⟨L*p k,λq=>if q=k then L else u q*p k,qp4 h1 (h k (by omega)),λq hq=>?_⟩
  try dsimp only
  by_cases e:q=k
  ·rw[if_pos e,e,Int.mul_comm]
  ·rw[if_neg e,<- Int.mul_assoc,<- h2 q (by omega)]
def Sol (n W:Nat) (R:Nat->Nat->Int) (z:Nat->Int):Prop:=∀a,a<n->(sm W λc=>R a c*z c)=0
theorem St.inj {n W:Nat} {R:Nat->Nat->Int} {j:Nat} {rows:List (List Int)} {P:List Int} (h:St n W R j rows P) {q k:Nat} (hq:q<P.length) (hk:k<P.length) (e:nI P q=nI P k):q=k:=by
 rcases Nat.lt_trichotomy q k with q1 | q1 | q1
 ·have:=h.asc q k q1 hk; omega
 ·exact q1
 ·have:=h.asc k q q1 hq; omega
theorem St.free {n W:Nat} {R:Nat->Nat->Int} {j:Nat} {rows:List (List Int)} {P:List Int} (h:St n W R j rows P) (hj:j<=W) {f:Nat} (hf:f<W) (hnp:∀q,q<P.length->nI P q≠(f:Int)) (hz:∀i,P.length<=i->i<n->nI (nL rows i) f=0) :
  ∃z,Sol n W R z/\z f≠0/\∀c,c<W->c≠f->(∀q,q<P.length->nI P q≠(c:Int))->z c=0:=by
 obtain⟨L,u,hL,hu⟩:=exL P.length (λq=>nI (nL rows q) (nI P q).toNat) λq hq=>by have:=(h.pos q hq).2.2.1; (try dsimp only); omega
 have hpl:=h.pl
 have hzf:(if f=f then L else sm P.length λq=>if nI P q=(f:Int) then-u q*nI (nL rows q) f else 0)=L:=if_pos rfl
 obtain⟨z,hzd⟩:∃z:Nat->Int,∀c,z c=if c=f then L else sm P.length λq=>if nI P q=(c:Int) then-u q*nI (nL rows q) f else 0:=⟨_,λ_=>rfl⟩
 have z1:z f=L:=by rw[hzd,if_pos rfl]
 have z2:∀c,c≠f->(∀q,q<P.length->nI P q≠(c:Int))->z c=0:=λc hc hq=>by
  rw[hzd,if_neg hc]
  exact sm_zero λq h=>if_neg (hq q h)
 have z3:∀q,q<P.length->z (nI P q).toNat=- u q*nI (nL rows q) f:=λq hq=>by
  have hp:=h.pos q hq
  have e:((nI P q).toNat:Int)=nI P q:=by omega
  rw[hzd,if_neg (λk=>hnp q hq (by omega)),qo5 hq λi hi hne=>by
   try dsimp only
   rw[if_neg λk=>hne (h.inj hi hq (by omega))]]
  try dsimp only
  rw[if_pos e.symm]
 refine⟨z,(h.sol z).2 λi hi=>?_,by rw[z1]; exact hL,λc hc=>z2 c⟩
 unfold dt
 rcases Nat.lt_or_ge i P.length with q | q
 ·have hp:=h.pos i q
  rw[q5b (k:=f) (l:=(nI P i).toNat) hf (by omega) (λk=>hnp i q (by omega)) λc hc h1 h2=>?_]
  ·try dsimp only
   rw[z1,z3 i q]
   have:=hu i q
   try dsimp only at this
   rw[this]
   grind
  ·try dsimp only
   by_cases hx:∃q,q<P.length/\nI P q=(c:Int)
   ·obtain⟨q2,hq2,e⟩:=hx
    have hp2:=h.pos q2 hq2
    have:nI (nL rows i) (nI P q2).toNat=0:=hp2.2.2.2.2 i hi λk=>h2 (by rw[k,e]; rfl)
    rw[e,Int.toNat_natCast] at this
    rw[this,Int.zero_mul]
   ·rw[z2 c h1 λq hq e=>hx ⟨q,hq,e⟩,Int.mul_zero]
 ·refine sm_zero λc hc=>?_
  try dsimp only
  by_cases e:c=f
  ·rw[e,hz i q hi,Int.zero_mul]
  ·by_cases hx:∃q,q<P.length/\nI P q=(c:Int)
   ·obtain⟨q2,hq2,e⟩:=hx
    have hp2:=h.pos q2 hq2
    have:nI (nL rows i) (nI P q2).toNat=0:=hp2.2.2.2.2 i hi (by omega)
    rw[e,Int.toNat_natCast] at this
    rw[this,Int.zero_mul]
   ·rw[z2 c e λq hq e=>hx ⟨q,hq,e⟩,Int.mul_zero]
structure Asc (N:Nat) (P:List Int):Prop where
 at_:∀q,q<P.length->0<=nI P q/\nI P q<N
 asc:∀q k,q<k->k<P.length->nI P q<nI P k
theorem Asc.ge {N:Nat} {P:List Int} (h:Asc N P):∀q,q<P.length->(q:Int)<=nI P q
 | 0,hq=>(h.at_ 0 hq).1
 | q+1,hq=>by
  have h1:=h.ge q (by omega)
  have h2:=h.asc q (q+1) (by omega) hq
  omega
theorem Asc.le {N:Nat} {P:List Int} (h:Asc N P):P.length<=N:=by
 rcases Nat.eq_zero_or_pos P.length with q | q
 ·omega
 ·have h1:=h.ge (P.length-1) (by omega)
  have h2:=h.at_ (P.length-1) (by omega)
  omega
theorem Asc.up {N:Nat} {P:List Int} (h:Asc N P):∀d,d<P.length->nI P (P.length-1-d)+d<N
 | 0,hd=>by have:=(h.at_ (P.length-1-0) (by omega)).2; omega
 | d+1,hd=>by
  have h1:=h.up d (by omega)
  have h2:=h.asc (P.length-1-(d+1)) (P.length-1-d) (by omega) (by omega)
  omega
theorem Asc.id {N:Nat} {P:List Int} (h:Asc N P) (hl:P.length=N) {q:Nat} (hq:q<N):nI P q=q:=by
 have h1:=h.ge q (by omega)
 have h2:=h.up (P.length-1-q) (by omega)
 rw[show P.length-1-(P.length-1-q)=q by omega] at h2
 omega
theorem Asc.free {N:Nat} {P:List Int} (hl:P.length<N):∃f,f<N/\∀q,q<P.length->nI P q≠(f:Int):=by
 refine Classical.byContradiction λhno=>?_
 have hx:∀f,∃q,f<N->q<P.length/\nI P q=(f:Int):=λf=>by
  by_cases hf:f<N
  ·refine Classical.byContradiction λh2=>hno ⟨f,hf,λq hq e=>h2 ⟨q,λ_=>⟨hq,e⟩⟩⟩
  ·exact⟨0,λh=>absurd h hf⟩
 obtain⟨g,hg⟩:=Classical.axiomOfChoice hx
 obtain⟨i,k,h1,h2,h3⟩:=wk4 P.length N g (λi hi=>(hg i hi).1) hl
 have e1:=(hg i (by omega)).2
 have e2:=(hg k h2).2
 rw[h3] at e1
 omega
structure Good (n N:Nat) (R:Nat->Nat->Int) (rows:List (List Int)) (P:List Int):Prop where
 st:∃j,N<=j/\j<=N+1/\St n (N+1) R j rows P
 lt:∀q,q<P.length->nI P q<N
 no:∀i,P.length<=i->i<n->nI (nL rows i) N=0
theorem Good.asc {n N:Nat} {R:Nat->Nat->Int} {rows:List (List Int)} {P:List Int} (h:Good n N R rows P):Asc N P:=by
 obtain⟨j,_,_,hs⟩:=h.st
 exact⟨λq hq=>⟨(hs.pos q hq).1,h.lt q hq⟩,hs.asc⟩
theorem Good.last {n N:Nat} {R:Nat->Nat->Int} {rows:List (List Int)} {P:List Int} (h:Good n N R rows P):∃z,Sol n (N+1) R z/\z N≠0:=by
 obtain⟨j,_,h2,hs⟩:=h.st
 obtain⟨z,z1,z2,_⟩:=hs.free h2 (f:=N) (by omega) (λq hq=>by have:=h.lt q hq; omega) h.no
 exact⟨z,z1,z2⟩
theorem Good.more {n N:Nat} {R:Nat->Nat->Int} {rows:List (List Int)} {P:List Int} (h:Good n N R rows P) (hl:P.length<N):∃z f,Sol n (N+1) R z/\f<N/\z f≠0/\z N=0:=by
 obtain⟨j,h1,h2,hs⟩:=h.st
 obtain⟨f,hf,hq⟩:=Asc.free hl
 obtain⟨z,z1,z2,z3⟩:=hs.free h2 (f:=f) (by omega) hq λi h3 h4=>hs.zero i h3 h4 f (by omega)
 exact⟨z,f,z1,hf,z2,z3 N (by omega) (by omega) λq hq=>by have:=h.lt q hq; omega⟩
theorem Good.row {n N:Nat} {R:Nat->Nat->Int} {rows:List (List Int)} {P:List Int} (h:Good n N R rows P) (hl:P.length=N) {z:Nat->Int} (hz:Sol n (N+1) R z) {k:Nat} (hk:k<N):0<nI (nL rows k) k/\nI (nL rows k) k*z k+nI (nL rows k) N*z N=0:=by
 obtain⟨j,h1,h2,hs⟩:=h.st
 have hid:=λ{q} (hq:q<N)=>h.asc.id hl hq
 have hp:=hs.pos k (by omega)
 have hpl:=hs.pl
 rw[hid hk,Int.toNat_natCast] at hp
 refine⟨hp.2.2.1,?_⟩
 have:=(hs.sol z).1 hz k (by omega)
 unfold dt at this
 rw[q5b (k:=k) (l:=N) (by omega) (by omega) (by omega) λc hc h1 h2=>?_] at this
 ·exact this
 ·have hp2:=(hs.pos c (by omega)).2.2.2.2 k (by omega) (by omega)
  rw[hid (by omega),Int.toNat_natCast] at hp2
  try dsimp only
  rw[hp2,Int.zero_mul]
theorem Good.len {n N:Nat} {R:Nat->Nat->Int} {rows rows':List (List Int)} {P P':List Int} (h:Good n N R rows P) (h':Good n N R rows' P') (hl:P.length<N):P'.length<N:=by
 rcases Nat.lt_or_ge P'.length N with q | q
 ·exact q
 ·have hl':P'.length=N:=by have:=h'.asc.le; omega
  obtain⟨z,f,z1,z2,z3,z4⟩:=h.more hl
  obtain⟨k1,k2⟩:=h'.row hl' z1 z2
  rw[z4,Int.mul_zero,Int.add_zero] at k2
  exact absurd (qd3 k2 (by omega)) z3
theorem Good.val {n N:Nat} {R:Nat->Nat->Int} {rows rows':List (List Int)} {P P':List Int} (h:Good n N R rows P) (h':Good n N R rows' P') (hl:P.length=N) (hl':P'.length=N) {k:Nat} (hk:k<N):nI (nL rows k) N*nI (nL rows' k) k=nI (nL rows' k) N*nI (nL rows k) k:=by
 obtain⟨z,z1,z2⟩:=h.last
 obtain⟨a1,a2⟩:=h.row hl z1 hk
 obtain⟨b1,b2⟩:=h'.row hl' z1 hk
 have:z N*(nI (nL rows k) N*nI (nL rows' k) k-nI (nL rows' k) N*nI (nL rows k) k)=0:=by grind
 have:=qd3 this z2
 omega
theorem w71 {a b c d:Int} (hb:0<b) (hd:0<d) (h:a*d=c*b):w3a a b=w3a c d:=by
 have hg:0<qe1 a b:=ql9 (.inr (by omega))
 have hk:0<qe1 c d:=ql9 (.inr (by omega))
 have a1:qe1 a b*a.tdiv (qe1 a b)=a:=Int.mul_tdiv_cancel' (Int.natAbs_dvd_natAbs.1 (Nat.gcd_dvd_left _ _))
 have b1:qe1 a b*b.tdiv (qe1 a b)=b:=Int.mul_tdiv_cancel' (Int.natAbs_dvd_natAbs.1 (Nat.gcd_dvd_right _ _))
 have c1:qe1 c d*c.tdiv (qe1 c d)=c:=Int.mul_tdiv_cancel' (Int.natAbs_dvd_natAbs.1 (Nat.gcd_dvd_left _ _))
 have d1:qe1 c d*d.tdiv (qe1 c d)=d:=Int.mul_tdiv_cancel' (Int.natAbs_dvd_natAbs.1 (Nat.gcd_dvd_right _ _))
 have cop:∀x y:Int,0<qe1 x y->Nat.Coprime (x.tdiv (qe1 x y)).natAbs (y.tdiv (qe1 x y)).natAbs:=λx y h=>by
  have e1:(x.tdiv (qe1 x y)).natAbs=x.natAbs / Nat.gcd x.natAbs y.natAbs:=Int.natAbs_tdiv _ _
  have e2:(y.tdiv (qe1 x y)).natAbs=y.natAbs / Nat.gcd x.natAbs y.natAbs:=Int.natAbs_tdiv _ _
  rw[e1,e2]
  exact Nat.coprime_div_gcd_div_gcd (by have:(0:Int)<(Nat.gcd x.natAbs y.natAbs:Nat):=h; omega)
 have h1:=cop a b hg
 have h2:=cop c d hk
 unfold w3a
 generalize qe1 a b=g at *
 generalize qe1 c d=k at *
 generalize a.tdiv g=x at *
 generalize b.tdiv g=y at *
 generalize c.tdiv k=u at *
 generalize d.tdiv k=v at *
 have hy:0<y:=q5f hg (by omega)
 have hv:0<v:=q5f hk (by omega)
 have e:x*v=u*y:=by
  have:(g*k)*(x*v-u*y)=0:=by rw[<- a1,<- b1,<- c1,<- d1] at h; grind
  have:=qd3 this (qp4 (by omega) (by omega))
  omega
 have en:x.natAbs*v.natAbs=u.natAbs*y.natAbs:=by rw[<- Int.natAbs_mul,<- Int.natAbs_mul,e]
 have q1:y.natAbs∣v.natAbs:=h1.symm.dvd_of_dvd_mul_left ⟨u.natAbs,by rw[en,Nat.mul_comm]⟩
 have q2:v.natAbs∣y.natAbs:=h2.symm.dvd_of_dvd_mul_left ⟨x.natAbs,by rw[<- en,Nat.mul_comm]⟩
 have q3:y.natAbs=v.natAbs:=Nat.dvd_antisymm q1 q2
 have q4:y=v:=by omega
 subst q4
 have:y*(x-u)=0:=by grind
 have:=qd3 this (by omega)
 rw[show x=u by omega]
theorem xq8 {a b:Int} (hb:0<b):ofR a b=w3a a b:=by
 unfold ofR w3a
 rw[if_neg (by omega)]
theorem w08 (N:Nat) (d:List (List Int)) (P:List Int) (hP:∀q,q<N->nI P q=q):∀i,i<=N->∀k (hk:k<(qv5 N d P i).length),(qv5 N d P i)[k]=if k<i then w3a (nI (nL d k) N) (nI (nL d k) k) else(0,1)
 | 0,_,k,hk=>by simp[qv5]
 | i+1,hi,k,hk=>by
  have h1:=hP i (by omega)
  simp only[qv5,h1,Int.toNat_natCast,List.getElem_set]
  by_cases e:i=k
  ·subst e
   rw[if_pos rfl,if_pos (Nat.lt_succ_self _)]
  ·rw[if_neg e,w08 N d P hP i (by omega) k (by rw[qy3] at hk ⊢; exact hk)]
   by_cases e2:k<i
   ·rw[if_pos e2,if_pos (by omega)]
   ·rw[if_neg e2,if_neg (by omega)]
theorem x0u {n N:Nat} {M:List (List Int)} (hM:Mat n (N+1) M):w33 (qa4 M N).1 (qa4 M N).2 N=(if(if qs5 (qh2 M (N+1)).piv N=true then(([],0,false):List (Int × Int) × Int × Bool) else(qv5 N (qh2 M (N+1)).done_ (qh2 M (N+1)).piv (qh2 M (N+1)).piv.length,(N:Int)-(qh2 M (N+1)).piv.length,true)).2.2=false then([],8) else if 0<(if qs5 (qh2 M (N+1)).piv N=true then(([],0,false):List (Int × Int) × Int × Bool) else(qv5 N (qh2 M (N+1)).done_ (qh2 M (N+1)).piv (qh2 M (N+1)).piv.length,(N:Int)-(qh2 M (N+1)).piv.length,true)).2.1 then([],11) else((if qs5 (qh2 M (N+1)).piv N=true then(([],0,false):List (Int × Int) × Int × Bool) else(qv5 N (qh2 M (N+1)).done_ (qh2 M (N+1)).piv (qh2 M (N+1)).piv.length,(N:Int)-(qh2 M (N+1)).piv.length,true)).1,0)):=by
 have hst:=qn8 hM N (by omega)
 obtain⟨hrs,hcnt,_⟩:=qu1 hM (N+1) (by omega)
 generalize qa4 M N=r at *
 generalize qh2 M (N+1)=s at *
 obtain⟨rows,P⟩:=r
 obtain⟨left,dn,P3⟩:=s
 have hst:St n (N+1) (rowOf M) N rows P:=hst
 have hrs:St n (N+1) (rowOf M) (N+1) (dn++left) P3:=hrs
 have hcnt:dn.length=P3.length:=hcnt
 simp only[]
 have hD:∀i,i<P3.length->nL (dn++left) i=nL dn i:=λi hi=>qm9 _ _ (by omega)
 have hlen:=hst.len
 have hplt:∀q,q<P.length->nI P q<N:=λq hq=>(hst.pos q hq).2.1
 -- the third list's pivots
 have g1:q31 rows P N=true->∀z,Sol n (N+1) (rowOf M) z->z N=0:=λh z hz=>by
  unfold q31 at h
  rw[List.any_eq_true] at h
  obtain⟨i,hi,hb⟩:=h
  have hi:=List.mem_range.1 hi
  simp only[Bool.and_eq_true,decide_eq_true_eq,bne_iff_ne,ne_eq] at hb
  have:=(hst.sol z).1 hz i (by omega)
  unfold dt at this
  rw[qo5 (k:=N) (by omega) λc hc hne=>by
   try dsimp only
   rw[hst.zero i hb.1 (by omega) c (by omega),Int.zero_mul]] at this
  exact qd3 this hb.2
 have g2:q31 rows P N=false->Good n N (rowOf M) rows P:=λh=>by
  refine⟨⟨N,Nat.le_refl _,by omega,hst⟩,hplt,λi h1 h2=>?_⟩
  unfold q31 at h
  have:=List.any_eq_false.1 h i (List.mem_range.2 (by omega))
  simpa[h1] using this
 have g3:qs5 P3 N=true->∀z,Sol n (N+1) (rowOf M) z->z N=0:=λh z hz=>by
  unfold qs5 at h
  rw[List.any_eq_true] at h
  obtain⟨x,hx,hb⟩:=h
  obtain⟨q,hq,rfl⟩:=q5g hx
  have e:nI P3 q=(N:Int):=by simpa using hb
  obtain⟨p1,p2,p3,p4,p5⟩:=hrs.pos q hq
  rw[e,Int.toNat_natCast] at p3 p4
  have hpl:=hrs.pl
  have:=(hrs.sol z).1 hz q (by omega)
  unfold dt at this
  rw[qo5 (k:=N) (by omega) λc hc hne=>by
   try dsimp only
   rw[p4 c (by omega),Int.zero_mul]] at this
  exact qd3 this (by omega)
 have g4:qs5 P3 N=false->Good n N (rowOf M) (dn++left) P3:=λh=>by
  refine⟨⟨N+1,by omega,Nat.le_refl _,hrs⟩,λq hq=>?_,λi h1 h2=>hrs.zero i h1 h2 N (by omega)⟩
  unfold qs5 at h
  have:=List.any_eq_false.1 h _ (q7v hq)
  have p:=hrs.pos q hq
  have hne:nI P3 q≠(N:Int):=by simpa using this
  omega
 unfold w33
 cases hn:q31 rows P N with
 | true=>
  have:qs5 P3 N=true:=by
   cases e:qs5 P3 N with
   | true=>rfl
   | false=>
    obtain⟨z,z1,z2⟩:=(g4 e).last
    exact absurd (g1 hn z z1) z2
  simp[this]
 | false=>
  have hg:=g2 hn
  have e3:qs5 P3 N=false:=by
   cases e:qs5 P3 N with
   | false=>rfl
   | true=>
    obtain⟨z,z1,z2⟩:=hg.last
    exact absurd (g3 e z z1) z2
  have hg3:=g4 e3
  have hle:=hg.asc.le
  have hle3:=hg3.asc.le
  simp only[e3,Bool.false_eq_true,if_false,Bool.true_eq_false]
  by_cases hl:P.length<N
  ·have:=hg.len hg3 hl
   rw[if_pos hl,if_pos (by omega)]
  ·have hl3:¬P3.length<N:=λh=>hl (hg3.len hg h)
   rw[if_neg hl,if_neg (by omega)]
   have eP:P.length=N:=by omega
   have eP3:P3.length=N:=by omega
   have i1:=λq (hq:q<N)=>hg.asc.id eP hq
   have i3:=λq (hq:q<N)=>hg3.asc.id eP3 hq
   congr 1
   apply List.ext_getElem
   ·rw[qy3,List.length_map,List.length_range]; exact eP
   intro k h1 h2
   rw[qy3] at h2
   rw[w08 N dn P3 i3 _ (by omega) k (by rw[qy3]; exact h2),if_pos (by omega),List.getElem_map,List.getElem_range]
   unfold w65
   rw[i1 k h2,Int.toNat_natCast]
   obtain⟨z,z1,_⟩:=hg.last
   have p1:=(hg.row eP z1 h2).1
   have p3:=(hg3.row eP3 z1 h2).1
   have hv:=hg.val hg3 eP eP3 h2
   rw[hD k (by omega)] at p3 hv
   rw[xq8 p1]
   exact w71 p1 p3 hv
theorem q1k {m:List (List Int)} {y pix:List Int} (h:Asked m y pix):Small m.length pix.length (pix.length+1) (qc8 m pix y):=by
 have hM:=h.msk
 have h6:=hM.rows6
 have hp10:=hM.pix10
 have hpl:=h.nam.len
 have hat:∀i,i<m.length->nL (qc8 m pix y) i=qm3 (nL m i) pix++[nI y i]:=λi hi=>by
  rw[q2f m pix y i hi,qp9 m pix i hi]
 have hlo:∀i,i<m.length->∀c,c<pix.length->(nI (nL (qc8 m pix y) i) c).natAbs<=1:=λi hi c hc=>by
  rw[hat i hi,qk2 _ _ (by rw[qi3]; exact hc),q0h _ _ _ hc]
  have h1:=h.nam.at_ c hc
  have h2:=hM.small i hi (nI pix c).toNat (by omega)
  omega
 refine⟨⟨q26 m pix y,λi hi=>by rw[hat i hi,List.length_append,qi3]; rfl⟩,h6,by omega,by omega,λa c ha hc=>hlo a ha c hc,λa c ha hc=>?_⟩
 rcases Nat.lt_or_ge c pix.length with q | q
 ·have:=hlo a ha c q; omega
 ·have e:nI (nL (qc8 m pix y) a) c=nI y a:=by
   rw[hat a ha,show c=(qm3 (nL m a) pix).length by rw[qi3]; omega,ql5]
  have:=h.at_ a ha
  rw[e]
  omega
theorem w72 (m:List (List Int)) (pix y:List Int):w36 m pix y=q4t m pix y:=by
 unfold w36 q4t
 split
 ·rename_i h
  have hA:=Asked.of h
  have hS:=q1k hA
  have hW:rdW (qc8 m pix y)=pix.length+1:=hS.each 0 (by have:=hA.msk.rows1; omega)
  unfold svT svR svP svD qa6 qz0
  rw[hW]
  exact(x0u hS.toMat).symm
 ·rfl
theorem xq9 (m:List (List Int)) (y pix:List Int):x1o m y pix=q4v m y pix:=by
 unfold x1o q4v x6j x0t
 rw[w72]
theorem xk6 {m:List (List Int)} {pix y:List Int} (hl:pix.length<=100000):q33 m pix y:=by
 refine⟨by omega,λh=>?_⟩
 have hA:=Asked.of h
 have hS:=q1k hA
 refine⟨q38 hS,?_⟩
 have hst:=qn8 hS.toMat pix.length (by omega)
 have hpl:=hst.pl
 have hlen:=hst.len
 have hB:BIG=4000000000000000000:=rfl
 refine⟨λk hk=>?_,λk hk=>?_,λk hk=>?_⟩
 ·have:=(hst.pos k hk).2.2.1
  show nI (nL (qa4 (qc8 m pix y) pix.length).1 k) (nI (qa4 (qc8 m pix y) pix.length).2 k).toNat≠0
  omega
 ·have hk:k<(qa4 (qc8 m pix y) pix.length).2.length:=hk
  have h1:=hst.pos k hk
  have:=(hst.small hS (Nat.le_refl _) (i:=k) (by omega)).2 (nI (qa4 (qc8 m pix y) pix.length).2 k).toNat (by omega)
  show qd2 BIG (nI (nL (qa4 (qc8 m pix y) pix.length).1 k) (nI (qa4 (qc8 m pix y) pix.length).2 k).toNat)
  constructor <;> omega
 ·have hk:k<(qa4 (qc8 m pix y) pix.length).2.length:=hk
  have:=(hst.small hS (Nat.le_refl _) (i:=k) (by omega)).2 pix.length (by omega)
  show qd2 BIG (nI (nL (qa4 (qc8 m pix y) pix.length).1 k) pix.length)
  constructor <;> omega
theorem x0v {m:List (List Int)} {pix y:List Int} (hf:q0l m) (hl:pix.length<=100000):w7r m pix y:=by
 refine⟨hf,hl,λh=>?_⟩
 have hA:=Asked.of h
 have hS:=q1k hA
 have hM:=hA.msk
 have h1:=hM.rows1
 have h6:=hM.rows6
 have hp10:=hM.pix10
 have hpl:=hA.nam.len
 have hW:rdW (qc8 m pix y)=pix.length+1:=hS.each 0 (by omega)
 obtain⟨r1,r2⟩:=w07 hS (by omega)
 have hrst:=qu1 hS.toMat (pix.length+1) (Nat.le_refl _)
 have hB:BIG=4000000000000000000:=rfl
 have e1:svD m pix y=(qh2 (qc8 m pix y) (pix.length+1)).done_:=by unfold svD qa6; rw[hW]
 have e2:svP m pix y=(qh2 (qc8 m pix y) (pix.length+1)).piv:=by unfold svP qa6; rw[hW]
 refine⟨by omega,⟨by omega,by omega,λi hi j hj=>?_⟩,by omega,hA.len,r1,?_⟩
 ·have:=hA.nam.at_ j hj
  rw[hM.each i hi]; exact this
 ·rw[e1,e2]
  obtain⟨hst,hcnt,_⟩:=hrst
  have hlen:=hst.len
  have hpl2:=hst.pl
  rw[List.length_append] at hlen
  have hD:∀i,i<(qh2 (qc8 m pix y) (pix.length+1)).piv.length->nL ((qh2 (qc8 m pix y) (pix.length+1)).done_++(qh2 (qc8 m pix y) (pix.length+1)).left) i=nL (qh2 (qc8 m pix y) (pix.length+1)).done_ i:=λi hi=>qm9 _ _ (by omega)
  refine⟨hcnt,by omega,λk hk=>?_,λk hk=>?_,λk hk=>?_,λk hk=>?_,λk hk=>?_⟩
  ·rw[<- hD k (by omega)]; exact hst.each k (by omega)
  ·have:=hst.pos k hk; omega
  ·have:=(hst.pos k hk).2.2.1
   rw[hD k hk] at this
   omega
  ·have:=hst.pos k hk
   have:=r2 k (by omega) (nI (qh2 (qc8 m pix y) (pix.length+1)).piv k).toNat (by omega)
   constructor <;> omega
  ·have:=r2 k (by omega) pix.length (by omega)
   constructor <;> omega
structure xg0 (m:List (List Int)) (y pix:List Int):Prop where
 chk:qq0 m y pix=0
 rows:pix.length<=m.length
 fst:(q4v m y pix).1.1=pix
 len:(q4v m y pix).1.2.length=pix.length
theorem x0w {m:List (List Int)} {y pix:List Int} (h:(q4v m y pix).2=true):xg0 m y pix:=by
 unfold q4v at h
 split at h
 ·cases h
 ·rename_i hno
  have h0:(q4t m pix y).2=0:=Classical.byContradiction λq=>hno (.inl q)
  have ef:q4v m y pix=((pix,(q4t m pix y).1),true):=by unfold q4v; rw[if_neg hno]
  rw[show xg0 m y pix↔xg0 m y pix from Iff.rfl]
  have hc:qq0 m y pix=0:=Classical.byContradiction λq=>by
   unfold q4t at h0
   rw[if_neg q] at h0
   exact q h0
  have hA:=Asked.of hc
  have hS:=q1k hA
  have hst:=qn8 hS.toMat pix.length (by omega)
  have hpl:=hst.pl
  have es:q4t m pix y=w33 (qa4 (qc8 m pix y) pix.length).1 (qa4 (qc8 m pix y) pix.length).2 pix.length:=by unfold q4t; rw[if_pos hc]; rfl
  have hle:(qa4 (qc8 m pix y) pix.length).2.length<=pix.length:=(⟨λq hq=>⟨(hst.pos q hq).1,(hst.pos q hq).2.1⟩,hst.asc⟩:Asc pix.length _).le
  rw[es] at h0
  unfold w33 at h0
  split at h0
  ·cases h0
  ·rename_i hn
   split at h0
   ·cases h0
   ·rename_i hl
    refine⟨hc,by omega,by rw[ef],?_⟩
    rw[ef]
    show(q4t m pix y).1.length=_
    rw[es]
    unfold w33
    rw[if_neg hn,if_neg hl]
    show(List.map _ (List.range _)).length=_
    rw[List.length_map,List.length_range]
    omega
theorem xg1:((List.range 8).all λn=>decide (w3e n=(List.range (n+1)).flatMap λ(k:Nat)=>qf7 (n:Nat) (k:Nat)))=true:=by decide +kernel
theorem xr0 {n:Nat} (h:n<=7):w3e n=(List.range (n+1)).flatMap λ(k:Nat)=>qf7 (n:Nat) (k:Nat):=by
 have:=List.all_eq_true.1 xg1 n (List.mem_range.2 (by omega))
 exact of_decide_eq_true this
theorem wn9 {n k:Nat} {s:List Int} (h:s∈qf7 (n:Nat) (k:Nat)):s.length=k/\k<=n:=by
 unfold qf7 at h
 split at h
 ·have:=wl7 h
  exact⟨by omega,by omega⟩
 ·cases h
theorem wu6 (m:List (List Int)) (y:List Int) (s t:List (List Int)):qh3 m y (s++t)=qh3 m y s++qh3 m y t:=List.filterMap_append
theorem wu7 (m:List (List Int)) (y:List Int) (s:List (List Int)):q55 m y s=qh3 m y s:=by
 unfold q55 qh3
 congr 1
 funext pix
 rw[xq9]
theorem wo0 (m:List (List Int)) (y:List Int):∀K,qk1 m y K=qh3 m y ((List.range K).flatMap λ(k:Nat)=>qf7 (nL m 0).length (k:Nat))
 | 0=>rfl
 | K+1=>by
  rw[qk1,wo0 m y K,List.range_succ,List.flatMap_append,wu6]
  simp
theorem xr1 {m:List (List Int)} (y:List Int) (h:(nL m 0).length<=7):xq7 m y=qk1 m y ((nL m 0).length+1):=by
 unfold xq7
 rw[wu7,xr0 h,wo0]
theorem wu8 {m:List (List Int)} {y:List Int} {s:List (List Int)} {f:Fit} (h:f∈qh3 m y s):∃pix∈s,xg0 m y pix/\f=(q4v m y pix).1:=by
 unfold qh3 at h
 rw[List.mem_filterMap] at h
 obtain⟨pix,h1,h2⟩:=h
 split at h2
 ·rename_i h3
  exact⟨pix,h1,x0w h3,(Option.some.inj h2).symm⟩
 ·cases h2
theorem q7z {m:List (List Int)} {y:List Int} {k:Nat} {f:Fit} (h:f∈qh3 m y (qf7 (nL m 0).length (k:Nat))):f.1.length=k/\k<=m.length/\k<=(nL m 0).length:=by
 obtain⟨pix,h1,h2,rfl⟩:=wu8 h
 have h3:=wn9 h1
 have h4:=h2.rows
 rw[h2.fst]
 omega
theorem w73 (m:List (List Int)) (y:List Int) {k:Int} (hk:0<=k):∀K,w7v k (qk1 m y K)=qk1 m y (min K (fitsN m k))
 | 0=>by rw[Nat.zero_min]; rfl
 | K+1=>by
  have hN:fitsN m k=(min (min k (nL m 0).length) m.length+1).toNat:=rfl
  rw[qk1]
  unfold w7v
  rw[List.filter_append]
  have ih:=w73 m y hk K
  unfold w7v at ih
  rw[ih]
  by_cases e:K<fitsN m k
  ·rw[show min K (fitsN m k)=K by omega,show min (K+1) (fitsN m k)=K+1 by omega,qk1]
   congr 1
   rw[List.filter_eq_self]
   intro f hf
   have:=q7z hf
   exact decide_eq_true (by omega)
  ·rw[show min K (fitsN m k)=fitsN m k by omega,show min (K+1) (fitsN m k)=fitsN m k by omega]
   rw[List.filter_eq_nil_iff.2 λf hf=>?_,List.append_nil]
   have:=q7z hf
   rw[decide_eq_true_eq]
   omega
theorem xg2 {m:List (List Int)} (y:List Int) {k:Int} (hk:0<=k) (h7:(nL m 0).length<=7):ql1 m y k=w7v k (xq7 m y):=by
 rw[xr1 y h7,w73 m y hk]
 have hN:fitsN m k=(min (min k (nL m 0).length) m.length+1).toNat:=rfl
 unfold ql1
 rw[show min ((nL m 0).length+1) (fitsN m k)=fitsN m k by omega]
theorem xr2 {m:List (List Int)} {y:List Int} (hf:q0l m) (hM:Mk m) (h7:(nL m 0).length<=7):w7u m y:=by
 have h1:=hM.rows1
 refine⟨by omega,h7,λs hs=>x0v hf ?_⟩
 have:=((wm5 (n:=(nL m 0).length) (k:=128) h7 (Nat.le_refl _)).2 s hs).1
 omega
theorem xr3 {m:List (List Int)} {y:List Int} (h:q1d m y=0):Mk m:=Mk.of (wd9 (pix:=[]) h).2
theorem xr4 (m:List (List Int)) (y:List Int):qq0 m y []=q1d m y:=by
 by_cases h:q1d m y=0
 ·rw[(wd9 h).1,h]; rfl
 ·exact w7t h
theorem xg3 {m:List (List Int)} {y:List Int} {k:Int} (hf:q0l m) (hM:Mk m) (h7:(nL m 0).length<=7) (h0:0<=k) (h1:k<=10):w02 m y k:=by
 have r1:=hM.rows1
 have r6:=hM.rows6
 refine⟨⟨h0,by omega,by omega,by omega,by omega,λj hj s hs=>?_⟩,?_⟩
 ·have:=wn9 hs
  exact⟨xk6 (by omega),by omega⟩
 ·rw[xg2 y h0 h7]
  have e1:=xf6 (xr2 (y:=y) hf hM h7)
  have e2:(w7v k (xq7 m y)).length<=(xq7 m y).length:=List.length_filter_le _ _
  omega
theorem x0x {m:List (List Int)} {y:List Int} (hf:q0l m) (hl:q0j m=true):q7u m y:=by
 refine⟨λh=>?_⟩
 rw[xr4] at h
 have hM:=xr3 h
 exact xg3 hf hM (xe8 hl hM) (by decide) (by decide)
theorem wo1 (l:List Int) {p:Nat} (hp:p<l.length) (x:Int) (q:Nat):nI (l.set p x) q=if q=p then x else nI l q:=by
 by_cases e:q=p
 ·subst e
  rw[if_pos rfl,qg1 _ _ (by rw[List.length_set]; exact hp),List.getElem_set_self]
 ·rw[if_neg e]
  unfold nI qe8
  rw[List.getD_eq_getElem?_getD,List.getD_eq_getElem?_getD,List.getElem?_set_ne (Ne.symm e)]
theorem q39:∀(N:Nat) {n:Nat} {f:Nat->Int} {τ:Nat->Nat},(∀q,q<N->τ q<n)->(∀q k,q<N->k<N->τ q=τ k->q=k)->(∀b,b<n->(∀q,q<N->τ q≠b)->f b=0)->sm n f=sm N λq=>f (τ q)
 | 0,n,f,τ,_,_,h=>sm_zero λb hb=>h b hb λq hq=>absurd hq (Nat.not_lt_zero _)
 | N+1,n,f,τ,h1,h2,h3=>by
  have e:sm n f=sm n (λb=>if b=τ N then 0 else f b)+sm n (λb=>if b=τ N then f b else 0):=by
   rw[<- q67]
   refine qc7 λb _=>?_
   by_cases q:b=τ N
   ·rw[if_pos q,if_pos q]; omega
   ·rw[if_neg q,if_neg q]; omega
  have ih:=q39 N (n:=n) (f:=λb=>if b=τ N then 0 else f b) (τ:=τ) (λq hq=>h1 q (by omega)) (λq k hq hk=>h2 q k (by omega) (by omega)) λb hb hq=>by
   try dsimp only
   by_cases q:b=τ N
   ·rw[if_pos q]
   ·rw[if_neg q]
    refine h3 b hb λk hk=>?_
    rcases Nat.lt_succ_iff_lt_or_eq.1 hk with q2 | q2
    ·exact hq k q2
    ·rw[q2]; exact Ne.symm q
  rw[e,ih,qo5 (k:=τ N) (h1 N (by omega)) λb _ hne=>if_neg hne,if_pos rfl,sm]
  congr 1
  refine qc7 λq hq=>?_
  try dsimp only
  rw[if_neg λk=>by have:=h2 q N (by omega) (by omega) k; omega]
def mkM (n W:Nat) (A:Nat->Nat->Int):List (List Int):=(List.range n).map λa=>(List.range W).map λc=>A a c
theorem w74 {n W:Nat} (A:Nat->Nat->Int) {a:Nat} (ha:a<n):nL (mkM n W A) a=(List.range W).map λc=>A a c:=by
 rw[qm2 _ _ (by simp[mkM]; exact ha)]; simp[mkM]
theorem x0y {n W:Nat} (A:Nat->Nat->Int) {a c:Nat} (ha:a<n) (hc:c<W):nI (nL (mkM n W A) a) c=A a c:=by
 rw[w74 A ha,qg1 _ _ (by simp; exact hc)]; simp
theorem xr5 (n W:Nat) (A:Nat->Nat->Int):Mat n W (mkM n W A):=⟨by simp[mkM],λi hi=>by rw[w74 A hi]; simp⟩
theorem w75 {n W:Nat} (A:Nat->Nat->Int) (h:n<W):∃z,Sol n W A z/\∃f,f<W/\z f≠0:=by
 have hM:=xr5 n W A
 have hst:=qn8 hM W (Nat.le_refl _)
 have hpl:=hst.pl
 obtain⟨f,hf,hq⟩:=Asc.free (N:=W) (P:=(qa4 (mkM n W A) W).2) (by omega)
 obtain⟨z,z1,z2,_⟩:=hst.free (Nat.le_refl _) hf hq λi h1 h2=>hst.zero i h1 h2 f hf
 refine⟨z,λa ha=>?_,f,hf,z2⟩
 rw[<- z1 a ha]
 refine qc7 λc hc=>?_
 unfold rowOf
 rw[x0y A ha hc]
theorem xr6 {n:Nat} {B:Nat->Nat->Int} {lam:Nat->Int} (h:∀j,j<n->(sm n λi=>lam i*B i j)=0) {r:Nat} (hr:r<n) (hl:lam r≠0):det n B=0:=by
 have h1:=w0m B hr lam n (Nat.le_refl _)
 rw[if_pos hr] at h1
 have h2:det n (upd B r λj=>sm n λi=>lam i*B i j)=det n (upd B r λ_=>0):=qg2 n λi j hi hj=>by
  unfold upd; split
  ·exact h j hj
  ·rfl
 rw[h2,qw2 hr] at h1
 exact qd3 h1.symm hl
theorem wu9 {n:Nat} {B:Nat->Nat->Int} {k l:Nat} (hk:k<n) (hl:l<n) (hne:k≠l) (h:∀i,i<n->B i k=B i l):det n B=0:=by
 obtain⟨z,z1,f,hf,z2⟩:=w75 (n:=n-1) (W:=n) (λa c=>B c (skp l a)) (by omega)
 have e:∀j,j<n->j≠l->(sm n λi=>z i*B i j)=0:=λj hj hne=>by
  have h1:=z1 (if j<l then j else j-1) (by split <;> omega)
  have h2:skp l (if j<l then j else j-1)=j:=by
   by_cases q:j<l
   ·rw[if_pos q]; unfold skp; rw[if_pos q]
   ·rw[if_neg q]; unfold skp; rw[if_neg (by omega)]; omega
  try dsimp only at h1
  rw[h2] at h1
  rw[<- h1]
  exact qc7 λi hi=>Int.mul_comm _ _
 refine xr6 (lam:=z) (λj hj=>?_) hf z2
 by_cases q:j=l
 ·rw[q,<- e k hk hne]
  refine qc7 λi hi=>?_
  rw[h i hi]
 ·exact e j hj q
theorem wv0 {n:Nat} {A:Nat->Nat->Int} (h:∀lam:Nat->Int,(∀j,j<n->(sm n λi=>lam i*A i j)=0)->∀i,i<n->lam i=0):det n A≠0:=by
 refine xx9 λk hk=>?_
 obtain⟨z,z1,f,hf,z2⟩:=w75 (n:=n) (W:=n+1) (λj c=>if c<n then A c j else if k=j then 1 else 0) (by omega)
 have e:∀j,j<n->(sm n λi=>z i*A i j)+(if k=j then 1 else 0)*z n=0:=λj hj=>by
  have h1:=z1 j hj
  rw[sm] at h1
  try dsimp only at h1
  rw[if_neg (Nat.lt_irrefl _)] at h1
  have h2:(sm n λi=>z i*A i j)=sm n λc=>(if c<n then A c j else if k=j then 1 else 0)*z c:=qc7 λi hi=>by
   try dsimp only
   rw[if_pos hi,Int.mul_comm]
  rw[h2]
  exact h1
 have hn:z n≠0:=λhz=>by
  have h2:=h z λj hj=>by
   have:=e j hj
   rw[hz,Int.mul_zero,Int.add_zero] at this
   exact this
  rcases Nat.lt_or_ge f n with q | q
  ·exact z2 (h2 f q)
  ·exact z2 (by rw[show f=n by omega]; exact hz)
 refine⟨- z n,z,by omega,λj hj=>?_⟩
 have:=e j hj
 split
 ·rename_i q; rw[if_pos q] at this; omega
 ·rename_i q; rw[if_neg q] at this; omega
def isP (P:List Int) (c:Nat):Prop:=∃q,q<P.length/\nI P q=(c:Int)
theorem q70 {P:List Int} {c:Nat}:¬isP P c↔∀q,q<P.length->nI P q≠(c:Int):=
 ⟨λh q hq e=>h ⟨q,hq,e⟩,λh ⟨q,hq,e⟩=>h q hq e⟩
theorem St.isP_at {n W j:Nat} {R:Nat->Nat->Int} {rows:List (List Int)} {P:List Int} (h:St n W R j rows P) {k:Nat} (hk:k<P.length):isP P (nI P k).toNat:=⟨k,hk,by have:=(h.pos k hk).1; omega⟩
theorem St.row_eq {n W:Nat} {R:Nat->Nat->Int} {rows:List (List Int)} {P:List Int} (h:St n W R W rows P) {z:Nat->Int} (hz:Sol n W R z) {f:Nat} (hf:f<W) (hnp:¬isP P f) (h0:∀c,c<W->c≠f->¬isP P c->z c=0) {k:Nat} (hk:k<P.length) :
  nI (nL rows k) (nI P k).toNat*z (nI P k).toNat+nI (nL rows k) f*z f=0:=by
 have hpl:=h.pl
 have hp:=h.pos k hk
 have e:=(h.sol z).1 hz k (by omega)
 unfold dt at e
 have hne:(nI P k).toNat≠f:=λq=>hnp (by rw[<- q]; exact h.isP_at hk)
 rw[q5b (k:=(nI P k).toNat) (l:=f) (by omega) hf hne λc hc h1 h2=>?_] at e
 ·exact e
 ·try dsimp only
  by_cases q:isP P c
  ·obtain⟨q2,hq2,e2⟩:=q
   have:=(h.pos q2 hq2).2.2.2.2 k (by omega) λe3=>h1 (by rw[e3,e2]; rfl)
   rw[e2,Int.toNat_natCast] at this
   rw[this,Int.zero_mul]
  ·rw[h0 c hc h2 q,Int.mul_zero]
theorem St.sol_mk {n W:Nat} {R:Nat->Nat->Int} {rows:List (List Int)} {P:List Int} (h:St n W R W rows P) {z:Nat->Int} {f:Nat} (hf:f<W) (hnp:¬isP P f) (h0:∀c,c<W->c≠f->¬isP P c->z c=0)
  (hr:∀k,k<P.length->nI (nL rows k) (nI P k).toNat*z (nI P k).toNat+nI (nL rows k) f*z f=0):Sol n W R z:=by
 refine(h.sol z).2 λi hi=>?_
 unfold dt
 rcases Nat.lt_or_ge i P.length with q | q
 ·have hp:=h.pos i q
  have hne:(nI P i).toNat≠f:=λq2=>hnp (by rw[<- q2]; exact h.isP_at q)
  rw[q5b (k:=(nI P i).toNat) (l:=f) (by omega) hf hne λc hc h1 h2=>?_]
  ·exact hr i q
  ·try dsimp only
   by_cases q1:isP P c
   ·obtain⟨q2,hq2,e2⟩:=q1
    have:=(h.pos q2 hq2).2.2.2.2 i hi λe3=>h1 (by rw[e3,e2]; rfl)
    rw[e2,Int.toNat_natCast] at this
    rw[this,Int.zero_mul]
   ·rw[h0 c hc h2 q1,Int.mul_zero]
 ·exact sm_zero λc hc=>by
   try dsimp only
   rw[h.zero i q hi c hc,Int.zero_mul]
theorem St.piv_same {n W:Nat} {R:Nat->Nat->Int} {rows rows':List (List Int)} {P P':List Int} (h:St n W R W rows P) (h':St n W R W rows' P') {f:Nat} (hp:isP P f):isP P' f:=Classical.byContradiction λhn=>by
 obtain⟨k,hk,e⟩:=hp
 have hpk:=h.pos k hk
 rw[e,Int.toNat_natCast] at hpk
 have hf:f<W:=by omega
 have hpl':=h'.pl
 obtain⟨z,z1,z2,z3⟩:=h'.free (Nat.le_refl _) hf (q70.1 hn) λi h1 h2=>h'.zero i h1 h2 f hf
 have zl:∀c,c<W->f<c->z c=0:=λc hc hfc=>by
  by_cases q:isP P' c
  ·obtain⟨q2,hq2,e2⟩:=q
   have h1:=h'.row_eq z1 hf hn (λc hc h1 h2=>z3 c hc h1 (q70.1 h2)) hq2
   have h2:=h'.pos q2 hq2
   rw[e2,Int.toNat_natCast] at h1 h2
   rw[h2.2.2.2.1 f hfc,Int.zero_mul,Int.add_zero] at h1
   exact qd3 h1 (by omega)
  ·exact z3 c hc (by omega) (q70.1 q)
 have hpl:=h.pl
 have h1:=(h.sol z).1 z1 k (by omega)
 unfold dt at h1
 rw[qo5 (k:=f) hf λc hc hne=>?_] at h1
 ·exact absurd (qd3 h1 (by omega)) z2
 ·try dsimp only
  rcases Nat.lt_or_ge c f with q | q
  ·rw[hpk.2.2.2.1 c q,Int.zero_mul]
  ·rw[zl c hc (by omega),Int.mul_zero]
theorem St.basis {n W:Nat} {R:Nat->Nat->Int} {rows:List (List Int)} {P:List Int} (h:St n W R W rows P):∃τ:Nat->Nat,(∀i,i<P.length->τ i<n)/\∀k,k<P.length->∃(c:Int) (lam:Nat->Int),c≠0/\∀col,col<W->(sm P.length λq=>lam q*R (τ q) col)=c*nI (nL rows k) col:=by
 obtain⟨ρ,pv,τ,hE,t1,t2,t3,t4,t5,t6⟩:=h.tag
 have hpl:=h.pl
 refine⟨τ,λi hi=>t1 i (by omega),λk hk=>?_⟩
 obtain⟨c,l,hc,hl,hs,_⟩:=hE.comb (τ k) (t1 k (by omega))
 refine⟨c,λq=>l (τ q),hc,λcol hcol=>?_⟩
 rw[<- t4 k (by omega) col hcol,hl col hcol]
 refine(q39 P.length (f:=λb=>l b*R b col) (λq hq=>t1 q (by omega)) (λq k hq hk=>t2 q k (by omega) (by omega)) λb hb hq=>?_).symm
 try dsimp only
 obtain⟨i,hi,rfl⟩:=t3 b hb
 have hiN:¬i<P.length:=λq=>hq i q rfl
 have hl0:l (τ i)=0:=Classical.byContradiction λq=>by
  rcases hs (τ i) hb q with q2 | q2
  ·rw[t5 i hi,if_neg hiN] at q2; exact q2 rfl
  ·exact hq k hk q2.symm
 rw[hl0,Int.zero_mul]
theorem St.minors {n W:Nat} {R:Nat->Nat->Int} {rows:List (List Int)} {P:List Int} (h:St n W R W rows P) (hn:n<=6) (h1:∀a c,a<n->c<W->(R a c).natAbs<=1) :
  ∃D:Int,D≠0/\D.natAbs<=160/\∀f,f<W->¬isP P f->∃w:Nat->Int,(∀k,k<P.length->(w k).natAbs<=160)/\∀k,k<P.length->nI (nL rows k) (nI P k).toNat*w k+nI (nL rows k) f*D=0:=by
 obtain⟨τ,t1,hcomb⟩:=h.basis
 have hpl:=h.pl
 have hpW:∀k,k<P.length->(nI P k).toNat<W:=λk hk=>by have:=h.pos k hk; omega
 have hrow:∀k,k<P.length->∀c,c<P.length->nI (nL rows k) (nI P c).toNat=if k=c then nI (nL rows k) (nI P k).toNat else 0:=λk hk c hc=>by
  by_cases q:k=c
  ·rw[if_pos q,<- q]
  ·rw[if_neg q]
   exact(h.pos c hc).2.2.2.2 k (by omega) q
 have hpp:∀k,k<P.length->0<nI (nL rows k) (nI P k).toNat:=λk hk=>(h.pos k hk).2.2.1
 -- what all the first rows say is said by the reduced ones
 have tell:∀(m:Nat) (s:Nat->Nat) (w:Nat->Int),(∀c,c<m->s c<W)->(∀b,b<P.length->(sm m λc=>R (τ b) (s c)*w c)=0)->∀k,k<P.length->(sm m λc=>nI (nL rows k) (s c)*w c)=0:=λm s w hs hw k hk=>by
  obtain⟨c0,lam,hc0,hl⟩:=hcomb k hk
  refine qd3 (a:=c0) ?_ hc0
  rw[<- qi2]
  have e:(sm m λc=>c0*(nI (nL rows k) (s c)*w c))=sm m λc=>sm P.length λq=>lam q*(R (τ q) (s c)*w c):=qc7 λc hc=>by
   try dsimp only
   rw[<- Int.mul_assoc,<- hl (s c) (hs c hc),Int.mul_comm,<- qi2]
   refine qc7 λq hq=>?_
   grind
  rw[e,q2y]
  refine sm_zero λq hq=>?_
  try dsimp only
  rw[qi2,hw q hq,Int.mul_zero]
 refine⟨det P.length λa b=>R (τ b) (nI P a).toNat,wv0 λlam hlam k hk=>?_,ws8 (by omega) λa b ha hb=>h1 _ _ (t1 b hb) (hpW a ha),λf hf hnp=>?_⟩
 ·have e:=tell P.length (λa=>(nI P a).toNat) lam hpW (λb hb=>by
   rw[<- hlam b hb]
   exact qc7 λc hc=>Int.mul_comm _ _) k hk
  rw[qo5 (k:=k) hk λi hi hne=>by
   try dsimp only
   rw[hrow k hk i hi,if_neg (Ne.symm hne),Int.zero_mul]] at e
  exact qd3 e (by have:=hpp k hk; omega)
 ·obtain⟨s,hs0,hsk⟩:∃s:Nat->Nat,s 0=f/\∀c,s (c+1)=(nI P c).toNat:=⟨λc=>match c with | 0=>f | c+1=>(nI P c).toNat,rfl,λ_=>rfl⟩
  have hsW:∀c,c<P.length+1->s c<W:=λc hc=>by
   cases c with
   | zero=>rw[hs0]; exact hf
   | succ c=>rw[hsk]; exact hpW c (by omega)
  obtain⟨w,hw⟩:∃w:Nat->Int,∀c,w c=sgn c*det P.length λa b=>R (τ b) (s (skp c a)):=⟨_,λ_=>rfl⟩
  have e0:w 0=det P.length λa b=>R (τ b) (nI P a).toNat:=by
   rw[hw,show sgn 0=1 from rfl,Int.one_mul]
   refine qg2 _ λa b ha hb=>?_
   have:skp 0 a=a+1:=by unfold skp; rw[if_neg (Nat.not_lt_zero _)]
   rw[this,hsk]
  refine⟨λk=>w (k+1),λk hk=>?_,λk hk=>?_⟩
  ·try dsimp only
   rw[hw,Int.natAbs_mul,wc1,Nat.one_mul]
   exact ws8 (by omega) λa b ha hb=>h1 _ _ (t1 b hb) (hsW _ (q86 ha))
  ·have e:=tell (P.length+1) s w hsW (λb hb=>by
    have hd:det (P.length+1) (λc j=>if j=0 then R (τ b) (s c) else R (τ (j-1)) (s c))=0:=wu9 (k:=0) (l:=b+1) (by omega) (by omega) (by omega) λi hi=>by
     try dsimp only
     rw[if_pos rfl,if_neg (by omega),Nat.add_sub_cancel]
    rw[det] at hd
    rw[<- hd]
    refine qc7 λc hc=>?_
    try dsimp only
    rw[if_pos rfl,hw]
    have:det P.length (λa b=>R (τ b) (s (skp c a)))=det P.length λa b_1=>if b_1+1=0 then R (τ b) (s (skp c a)) else R (τ (b_1+1-1)) (s (skp c a)):=qg2 _ λi j hi hj=>by
     rw[if_neg (by omega),Nat.add_sub_cancel]
    rw[<- this]
    grind) k hk
   rw[q5b (k:=k+1) (l:=0) (by omega) (by omega) (by omega) λc hc h2 h3=>?_] at e
   ·try dsimp only at e
    rw[hsk,hs0,e0] at e
    exact e
   ·try dsimp only
    cases c with
    | zero=>exact absurd rfl h3
    | succ c=>rw[hsk,hrow k hk c (by omega),if_neg (by omega),Int.zero_mul]
theorem St.piv_160 {n W:Nat} {R:Nat->Nat->Int} {rows:List (List Int)} {P:List Int} (h:St n W R W rows P) (hn:n<=6) (h1:∀a c,a<n->c<W->(R a c).natAbs<=1) {k:Nat} (hk:k<P.length):(nI (nL rows k) (nI P k).toNat).natAbs<=160:=by
 have hpl:=h.pl
 have hp:=h.pos k hk
 obtain⟨D,hD,hD2,hw⟩:=h.minors hn h1
 obtain⟨ρ,pv,τ,hE,t1,t2,t3,t4,t5,t6⟩:=h.tag
 rcases t6 k (by omega) with⟨s,hs,e⟩ | e | e
 ·have:=h1 (τ k) (nI P k).toNat (t1 k (by omega)) (by omega)
  rw[e _ (by omega),Int.natAbs_mul]
  have:s.natAbs=1:=by rcases hs with rfl | rfl <;> rfl
  rw[this]; omega
 ·have:=e (nI P k).toNat (by omega)
  omega
 ·have hx:∀c,∃x:Int,c<W->D*nI (nL rows k) c=nI (nL rows k) (nI P k).toNat*x/\(c=(nI P k).toNat->x=D):=λc=>by
   by_cases q:c=(nI P k).toNat
   ·exact⟨D,λ_=>⟨by rw[q,Int.mul_comm],λ_=>rfl⟩⟩
   ·by_cases q2:isP P c
    ·obtain⟨q3,hq3,e3⟩:=q2
     refine⟨0,λ_=>⟨?_,λq4=>absurd q4 q⟩⟩
     have:=(h.pos q3 hq3).2.2.2.2 k (by omega) λq4=>q (by rw[q4,e3]; rfl)
     rw[e3,Int.toNat_natCast] at this
     rw[this,Int.mul_zero,Int.mul_zero]
    ·by_cases q4:c<W
     ·obtain⟨w,_,w2⟩:=hw c q4 q2
      have:=w2 k hk
      exact⟨- w k,λ_=>⟨by grind,λq4=>absurd q4 q⟩⟩
     ·exact⟨0,λq5=>absurd q5 q4⟩
  obtain⟨x,hx⟩:=Classical.axiomOfChoice hx
  have:=q85 (W:=W) (r:=nI (nL rows k)) (s:=x) (α:=D) (β:=nI (nL rows k) (nI P k).toNat) hD (λc hc=>(hx c hc).1) e (nI P k).toNat (by omega)
  rw[(hx _ (by omega)).2 rfl] at this
  omega
structure KV (n W:Nat) (R:Nat->Nat->Int) (P:List Int) (f:Nat) (v:List Int):Prop where
 len:v.length=W
 sol:Sol n W R (nI v)
 free:∀c,c<W->c≠f->¬isP P c->nI v c=0
 pos:0<nI v f
theorem KV.prim {n W:Nat} {R:Nat->Nat->Int} {P:List Int} {f:Nat} {v:List Int} (h:KV n W R P f v) (hf:f<W):KV n W R P f (qk7 v):=by
 have hl:=h.len
 have hg:0<max (gcdL v) 1:=by omega
 have hm:∀c,c<W->max (gcdL v) 1*nI (qk7 v) c=nI v c:=λc hc=>qy4 v (by omega)
 refine⟨by rw[qs4]; exact hl,λa ha=>?_,λc hc h1 h2=>?_,?_⟩
 ·have:=h.sol a ha
  refine qd3 (a:=max (gcdL v) 1) ?_ (by omega)
  rw[<- qi2,<- this]
  refine qc7 λc hc=>?_
  try dsimp only
  rw[<- hm c hc]
  grind
 ·have:=hm c hc
  rw[h.free c hc h1 h2] at this
  exact qd3 this (by omega)
 ·have:=hm f hf
  have:=h.pos
  exact q5f hg (by omega)
theorem KV.trans {n W:Nat} {R:Nat->Nat->Int} {P P':List Int} {f:Nat} {v:List Int} (h:KV n W R P f v) (hP:∀c,isP P c↔isP P' c):KV n W R P' f v:=
 ⟨h.len,h.sol,λc hc h1 h2=>h.free c hc h1 λq=>h2 ((hP c).1 q),h.pos⟩
theorem KV.cross {n W:Nat} {R:Nat->Nat->Int} {rows:List (List Int)} {P:List Int} (hs:St n W R W rows P) {f:Nat} (hf:f<W) (hnp:¬isP P f) {v u:List Int} (hv:KV n W R P f v) (hu:KV n W R P f u):∀c,c<W->nI u f*nI v c=nI v f*nI u c:=λc hc=>by
 by_cases q:c=f
 ·rw[q,Int.mul_comm]
 ·by_cases q2:isP P c
  ·obtain⟨k,hk,e⟩:=q2
   have a:=hs.row_eq hv.sol hf hnp hv.free hk
   have b:=hs.row_eq hu.sol hf hnp hu.free hk
   have hp:=(hs.pos k hk).2.2.1
   rw[e,Int.toNat_natCast] at a b hp
   have:nI (nL rows k) c*(nI u f*nI v c-nI v f*nI u c)=0:=by grind
   have:=qd3 this (by omega)
   omega
  ·rw[hv.free c hc q q2,hu.free c hc q q2,Int.mul_zero,Int.mul_zero]
theorem Prim.gcd {v:List Int} {W f:Nat} (h:Prim v) (hl:v.length=W) (hf:f<W) (hp:0<nI v f):∀d:Nat,(∀c,c<W->d∣(nI v c).natAbs)->d=1:=by
 subst hl
 rcases h with h | h
 ·have:=h f hf; omega
 ·exact h
theorem KV.uniq {n W:Nat} {R:Nat->Nat->Int} {rows:List (List Int)} {P:List Int} (hs:St n W R W rows P) {f:Nat} (hf:f<W) (hnp:¬isP P f) {v u:List Int} (hv:KV n W R P f v) (hu:KV n W R P f u) (pv:Prim v) (pu:Prim u):v=u:=by
 have hc:=hv.cross hs hf hnp hu
 have a:=q85 (W:=W) (r:=nI v) (s:=nI u) (α:=nI u f) (β:=nI v f) (by have:=hu.pos; omega) hc (pv.gcd hv.len hf hv.pos)
 have b:=q85 (W:=W) (r:=nI u) (s:=nI v) (α:=nI v f) (β:=nI u f) (by have:=hv.pos; omega) (λc h=>(hc c h).symm) (pu.gcd hu.len hf hu.pos)
 have hff:nI u f=nI v f:=by
  have:=a f hf; have:=b f hf; have:=hv.pos; have:=hu.pos; omega
 have h1:=hv.len
 have h2:=hu.len
 refine List.ext_getElem (by omega) λi hi hi2=>?_
 rw[<- qg1 v i hi,<- qg1 u i hi2]
 have:=hc i (by omega)
 rw[hff] at this
 exact Int.eq_of_mul_eq_mul_left (by have:=hv.pos; omega) this
theorem KV.small {n W:Nat} {R:Nat->Nat->Int} {rows:List (List Int)} {P:List Int} (hs:St n W R W rows P) (hn:n<=6) (h1:∀a c,a<n->c<W->(R a c).natAbs<=1) {f:Nat} (hf:f<W) (hnp:¬isP P f) {v:List Int} (hv:KV n W R P f v) (pv:Prim v):∀x∈v,x.natAbs<=160:=by
 obtain⟨D,hD,hD2,hw⟩:=hs.minors hn h1
 obtain⟨w,w1,w2⟩:=hw f hf hnp
 have hx:∀c,∃x:Int,c<W->D*nI v c=nI v f*x/\x.natAbs<=160:=λc=>by
  by_cases q:c=f
  ·exact⟨D,λ_=>⟨by rw[q,Int.mul_comm],hD2⟩⟩
  ·by_cases q2:isP P c
   ·obtain⟨k,hk,e⟩:=q2
    refine⟨w k,λ_=>⟨?_,w1 k hk⟩⟩
    have a:=hs.row_eq hv.sol hf hnp hv.free hk
    have b:=w2 k hk
    have hp:=(hs.pos k hk).2.2.1
    rw[e,Int.toNat_natCast] at a b hp
    have:nI (nL rows k) c*(D*nI v c-nI v f*w k)=0:=by grind
    have:=qd3 this (by omega)
    omega
   ·exact⟨0,λhc=>⟨by rw[hv.free c hc q q2,Int.mul_zero,Int.mul_zero],by decide⟩⟩
 obtain⟨x,hx⟩:=Classical.axiomOfChoice hx
 have:=q85 (W:=W) (r:=nI v) (s:=x) (α:=D) (β:=nI v f) hD (λc hc=>(hx c hc).1) (pv.gcd hv.len hf hv.pos)
 intro y hy
 obtain⟨c,hc,rfl⟩:=q5g hy
 have hl:=hv.len
 exact Nat.le_trans (this c (by omega)) (hx c (by omega)).2
end Go.Proofs.YtmijnbjlhnpokaaGreat
