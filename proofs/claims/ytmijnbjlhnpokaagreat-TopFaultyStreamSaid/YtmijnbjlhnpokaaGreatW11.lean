/- The program's test of a fit is the reference's: its fractions are small. Plain mathematics. No condition. -/
import Derived.Test.YtmijnbjlhnpokaaGreatW5
import Derived.Test.YtmijnbjlhnpokaaGreatW10
set_option linter.unusedVariables false
namespace Go.Proofs.YtmijnbjlhnpokaaGreat
open Go Go.RowKit Eng
theorem exL:∀(k:Nat) (p:Nat->Int),(∀q,q<k->p q≠0)->∃(L:Int) (u:Nat->Int),L≠0/\∀q,q<k->L=p q*u q
 | 0,p,_=>⟨1,λ_=>0,by decide,λq h=>absurd h (Nat.not_lt_zero _)⟩
 | k+1,p,h=>by
  obtain⟨L,u,h1,h2⟩:=exL k p λq hq=>h q (by omega)
  refine⟨L*p k,λq=>if q=k then L else u q*p k,qu2 h1 (h k (by omega)),λq hq=>?_⟩
  try dsimp only
  by_cases e:q=k
  ·rw[if_pos e,e,Int.mul_comm]
  ·rw[if_neg e,<- Int.mul_assoc,<- h2 q (by omega)]
def Sol (n W:Nat) (R:Nat->Nat->Int) (z:Nat->Int):Prop:=∀a,a<n->(sm W λc=>R a c*z c)=0
theorem St.inj {n W:Nat} {R:Nat->Nat->Int} {j:Nat} {rows:List (List Int)} {P:List Int} (h:St n W R j rows P) {q k:Nat} (hq:q<P.length) (hk:k<P.length) (e:nI P q=nI P k):q=k:=by
 rcases Nat.lt_trichotomy q k with q1 | q1 | q1
 ·have:=h.asc q k q1 hk; omega
 ·exact q1
 ·have:=h.asc k q q1 hq; omega
theorem St.free {n W:Nat} {R:Nat->Nat->Int} {j:Nat} {rows:List (List Int)} {P:List Int} (h:St n W R j rows P) (hj:j<=W) {f:Nat} (hf:f<W) (hnp:∀q,q<P.length->nI P q≠(f:Int)) (hz:∀i,P.length<=i->i<n->nI (nL rows i) f=0) :
  ∃z,Sol n W R z/\z f≠0/\∀c,c<W->c≠f->(∀q,q<P.length->nI P q≠(c:Int))->z c=0:=by
 obtain⟨L,u,hL,hu⟩:=exL P.length (λq=>nI (nL rows q) (nI P q).toNat) λq hq=>by have:=(h.pos q hq).2.2.1; (try dsimp only); omega
 have hpl:=h.pl
 have hzf:(if f=f then L else sm P.length λq=>if nI P q=(f:Int) then-u q*nI (nL rows q) f else 0)=L:=if_pos rfl
 obtain⟨z,hzd⟩:∃z:Nat->Int,∀c,z c=if c=f then L else sm P.length λq=>if nI P q=(c:Int) then-u q*nI (nL rows q) f else 0:=⟨_,λ_=>rfl⟩
 have z1:z f=L:=by rw[hzd,if_pos rfl]
 have z2:∀c,c≠f->(∀q,q<P.length->nI P q≠(c:Int))->z c=0:=λc hc hq=>by
  rw[hzd,if_neg hc]
  exact qt9 λq h=>if_neg (hq q h)
 have z3:∀q,q<P.length->z (nI P q).toNat=- u q*nI (nL rows q) f:=λq hq=>by
  have hp:=h.pos q hq
  have e:((nI P q).toNat:Int)=nI P q:=by omega
  rw[hzd,if_neg (λk=>hnp q hq (by omega)),qu1 hq λi hi hne=>by
   try dsimp only
   rw[if_neg λk=>hne (h.inj hi hq (by omega))]]
  try dsimp only
  rw[if_pos e.symm]
 refine⟨z,(h.sol z).2 λi hi=>?_,by rw[z1]; exact hL,λc hc=>z2 c⟩
 unfold dt
 rcases Nat.lt_or_ge i P.length with q | q
 ·have hp:=h.pos i q
  rw[q9w (k:=f) (l:=(nI P i).toNat) hf (by omega) (λk=>hnp i q (by omega)) λc hc h1 h2=>?_]
  ·try dsimp only
   rw[z1,z3 i q]
   have:=hu i q
   try dsimp only at this
   rw[this]
   grind
  ·try dsimp only
   by_cases hx:∃q,q<P.length/\nI P q=(c:Int)
   ·obtain⟨q2,hq2,e⟩:=hx
    have hp2:=h.pos q2 hq2
    have:nI (nL rows i) (nI P q2).toNat=0:=hp2.2.2.2.2 i hi λk=>h2 (by rw[k,e]; rfl)
    rw[e,Int.toNat_natCast] at this
    rw[this,Int.zero_mul]
   ·rw[z2 c h1 λq hq e=>hx ⟨q,hq,e⟩,Int.mul_zero]
 ·refine qt9 λc hc=>?_
  try dsimp only
  by_cases e:c=f
  ·rw[e,hz i q hi,Int.zero_mul]
  ·by_cases hx:∃q,q<P.length/\nI P q=(c:Int)
   ·obtain⟨q2,hq2,e⟩:=hx
    have hp2:=h.pos q2 hq2
    have:nI (nL rows i) (nI P q2).toNat=0:=hp2.2.2.2.2 i hi (by omega)
    rw[e,Int.toNat_natCast] at this
    rw[this,Int.zero_mul]
   ·rw[z2 c e λq hq e=>hx ⟨q,hq,e⟩,Int.mul_zero]
structure Asc (N:Nat) (P:List Int):Prop where
 at_:∀q,q<P.length->0<=nI P q/\nI P q<N
 asc:∀q k,q<k->k<P.length->nI P q<nI P k
theorem Asc.ge {N:Nat} {P:List Int} (h:Asc N P):∀q,q<P.length->(q:Int)<=nI P q
 | 0,hq=>(h.at_ 0 hq).1
 | q+1,hq=>by
  have h1:=h.ge q (by omega)
  have h2:=h.asc q (q+1) (by omega) hq
  omega
theorem Asc.le {N:Nat} {P:List Int} (h:Asc N P):P.length<=N:=by
 rcases Nat.eq_zero_or_pos P.length with q | q
 ·omega
 ·have h1:=h.ge (P.length-1) (by omega)
  have h2:=h.at_ (P.length-1) (by omega)
  omega
theorem Asc.up {N:Nat} {P:List Int} (h:Asc N P):∀d,d<P.length->nI P (P.length-1-d)+d<N
 | 0,hd=>by have:=(h.at_ (P.length-1-0) (by omega)).2; omega
 | d+1,hd=>by
  have h1:=h.up d (by omega)
  have h2:=h.asc (P.length-1-(d+1)) (P.length-1-d) (by omega) (by omega)
  omega
theorem Asc.id {N:Nat} {P:List Int} (h:Asc N P) (hl:P.length=N) {q:Nat} (hq:q<N):nI P q=q:=by
 have h1:=h.ge q (by omega)
 have h2:=h.up (P.length-1-q) (by omega)
 rw[show P.length-1-(P.length-1-q)=q by omega] at h2
 omega
theorem Asc.free {N:Nat} {P:List Int} (hl:P.length<N):∃f,f<N/\∀q,q<P.length->nI P q≠(f:Int):=by
 refine Classical.byContradiction λhno=>?_
 have hx:∀f,∃q,f<N->q<P.length/\nI P q=(f:Int):=λf=>by
  by_cases hf:f<N
  ·refine Classical.byContradiction λh2=>hno ⟨f,hf,λq hq e=>h2 ⟨q,λ_=>⟨hq,e⟩⟩⟩
  ·exact⟨0,λh=>absurd h hf⟩
 obtain⟨g,hg⟩:=Classical.axiomOfChoice hx
 obtain⟨i,k,h1,h2,h3⟩:=q7s P.length N g (λi hi=>(hg i hi).1) hl
 have e1:=(hg i (by omega)).2
 have e2:=(hg k h2).2
 rw[h3] at e1
 omega
structure Good (n N:Nat) (R:Nat->Nat->Int) (rows:List (List Int)) (P:List Int):Prop where
 st:∃j,N<=j/\j<=N+1/\St n (N+1) R j rows P
 lt:∀q,q<P.length->nI P q<N
 no:∀i,P.length<=i->i<n->nI (nL rows i) N=0
theorem Good.asc {n N:Nat} {R:Nat->Nat->Int} {rows:List (List Int)} {P:List Int} (h:Good n N R rows P):Asc N P:=by
 obtain⟨j,_,_,hs⟩:=h.st
 exact⟨λq hq=>⟨(hs.pos q hq).1,h.lt q hq⟩,hs.asc⟩
theorem Good.last {n N:Nat} {R:Nat->Nat->Int} {rows:List (List Int)} {P:List Int} (h:Good n N R rows P):∃z,Sol n (N+1) R z/\z N≠0:=by
 obtain⟨j,_,h2,hs⟩:=h.st
 obtain⟨z,z1,z2,_⟩:=hs.free h2 (f:=N) (by omega) (λq hq=>by have:=h.lt q hq; omega) h.no
 exact⟨z,z1,z2⟩
theorem Good.more {n N:Nat} {R:Nat->Nat->Int} {rows:List (List Int)} {P:List Int} (h:Good n N R rows P) (hl:P.length<N):∃z f,Sol n (N+1) R z/\f<N/\z f≠0/\z N=0:=by
 obtain⟨j,h1,h2,hs⟩:=h.st
 obtain⟨f,hf,hq⟩:=Asc.free hl
 obtain⟨z,z1,z2,z3⟩:=hs.free h2 (f:=f) (by omega) hq λi h3 h4=>hs.zero i h3 h4 f (by omega)
 exact⟨z,f,z1,hf,z2,z3 N (by omega) (by omega) λq hq=>by have:=h.lt q hq; omega⟩
theorem Good.row {n N:Nat} {R:Nat->Nat->Int} {rows:List (List Int)} {P:List Int} (h:Good n N R rows P) (hl:P.length=N) {z:Nat->Int} (hz:Sol n (N+1) R z) {k:Nat} (hk:k<N):0<nI (nL rows k) k/\nI (nL rows k) k*z k+nI (nL rows k) N*z N=0:=by
 obtain⟨j,h1,h2,hs⟩:=h.st
 have hid:=λ{q} (hq:q<N)=>h.asc.id hl hq
 have hp:=hs.pos k (by omega)
 have hpl:=hs.pl
 rw[hid hk,Int.toNat_natCast] at hp
 refine⟨hp.2.2.1,?_⟩
 have:=(hs.sol z).1 hz k (by omega)
 unfold dt at this
 rw[q9w (k:=k) (l:=N) (by omega) (by omega) (by omega) λc hc h1 h2=>?_] at this
 ·exact this
 ·have hp2:=(hs.pos c (by omega)).2.2.2.2 k (by omega) (by omega)
  rw[hid (by omega),Int.toNat_natCast] at hp2
  try dsimp only
  rw[hp2,Int.zero_mul]
theorem Good.len {n N:Nat} {R:Nat->Nat->Int} {rows rows':List (List Int)} {P P':List Int} (h:Good n N R rows P) (h':Good n N R rows' P') (hl:P.length<N):P'.length<N:=by
 rcases Nat.lt_or_ge P'.length N with q | q
 ·exact q
 ·have hl':P'.length=N:=by have:=h'.asc.le; omega
  obtain⟨z,f,z1,z2,z3,z4⟩:=h.more hl
  obtain⟨k1,k2⟩:=h'.row hl' z1 z2
  rw[z4,Int.mul_zero,Int.add_zero] at k2
  exact absurd (qd2 k2 (by omega)) z3
theorem Good.val {n N:Nat} {R:Nat->Nat->Int} {rows rows':List (List Int)} {P P':List Int} (h:Good n N R rows P) (h':Good n N R rows' P') (hl:P.length=N) (hl':P'.length=N) {k:Nat} (hk:k<N):nI (nL rows k) N*nI (nL rows' k) k=nI (nL rows' k) N*nI (nL rows k) k:=by
 obtain⟨z,z1,z2⟩:=h.last
 obtain⟨a1,a2⟩:=h.row hl z1 hk
 obtain⟨b1,b2⟩:=h'.row hl' z1 hk
 have:z N*(nI (nL rows k) N*nI (nL rows' k) k-nI (nL rows' k) N*nI (nL rows k) k)=0:=by grind
 have:=qd2 this z2
 omega
theorem x02 {a b c d:Int} (hb:0<b) (hd:0<d) (h:a*d=c*b):xz7 a b=xz7 c d:=by
 have hg:0<gcdI a b:=qq0 (.inr (by omega))
 have hk:0<gcdI c d:=qq0 (.inr (by omega))
 have a1:gcdI a b*a.tdiv (gcdI a b)=a:=Int.mul_tdiv_cancel' (Int.natAbs_dvd_natAbs.1 (Nat.gcd_dvd_left _ _))
 have b1:gcdI a b*b.tdiv (gcdI a b)=b:=Int.mul_tdiv_cancel' (Int.natAbs_dvd_natAbs.1 (Nat.gcd_dvd_right _ _))
 have c1:gcdI c d*c.tdiv (gcdI c d)=c:=Int.mul_tdiv_cancel' (Int.natAbs_dvd_natAbs.1 (Nat.gcd_dvd_left _ _))
 have d1:gcdI c d*d.tdiv (gcdI c d)=d:=Int.mul_tdiv_cancel' (Int.natAbs_dvd_natAbs.1 (Nat.gcd_dvd_right _ _))
 have cop:∀x y:Int,0<gcdI x y->Nat.Coprime (x.tdiv (gcdI x y)).natAbs (y.tdiv (gcdI x y)).natAbs:=λx y h=>by
  have e1:(x.tdiv (gcdI x y)).natAbs=x.natAbs / Nat.gcd x.natAbs y.natAbs:=Int.natAbs_tdiv _ _
  have e2:(y.tdiv (gcdI x y)).natAbs=y.natAbs / Nat.gcd x.natAbs y.natAbs:=Int.natAbs_tdiv _ _
  rw[e1,e2]
  exact Nat.coprime_div_gcd_div_gcd (by have:(0:Int)<(Nat.gcd x.natAbs y.natAbs:Nat):=h; omega)
 have h1:=cop a b hg
 have h2:=cop c d hk
 unfold xz7
 generalize gcdI a b=g at *
 generalize gcdI c d=k at *
 generalize a.tdiv g=x at *
 generalize b.tdiv g=y at *
 generalize c.tdiv k=u at *
 generalize d.tdiv k=v at *
 have hy:0<y:=q70 hg (by omega)
 have hv:0<v:=q70 hk (by omega)
 have e:x*v=u*y:=by
  have:(g*k)*(x*v-u*y)=0:=by rw[<- a1,<- b1,<- c1,<- d1] at h; grind
  have:=qd2 this (qu2 (by omega) (by omega))
  omega
 have en:x.natAbs*v.natAbs=u.natAbs*y.natAbs:=by rw[<- Int.natAbs_mul,<- Int.natAbs_mul,e]
 have q1:y.natAbs∣v.natAbs:=h1.symm.dvd_of_dvd_mul_left ⟨u.natAbs,by rw[en,Nat.mul_comm]⟩
 have q2:v.natAbs∣y.natAbs:=h2.symm.dvd_of_dvd_mul_left ⟨x.natAbs,by rw[<- en,Nat.mul_comm]⟩
 have q3:y.natAbs=v.natAbs:=Nat.dvd_antisymm q1 q2
 have q4:y=v:=by omega
 subst q4
 have:y*(x-u)=0:=by grind
 have:=qd2 this (by omega)
 rw[show x=u by omega]
theorem x03 {a b:Int} (hb:0<b):ofR a b=xz7 a b:=by
 unfold ofR xz7
 rw[if_neg (by omega)]
theorem w2o (N:Nat) (d:List (List Int)) (P:List Int) (hP:∀q,q<N->nI P q=q):∀i,i<=N->∀k (hk:k<(q5k N d P i).length),(q5k N d P i)[k]=if k<i then xz7 (nI (nL d k) N) (nI (nL d k) k) else(0,1)
 | 0,_,k,hk=>by simp[q5k]
 | i+1,hi,k,hk=>by
  have h1:=hP i (by omega)
  simp only[q5k,h1,Int.toNat_natCast,List.getElem_set]
  by_cases e:i=k
  ·subst e
   rw[if_pos rfl,if_pos (Nat.lt_succ_self _)]
  ·rw[if_neg e,w2o N d P hP i (by omega) k (by rw[q05] at hk ⊢; exact hk)]
   by_cases e2:k<i
   ·rw[if_pos e2,if_pos (by omega)]
   ·rw[if_neg e2,if_neg (by omega)]
theorem x5g {n N:Nat} {M:List (List Int)} (hM:Mat n (N+1) M):w8n (qc7 M N).1 (qc7 M N).2 N=(if(if qz5 (qg9 M (N+1)).piv N=true then(([],0,false):List (Int × Int) × Int × Bool) else(q5k N (qg9 M (N+1)).done_ (qg9 M (N+1)).piv (qg9 M (N+1)).piv.length,(N:Int)-(qg9 M (N+1)).piv.length,true)).2.2=false then([],8) else if 0<(if qz5 (qg9 M (N+1)).piv N=true then(([],0,false):List (Int × Int) × Int × Bool) else(q5k N (qg9 M (N+1)).done_ (qg9 M (N+1)).piv (qg9 M (N+1)).piv.length,(N:Int)-(qg9 M (N+1)).piv.length,true)).2.1 then([],11) else((if qz5 (qg9 M (N+1)).piv N=true then(([],0,false):List (Int × Int) × Int × Bool) else(q5k N (qg9 M (N+1)).done_ (qg9 M (N+1)).piv (qg9 M (N+1)).piv.length,(N:Int)-(qg9 M (N+1)).piv.length,true)).1,0)):=by
 have hst:=qz3 hM N (by omega)
 obtain⟨hrs,hcnt,_⟩:=qz4 hM (N+1) (by omega)
 generalize qc7 M N=r at *
 generalize qg9 M (N+1)=s at *
 obtain⟨rows,P⟩:=r
 obtain⟨left,dn,P3⟩:=s
 have hst:St n (N+1) (rowOf M) N rows P:=hst
 have hrs:St n (N+1) (rowOf M) (N+1) (dn++left) P3:=hrs
 have hcnt:dn.length=P3.length:=hcnt
 simp only[]
 have hD:∀i,i<P3.length->nL (dn++left) i=nL dn i:=λi hi=>ql3 _ _ (by omega)
 have hlen:=hst.len
 have hplt:∀q,q<P.length->nI P q<N:=λq hq=>(hst.pos q hq).2.1
 -- the third list's pivots
 have g1:q8k rows P N=true->∀z,Sol n (N+1) (rowOf M) z->z N=0:=λh z hz=>by
  unfold q8k at h
  rw[List.any_eq_true] at h
  obtain⟨i,hi,hb⟩:=h
  have hi:=List.mem_range.1 hi
  simp only[Bool.and_eq_true,decide_eq_true_eq,bne_iff_ne,ne_eq] at hb
  have:=(hst.sol z).1 hz i (by omega)
  unfold dt at this
  rw[qu1 (k:=N) (by omega) λc hc hne=>by
   try dsimp only
   rw[hst.zero i hb.1 (by omega) c (by omega),Int.zero_mul]] at this
  exact qd2 this hb.2
 have g2:q8k rows P N=false->Good n N (rowOf M) rows P:=λh=>by
  refine⟨⟨N,Nat.le_refl _,by omega,hst⟩,hplt,λi h1 h2=>?_⟩
  unfold q8k at h
  have:=List.any_eq_false.1 h i (List.mem_range.2 (by omega))
  simpa[h1] using this
 have g3:qz5 P3 N=true->∀z,Sol n (N+1) (rowOf M) z->z N=0:=λh z hz=>by
  unfold qz5 at h
  rw[List.any_eq_true] at h
  obtain⟨x,hx,hb⟩:=h
  obtain⟨q,hq,rfl⟩:=q72 hx
  have e:nI P3 q=(N:Int):=by simpa using hb
  obtain⟨p1,p2,p3,p4,p5⟩:=hrs.pos q hq
  rw[e,Int.toNat_natCast] at p3 p4
  have hpl:=hrs.pl
  have:=(hrs.sol z).1 hz q (by omega)
  unfold dt at this
  rw[qu1 (k:=N) (by omega) λc hc hne=>by
   try dsimp only
   rw[p4 c (by omega),Int.zero_mul]] at this
  exact qd2 this (by omega)
 have g4:qz5 P3 N=false->Good n N (rowOf M) (dn++left) P3:=λh=>by
  refine⟨⟨N+1,by omega,Nat.le_refl _,hrs⟩,λq hq=>?_,λi h1 h2=>hrs.zero i h1 h2 N (by omega)⟩
  unfold qz5 at h
  have:=List.any_eq_false.1 h _ (q71 hq)
  have p:=hrs.pos q hq
  have hne:nI P3 q≠(N:Int):=by simpa using this
  omega
 unfold w8n
 cases hn:q8k rows P N with
 | true=>
  have:qz5 P3 N=true:=by
   cases e:qz5 P3 N with
   | true=>rfl
   | false=>
    obtain⟨z,z1,z2⟩:=(g4 e).last
    exact absurd (g1 hn z z1) z2
  simp[this]
 | false=>
  have hg:=g2 hn
  have e3:qz5 P3 N=false:=by
   cases e:qz5 P3 N with
   | false=>rfl
   | true=>
    obtain⟨z,z1,z2⟩:=hg.last
    exact absurd (g3 e z z1) z2
  have hg3:=g4 e3
  have hle:=hg.asc.le
  have hle3:=hg3.asc.le
  simp only[e3,Bool.false_eq_true,if_false,Bool.true_eq_false]
  by_cases hl:P.length<N
  ·have:=hg.len hg3 hl
   rw[if_pos hl,if_pos (by omega)]
  ·have hl3:¬P3.length<N:=λh=>hl (hg3.len hg h)
   rw[if_neg hl,if_neg (by omega)]
   have eP:P.length=N:=by omega
   have eP3:P3.length=N:=by omega
   have i1:=λq (hq:q<N)=>hg.asc.id eP hq
   have i3:=λq (hq:q<N)=>hg3.asc.id eP3 hq
   congr 1
   apply List.ext_getElem
   ·rw[q05,List.length_map,List.length_range]; exact eP
   intro k h1 h2
   rw[q05] at h2
   rw[w2o N dn P3 i3 _ (by omega) k (by rw[q05]; exact h2),if_pos (by omega),List.getElem_map,List.getElem_range]
   unfold x5w
   rw[i1 k h2,Int.toNat_natCast]
   obtain⟨z,z1,_⟩:=hg.last
   have p1:=(hg.row eP z1 h2).1
   have p3:=(hg3.row eP3 z1 h2).1
   have hv:=hg.val hg3 eP eP3 h2
   rw[hD k (by omega)] at p3 hv
   rw[x03 p1]
   exact x02 p1 p3 hv
theorem q3x {m:List (List Int)} {y pix:List Int} (h:Asked m y pix):Small m.length pix.length (pix.length+1) (qf8 m pix y):=by
 have hM:=h.msk
 have h6:=hM.rows6
 have hp10:=hM.pix10
 have hpl:=h.nam.len
 have hat:∀i,i<m.length->nL (qf8 m pix y) i=qy9 (nL m i) pix++[nI y i]:=λi hi=>by
  rw[w5l m pix y i hi,qz0 m pix i hi]
 have hlo:∀i,i<m.length->∀c,c<pix.length->(nI (nL (qf8 m pix y) i) c).natAbs<=1:=λi hi c hc=>by
  rw[hat i hi,ql2 _ _ (by rw[qt7]; exact hc),q1j _ _ _ hc]
  have h1:=h.nam.at_ c hc
  have h2:=hM.small i hi (nI pix c).toNat (by omega)
  omega
 refine⟨⟨q7z m pix y,λi hi=>by rw[hat i hi,List.length_append,qt7]; rfl⟩,h6,by omega,by omega,λa c ha hc=>hlo a ha c hc,λa c ha hc=>?_⟩
 rcases Nat.lt_or_ge c pix.length with q | q
 ·have:=hlo a ha c q; omega
 ·have e:nI (nL (qf8 m pix y) a) c=nI y a:=by
   rw[hat a ha,show c=(qy9 (nL m a) pix).length by rw[qt7]; omega,qq9]
  have:=h.at_ a ha
  rw[e]
  omega
theorem x04 (m:List (List Int)) (pix y:List Int):ya8 m pix y=q8f m pix y:=by
 unfold ya8 q8f
 split
 ·rename_i h
  have hA:=Asked.of h
  have hS:=q3x hA
  have hW:rdW (qf8 m pix y)=pix.length+1:=hS.each 0 (by have:=hA.msk.rows1; omega)
  unfold svT svR svP svD qs4 ww7
  rw[hW]
  exact(x5g hS.toMat).symm
 ·rfl
theorem x05 (m:List (List Int)) (y pix:List Int):x50 m y pix=q3r m y pix:=by
 unfold x50 q3r yg5 x5d
 rw[x04]
theorem x5h {m:List (List Int)} {pix y:List Int} (hl:pix.length<=100000):q3q m pix y:=by
 refine⟨by omega,λh=>?_⟩
 have hA:=Asked.of h
 have hS:=q3x hA
 refine⟨ws0 hS,?_⟩
 have hst:=qz3 hS.toMat pix.length (by omega)
 have hpl:=hst.pl
 have hlen:=hst.len
 have hB:BIG=4000000000000000000:=rfl
 refine⟨λk hk=>?_,λk hk=>?_,λk hk=>?_⟩
 ·have:=(hst.pos k hk).2.2.1
  show nI (nL (qc7 (qf8 m pix y) pix.length).1 k) (nI (qc7 (qf8 m pix y) pix.length).2 k).toNat≠0
  omega
 ·have hk:k<(qc7 (qf8 m pix y) pix.length).2.length:=hk
  have h1:=hst.pos k hk
  have:=(hst.small hS (Nat.le_refl _) (i:=k) (by omega)).2 (nI (qc7 (qf8 m pix y) pix.length).2 k).toNat (by omega)
  show qf0 BIG (nI (nL (qc7 (qf8 m pix y) pix.length).1 k) (nI (qc7 (qf8 m pix y) pix.length).2 k).toNat)
  constructor <;> omega
 ·have hk:k<(qc7 (qf8 m pix y) pix.length).2.length:=hk
  have:=(hst.small hS (Nat.le_refl _) (i:=k) (by omega)).2 pix.length (by omega)
  show qf0 BIG (nI (nL (qc7 (qf8 m pix y) pix.length).1 k) pix.length)
  constructor <;> omega
theorem ya9 {m:List (List Int)} {pix y:List Int} (hf:x1v m) (hl:pix.length<=100000):x5c m pix y:=by
 refine⟨hf,hl,λh=>?_⟩
 have hA:=Asked.of h
 have hS:=q3x hA
 have hM:=hA.msk
 have h1:=hM.rows1
 have h6:=hM.rows6
 have hp10:=hM.pix10
 have hpl:=hA.nam.len
 have hW:rdW (qf8 m pix y)=pix.length+1:=hS.each 0 (by omega)
 obtain⟨r1,r2⟩:=xn9 hS (by omega)
 have hrst:=qz4 hS.toMat (pix.length+1) (Nat.le_refl _)
 have hB:BIG=4000000000000000000:=rfl
 have e1:svD m pix y=(qg9 (qf8 m pix y) (pix.length+1)).done_:=by unfold svD qs4; rw[hW]
 have e2:svP m pix y=(qg9 (qf8 m pix y) (pix.length+1)).piv:=by unfold svP qs4; rw[hW]
 refine⟨by omega,⟨by omega,by omega,λi hi j hj=>?_⟩,by omega,hA.len,r1,?_⟩
 ·have:=hA.nam.at_ j hj
  rw[hM.each i hi]; exact this
 ·rw[e1,e2]
  obtain⟨hst,hcnt,_⟩:=hrst
  have hlen:=hst.len
  have hpl2:=hst.pl
  rw[List.length_append] at hlen
  have hD:∀i,i<(qg9 (qf8 m pix y) (pix.length+1)).piv.length->nL ((qg9 (qf8 m pix y) (pix.length+1)).done_++(qg9 (qf8 m pix y) (pix.length+1)).left) i=nL (qg9 (qf8 m pix y) (pix.length+1)).done_ i:=λi hi=>ql3 _ _ (by omega)
  refine⟨hcnt,by omega,λk hk=>?_,λk hk=>?_,λk hk=>?_,λk hk=>?_,λk hk=>?_⟩
  ·rw[<- hD k (by omega)]; exact hst.each k (by omega)
  ·have:=hst.pos k hk; omega
  ·have:=(hst.pos k hk).2.2.1
   rw[hD k hk] at this
   omega
  ·have:=hst.pos k hk
   have:=r2 k (by omega) (nI (qg9 (qf8 m pix y) (pix.length+1)).piv k).toNat (by omega)
   constructor <;> omega
  ·have:=r2 k (by omega) pix.length (by omega)
   constructor <;> omega
structure w5m (m:List (List Int)) (y pix:List Int):Prop where
 chk:q17 m y pix=0
 rows:pix.length<=m.length
 fst:(q3r m y pix).1.1=pix
 len:(q3r m y pix).1.2.length=pix.length
theorem x5i {m:List (List Int)} {y pix:List Int} (h:(q3r m y pix).2=true):w5m m y pix:=by
 unfold q3r at h
 split at h
 ·cases h
 ·rename_i hno
  have h0:(q8f m pix y).2=0:=Classical.byContradiction λq=>hno (.inl q)
  have ef:q3r m y pix=((pix,(q8f m pix y).1),true):=by unfold q3r; rw[if_neg hno]
  rw[show w5m m y pix↔w5m m y pix from Iff.rfl]
  have hc:q17 m y pix=0:=Classical.byContradiction λq=>by
   unfold q8f at h0
   rw[if_neg q] at h0
   exact q h0
  have hA:=Asked.of hc
  have hS:=q3x hA
  have hst:=qz3 hS.toMat pix.length (by omega)
  have hpl:=hst.pl
  have es:q8f m pix y=w8n (qc7 (qf8 m pix y) pix.length).1 (qc7 (qf8 m pix y) pix.length).2 pix.length:=by unfold q8f; rw[if_pos hc]; rfl
  have hle:(qc7 (qf8 m pix y) pix.length).2.length<=pix.length:=(⟨λq hq=>⟨(hst.pos q hq).1,(hst.pos q hq).2.1⟩,hst.asc⟩:Asc pix.length _).le
  rw[es] at h0
  unfold w8n at h0
  split at h0
  ·cases h0
  ·rename_i hn
   split at h0
   ·cases h0
   ·rename_i hl
    refine⟨hc,by omega,by rw[ef],?_⟩
    rw[ef]
    show(q8f m pix y).1.length=_
    rw[es]
    unfold w8n
    rw[if_neg hn,if_neg hl]
    show(List.map _ (List.range _)).length=_
    rw[List.length_map,List.length_range]
    omega
theorem yb0 {m:List (List Int)} {y pix:List Int} (h:w5m m y pix):x0m (nL m 0).length (q3r m y pix).1:=by
 have hA:=Asked.of h.chk
 have h6:=hA.msk.rows6
 have hr:=h.rows
 refine⟨by rw[h.len,h.fst],by rw[h.fst]; omega,λj hj=>?_⟩
 rw[h.fst] at hj ⊢
 exact hA.nam.at_ j hj
theorem xo0:((List.range 8).all λn=>decide (w4p n=(List.range (n+1)).flatMap λ(k:Nat)=>qe9 (n:Nat) (k:Nat)))=true:=by decide +kernel
theorem x06 {n:Nat} (h:n<=7):w4p n=(List.range (n+1)).flatMap λ(k:Nat)=>qe9 (n:Nat) (k:Nat):=by
 have:=List.all_eq_true.1 xo0 n (List.mem_range.2 (by omega))
 exact of_decide_eq_true this
theorem q76 {n k:Nat} {s:List Int} (h:s∈qe9 (n:Nat) (k:Nat)):s.length=k/\k<=n:=by
 unfold qe9 at h
 split at h
 ·have:=wm7 h
  exact⟨by omega,by omega⟩
 ·cases h
theorem wy9 (m:List (List Int)) (y:List Int) (s t:List (List Int)):qg4 m y (s++t)=qg4 m y s++qg4 m y t:=List.filterMap_append
theorem wz3 (m:List (List Int)) (y:List Int) (s:List (List Int)):q51 m y s=qg4 m y s:=by
 unfold q51 qg4
 congr 1
 funext pix
 rw[x05]
theorem ws3 (m:List (List Int)) (y:List Int):∀K,qi6 m y K=qg4 m y ((List.range K).flatMap λ(k:Nat)=>qe9 (nL m 0).length (k:Nat))
 | 0=>rfl
 | K+1=>by
  rw[qi6,ws3 m y K,List.range_succ,List.flatMap_append,wy9]
  simp
theorem x07 {m:List (List Int)} (y:List Int) (h:(nL m 0).length<=7):x00 m y=qi6 m y ((nL m 0).length+1):=by
 unfold x00
 rw[wz3,x06 h,ws3]
theorem q77 {m:List (List Int)} {y:List Int} {s:List (List Int)} {f:Fit} (h:f∈qg4 m y s):∃pix∈s,w5m m y pix/\f=(q3r m y pix).1:=by
 unfold qg4 at h
 rw[List.mem_filterMap] at h
 obtain⟨pix,h1,h2⟩:=h
 split at h2
 ·rename_i h3
  exact⟨pix,h1,x5i h3,(Option.some.inj h2).symm⟩
 ·cases h2
theorem q78 {m:List (List Int)} {y:List Int} {k:Nat} {f:Fit} (h:f∈qg4 m y (qe9 (nL m 0).length (k:Nat))):f.1.length=k/\k<=m.length/\k<=(nL m 0).length:=by
 obtain⟨pix,h1,h2,rfl⟩:=q77 h
 have h3:=q76 h1
 have h4:=h2.rows
 rw[h2.fst]
 omega
theorem xa5 (m:List (List Int)) (y:List Int) {k:Int} (hk:0<=k):∀K,w96 k (qi6 m y K)=qi6 m y (min K (fitsN m k))
 | 0=>by rw[Nat.zero_min]; rfl
 | K+1=>by
  have hN:fitsN m k=(min (min k (nL m 0).length) m.length+1).toNat:=rfl
  rw[qi6]
  unfold w96
  rw[List.filter_append]
  have ih:=xa5 m y hk K
  unfold w96 at ih
  rw[ih]
  by_cases e:K<fitsN m k
  ·rw[show min K (fitsN m k)=K by omega,show min (K+1) (fitsN m k)=K+1 by omega,qi6]
   congr 1
   rw[List.filter_eq_self]
   intro f hf
   have:=q78 hf
   exact decide_eq_true (by omega)
  ·rw[show min K (fitsN m k)=fitsN m k by omega,show min (K+1) (fitsN m k)=fitsN m k by omega]
   rw[List.filter_eq_nil_iff.2 λf hf=>?_,List.append_nil]
   have:=q78 hf
   rw[decide_eq_true_eq]
   omega
theorem xo1 {m:List (List Int)} (y:List Int) {k:Int} (hk:0<=k) (h7:(nL m 0).length<=7):q2r m y k=w96 k (x00 m y):=by
 rw[x07 y h7,xa5 m y hk]
 have hN:fitsN m k=(min (min k (nL m 0).length) m.length+1).toNat:=rfl
 unfold q2r
 rw[show min ((nL m 0).length+1) (fitsN m k)=fitsN m k by omega]
theorem x08 {m:List (List Int)} {y:List Int} (hf:x1v m) (hM:Mk m) (h7:(nL m 0).length<=7):w95 m y:=by
 have h1:=hM.rows1
 refine⟨by omega,h7,λs hs=>ya9 hf ?_⟩
 have:=((wn5 (n:=(nL m 0).length) (k:=128) h7 (Nat.le_refl _)).2 s hs).1
 omega
theorem x1a {m:List (List Int)} {y:List Int} (h:wc9 m y=0):Mk m:=Mk.of (w2k (pix:=[]) h).2
theorem x1b (m:List (List Int)) (y:List Int):q17 m y []=wc9 m y:=by
 by_cases h:wc9 m y=0
 ·rw[(w2k h).1,h]; rfl
 ·exact x0z h
theorem xo2 {m:List (List Int)} {y:List Int} {k:Int} (hf:x1v m) (hM:Mk m) (h7:(nL m 0).length<=7) (h0:0<=k) (h1:k<=10):w1x m y k:=by
 have r1:=hM.rows1
 have r6:=hM.rows6
 refine⟨⟨h0,by omega,by omega,by omega,by omega,λj hj s hs=>?_⟩,?_⟩
 ·have:=q76 hs
  exact⟨x5h (by omega),by omega⟩
 ·rw[xo1 y h0 h7]
  have e1:=xn5 (x08 (y:=y) hf hM h7)
  have e2:(w96 k (x00 m y)).length<=(x00 m y).length:=List.length_filter_le _ _
  omega
theorem q90 {m:List (List Int)} {y:List Int}:∀K,∀f∈qi6 m y K,∃pix,w5m m y pix/\f=(q3r m y pix).1
 | 0,f,h=>by cases h
 | K+1,f,h=>by
  rcases List.mem_append.1 h with h | h
  ·exact q90 K f h
  ·obtain⟨pix,_,h1,h2⟩:=q77 h
   exact⟨pix,h1,h2⟩
theorem q79 (l:List Int) {p:Nat} (hp:p<l.length) (x:Int) (q:Nat):nI (l.set p x) q=if q=p then x else nI l q:=by
 by_cases e:q=p
 ·subst e
  rw[if_pos rfl,qh0 _ _ (by rw[List.length_set]; exact hp),List.getElem_set_self]
 ·rw[if_neg e]
  unfold nI qe6
  rw[List.getD_eq_getElem?_getD,List.getD_eq_getElem?_getD,List.getElem?_set_ne (Ne.symm e)]
theorem x5j {m:List (List Int)} {y:List Int} {k:Int} (h:q8l m y k=0):wc9 m y=0/\0<=k/\k<=10:=by
 unfold q8l at h
 rw[x1b] at h
 split at h
 ·rename_i h1
  split at h
  ·rename_i h2; exact⟨h1,qh6.1 h2⟩
  ·cases h
 ·rename_i h1; exact absurd h h1
theorem wz4 {m:List (List Int)} {y:List Int} {k:Int} {f:Fit} (hf:f∈q2r m y k):Named (nL m 0).length f.1/\x0m (nL m 0).length f:=by
 obtain⟨pix,h1,rfl⟩:=q90 _ f hf
 refine⟨?_,yb0 h1⟩
 rw[h1.fst]
 exact(Asked.of h1.chk).nam
theorem yb1 {m:List (List Int)} {y:List Int} {k:Int} (hf:x1v m) (hl:w88 m=true) (h:q8l m y k=0):wy0 m y k:=by
 obtain⟨h1,h2,h3⟩:=x5j h
 have hM:=x1a h1
 exact⟨xo2 hf hM (xk8 hl hM) h2 h3,λf hf=>(wz4 hf).2⟩
theorem wg7:∀(N:Nat) {n:Nat} {f:Nat->Int} {τ:Nat->Nat},(∀q,q<N->τ q<n)->(∀q k,q<N->k<N->τ q=τ k->q=k)->(∀b,b<n->(∀q,q<N->τ q≠b)->f b=0)->sm n f=sm N λq=>f (τ q)
 | 0,n,f,τ,_,_,h=>qt9 λb hb=>h b hb λq hq=>absurd hq (Nat.not_lt_zero _)
 | N+1,n,f,τ,h1,h2,h3=>by
  have e:sm n f=sm n (λb=>if b=τ N then 0 else f b)+sm n (λb=>if b=τ N then f b else 0):=by
   rw[<- w2c]
   refine qg7 λb _=>?_
   by_cases q:b=τ N
   ·rw[if_pos q,if_pos q]; omega
   ·rw[if_neg q,if_neg q]; omega
  have ih:=wg7 N (n:=n) (f:=λb=>if b=τ N then 0 else f b) (τ:=τ) (λq hq=>h1 q (by omega)) (λq k hq hk=>h2 q k (by omega) (by omega)) λb hb hq=>by
   try dsimp only
   by_cases q:b=τ N
   ·rw[if_pos q]
   ·rw[if_neg q]
    refine h3 b hb λk hk=>?_
    rcases Nat.lt_succ_iff_lt_or_eq.1 hk with q2 | q2
    ·exact hq k q2
    ·rw[q2]; exact Ne.symm q
  rw[e,ih,qu1 (k:=τ N) (h1 N (by omega)) λb _ hne=>if_neg hne,if_pos rfl,sm]
  congr 1
  refine qg7 λq hq=>?_
  try dsimp only
  rw[if_neg λk=>by have:=h2 q N (by omega) (by omega) k; omega]
end Go.Proofs.YtmijnbjlhnpokaaGreat
