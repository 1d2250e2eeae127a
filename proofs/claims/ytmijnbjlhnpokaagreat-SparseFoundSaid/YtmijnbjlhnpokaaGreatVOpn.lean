/- Lengths of a slice of slices. No condition. -/
import Derived.Test.YtmijnbjlhnpokaaGreatZ18
import Derived.Test.YtmijnbjlhnpokaaGreatKCohLaw
import Derived.Test.YtmijnbjlhnpokaaGreatQLay
import Derived.Test.YtmijnbjlhnpokaaGreatV26
import Derived.Test.YtmijnbjlhnpokaaGreatW11
import Derived.Test.YtmijnbjlhnpokaaGreatZ8
import Derived.Test.YtmijnbjlhnpokaaGreatRows
import Derived.Test.YtmijnbjlhnpokaaGreatCore
import Derived.ProofKit
import Derived.OpenShut
import Derived.ShutString
import Derived.ChangeOld
import Derived.Below
import Derived.Deep.Matrix
set_option linter.unusedVariables false
namespace Go.Proofs.YtmijnbjlhnpokaaGreat
open Go Go.RowKit Eng
theorem xc7 (m:List (List Int)):K.validB m=validB m:=rfl
theorem xc8 (f:Nat->Int):∀n,sm (n+1) f=f 0+sm n λi=>f (i+1)
 | 0=>by simp[sm]
 | n+1=>by rw[sm,xc8 f n,sm]; omega
theorem q44:∀(m:List (List Int)) (i j:Nat),K.dotI (K.colA m i) (K.colA m j)=sm m.length λa=>nI (nL m a) i*nI (nL m a) j
 | [],_,_=>rfl
 | r :: m,i,j=>by
  rw[List.length_cons,xc8]
  show nI r i*nI r j+K.dotI (K.colA m i) (K.colA m j)=_
  rw[q44 m i j]
  rfl
def cq (m:List (List Int)) (i j:Nat):Int:=sm m.length λa=>nI (nL m a) i*nI (nL m a) j
theorem x44 (m:List (List Int)) (i j:Nat):cq m i j=cq m j i:=qa7 λa _=>Int.mul_comm _ _
theorem x8o (m:List (List Int)) (i:Nat):0<=cq m i i:=by
 unfold cq
 generalize m.length=n
 induction n with
 | zero=>exact Int.le_refl _
 | succ n ih=>rw[sm]; have:=isq (nI (nL m n) i); omega
theorem x05 {m:List (List Int)} {i j:Nat} (h:i<j) (hj:j<(nL m 0).length):(i,j)∈K.prsL m:=by
 unfold K.prsL
 rw[K.mem_prs]
 have hj:j<(qd4 (.list (.int .i64)) m 0:List Int).length:=hj
 exact⟨by omega,h,hj⟩
theorem q6g {m:List (List Int)} {b:Int × Int} (hB:K.Best m (K.prsL m) b) {i j:Nat} (h:i<j) (hj:j<(nL m 0).length):0<cq m i i*cq m j j/\cq m i j*cq m i j*b.2<=b.1*(cq m i i*cq m j j):=by
 obtain⟨h1,h2⟩:=hB.all _ (x05 h hj)
 unfold K.lk K.likP at h1 h2
 simp only at h1 h2
 split at h1
 ·cases h1
 ·rename_i h0
  rw[if_neg h0] at h2
  unfold K.likeD K.likeN at *
  rw[q44,q44] at h0
  rw[q44,q44,q44] at h2
  change ¬(cq m i i*cq m j j).toNat=0 at h0
  change K.ratN (cq m i j*cq m i j).toNat (cq m i i*cq m j j).toNat*b.2<=b.1*K.ratD (cq m i j*cq m i j).toNat (cq m i i*cq m j j).toNat at h2
  have hP:0<cq m i i*cq m j j:=by omega
  refine⟨hP,?_⟩
  have hQ:=isq (cq m i j)
  generalize cq m i i*cq m j j=P at *
  generalize cq m i j*cq m i j=Q at *
  obtain⟨p,rfl⟩:=Int.eq_ofNat_of_zero_le (Int.le_of_lt hP)
  obtain⟨q,rfl⟩:=Int.eq_ofNat_of_zero_le hQ
  simp only[Int.toNat_natCast] at h2
  unfold K.ratN K.ratD at h2
  have e1:Nat.gcd q p*(q / Nat.gcd q p)=q:=Nat.mul_div_cancel' (Nat.gcd_dvd_left q p)
  have e2:Nat.gcd q p*(p / Nat.gcd q p)=p:=Nat.mul_div_cancel' (Nat.gcd_dvd_right q p)
  generalize Nat.gcd q p=g at *
  generalize q / g=x at *
  generalize p / g=y at *
  subst e1
  subst e2
  have h3:=Int.mul_le_mul_of_nonneg_left h2 (Int.natCast_nonneg g)
  have e3:((g*x:Nat):Int)*b.2=g*(x*b.2):=by rw[Int.natCast_mul,Int.mul_assoc]
  have e4:b.1*((g*y:Nat):Int)=g*(b.1*y):=by rw[Int.natCast_mul,<- Int.mul_assoc,Int.mul_comm b.1,Int.mul_assoc]
  rw[e3,e4]
  exact h3
def w0c (m:List (List Int)):Int:=K.cohE m
def wt8 (m:List (List Int)):Int:=if K.cohE m=0 then(bndTo (K.cohR m).1 (K.cohR m).2 (nL m 0).length 0:Nat) else 0
theorem x8p {m:List (List Int)} {d:Nat->Int} (h:Sol m.length (nL m 0).length (rowOf m) d) (j:Nat):(sm (nL m 0).length λc=>d c*cq m c j)=0:=by
 have e:(sm (nL m 0).length λc=>d c*cq m c j)=sm m.length λa=>nI (nL m a) j*sm (nL m 0).length λc=>rowOf m a c*d c:=by
  have e1:(sm (nL m 0).length λc=>d c*cq m c j)=sm (nL m 0).length λc=>sm m.length λa=>d c*(nI (nL m a) c*nI (nL m a) j):=qa7 λc _=>(qf7 _ _ _).symm
  rw[e1,qv7]
  refine qa7 λa _=>?_
  rw[<- qf7]
  refine qa7 λc _=>?_
  show d c*(nI (nL m a) c*nI (nL m a) j)=nI (nL m a) j*(nI (nL m a) c*d c)
  grind
 rw[e]
 exact sm_zero λa ha=>by rw[h a ha,Int.mul_zero]
theorem xc9 {m:List (List Int)} (he:w0c m=0):validB m=true/\∃N D:Int,0<=N/\0<D/\(∀c,c<(nL m 0).length->0<cq m c c)/\(∀i j,i<(nL m 0).length->j<(nL m 0).length->i≠j->cq m i j*cq m i j*D<=N*(cq m i i*cq m j j))/\wt8 m=(bndTo N D (nL m 0).length 0:Nat):=by
 obtain⟨hv,b,hb,hR,_⟩:=K.coh_some he
 have hv:validB m=true:=hv
 have hB:=K.cohF_best hb
 have hM:=Mk.of hv
 have hn2:2<=(nL m 0).length:=by
  refine Classical.byContradiction λq=>?_
  have e:K.cohE m=8:=by
   unfold K.cohE
   rw[if_neg (by rw[xc7,hv]; decide),if_pos (show(qd4 (.list (.int .i64)) m 0:List Int).length<2 from Nat.lt_of_not_le q)]
  have he:K.cohE m=0:=he
  rw[e] at he; cases he
 have hp:∀c,c<(nL m 0).length->0<cq m c c:=λc hc=>by
  have hne:∀i,i<c\/c<i->i<(nL m 0).length->cq m c c≠0:=λi hi hin e=>by
   rcases hi with hi | hi
   ·have:=(q6g hB hi hc).1
    rw[e,Int.mul_zero] at this; omega
   ·have:=(q6g hB hi hin).1
    rw[e,Int.zero_mul] at this; omega
  have h0:=x8o m c
  have h1:cq m c c≠0:=by
   by_cases q:c=0
   ·exact hne 1 (.inr (by omega)) (by omega)
   ·exact hne 0 (.inl (by omega)) (by omega)
  omega
 have hq:∀i j,i<(nL m 0).length->j<(nL m 0).length->i≠j->cq m i j*cq m i j*b.2<=b.1*(cq m i i*cq m j j):=λi j hi hj hne=>by
  rcases Nat.lt_or_gt_of_ne hne with q | q
  ·exact(q6g hB q hj).2
  ·have:=(q6g hB q hi).2
   rw[x44 m i j,Int.mul_comm (cq m i i)]
   exact this
 exact⟨hv,b.1,b.2,hB.lo.1,hB.lo.2.1,hp,hq,by unfold wt8; rw[if_pos (show K.cohE m=0 from he),hR]⟩
theorem x06 {Y E N D:Int} {k:Nat} (hk:1<=k) (hY:Y≠0) (hN:0<=N) (hD:0<D) (hb:(2*(k:Int)-1)*(2*(k:Int)-1)*N<D) (hE:E*E*D<=((k:Int)-1)*((k:Int)-1)*(N*(Y*Y))):(k:Int)*k*(N*(Y*Y))<(Y+E)*(Y+E)*D:=by
 obtain⟨p,rfl⟩:∃p,k=p+1:=⟨k-1,by omega⟩
 have e1:((p+1:Nat):Int)-1=p:=by omega
 have e2:2*((p+1:Nat):Int)-1=2*p+1:=by omega
 rw[e1] at hE
 rw[e2] at hb
 obtain⟨s,hs⟩:∃s:Int,s=2*p+1:=⟨_,rfl⟩
 rw[<- hs] at hb
 have hYY:=q1k Y
 have h1:(E*s)*(E*s)<=(p*Y)*(p*Y):=by
  refine Int.le_of_mul_le_mul_right (a:=D) ?_ hD
  have c1:(E*s)*(E*s)*D=(E*E*D)*(s*s):=by grind
  have c2:=Int.mul_le_mul_of_nonneg_right hE (q1k s)
  have c3:(p:Int)*p*(N*(Y*Y))*(s*s)=(p*Y)*(p*Y)*(s*s*N):=by grind
  have c4:=Int.mul_le_mul_of_nonneg_left (Int.le_of_lt hb) (q1k ((p:Int)*Y))
  rw[c1]
  rw[c3] at c2
  exact Int.le_trans c2 c4
 have h2:(E*s).natAbs<=((p:Int)*Y).natAbs:=by
  refine Classical.byContradiction λq=>?_
  have:=Nat.mul_self_lt_mul_self (Nat.lt_of_not_le q)
  rw[<- Int.natAbs_mul,<- Int.natAbs_mul] at this
  have a1:=q1k (E*s)
  have a2:=q1k ((p:Int)*Y)
  omega
 have hs0:s.natAbs=2*p+1:=by omega
 rw[Int.natAbs_mul,Int.natAbs_mul,hs0,Int.natAbs_natCast] at h2
 have h3:Y.natAbs<=(Y+E).natAbs+E.natAbs:=by omega
 have h4:(p+1)*Y.natAbs<=(Y+E).natAbs*(2*p+1):=by
  have:=Nat.mul_le_mul_right (2*p+1) h3
  rw[Nat.add_mul] at this
  have e:Y.natAbs*(2*p+1)=(p+1)*Y.natAbs+p*Y.natAbs:=by
   rw[<- Nat.add_mul,Nat.mul_comm]; congr 1; omega
  refine Nat.le_of_add_le_add_right (b:=p*Y.natAbs) ?_
  rw[<- e]
  exact Nat.le_trans this (Nat.add_le_add_left h2 _)
 have hy0:0<Y.natAbs:=by omega
 have ht0:(Y+E).natAbs≠0:=λq=>by
  rw[q,Nat.zero_mul] at h4
  exact absurd (Nat.lt_of_lt_of_le (Nat.mul_pos (Nat.succ_pos p) hy0) h4) (Nat.lt_irrefl _)
 have h5:=Nat.mul_self_le_mul_self h4
 have h6:((p+1:Nat):Int)*(p+1:Nat)*(Y*Y)<=(Y+E)*(Y+E)*(s*s):=by
  have a1:(((p+1)*Y.natAbs*((p+1)*Y.natAbs):Nat):Int)=((p+1:Nat):Int)*(p+1:Nat)*(Y*Y):=by
   rw[Int.natCast_mul,Int.natCast_mul]
   have:((Y.natAbs:Nat):Int)*Y.natAbs=Y*Y:=Int.natAbs_mul_self
   generalize((p+1:Nat):Int)=u
   rw[<- this]; grind
  have a2:(((Y+E).natAbs*(2*p+1)*((Y+E).natAbs*(2*p+1)):Nat):Int)=(Y+E)*(Y+E)*(s*s):=by
   rw[Int.natCast_mul,Int.natCast_mul]
   have:(((Y+E).natAbs:Nat):Int)*(Y+E).natAbs=(Y+E)*(Y+E):=Int.natAbs_mul_self
   have e3:((2*p+1:Nat):Int)=s:=by omega
   rw[e3,<- this]; grind
  rw[<- a1,<- a2]
  exact Int.ofNat_le.2 h5
 have h7:0<(Y+E)*(Y+E):=by
  have:=q1k (Y+E)
  have h8:(Y+E)*(Y+E)≠0:=ql7 (by omega) (by omega)
  omega
 have h8:=Int.mul_le_mul_of_nonneg_right h6 hN
 have h9:=Int.mul_lt_mul_of_pos_left hb h7
 have c1:((p+1:Nat):Int)*(p+1:Nat)*(Y*Y)*N=((p+1:Nat):Int)*(p+1:Nat)*(N*(Y*Y)):=by grind
 have c2:(Y+E)*(Y+E)*(s*s)*N=(Y+E)*(Y+E)*(s*s*N):=by grind
 rw[c1,c2] at h8
 omega
theorem xp3 {n:Nat} {q:Nat->Nat->Int} {a e:Nat->Int} {N D:Int} (hN:0<=N) (hD:0<D) (hp:∀c,c<n->0<q c c)
  (hq:∀i j,i<n->j<n->i≠j->q i j*q i j*D<=N*(q i i*q j j)) (hs:∀c,c<n->e c=0->a c=0) {i0:Nat} (h0:i0<n) (ha:a i0≠0) (hmax:∀c,c<n->a c*a c*q c c<=a i0*a i0*q i0 i0)
  (hb:(2*(cntN n e:Int)-1)*(2*(cntN n e:Int)-1)*N<D) :
  (sm n λc=>a c*q c i0)≠0/\∀j,j<n->e j=0->(sm n λc=>a c*q c j)*(sm n λc=>a c*q c j)*q i0 i0<(sm n λc=>a c*q c i0)*(sm n λc=>a c*q c i0)*q j j:=by
 have he0:e i0≠0:=λk=>ha (hs i0 h0 k)
 have hG:=hp i0 h0
 obtain⟨k,hk⟩:∃k,k=cntN n e:=⟨_,rfl⟩
 rw[<- hk] at hb
 -- what the others add
 obtain⟨x,hx⟩:∃x:Nat->Int,∀c,x c=if c=i0 then 0 else a c*q c i0:=⟨_,λ_=>rfl⟩
 obtain⟨e',he'⟩:∃e':Nat->Int,∀c,e' c=if c=i0 then 0 else e c:=⟨_,λ_=>rfl⟩
 have hk':cntN n e'+1<=k:=by
  rw[hk]
  exact cnt_lt (c0:=i0) (by rw[he',if_pos rfl]) he0 n h0 λc hc h=>by
   rw[he'] at h
   split at h
   ·exact absurd rfl h
   ·exact h
 have hP0:(sm n λc=>a c*q c i0)=a i0*q i0 i0+sm n x:=by
  have h1:(sm n λc=>a c*q c i0)=(sm n λc=>if c=i0 then a i0*q i0 i0 else 0)+sm n x:=by
   rw[<- q3n]
   refine qa7 λc _=>?_
   rw[hx]
   by_cases h:c=i0
   ·rw[if_pos h,if_pos h,h]; omega
   ·rw[if_neg h,if_neg h]; omega
  rw[h1,qk1 h0 λc _ h=>if_neg h,if_pos rfl]
 have hxs:∀c,c<n->e' c=0->x c=0:=λc hc h=>by
  rw[hx]
  by_cases h1:c=i0
  ·rw[if_pos h1]
  ·rw[if_neg h1]
   rw[he',if_neg h1] at h
   rw[hs c hc h,Int.zero_mul]
 have hE:sm n x*sm n x*D<=((k:Int)-1)*((k:Int)-1)*(N*((a i0*q i0 i0)*(a i0*q i0 i0))):=by
  obtain⟨h1,h2,_⟩:=xo6 (e:=e') (x:=x) n hxs
  have h3:=w2v (e:=e') (g:=λc=>D*(x c*x c)) (B:=N*q i0 i0*(a i0*a i0*q i0 i0)) n (λc hc h=>by(try dsimp only); rw[hxs c hc h]; simp) λc hc=>by
   try dsimp only
   rw[hx]
   by_cases h:c=i0
   ·rw[if_pos h]
    have:=Int.mul_nonneg (Int.mul_nonneg hN (Int.le_of_lt hG)) (Int.mul_nonneg (q1k (a i0)) (Int.le_of_lt hG))
    simpa using this
   ·rw[if_neg h]
    have c1:=Int.mul_le_mul_of_nonneg_left (hq c i0 hc h0 h) (q1k (a c))
    have c2:=Int.mul_le_mul_of_nonneg_left (hmax c hc) (Int.mul_nonneg hN (Int.le_of_lt hG))
    have e1:D*(a c*q c i0*(a c*q c i0))=a c*a c*(q c i0*q c i0*D):=by grind
    have e2:a c*a c*(N*(q c c*q i0 i0))=N*q i0 i0*(a c*a c*q c c):=by grind
    rw[e1]; rw[e2] at c1
    exact Int.le_trans c1 c2
  rw[qf7] at h3
  have h4:=Int.mul_le_mul_of_nonneg_right h1 (Int.le_of_lt hD)
  have h5:=Int.mul_le_mul_of_nonneg_left h3 (Int.natCast_nonneg (cntN n e'))
  have e3:(cntN n e':Int)*(sm n λc=>x c*x c)*D=(cntN n e':Int)*(D*sm n λc=>x c*x c):=by grind
  have e4:(cntN n e':Int)*((cntN n e':Int)*(N*q i0 i0*(a i0*a i0*q i0 i0)))=((cntN n e':Int)*cntN n e')*(N*(a i0*q i0 i0*(a i0*q i0 i0))):=by grind
  have h6:(cntN n e':Int)*cntN n e'<=((k:Int)-1)*((k:Int)-1):=Int.mul_le_mul (by omega) (by omega) (by omega) (by omega)
  have h7:=Int.mul_le_mul_of_nonneg_right h6 (Int.mul_nonneg hN (q1k (a i0*q i0 i0)))
  rw[e3] at h4
  rw[e4] at h5
  exact Int.le_trans h4 (Int.le_trans h5 h7)
 have hY:a i0*q i0 i0≠0:=ql7 ha (by omega)
 have hnum:=x06 (by omega) hY hN hD hb hE
 rw[<- hP0] at hnum
 have hNY:0<=(k:Int)*k*(N*(a i0*q i0 i0*(a i0*q i0 i0))):=Int.mul_nonneg (Int.mul_nonneg (Int.natCast_nonneg k) (Int.natCast_nonneg k)) (Int.mul_nonneg hN (q1k _))
 refine⟨λh=>by rw[h] at hnum; simp only[Int.mul_zero,Int.zero_mul] at hnum; omega,λj hj hej=>?_⟩
 have hg:=hp j hj
 -- what another column sees
 have hO:(sm n λc=>a c*q c j)*(sm n λc=>a c*q c j)*D<=(k:Int)*k*(N*q j j*(a i0*a i0*q i0 i0)):=by
  obtain⟨h1,h2,_⟩:=xo6 (e:=e) (x:=λc=>a c*q c j) n λc hc h=>by(try dsimp only); rw[hs c hc h,Int.zero_mul]
  have h3:=w2v (e:=e) (g:=λc=>D*(a c*q c j*(a c*q c j))) (B:=N*q j j*(a i0*a i0*q i0 i0)) n (λc hc h=>by(try dsimp only); rw[hs c hc h]; simp) λc hc=>by
   try dsimp only
   by_cases h:c=j
   ·rw[h,hs j hj hej]
    have:=Int.mul_nonneg (Int.mul_nonneg hN (Int.le_of_lt hg)) (Int.mul_nonneg (q1k (a i0)) (Int.le_of_lt hG))
    simpa using this
   ·have c1:=Int.mul_le_mul_of_nonneg_left (hq c j hc hj h) (q1k (a c))
    have c2:=Int.mul_le_mul_of_nonneg_left (hmax c hc) (Int.mul_nonneg hN (Int.le_of_lt hg))
    have e1:D*(a c*q c j*(a c*q c j))=a c*a c*(q c j*q c j*D):=by grind
    have e2:a c*a c*(N*(q c c*q j j))=N*q j j*(a c*a c*q c c):=by grind
    rw[e1]; rw[e2] at c1
    exact Int.le_trans c1 c2
  rw[qf7] at h3
  rw[<- hk] at h1 h3
  have h4:=Int.mul_le_mul_of_nonneg_right h1 (Int.le_of_lt hD)
  have h5:=Int.mul_le_mul_of_nonneg_left h3 (Int.natCast_nonneg k)
  have e3:(k:Int)*(sm n λc=>a c*q c j*(a c*q c j))*D=(k:Int)*(D*sm n λc=>a c*q c j*(a c*q c j)):=by grind
  rw[e3] at h4
  rw[Int.mul_assoc (k:Int) k]
  exact Int.le_trans h4 h5
 generalize(sm n λc=>a c*q c j)=O at *
 generalize(sm n λc=>a c*q c i0)=P at *
 refine Int.lt_of_mul_lt_mul_right (a:=D) ?_ (Int.le_of_lt hD)
 have c1:=Int.mul_le_mul_of_nonneg_right hO (Int.le_of_lt hG)
 have c2:=Int.mul_lt_mul_of_pos_left hnum hg
 have e1:O*O*D*q i0 i0=O*O*q i0 i0*D:=by grind
 have e2:(k:Int)*k*(N*q j j*(a i0*a i0*q i0 i0))*q i0 i0=q j j*((k:Int)*k*(N*(a i0*q i0 i0*(a i0*q i0 i0)))):=by grind
 have e3:q j j*(P*P*D)=P*P*q j j*D:=by grind
 rw[e1,e2] at c1
 rw[e3] at c2
 exact Int.lt_of_le_of_lt c1 c2
end Go.Proofs.YtmijnbjlhnpokaaGreat
set_option linter.unusedSimpArgs false
namespace Go.Proofs.YtmijnbjlhnpokaaGreat
open Go Go.RowKit Eng
def x8q (m:List (List Int)) (y:List Int):Nat->Option Inv
 | 0=>some (Inv.of [] 2 (λC:List Int=>[]) (λC=>[.box 109 (.cons (.dat (.list (.int .i64)) m) (.cons (.dat (.int .i64) y) (.cons (.own 1) .nil))),.vec 3 (.int .i64) C]) (λC=>PurI m y C) (λC=>7-C.length))
 | _=>none
open Go Go.Proofs Go.RowKit Eng Ls Go.Sort Go.Shelf
def x07 (zs:List Int) (c:AV) (k:List Int->Prop):Prop:=match c with
 | .nil=>need (zs.length<=1000000) λ_=>k (zs.mergeSort λx y=>decide (x<=y))
 | _=>False
theorem w22 (zs:List Int) (c:AV) (k:List Int->Prop) (h:x07 zs c k):∃l,k l/\∀k':List Int->Prop,k' l->x07 zs c k':=by
 unfold x07 at h
 split at h
 ·exact⟨_,h.2,λk' hk=>⟨h.1,hk⟩⟩
 ·exact h.elim
theorem w0d {P:Program} {ρ:Ren} {f eh e:Nat} (hc:qk5 P f) (L:SlLaysM.n5 P ρ) (hf:ρ.f 5=f):qs1 P f (sortSpec eh e x07 w22):=by
 have nilA:∀{args:AV} {m:View} {vs:List Value} {zs k},args.ok P m [] vs->x07 zs args k->vs=[]/\zs.length<=1000000/\k (zs.mergeSort λx y=>decide (x<=y)):=λ{args m vs zs k} h1 h2=>by
  unfold x07 at h2
  split at h2
  ·exact⟨h1,h2.1,h2.2⟩
  ·exact h2.elim
 refine w35 hc (λw m args vs k hargs hrun=>?_) λw m zs args vs k blk cap hm hmb hargs hrun hH hblk hlen=>?_
 ·obtain⟨rfl,hl,hk⟩:=nilA hargs hrun
  refine⟨by simpa using hk,?_⟩
  have:=AnyM.slices_Sort_int_none L none 0 w
  rw[hf] at this
  exact this
 ·obtain⟨rfl,hl,hk⟩:=nilA hargs hrun
  refine⟨_,hk,by simp,?_⟩
  have:=AnyM.slices_Sort_int L blk 0 cap zs w hH hblk (by omega)
  rw[hf] at this
  exact this
abbrev x8r:qp4:=sortSpec 0 3 x07 w22
theorem xd0:qs1 Tryz.prog 94 x8r:=w0d ⟨_,_,Tryz.func94,rfl,rfl⟩ Tryz.sortI rfl
abbrev x8s:qb9:=qg2 true (some 3) [tMask,tInts] [tInts,tInt] (λ_=>True) (λx=>((q21 x.1 x.2.1).1,(q21 x.1 x.2.1).2,()))
theorem w5f:Meets Tryz.prog 35 x8s:=by
 refine meets (snd (SpecsOk.cons q7i (SpecsOk.cons xa2 (SpecsOk.nil _)))) Tryz.func35 rfl rfl (λx=>x8q x.1 x.2.1) (λ_=>by kernel_rfl) (by decide) ?_
 rintro⟨m,y,⟨⟩⟩ -
 revert m y
 intro(m:List (List Int)) (y:List Int)
 refine @qe1 _ (let Q0:=q21 m y; Value.slice none (0:Nat) (0:Nat)=Value.slice none (0:Nat) (0:Nat)/\(0:Nat)<=(1000000:Nat)/\((qr5 m y [] != (0:Int))=true->Q0.1=[]/\qr5 m y []=Q0.2/\True)/\((qr5 m y [] != (0:Int))=false->∃(v1:Unit),∃(v2:List Int),PurI m y v2/\(True/\(m=m/\y=y/\True/\True)/\v2=[]/\True)/\∀(v3:List Int),PurI m y v3->xo0 m y v3/\(((qk4 m y v3).2==(8:Int))=true->v3=Q0.1/\(0:Int)=Q0.2/\True)/\(((qk4 m y v3).2==(8:Int))=false->(((qk4 m y v3).2==(10:Int))=true->Q0.1=[]/\(qk4 m y v3).2=Q0.2/\True)/\(((qk4 m y v3).2==(10:Int))=false->((0:Nat)<List.length [(qk4 m y v3).1]/\Nat.le (v3.length+List.length [(qk4 m y v3).1]) (1000000:Nat))/\∃(v7:List Int),PurI m y v7/\(7:Nat)-v7.length<(7:Nat)-v3.length/\True/\(m=m/\y=y/\True/\True)/\v3++[(qk4 m y v3).1]=v7/\True)))) (by kernel_rfl) ?_
 try simp only[z0,z1,z2,z3,z4,z5,z6,z7,z8,z9,z10,Int.reduceEq,z11,z12,z13,z14,z15,z16,z17,z18,z19,z20,z21,z22,z23,z24,z25,z26,z27,z28,z29,z30,Int.reduceLE,Int.reduceLT,z31,z32,z33,z34,qa3]
 try simp only[qb5,qb6,qd0,z31,z32,z2,z1]
 refine⟨by decide,λhe=>?_,λhe=>⟨(),[],PurI.start he,rfl,λC hC=>?_⟩⟩
 ·unfold q21; rw[if_neg he]; exact⟨rfl,rfl⟩
 ·have hR:q21 m y=wj8 m y 8 []:=by unfold q21; rw[if_pos he]
  have hu:=hC.unf
  have hl:=hC.len
  refine⟨hC.ask.nxPre,λh1=>?_,λh1=>⟨λh2=>?_,λh2=>⟨by omega,_,hC.step h1 h2,?_,rfl⟩⟩⟩
  ·rw[hR,hu,if_pos h1]; exact⟨rfl,rfl⟩
  ·rw[hR,hu,if_neg h1,if_pos h2]; exact⟨rfl,h2⟩
  ·rw[List.length_append,List.length_singleton]; omega
abbrev x45:qb9:=hspec [] true none [.d tInt,.cap tInts] [tInts] (λx=>0<=x.1/\x.1<x.2.1.length) (λx=>([nI x.2.1 x.1.toNat],()))
theorem w5g:Meets Tryz.prog 95 x45:=by
 refine qr1 (SpecsOk.nil _) (ya2 [8] (SpecsOk.nil _)) Tryz.func95 rfl rfl (λ_ _=>none) (λ_=>by kernel_rfl) (by decide) ?_
 rintro⟨i,l,⟨⟩⟩ h
 revert i l
 intro(i:Int) (l:List Int) (h:0<=i/\i<l.length)
 refine @qe1 _ (((0:Int)<=i/\i<(↑l.length:Int))/\[nI l i.toNat]=[nI l i.toNat]) (by kernel_rfl) ?_
 try simp only[z0,z1,z2,z3,z4,z5,z6,z7,z8,z9,z10,Int.reduceEq,z11,z12,z13,z14,z15,z16,z17,z18,z19,z20,z21,z22,z23,z24,z25,z26,z27,z28,z29,z30,Int.reduceLE,Int.reduceLT,z31,z32,z33,z34,qa3]
 try simp only[qb5,qb6,qd0,z31,z32,z2,z1]
 exact h
def q2f (S:List Int) (V:Nat->Int × Int):Nat->List Int × List (Int × Int)
 | 0=>([],[])
 | k+1=>if(V k).1=0 then q2f S V k else((q2f S V k).1++[nI S k],(q2f S V k).2++[V k])
def w0e (m:List (List Int)) (y S:List Int) (k:Nat):Int × Int:=ofR (nI (nL (q0c m S y).1 k) S.length) (nI (nL (q0c m S y).1 k) k)
def w5s (m:List (List Int)) (y:List Int):(List Int × List (Int × Int)) × Int:=if(q21 m y).2=0 then(q2f (q36 (q21 m y).1) (w0e m y (q36 (q21 m y).1)) (q36 (q21 m y).1).length,0) else(([],[]),(q21 m y).2)
def x8t (m:List (List Int)) (y S:List Int):Nat->Option Inv
 | 0=>some (Inv.of [6,8,33,35] 7 (λk:Nat=>[(6,.own 2),(8,.msl 3 .none),(33,.own 2),(35,.lit (.int .i64 k))]) (λk=>[.box 34 (.cons (.dat (.int .i64) y) .nil),.box 72 (.cons (.dat (.int .i64) []) (.cons (.dat (.prod (.int .i64) (.int .i64)) []) .nil)),.vec 3 (.int .i64) S,.mat 34 3 (.int .i64) (q0c m S y).1 .none .none,.box 72 (.cons (.own 5) (.cons (.own 6) .nil)),.vec 3 (.int .i64) (q2f S (w0e m y S) k).1,.vec 60 (.prod (.int .i64) (.int .i64)) (q2f S (w0e m y S) k).2]) (λk=>k<=S.length) (λk=>S.length-k))
 | _=>none
theorem w23 (S:List Int) (V:Nat->Int × Int):∀k,(q2f S V k).1.length<=k/\(q2f S V k).2.length<=k
 | 0=>⟨Nat.le_refl _,Nat.le_refl _⟩
 | k+1=>by
  have ih:=w23 S V k
  rw[q2f]
  split
  ·omega
  ·simp only[List.length_append,List.length_singleton]; omega
theorem x08 {m:List (List Int)} {y:List Int} (he:(q21 m y).2=0):qr5 m y []=0/\PurI m y (q21 m y).1/\(qk4 m y (q21 m y).1).2=8:=by
 have h0:qr5 m y []=0:=by
  unfold q21 at he
  split at he
  ·assumption
  ·exact he
 have e:q21 m y=wj8 m y 8 []:=by unfold q21; rw[if_pos h0]
 rw[e] at he ⊢
 rcases PurI.all 7 [] (PurI.start h0) rfl with q | q
 ·exact⟨h0,q.2⟩
 ·rw[q] at he; cases he
abbrev yg1:qb9:=qg2 true none [tMask,tInts] [wf5,tInt] (λ_=>True) (λx=>((w5s x.1 x.2.1).1,(w5s x.1 x.2.1).2,()))
theorem xd1:Meets Tryz.prog 39 yg1:=by
 refine meets (w4o [] [] (SpecsOk.cons w5f (SpecsOk.cons (q07 (fs:=[(95,x45)]) (SpecsOk.cons w5g (SpecsOk.nil _))) (SpecsOk.cons w14 (SpecsOk.nil _)))) (MutsOk.cons xd0 (MutsOk.cons qx0 MutsOk.nil))) Tryz.func39 rfl rfl (λx=>x8t x.1 x.2.1 (q36 (q21 x.1 x.2.1).1)) (λ_=>by kernel_rfl) (by decide) ?_
 rintro⟨m,y,⟨⟩⟩ -
 revert m y
 intro(m:List (List Int)) (y:List Int)
 refine @qe1 _ (let Q0:=q36 (q21 m y).1; let Q1:=q0c m Q0 y; let Q2:=w0e m y Q0; let Q3:=q21 m y; let Q4:=qd9 Q1.1.length none; let Q5:=w5s m y; let Q6:=Int × Int; True/\((Q3.2 != (0:Int))=true->(Q5.1.1=[]/\Q5.1.2=[]/\True)/\Q3.2=Q5.2/\True)/\((Q3.2 != (0:Int))=false->Q3.1.length<=(1000000:Nat)/\∃(v1:qa5 [tInt]->Prop),∃(v2:qa5 [tInt]->List Int),(∀(v3:Int × qa5._f [] PUnit.unit),v1 v3->((0:PTy.den (PTy.d tInt))<=v3.1/\v3.1<(↑y.length:PTy.den (PTy.d tInt)))/\[nI y v3.1.toNat]=v2 v3)/\ChoOk m (nL [List.mergeSort Q3.1 λ(v3 v4:Int)=>decide (v3<=v4)] (0:Nat)) v1 v2/\((0:Ty.den tInt)<=(↑(nL [List.mergeSort Q3.1 λ(v3 v4:Int)=>decide (v3<=v4)] (0:Nat)).length:Int)/\∃(v3:Nat),qz8 (qa8 m (nL [List.mergeSort Q3.1 λ(v4 v5:Int)=>decide (v4<=v5)] (0:Nat)) λ(v4:Int)=>v2 (v4,())) (↑(nL [List.mergeSort Q3.1 λ(v4 v5:Int)=>decide (v4<=v5)] (0:Nat)).length:Int).toNat v3)/\∃(v3:Unit),∃(v4:Nat),Nat.le v4 Q0.length/\((True/\True/\True/\(0:Int)=(↑v4:Int)/\True)/\(y=y/\True)/\(wk2 Int/\wk2 Q6/\True)/\nL [List.mergeSort Q3.1 λ(v5 v6:Int)=>decide (v5<=v6)] (0:Nat)=q36 Q3.1/\((qa4 (qa8 m (nL [List.mergeSort Q3.1 λ(v5 v6:Int)=>decide (v5<=v6)] (0:Nat)) λ(v5:Int)=>v2 (v5,())) (↑(nL [List.mergeSort Q3.1 λ(v5 v6:Int)=>decide (v5<=v6)] (0:Nat)).length:Int).toNat).1=Q1.1/\True/\True)/\(True/\True/\True)/\(q2f Q0 Q2 v4).1=[]/\(q2f Q0 Q2 v4).2=[]/\True)/\∀(v5:Nat),Nat.le v5 Q0.length->(decide ((↑v5:Int)<(↑(nL [List.mergeSort Q3.1 λ(v8 v9:Int)=>decide (v8<=v9)] (0:Nat)).length:Int))=true->((0:Int)<=(↑v5:Int)/\(↑v5:Int)<(↑Q0.length:Int))/\v5<Q0.length/\((0:Int)<=(↑v5:Int)/\(↑v5:Int)<(↑Q4:Int))/\v5<qd9 Q1.1.length none/\((0:Int)<=(↑Q0.length:Int)/\(↑Q0.length:Int)<(↑(nL Q1.1 (qc9 none v5)).length:Int))/\(↑Q0.length:Int).toNat<(nL Q1.1 (qc9 none v5)).length/\((0:Int)<=(↑v5:Int)/\(↑v5:Int)<(↑Q4:Int))/\v5<qd9 Q1.1.length none/\((0:Int)<=(↑v5:Int)/\(↑v5:Int)<(↑(nL Q1.1 (qc9 none v5)).length:Int))/\v5<(nL Q1.1 (qc9 none v5)).length/\(((-4000000000000000000:Int)<=nI (nL Q1.1 (qc9 none v5)) (↑Q0.length:Int).toNat/\nI (nL Q1.1 (qc9 none v5)) (↑Q0.length:Int).toNat<=BIG)/\((-4000000000000000000:Int)<=nI (nL Q1.1 (qc9 none v5)) v5/\nI (nL Q1.1 (qc9 none v5)) v5<=BIG)/\nI (nL Q1.1 (qc9 none v5)) v5≠(0:Ty.den tInt))/\(((ofR (nI (nL Q1.1 (qc9 none v5)) (↑Q0.length:Int).toNat) (nI (nL Q1.1 (qc9 none v5)) v5)).1 != (0:Int))=true->((0:Nat)<List.length [nI Q0 v5]/\Nat.le ((q2f Q0 Q2 v5).1.length+List.length [nI Q0 v5]) (1000000:Nat))/\((0:Nat)<List.length [((ofR (nI (nL Q1.1 (qc9 none v5)) (↑Q0.length:Int).toNat) (nI (nL Q1.1 (qc9 none v5)) v5)).1,(ofR (nI (nL Q1.1 (qc9 none v5)) (↑Q0.length:Int).toNat) (nI (nL Q1.1 (qc9 none v5)) v5)).2)]/\Nat.le ((q2f Q0 Q2 v5).2.length+List.length [((ofR (nI (nL Q1.1 (qc9 none v5)) (↑Q0.length:Int).toNat) (nI (nL Q1.1 (qc9 none v5)) v5)).1,(ofR (nI (nL Q1.1 (qc9 none v5)) (↑Q0.length:Int).toNat) (nI (nL Q1.1 (qc9 none v5)) v5)).2)]) (1000000:Nat))/\fits .i64 ((↑v5:Int)+(1:Int))/\∃(v9:Nat),Nat.le v9 Q0.length/\Q0.length-v9<Q0.length-v5/\(True/\True/\True/\(↑v5:Int)+(1:Int)=(↑v9:Int)/\True)/\(y=y/\True)/\(wk2 Int/\wk2 Q6/\True)/\q36 Q3.1=q36 Q3.1/\(Q1.1=Q1.1/\True/\True)/\(True/\True/\True)/\(q2f Q0 Q2 v5).1++[nI Q0 v5]=(q2f Q0 Q2 v9).1/\(q2f Q0 Q2 v5).2++[((ofR (nI (nL Q1.1 (qc9 none v5)) (↑Q0.length:Int).toNat) (nI (nL Q1.1 (qc9 none v5)) v5)).1,(ofR (nI (nL Q1.1 (qc9 none v5)) (↑Q0.length:Int).toNat) (nI (nL Q1.1 (qc9 none v5)) v5)).2)]=(q2f Q0 Q2 v9).2/\True)/\(((ofR (nI (nL Q1.1 (qc9 none v5)) (↑Q0.length:Int).toNat) (nI (nL Q1.1 (qc9 none v5)) v5)).1 != (0:Int))=false->fits .i64 ((↑v5:Int)+(1:Int))/\∃(v9:Nat),Nat.le v9 Q0.length/\Q0.length-v9<Q0.length-v5/\(True/\True/\True/\(↑v5:Int)+(1:Int)=(↑v9:Int)/\True)/\(y=y/\True)/\(wk2 Int/\wk2 Q6/\True)/\q36 Q3.1=q36 Q3.1/\(Q1.1=Q1.1/\True/\True)/\(True/\True/\True)/\(q2f Q0 Q2 v5).1=(q2f Q0 Q2 v9).1/\(q2f Q0 Q2 v5).2=(q2f Q0 Q2 v9).2/\True))/\(decide ((↑v5:Int)<(↑(nL [List.mergeSort Q3.1 λ(v8 v9:Int)=>decide (v8<=v9)] (0:Nat)).length:Int))=false->((q2f Q0 Q2 v5).1=Q5.1.1/\(q2f Q0 Q2 v5).2=Q5.1.2/\True)/\(0:Int)=Q5.2/\True))) (by kernel_rfl) ?_
 try simp only[z0,z1,z2,z3,z4,z5,z6,z7,z8,z9,z10,Int.reduceEq,z11,z12,z13,z14,z15,z16,z17,z18,z19,z20,z21,z22,z23,z24,z25,z26,z27,z28,z29,z30,Int.reduceLE,Int.reduceLT,z31,z32,z33,z34,qa3]
 try simp only[qb5,qb6,qd0,z31,z32,z2,z1]
 refine⟨λhe=>?_,λhe=>?_⟩
 ·unfold w5s; rw[if_neg he]; exact⟨⟨rfl,rfl⟩,rfl⟩
 obtain⟨h0,hC,h8⟩:=x08 he
 have hG:=hC.grd h0 h8
 have hR:w5s m y=(q2f (q36 (q21 m y).1) (w0e m y (q36 (q21 m y).1)) (q36 (q21 m y).1).length,0):=by unfold w5s; rw[if_pos he]
 rw[hR]
 have hl6:=hC.len
 have hsl:=xo1 (q21 m y).1
 have hs:((q21 m y).1.mergeSort λv3 v4=>decide (v3<=v4))=q36 (q21 m y).1:=rfl
 rw[hs]
 generalize q36 (q21 m y).1=S at *
 generalize(q21 m y).1=C at *
 have hA:=Asked.of hG.chk
 have hOk:=hG.ok
 have hred:=hOk.red
 have har:=hOk.ar
 have hsh:=qs7 hred S.length
 have hcl:(qc8 m S y).length=m.length:=ql8 _ _ _
 rw[hcl] at hsh
 have hkr:qa4 (qa8 m S λv4=>[nI y v4.toNat]) S.length=q0c m S y:=rfl
 have hRn:=hsh.cnt
 have hRe:=hsh.each
 have hpv:=hG.pivs
 have hPn:=hsh.piv
 have hid:=hG.id
 have hB:BIG=4000000000000000000:=rfl
 have hSR:qa4 (qc8 m S y) S.length=q0c m S y:=rfl
 rw[hSR] at hRn hRe hPn
 refine⟨by omega,λx=>0<=x.1/\x.1<y.length,λx=>[nI y x.1.toNat],λx hx=>⟨hx,rfl⟩,ChoOk.of hA.msk hA.nam λi hi=>⟨⟨Int.natCast_nonneg _,Int.ofNat_lt.2 (by have:=hA.len; omega)⟩,by simp⟩,⟨_,hred⟩,(),0,Nat.zero_le _,⟨rfl,rfl,rfl,rfl,rfl⟩,λk hk=>⟨λhlt=>?_,λhge=>?_⟩⟩
 ·simp only[qw9,q08]
  have hr:=hRe k (by omega)
  have p1:=hid k hlt
  have a1:=har.bigN k (by omega)
  have a2:=har.bigD k (by omega)
  have a3:=har.nz k (by omega)
  rw[p1,Int.toNat_natCast] at a2 a3
  have hg1:=w23 S (w0e m y S) k
  refine⟨hlt,hlt,by omega,by omega,by omega,by omega,by omega,by omega,by omega,by omega,⟨a1,a2,a3⟩,λhz=>?_,λhz=>?_⟩
  ·have e:q2f S (w0e m y S) (k+1)=((q2f S (w0e m y S) k).1++[nI S k],(q2f S (w0e m y S) k).2++[w0e m y S k]):=by rw[q2f,if_neg (show ¬(w0e m y S k).1=0 from hz)]
   refine⟨by omega,by omega,qa9 (by omega) (by omega),k+1,by omega,by omega,by omega,?_⟩
   rw[e]
   exact⟨rfl,rfl⟩
  ·have e:q2f S (w0e m y S) (k+1)=q2f S (w0e m y S) k:=by rw[q2f,if_pos (show(w0e m y S k).1=0 from hz)]
   refine⟨qa9 (by omega) (by omega),k+1,by omega,by omega,by omega,?_⟩
   rw[e]
   exact⟨rfl,rfl⟩
 ·have e:k=S.length:=by omega
  subst e
  exact⟨⟨rfl,rfl⟩,rfl⟩
theorem w24 {l:List (Int × Int × Int)} (hq:∀i,i<l.length->0<(nC l i).2.2):∀i,i<=l.length->(0<i->0<(qd5 l i).2.2)/\∀c,c<i->(nC l c).2.1*(nC l c).2.1*(qd5 l i).2.2<=(qd5 l i).2.1*(qd5 l i).2.1*(nC l c).2.2
 | 0,_=>⟨λh=>absurd h (Nat.lt_irrefl 0),λc hc=>absurd hc (Nat.not_lt_zero c)⟩
 | i+1,hi=>by
  obtain⟨ih0,ih⟩:=w24 hq i (by omega)
  rw[qd5]
  by_cases h:i=0\/w5q (nC l i) (qd5 l i)=true
  ·rw[if_pos h]
   refine⟨λ_=>hq i (by omega),λc hc=>?_⟩
   rcases Nat.lt_succ_iff_lt_or_eq.1 hc with q | q
   ·have hb:w5q (nC l i) (qd5 l i)=true:=h.resolve_left (by omega)
    have hb:(qd5 l i).2.1*(qd5 l i).2.1*(nC l i).2.2<(nC l i).2.1*(nC l i).2.1*(qd5 l i).2.2:=of_decide_eq_true hb
    have h1:=ih c q
    have hB:=ih0 (by omega)
    have hc2:=hq c (by omega)
    have hi2:=hq i (by omega)
    generalize(qd5 l i).2.2=B at *
    generalize(qd5 l i).2.1=b at *
    generalize(nC l i).2.2=Q at *
    generalize(nC l i).2.1=p at *
    generalize(nC l c).2.2=R at *
    generalize(nC l c).2.1=r at *
    refine Int.le_of_mul_le_mul_right (a:=B) ?_ hB
    have c1:=Int.mul_le_mul_of_nonneg_right h1 (Int.le_of_lt hi2)
    have c2:=Int.mul_le_mul_of_nonneg_right (Int.le_of_lt hb) (Int.le_of_lt hc2)
    have e1:r*r*B*Q=r*r*Q*B:=by grind
    have e2:b*b*R*Q=b*b*Q*R:=by grind
    have e3:p*p*B*R=p*p*R*B:=by grind
    rw[e1,e2] at c1
    rw[e3] at c2
    exact Int.le_trans c1 c2
   ·rw[q]; exact Int.le_refl _
  ·rw[if_neg h]
   refine⟨λ_=>ih0 (by omega),λc hc=>?_⟩
   rcases Nat.lt_succ_iff_lt_or_eq.1 hc with q | q
   ·exact ih c q
   ·rw[q]
    refine Int.not_lt.1 λh1=>h (.inr ?_)
    exact decide_eq_true h1
theorem x46 (m:List (List Int)) (j:Nat):qh0 (colL m j) (colL m j) m.length=cq m j j:=by
 rw[dot_sm]
 exact qa7 λi hi=>by rw[qu1 _ _ _ hi]
theorem w25 {m:List (List Int)} (r:List Int) (hp:∀c,c<(nL m 0).length->0<cq m c c):∀J,J<=(nL m 0).length->(qh6 m r J).length=J/\∀j,j<J->nC (qh6 m r J) j=((j:Int),qh0 (colL m j) r m.length,cq m j j)
 | 0,_=>⟨rfl,λj hj=>absurd hj (Nat.not_lt_zero j)⟩
 | J+1,hJ=>by
  obtain⟨h1,h2⟩:=w25 r hp J (by omega)
  have ho:¬q0j (colL m J)=true:=λh=>by
   have h3:=hp J (by omega)
   have h4:cq m J J=0:=sm_zero λi hi=>by
    have:=ws7 h i (by rw[colL_len]; exact hi)
    rw[qu1 _ _ _ hi] at this
    rw[this,Int.zero_mul]
   omega
  rw[qh6,if_neg ho]
  refine⟨by rw[List.length_append,h1]; rfl,λj hj=>?_⟩
  rcases Nat.lt_succ_iff_lt_or_eq.1 hj with q | q
  ·rw[xa3 _ _ (by omega)]; exact h2 j q
  ·have:=xa4 (qh6 m r J) ((J:Int),qh0 (colL m J) r m.length,qh0 (colL m J) (colL m J) m.length)
   rw[h1] at this
   rw[q,this,x46]
structure PicB (m:List (List Int)) (x:List Int) (N D:Int):Prop where
 pic:PicX m x
 n0:0<=N
 d0:0<D
 hp:∀c,c<(nL m 0).length->0<cq m c c
 hq:∀i j,i<(nL m 0).length->j<(nL m 0).length->i≠j->cq m i j*cq m i j*D<=N*(cq m i i*cq m j j)
 hb:1<=cntN (nL m 0).length (nI x)->(2*(cntN (nL m 0).length (nI x):Int)-1)*(2*(cntN (nL m 0).length (nI x):Int)-1)*N<D
theorem PicX.rest {m:List (List Int)} {x C:List Int} (h:PicX m x) (hI:PurI m (qg8 m x) C) (hS:xs9 C (qm8 m x)):∃a:Nat->Int,(∀i,i<m.length->nI (qg9 m (qg8 m x) C) i=sm (nL m 0).length λc=>nI (nL m i) c*a c)/\(∀c,c<(nL m 0).length->nI x c=0->a c=0)/\∀c,c<(nL m 0).length->a c=0->(∀k,k<C.length->(nI C k).toNat≠c)->nI x c=0:=by
 obtain⟨n1,n2,n3,n4⟩:=h.named
 obtain⟨hT,t,ht⟩:=hI.rsum
 generalize qk9 m (qg8 m x) C=T at *
 obtain⟨u,hu⟩:∃u:Nat->Int,∀col,u col=sm C.length λk=>if(nI C k).toNat=col then t k else 0:=⟨_,λ_=>rfl⟩
 refine⟨λc=>T*nI x c-u c,λi hi=>?_,λc hc hx=>?_,λc hc ha hno=>?_⟩
 ·rw[ht i hi,h.row hi]
  have e:=q5m (A:=λc=>nI (nL m i) c) (σ:=λk=>(nI C k).toNat) (w:=t) (K:=C.length) (N:=(nL m 0).length) λk hk=>by have:=hI.ask.inw.at_ k hk; (try dsimp only); omega
  try dsimp only at e
  rw[<- e]
  have e1:(sm (nL m 0).length λc=>nI (nL m i) c*(T*nI x c-u c))=(sm (nL m 0).length λc=>T*(nI (nL m i) c*nI x c))-sm (nL m 0).length λc=>nI (nL m i) c*u c:=by
   rw[<- w1u]
   exact qa7 λc _=>by grind
  have e2:(sm (nL m 0).length λc=>nI (nL m i) c*u c)=sm (nL m 0).length λcol=>nI (nL m i) col*sm C.length λk=>if(nI C k).toNat=col then t k else 0:=qa7 λc _=>by rw[hu]
  rw[e1,qf7,e2,Int.mul_comm T]
 ·try dsimp only
  rw[hx,Int.mul_zero,hu,sm_zero λk hk=>if_neg λe=>?_]
  ·rfl
  ·obtain⟨q,hq,e2⟩:=hS k hk
   have:=n2 q hq
   rw[e2,e] at this
   exact this hx
 ·try dsimp only at ha
  rw[hu,sm_zero λk hk=>if_neg (hno k hk),Int.sub_zero] at ha
  rcases Int.mul_eq_zero.1 ha with q | q
  ·omega
  ·exact q
theorem PicB.step {m:List (List Int)} {x C:List Int} {N D:Int} (h:PicB m x N D) (hI:PurI m (qg8 m x) C) (hS:xs9 C (qm8 m x)):(qk4 m (qg8 m x) C).2=8\/((qk4 m (qg8 m x) C).2=0/\∃q,q<(qm8 m x).length/\nI (qm8 m x) q=(qk4 m (qg8 m x) C).1):=by
 obtain⟨n1,n2,n3,n4⟩:=h.pic.named
 obtain⟨a,a1,a2,_⟩:=h.pic.rest hI hS
 have hn:=h.pic.sh.msk.pix1
 have hsee:∀j,j<(nL m 0).length->qh0 (colL m j) (qg9 m (qg8 m x) C) m.length=sm (nL m 0).length λc=>a c*cq m c j:=λj hj=>by
  rw[dot_sm]
  have e1:(sm m.length λi=>nI (colL m j) i*nI (qg9 m (qg8 m x) C) i)=sm m.length λi=>sm (nL m 0).length λc=>a c*(nI (nL m i) c*nI (nL m i) j):=qa7 λi hi=>by
   rw[qu1 _ _ _ hi,a1 i hi,<- qf7]
   exact qa7 λc _=>by grind
  rw[e1,qv7]
  exact qa7 λc _=>by rw[qf7]; rfl
 obtain⟨i0,h0,hmax⟩:=wz7 (λc=>a c*a c*cq m c c) (nL m 0).length (by omega)
 unfold qk4 wb0
 by_cases ho:q0j (qg9 m (qg8 m x) C)=true
 ·rw[if_pos ho]; exact .inl rfl
 rw[if_neg ho]
 have ha:a i0≠0:=λhz=>ho (by
  have hall:∀c,c<(nL m 0).length->a c=0:=λc hc=>by
   have h1:=hmax c hc
   (try dsimp only at h1)
   rw[hz] at h1
   simp only[Int.zero_mul] at h1
   refine Classical.byContradiction λhne=>?_
   have h2:=Int.mul_pos (show 0<a c*a c by have:=q1k (a c); have:=ql7 hne hne; omega) (h.hp c hc)
   omega
  unfold q0j
  rw[Bool.not_eq_true',List.any_eq_false]
  intro v hv
  obtain⟨i,hi,rfl⟩:=q25.1 hv
  rw[q1j,hI.ask.ylen] at hi
  rw[a1 i hi,sm_zero λc hc=>by rw[hall c hc,Int.mul_zero]]
  decide)
 have hk:1<=cntN (nL m 0).length (nI x):=by
  have hx:nI x i0≠0:=λq=>ha (a2 i0 h0 q)
  obtain⟨q,hq,_⟩:=n4 i0 h0 hx
  omega
 obtain⟨o1,o2⟩:=xp3 h.n0 h.d0 h.hp h.hq a2 h0 ha hmax (h.hb hk)
 obtain⟨l1,l2⟩:=w25 (qg9 m (qg8 m x) C) h.hp (nL m 0).length (Nat.le_refl _)
 change(qr8 m (qg9 m (qg8 m x) C)).length=_ at l1
 change ∀j,j<_->nC (qr8 m (qg9 m (qg8 m x) C)) j=_ at l2
 generalize qr8 m (qg9 m (qg8 m x) C)=L at *
 obtain⟨b0,b1⟩:=w24 (l:=L) (λi hi=>by rw[l2 i (by omega)]; exact h.hp i (by omega)) L.length (Nat.le_refl _)
 have hbm:=q43 L L.length (by omega) (Nat.le_refl _)
 obtain⟨j,hj,e⟩:=List.mem_iff_getElem.1 hbm
 have e:qd5 L L.length=((j:Int),qh0 (colL m j) (qg9 m (qg8 m x) C) m.length,cq m j j):=by
  rw[<- l2 j (by omega),<- e]
  exact(qj8 (t:=qu5) L j hj).symm
 have hm:=b1 i0 (by omega)
 rw[e,l2 i0 h0] at hm
 dsimp only at hm
 rw[hsee j (by omega),hsee i0 h0] at hm
 have hgj:=h.hp j (by omega)
 have hg0:=h.hp i0 h0
 rw[e]
 have hne:(sm (nL m 0).length λc=>a c*cq m c j)≠0:=λq=>by
  rw[q] at hm
  have h1:=Int.mul_pos (show 0<(sm (nL m 0).length λc=>a c*cq m c i0)*(sm (nL m 0).length λc=>a c*cq m c i0) by have:=q1k (sm (nL m 0).length λc=>a c*cq m c i0); have:=ql7 o1 o1; omega) hgj
  simp only[Int.zero_mul] at hm
  omega
 have hxj:nI x j≠0:=λq=>by
  have:=o2 j (by omega) q
  omega
 rw[if_neg λk=>k.elim (λq=>by omega) λq=>hne (by rw[<- hsee j (by omega)]; exact q)]
 refine .inr ⟨rfl,?_⟩
 exact n4 j (by omega) hxj
theorem PicB.pur {m:List (List Int)} {x:List Int} {N D:Int} (h:PicB m x N D):∀d C,PurI m (qg8 m x) C->xs9 C (qm8 m x)->C.length+d=7->(wj8 m (qg8 m x) 8 []).2=0/\PurI m (qg8 m x) (wj8 m (qg8 m x) 8 []).1/\(qk4 m (qg8 m x) (wj8 m (qg8 m x) 8 []).1).2=8/\xs9 (wj8 m (qg8 m x) 8 []).1 (qm8 m x)
 | 0,C,hI,hS,hd=>by have:=hI.len; omega
 | d+1,C,hI,hS,hd=>by
  rcases h.step hI hS with h1 | ⟨h1,h2⟩
  ·have e:=hI.unf
   rw[if_pos h1] at e
   rw[e]
   exact⟨rfl,hI,h1,hS⟩
  ·refine PicB.pur h d _ (hI.step (by omega) (by omega)) (λk hk=>?_) (by rw[List.length_append,List.length_singleton]; omega)
   rw[List.length_append,List.length_singleton] at hk
   rcases Nat.lt_succ_iff_lt_or_eq.1 hk with q | q
   ·rw[qi0 _ _ q]; exact hS k q
   ·rw[q,qj7]; exact h2
theorem xt0 {S:List Int} {V:Nat->Int × Int} {W:Int->Int × Int} (hV:∀k,k<S.length->V k=W (nI S k)/\(V k).1≠0):∀k,k<=S.length->q2f S V k=(S.take k,(S.take k).map W)
 | 0,_=>rfl
 | k+1,hk=>by
  obtain⟨h1,h2⟩:=hV k (by omega)
  rw[q2f,if_neg h2,xt0 hV k (by omega),List.take_succ_eq_append_getElem (by omega),List.map_append,h1,qg1 _ _ (by omega)]
  rfl
theorem PicB.greedy {m:List (List Int)} {x:List Int} {N D:Int} (h:PicB m x N D):w5s m (qg8 m x)=(shF x,0):=by
 obtain⟨n1,n2,n3,n4⟩:=h.pic.named
 have hc:=h.pic.chk
 obtain⟨p1,p2,p3,p4⟩:=h.pur 7 [] (PurI.start hc) (λk hk=>absurd hk (Nat.not_lt_zero k)) rfl
 have e:q21 m (qg8 m x)=wj8 m (qg8 m x) 8 []:=by unfold q21; rw[if_pos hc]
 rw[<- e] at p1 p2 p3 p4
 have hs:q36 (q21 m (qg8 m x)).1=qm8 m x:=by
  obtain⟨a,a1,a2,a3⟩:=h.pic.rest p2 p4
  have hr:=p2.rest0 p3
  have hz:∀q,q<(qm8 m x).length->a (nI (qm8 m x) q).toNat=0:=h.pic.ind (λq=>a (nI (qm8 m x) q).toNat) λi hi=>by
   rw[<- h.pic.sum (λc=>nI (nL m i) c) a a2,<- a1 i hi,hr i hi]
  refine xb1 p2.named n1 λc hcw=>⟨λ⟨q,hq,e1⟩=>?_,λ⟨q,hq,e1⟩=>?_⟩
  ·obtain⟨k,hk,e2⟩:=q25.1 (q38.1 (q25.2 ⟨q,hq,e1⟩))
   obtain⟨q2,hq2,e3⟩:=p4 k hk
   exact⟨q2,hq2,by rw[e3,e2]⟩
  ·refine Classical.byContradiction λhno=>?_
   have h1:=hz q hq
   rw[e1,Int.toNat_natCast] at h1
   have h2:=a3 c hcw h1 λk hk e2=>hno (q25.1 (q38.2 (q25.2 ⟨k,hk,by have:=p2.ask.inw.at_ k hk; omega⟩)))
   have h3:=n2 q hq
   rw[e1,Int.toNat_natCast] at h3
   exact h3 h2
 obtain⟨g,hv⟩:=h.pic.grd
 unfold w5s
 rw[if_pos p1,hs,h.pic.shF,xt0 (W:=λj=>(nI x j.toNat,1)) (λk hk=>?_) _ (Nat.le_refl _),List.take_length]
 have:=hv k hk
 refine⟨this,?_⟩
 rw[show w0e m (qg8 m x) (qm8 m x) k=_ from this]
 exact n2 k hk
theorem xt1 {m:List (List Int)} {x:List Int} (h:Shw m x):nzTo x x.length=cntN (nL m 0).length (nI x):=by rw[wi7,h.len]
theorem xd2 {m:List (List Int)} {x:List Int} (hl:qp1 m=true) (hx:wq0 m x=0) (hy:qv9 m (qg8 m x)=0) (hs:(nzTo x x.length:Int)<=(qs8 m).1):PicX m x/\∀d:Nat->Int,Sol m.length (nL m 0).length (rowOf m) d->(∃c,c<(nL m 0).length/\d c≠0)->2*cntN (nL m 0).length (nI x)<cntN (nL m 0).length d:=by
 have hS:=Shw.of hx
 rw[xt1 hS] at hs
 have key:∀d:Nat->Int,Sol m.length (nL m 0).length (rowOf m) d->(∃c,c<(nL m 0).length/\d c≠0)->2*cntN (nL m 0).length (nI x)<cntN (nL m 0).length d:=λd hd hne=>by
  have:=xo8 hl hS.val hd hne
  omega
 exact⟨⟨hS,by rw[wy5]; exact hy,λd hd hne=>by have:=key d hd hne; omega⟩,key⟩
theorem w5h {m:List (List Int)} {x:List Int} (hx:wq0 m x=0) (hy:qv9 m (qg8 m x)=0) (he:w0c m=0) (hs:(nzTo x x.length:Int)<=wt8 m):∃N D,PicB m x N D:=by
 have hS:=Shw.of hx
 rw[xt1 hS] at hs
 obtain⟨hv,N,D,hN,hD,hp,hq,hb⟩:=xc9 he
 rw[hb] at hs
 obtain⟨_,h1⟩:=w2w N D (nL m 0).length 0 (.inl rfl)
 generalize bndTo N D (nL m 0).length 0=b at *
 have hB:1<=cntN (nL m 0).length (nI x)->(2*(cntN (nL m 0).length (nI x):Int)-1)*(2*(cntN (nL m 0).length (nI x):Int)-1)*N<D:=λh1k=>by
  have h2:=h1.resolve_left (by omega)
  have h3:(2*(cntN (nL m 0).length (nI x):Int)-1)*(2*(cntN (nL m 0).length (nI x):Int)-1)<=(2*((b:Int)-1)+1)*(2*((b:Int)-1)+1):=Int.mul_le_mul (by omega) (by omega) (by omega) (by omega)
  have h4:=Int.mul_le_mul_of_nonneg_right h3 hN
  omega
 refine⟨N,D,⟨hS,by rw[wy5]; exact hy,λd hd ⟨c0,hc0,hd0⟩=>?_⟩,hN,hD,hp,hq,hB⟩
 refine Nat.lt_of_not_le λhle=>?_
 obtain⟨M,m1,m2⟩:=xo7 hN hD hp hq (λj _=>x8p hd j) hc0 hd0
 have h5:=hB (by omega)
 have h6:(M:Int)*M<=(2*(cntN (nL m 0).length (nI x):Int)-1)*(2*(cntN (nL m 0).length (nI x):Int)-1):=Int.mul_le_mul (by omega) (by omega) (by omega) (by omega)
 have h7:=Int.mul_le_mul_of_nonneg_right h6 hN
 omega
structure x8u (m:List (List Int)) (x:List Int):Prop where
 len:x.length<=100
 spk:q8t m
 spr:q0d m (readR m x).1
 sure:(qs8 m).2=0
 fit:q7r ((shF x).1,(shF x).2)
 only:(nzTo x x.length:Int)<=(qs8 m).1->w5p m (readR m x).1=(shF x,0)
 grd:w0c m=0->(nzTo x x.length:Int)<=wt8 m->w5s m (readR m x).1=(shF x,0)
theorem x8v {m:List (List Int)} {x:List Int} (hf:q5g m) (hl:qp1 m=true) (hx:wq0 m x=0) (hy:qv9 m (readR m x).1=0):x8u m x:=by
 have hS:=Shw.of hx
 have h10:=hS.msk.pix10
 have hxl:=hS.len
 have hsh:=wj2 x x.length
 rw[q7y hx] at hy
 refine⟨by omega,x70 hl,xs2 hf hl,x0v hl hS.val,⟨by show(q2c x x.length).1.length<=_; omega,by show(q2c x x.length).2.length<=_; omega⟩,λhs=>?_,λhe hs=>?_⟩
 ·rw[q7y hx]
  obtain⟨p1,p2⟩:=xd2 hl hx hy hs
  exact p1.only (wi2 hl hS.msk) p2
 ·rw[q7y hx]
  obtain⟨N,D,p⟩:=w5h hx hy he hs
  exact p.greedy
end Go.Proofs.YtmijnbjlhnpokaaGreat
set_option linter.unusedSimpArgs false
namespace Go.Proofs.YtmijnbjlhnpokaaGreat
open Go Go.RowKit Eng
structure DigOk (l:List Int):Prop where
 len:l.length<=1000
 eq:l=dgs (valL l)
theorem DigOk.lenD {l:List Int} (h:DigOk l):l.length=lenD (valL l):=by
 conv=>lhs; rw[h.eq]
 rw[x0t]
theorem DigOk.at_ {l:List Int} (h:DigOk l) {i:Nat} (hi:i<l.length):nI l i=((valL l / BS ^ i % BS:Nat):Int):=by
 have:=x4w (valL l) i
 rw[if_pos (by rw[<- h.lenD]; exact hi),<- h.eq] at this
 exact this
structure RxOk (K:Nat) (a:x5g):Prop where
 n:a.2.1=dgs (valL a.2.1)
 d:a.2.2=dgs (valL a.2.2)
 ln:a.2.1.length<=K
 ld:a.2.2.length<=K
theorem RxOk.dn {K:Nat} {a:x5g} (h:RxOk K a) (hK:K<=1000:=by omega):DigOk a.2.1:=⟨Nat.le_trans h.ln hK,h.n⟩
theorem RxOk.dd {K:Nat} {a:x5g} (h:RxOk K a) (hK:K<=1000:=by omega):DigOk a.2.2:=⟨Nat.le_trans h.ld hK,h.d⟩
theorem RxOk.up {K L:Nat} {a:x5g} (h:RxOk K a) (hK:K<=L:=by omega):RxOk L a:=⟨h.n,h.d,Nat.le_trans h.ln hK,Nat.le_trans h.ld hK⟩
open Go Go.RowKit Eng Ls
structure w0f (N D:Int) (n k:Nat):Prop where
 le:k<=n
 eq:bndTo N D n 0=bndTo N D (n-k) k
def x8w (m:List (List Int)):Nat->Option Inv
 | 0=>some (Inv.of [6] 1 (λk:Nat=>[(6,.lit (.int .i64 k))]) (λk=>[.box 60 (.cons (.lit (.int .i64 (K.cohR m).1)) (.cons (.lit (.int .i64 (K.cohR m).2)) .nil))]) (λk=>w0f (K.cohR m).1 (K.cohR m).2 (nL m 0).length k) (λk=>(nL m 0).length-k))
 | _=>none
abbrev yg2:qb9:=qg2 true none [tMask] [tInt,tInt] (λ_=>True) (λx=>(wt8 x.1,w0c x.1,()))
theorem x47 {m:List (List Int)} (h:K.cohE m=0):Mk m/\0<=(K.cohR m).1/\(K.cohR m).1<=100:=by
 obtain⟨hv,b,hb,hR,_⟩:=K.coh_some h
 have hB:=K.cohK_bd (K.IsMask.of hv) (Nat.le_refl _) (by rw[K.cohK_all]; exact hb)
 rw[hR]
 exact⟨Mk.of hv,hB.1⟩
theorem xp4 {N D:Int} {n k:Nat} (h:k<n):bndTo N D (n-k) k=if(2*(k:Int)+1)*(2*(k:Int)+1)*N<D then bndTo N D (n-(k+1)) (k+1) else k:=by
 obtain⟨f,hf⟩:∃f,n-k=f+1:=⟨n-k-1,by omega⟩
 rw[hf,show n-(k+1)=f by omega,bndTo]
theorem x1a (m:List (List Int)):(¬K.cohE m=0->0=wt8 m/\K.cohE m=w0c m)/\(K.cohE m=0->∃(v1:Unit) (v2:Nat),w0f (K.cohR m).fst (K.cohR m).snd (nL m 0).length v2/\(0:Int)=↑v2/\∀(v3:Nat),w0f (K.cohR m).fst (K.cohR m).snd (nL m 0).length v3->(0:Int) < ↑m.length /\
   (v3<(nL m 0).length->fits IntKind.i64 (2 * ↑v3)/\fits IntKind.i64 (2 * ↑v3+1)/\fits IntKind.i64 (2 * ↑v3)/\fits IntKind.i64 (2 * ↑v3+1)/\fits IntKind.i64 ((2 * ↑v3+1)*(2 * ↑v3+1))/\fits IntKind.i64 ((2 * ↑v3+1)*(2 * ↑v3+1)*(K.cohR m).fst) /\
     ((2*(v3:Int)+1)*(2 * ↑v3+1)*(K.cohR m).fst<(K.cohR m).snd->fits IntKind.i64 (↑v3+1)/\∃(v7:Nat),w0f (K.cohR m).fst (K.cohR m).snd (nL m 0).length v7/\(nL m 0).length-v7<(nL m 0).length-v3/\(v3:Int)+1=↑v7) /\
      ((K.cohR m).snd<=(2*(v3:Int)+1)*(2 * ↑v3+1)*(K.cohR m).fst->(v3:Int)=wt8 m/\0=w0c m))/\(¬v3<(nL m 0).length->(v3:Int)=wt8 m/\0=w0c m)):=by
 refine⟨λh=>⟨by simp[wt8,h],rfl⟩,λh=>⟨(),0,⟨Nat.zero_le _,rfl⟩,rfl,λk hk=>?_⟩⟩
 obtain⟨hM,c1,c2⟩:=x47 h
 have h1:=hM.rows1
 have h10:=hM.pix10
 have eR:wt8 m=(bndTo (K.cohR m).1 (K.cohR m).2 (nL m 0).length 0:Nat):=if_pos h
 have eE:w0c m=0:=h
 rw[eR,eE,hk.eq]
 have hle:=hk.le
 have hstep:=xp4 (N:=(K.cohR m).1) (D:=(K.cohR m).2) (n:=(nL m 0).length) (k:=k)
 generalize(K.cohR m).1=N at *
 generalize(K.cohR m).2=D at *
 refine⟨by omega,λhlt=>?_,λhge=>?_⟩
 ·have hkk:(k:Int)<=9:=by omega
  have k0:(0:Int)<=k:=Int.natCast_nonneg k
  have s1:(2*(k:Int)+1)*(2*(k:Int)+1)<=19*19:=Int.mul_le_mul (by omega) (by omega) (by omega) (by omega)
  have s0:0<=(2*(k:Int)+1)*(2*(k:Int)+1):=Int.mul_nonneg (by omega) (by omega)
  have s2:(2*(k:Int)+1)*(2*(k:Int)+1)*N<=19*19*100:=Int.mul_le_mul s1 c2 c1 (by omega)
  have s3:0<=(2*(k:Int)+1)*(2*(k:Int)+1)*N:=Int.mul_nonneg s0 c1
  refine⟨qa9 (by omega) (by omega),qa9 (by omega) (by omega),qa9 (by omega) (by omega),qa9 (by omega) (by omega),qa9 (by omega) (by omega),qa9 (by omega) (by omega),λhc=>⟨qa9 (by omega) (by omega),k+1,⟨by omega,?_⟩,by omega,by omega⟩,λhc=>⟨?_,rfl⟩⟩
  ·rw[hk.eq,hstep hlt,if_pos hc]
  ·rw[hstep hlt,if_neg (Int.not_lt.2 hc)]
 ·have e:k=(nL m 0).length:=by omega
  rw[e,Nat.sub_self]
  exact⟨rfl,rfl⟩
theorem xd3:Meets Tryz.prog 50 yg2:=by
 refine meets (snd (SpecsOk.cons K.Coherence_meets (SpecsOk.nil _))) Tryz.func50 rfl rfl (λx=>x8w x.1) (λ_=>by kernel_rfl) (by decide) ?_
 rintro⟨m,⟨⟩⟩ -
 revert m
 intro(m:List (List Int))
 refine @qe1 _ (let Q0:=K.cohR m; True/\((K.cohE m != (0:Int))=true->(0:Int)=wt8 m/\K.cohE m=w0c m/\True)/\((K.cohE m != (0:Int))=false->∃(v1:Unit),∃(v2:Nat),w0f Q0.1 Q0.2 (nL m (0:Nat)).length v2/\(((0:Int)=(↑v2:Int)/\True)/\(Q0.1=Q0.1/\Q0.2=Q0.2/\True)/\True)/\∀(v3:Nat),w0f Q0.1 Q0.2 (nL m (0:Nat)).length v3->((0:Int)<=(0:Int)/\(0:Int)<(↑m.length:Int))/\(decide ((↑v3:Int)<(↑(nL m (0:Nat)).length:Int))=true->fits .i64 ((2:Int)*(↑v3:Int))/\fits .i64 ((2:Int)*(↑v3:Int)+(1:Int))/\fits .i64 ((2:Int)*(↑v3:Int))/\fits .i64 ((2:Int)*(↑v3:Int)+(1:Int))/\fits .i64 (((2:Int)*(↑v3:Int)+(1:Int))*((2:Int)*(↑v3:Int)+(1:Int)))/\fits .i64 (((2:Int)*(↑v3:Int)+(1:Int))*((2:Int)*(↑v3:Int)+(1:Int))*Q0.1)/\(decide (((2:Int)*(↑v3:Int)+(1:Int))*((2:Int)*(↑v3:Int)+(1:Int))*Q0.1<Q0.2)=true->fits .i64 ((↑v3:Int)+(1:Int))/\∃(v7:Nat),w0f Q0.1 Q0.2 (nL m (0:Nat)).length v7/\(nL m (0:Nat)).length-v7<(nL m (0:Nat)).length-v3/\((↑v3:Int)+(1:Int)=(↑v7:Int)/\True)/\(Q0.1=Q0.1/\Q0.2=Q0.2/\True)/\True)/\(decide (((2:Int)*(↑v3:Int)+(1:Int))*((2:Int)*(↑v3:Int)+(1:Int))*Q0.1<Q0.2)=false->(↑v3:Int)=wt8 m/\(0:Int)=w0c m/\True))/\(decide ((↑v3:Int)<(↑(nL m (0:Nat)).length:Int))=false->(↑v3:Int)=wt8 m/\(0:Int)=w0c m/\True))) (by kernel_rfl) ?_
 try simp only[z0,z1,z2,z3,z4,z5,z6,z7,z8,z9,z10,Int.reduceEq,z11,z12,z13,z14,z15,z16,z17,z18,z19,z20,z21,z22,z23,z24,z25,z26,z27,z28,z29,z30,Int.reduceLE,Int.reduceLT,z31,z32,z33,z34,qa3]
 try simp only[qb5,qb6,qd0,z31,z32,z2,z1]
 exact x1a m
abbrev x8y:qb9:=qg2 true none [tInts,tInt,tInt] [tInt] (λx=>qd6 BIG x.2.2.1/\((x.1.length:Int)=x.2.1->x.1.length<=1000000)) (λx=>(q4w x.1 x.2.1 x.2.2.1,()))
theorem wb6:Meets Tryz.prog 97 x8y:=by
 refine meets (snd (SpecsOk.cons qz7 (SpecsOk.nil _))) Tryz.func97 rfl rfl (λx=>x3v x.1 x.2.2.1) (λ_=>by kernel_rfl) (by decide) ?_
 rintro⟨l,n,k,⟨⟩⟩ h
 revert l n k
 intro(l:List Int) (n:Int) (k:Int) (h:qd6 BIG k/\((l.length:Int)=n->l.length<=1000000))
 refine @qe1 _ ((((↑l.length:Int) != n)=true->(9:Int)=q4w l n k)/\(((↑l.length:Int) != n)=false->∃(v1:Unit),∃(v2:Nat),xl6 l k v2/\(((0:Int)=(↑v2:Int)/\True)/\True)/\∀(v3:Nat),xl6 l k v3->(decide ((↑v3:Int)<(↑l.length:Int))=true->((0:Int)<=(↑v3:Int)/\(↑v3:Int)<(↑l.length:Int))/\fits .i64 ((0:Int)-k)/\True/\((!inB (nI l v3) ((0:Int)-k) k)=true->(7:Int)=q4w l n k)/\((!inB (nI l v3) ((0:Int)-k) k)=false->fits .i64 ((↑v3:Int)+(1:Int))/\∃(v7:Nat),xl6 l k v7/\l.length-v7<l.length-v3/\((↑v3:Int)+(1:Int)=(↑v7:Int)/\True)/\True))/\(decide ((↑v3:Int)<(↑l.length:Int))=false->(0:Int)=q4w l n k))) (by kernel_rfl) ?_
 try simp only[z0,z1,z2,z3,z4,z5,z6,z7,z8,z9,z10,Int.reduceEq,z11,z12,z13,z14,z15,z16,z17,z18,z19,z20,z21,z22,z23,z24,z25,z26,z27,z28,z29,z30,Int.reduceLE,Int.reduceLT,z31,z32,z33,z34,qa3]
 try simp only[qb5,qb6,qd0,z31,z32,z2,z1]
 obtain⟨hk,hl⟩:=h
 unfold qd6 BIG at hk
 refine⟨λhn=>by simp[q4w,hn],λhn=>?_⟩
 have hl:=hl hn
 refine⟨(),0,⟨Nat.zero_le _,λj hj=>absurd hj (Nat.not_lt_zero _)⟩,rfl,λi hi=>⟨λhlt=>⟨hlt,qa9 (by omega) (by omega),λh1=>?_,λh1=>⟨qa9 (by omega) (by omega),i+1,⟨hlt,λj hj=>?_⟩,by omega,by omega⟩⟩,λhge=>?_⟩⟩
 ·have:(l.all λe=>inB e (0-k) k)=false:=by
   cases e:l.all λe=>inB e (0-k) k with
   | false=>rfl
   | true=>
    have:=List.all_eq_true.1 e (nI l i) (by rw[qg1 l i hlt]; exact List.getElem_mem hlt)
    rw[h1] at this; cases this
  unfold q4w; rw[if_neg (λq=>q hn),if_pos this]
 ·by_cases e:j=i
  ·subst e; exact h1
  ·exact hi.ok j (by omega)
 ·have:(l.all λe=>inB e (0-k) k)=true:=by
   rw[List.all_eq_true]
   intro x hx
   obtain⟨j,hj,rfl⟩:=List.getElem_of_mem hx
   rw[<- qg1 l j hj]
   exact hi.ok j (by omega)
  unfold q4w; rw[if_neg (λq=>q hn),if_neg (by rw[this]; decide)]
structure ShF (m:List (List Int)) (x:List Int):Prop where
 fit:q5g m
 len:validB m=true->(x.length:Int)=(nL m 0).length->x.length<=1000000
theorem ShF.of {m:List (List Int)} (h:q5g m) (x:List Int):ShF m x:=⟨h,λhv e=>by have:=(Mk.of hv).pix10; omega⟩
abbrev x8z:qb9:=qg2 true none [tMask,tInts] [.bool] (λx=>ShF x.1 x.2.1) (λx=>(decide (wq0 x.1 x.2.1=0),()))
theorem w5i:Meets Tryz.prog 43 x8z:=by
 refine meets (snd (SpecsOk.cons wh3 (SpecsOk.cons wb6 (SpecsOk.nil _)))) Tryz.func43 rfl rfl (λ_ _=>none) (λ_=>by kernel_rfl) (by decide) ?_
 rintro⟨m,x,⟨⟩⟩ h
 revert m x
 intro(m:List (List Int)) (x:List Int) (h:ShF m x)
 refine @qe1 _ (q5g m/\(validB m=true->((0:Int)<=(0:Int)/\(0:Int)<(↑m.length:Int))/\(qd6 BIG (1000000:Int)/\((↑x.length:Int)=(↑(nL m (0:Nat)).length:Int)->x.length<=(1000000:Nat)))/\(q4w x (↑(nL m (0:Nat)).length:Int) (1000000:Int)==(0:Int))=decide (wq0 m x=(0:Int)))/\(validB m=false->false=decide (wq0 m x=(0:Int)))) (by kernel_rfl) ?_
 try simp only[z0,z1,z2,z3,z4,z5,z6,z7,z8,z9,z10,Int.reduceEq,z11,z12,z13,z14,z15,z16,z17,z18,z19,z20,z21,z22,z23,z24,z25,z26,z27,z28,z29,z30,Int.reduceLE,Int.reduceLT,z31,z32,z33,z34,qa3]
 try simp only[qb5,qb6,qd0,z31,z32,z2,z1]
 refine⟨h.fit,λhv=>⟨by have:=(Mk.of hv).rows1; omega,⟨⟨by decide,by decide⟩,h.len hv⟩,?_⟩,λhv=>by simp[wq0,x3u,hv]⟩
 rw[q4x hv]
 exact(Bool.beq_eq_decide_eq _ _)
abbrev x48:qb9:=qg2 true none [tMask,tInts] [tInts,tInt] (λx=>ShF x.1 x.2.1) (λx=>((readR x.1 x.2.1).1,(readR x.1 x.2.1).2,()))
theorem w0g:Meets Tryz.prog 44 x48:=by
 refine meets (snd (SpecsOk.cons wh3 (SpecsOk.cons wb6 (SpecsOk.cons w4x (SpecsOk.nil _))))) Tryz.func44 rfl rfl (λx=>xy6 x.1 x.2.1) (λ_=>by kernel_rfl) (by decide) ?_
 rintro⟨m,x,⟨⟩⟩ h
 revert m x
 intro(m:List (List Int)) (x:List Int) (h:ShF m x)
 refine @qe1 _ (let Q0:=readR m x; let Q1:=qg8 m x; q5g m/\((!validB m)=true->Q0.1=[]/\(1:Int)=Q0.2/\True)/\((!validB m)=false->((0:Int)<=(0:Int)/\(0:Int)<(↑m.length:Int))/\(qd6 BIG (1000000:Int)/\((↑x.length:Int)=(↑(nL m (0:Nat)).length:Int)->x.length<=(1000000:Nat)))/\((q4w x (↑(nL m (0:Nat)).length:Int) (1000000:Int) != (0:Int))=true->Q0.1=[]/\q4w x (↑(nL m (0:Nat)).length:Int) (1000000:Int)=Q0.2/\True)/\((q4w x (↑(nL m (0:Nat)).length:Int) (1000000:Int) != (0:Int))=false->∃(v2:Unit),∃(v3:Nat),Nat.le v3 m.length/\((True/\(0:Int)=(↑v3:Int)/\True)/\List.take v3 Q1=[]/\True)/\∀(v4:Nat),Nat.le v4 m.length->(decide ((↑v4:Int)<(↑m.length:Int))=true->((0:Int)<=(↑v4:Int)/\(↑v4:Int)<(↑m.length:Int))/\DotOk (nL m v4) x/\((0:Nat)<List.length [qh0 (nL m v4) x (nL m v4).length]/\Nat.le ((List.take v4 Q1).length+List.length [qh0 (nL m v4) x (nL m v4).length]) (1000000:Nat))/\fits .i64 ((↑v4:Int)+(1:Int))/\∃(v7:Nat),Nat.le v7 m.length/\m.length-v7<m.length-v4/\(True/\(↑v4:Int)+(1:Int)=(↑v7:Int)/\True)/\List.take v4 Q1++[qh0 (nL m v4) x (nL m v4).length]=List.take v7 Q1/\True)/\(decide ((↑v4:Int)<(↑m.length:Int))=false->List.take v4 Q1=Q0.1/\(0:Int)=Q0.2/\True)))) (by kernel_rfl) ?_
 try simp only[z0,z1,z2,z3,z4,z5,z6,z7,z8,z9,z10,Int.reduceEq,z11,z12,z13,z14,z15,z16,z17,z18,z19,z20,z21,z22,z23,z24,z25,z26,z27,z28,z29,z30,Int.reduceLE,Int.reduceLT,z31,z32,z33,z34,qa3]
 try simp only[qb5,qb6,qd0,z31,z32,z2,z1]
 refine⟨h.fit,λhv=>by simp[readR,wq0,x3u,hv],λhv=>⟨by have:=(Mk.of hv).rows1; omega,⟨⟨by decide,by decide⟩,h.len hv⟩,λhe=>?_,λhe=>?_⟩⟩
 ·rw[<- q4x hv] at he ⊢
  simp[readR,he]
 ·rw[<- q4x hv] at he
  have hS:=Shw.of he
  have h6:=hS.msk.rows6
  have hlen:(qg8 m x).length=m.length:=by simp[qg8]
  have hR:readR m x=(qg8 m x,0):=by simp[readR,he]
  rw[hR]
  refine⟨(),0,Nat.zero_le _,⟨rfl,rfl⟩,λk hk=>⟨λhlt=>⟨hlt,hS.dot k hlt,by rw[List.length_take]; omega,qa9 (by omega) (by omega),k+1,hlt,by omega,by omega,?_⟩,λhge=>⟨List.take_of_length_le (by omega),rfl⟩⟩⟩
  rw[q2w _ k (by omega),qg1 (qg8 m x) k (by omega)]
  simp[qg8]
abbrev x9a:qb9:=qg2 true none [tMask,tInts] [.bool] (λx=>q5g x.1) (λ_=>(true,()))
theorem q45:Meets Tryz.prog 8 x9a:=by
 refine meets (snd (SpecsOk.cons w81 (SpecsOk.cons w5i (SpecsOk.cons wr9 (SpecsOk.cons w0g (SpecsOk.cons w89 (SpecsOk.cons q94 (SpecsOk.cons w86 (SpecsOk.cons wz8 (SpecsOk.cons w49 (SpecsOk.cons q7s (SpecsOk.cons xd3 (SpecsOk.cons xd1 (SpecsOk.nil _)))))))))))))) Tryz.func8 rfl rfl (λ_ _=>none) (λ_=>by kernel_rfl) (by decide) ?_
 rintro⟨m,x,⟨⟩⟩ h
 revert m x
 intro(m:List (List Int)) (x:List Int) (h:q5g m)
 refine @qe1 _ (let Q0:=((w5s m (readR m x).1).1.1,(w5s m (readR m x).1).1.2); let Q1:=(!q1d ((w5p m (readR m x).1).1.1,(w5p m (readR m x).1).1.2) ((shF x).1,(shF x).2)); let Q2:=readR m x; let Q3:=nzTo x x.length; let Q4:=((shF x).1,(shF x).2); let Q5:=w5p m Q2.1; let Q6:=w5s m Q2.1; q5g m/\((!qp1 m)=true->True/\true=true)/\((!qp1 m)=false->ShF m x/\((!decide (wq0 m x=(0:Int)))=true->True/\true=true)/\((!decide (wq0 m x=(0:Int)))=false->ShF m x/\((Q2.2 != (0:Int))=true->True/\true=true)/\((Q2.2 != (0:Int))=false->q5g m/\((!qv9 m Q2.1==(0:Int))=true->True/\true=true)/\((!qv9 m Q2.1==(0:Int))=false->q8t m/\q0d m Q2.1/\(((qs8 m).2 != (0:Int))=true->false=true)/\(((qs8 m).2 != (0:Int))=false->x.length<=(1000000:Nat)/\(decide ((↑Q3:Int)<=(qs8 m).1)=true->((Q5.2 != (0:Int))=true->false=true)/\((Q5.2 != (0:Int))=false->x.length<=(100000:Nat)/\q7r (Q5.1.1,Q5.1.2)/\(Q1=true->false=true)/\(Q1=false->True/\((w0c m != (0:Int))=true->True/\true=true)/\((w0c m != (0:Int))=false->x.length<=(1000000:Nat)/\(decide (wt8 m<(↑Q3:Int))=true->True/\true=true)/\(decide (wt8 m<(↑Q3:Int))=false->True/\((Q6.2==(0:Int))=true->x.length<=(100000:Nat)/\q7r Q0/\(q1d Q0 Q4=true->True/\true=true)/\(q1d Q0 Q4=false->false=true))/\((Q6.2==(0:Int))=false->false=true))))))/\(decide ((↑Q3:Int)<=(qs8 m).1)=false->True/\((w0c m != (0:Int))=true->True/\true=true)/\((w0c m != (0:Int))=false->x.length<=(1000000:Nat)/\(decide (wt8 m<(↑Q3:Int))=true->True/\true=true)/\(decide (wt8 m<(↑Q3:Int))=false->True/\((Q6.2==(0:Int))=true->x.length<=(100000:Nat)/\q7r Q0/\(q1d Q0 Q4=true->True/\true=true)/\(q1d Q0 Q4=false->false=true))/\((Q6.2==(0:Int))=false->false=true)))))))))) (by kernel_rfl) ?_
 try simp only[z0,z1,z2,z3,z4,z5,z6,z7,z8,z9,z10,Int.reduceEq,z11,z12,z13,z14,z15,z16,z17,z18,z19,z20,z21,z22,z23,z24,z25,z26,z27,z28,z29,z30,Int.reduceLE,Int.reduceLT,z31,z32,z33,z34,qa3]
 try simp only[qb5,qb6,qd0,z31,z32,z2,z1]
 refine⟨h,λhl=>⟨ShF.of h x,λhx=>⟨ShF.of h x,λ_=>⟨h,λhy=>?_⟩⟩⟩⟩
 have hF:=x8v h hl hx hy
 have hlen:=hF.len
 have hself:q1d ((shF x).1,(shF x).2) ((shF x).1,(shF x).2)=false->false=true:=λq=>by simp[q1d] at q
 refine⟨hF.spk,hF.spr,λq=>absurd hF.sure q,λ_=>⟨by omega,λhs=>?_,λhs he=>⟨by omega,λhb=>?_⟩⟩⟩
 ·rw[hF.only hs]
  refine⟨λq=>absurd rfl q,λ_=>⟨by omega,hF.fit,hself,λ_ he=>⟨by omega,λhb=>?_⟩⟩⟩
  rw[hF.grd he hb]
  exact⟨λ_=>⟨by omega,hF.fit,hself⟩,λq=>absurd rfl q⟩
 ·rw[hF.grd he hb]
  exact⟨λ_=>⟨by omega,hF.fit,hself⟩,λq=>absurd rfl q⟩
open Go.ChangeShapes Go.WideShapes Go.ChangeAt Go.RowKit Go.Deep Ls
theorem own:ownKnob Tryz.prog.godebug=none:=by kernel_rfl
theorem laidOut:laidOutB Tryz.prog=true:=by kernel_rfl
theorem x9c {H:Type} {enc:TypeId × Value->H} {W:World} {t e:TypeId} {v:Value} {d:DataW H} {p:List MemPlace} (ht:Tryz.prog.underlying t=some (.slice e)) (he:Tryz.prog.underlying e=some (.int .i64)) (ce:Tryz.prog.cellsOf e=1)
  (hv:∃a l c,v=.slice a l c) (h:DataW.Trod enc Tryz.prog W 0 (λ_=>true) true t v d p):∃a l c zs,v=.slice a l c/\SI W a l c zs:=by
 obtain⟨a,l,c,rfl⟩:=hv
 obtain⟨fuel,hf⟩:=h
 rcases open_ints ht he ce hf with⟨hcs,_⟩ | ⟨x,l',c',zs,hcs,_,hl,hm,hz,_,hcell,hwz⟩
 ·simp[Value.cells] at hcs
  obtain⟨rfl,rfl,rfl⟩:=hcs
  exact⟨_,_,_,[],rfl,SI.nil W⟩
 ·simp[Value.cells] at hcs
  obtain⟨rfl,rfl,rfl⟩:=hcs
  have hz':zs.length=c:=by simpa using hz
  refine⟨_,_,_,zs.take l,rfl,by simp; omega,hl,hm,λ_=>⟨x,rfl,λk hk=>?_⟩⟩
  rw[hcell k (by omega)]
  simp[nth,hk]
theorem x9d {H:Type} {enc:TypeId × Value->H} {W:World} {t e q:TypeId} {v:Value} {d:DataW H} {p:List MemPlace} (ht:Tryz.prog.underlying t=some (.slice e)) (he:Tryz.prog.underlying e=some (.slice q)) (hq:Tryz.prog.underlying q=some (.int .i64))
  (ce:Tryz.prog.cellsOf e=1) (cq:Tryz.prog.cellsOf q=1)
  (hv:∃a l c,v=.slice a l c) (h:DataW.Trod enc Tryz.prog W 0 (λ_=>true) true t v d p):∃a l c m,v=.slice a l c/\SM W a l c m:=by
 obtain⟨a,l,c,rfl⟩:=hv
 obtain⟨fuel,hf⟩:=h
 rcases open_int_rows ht he hq ce cq hf with⟨hcs,_⟩ | ⟨x,l',c',A,L,C,Z,hcs,_,hl,hm,_,hr⟩
 ·simp[Value.cells] at hcs
  obtain⟨rfl,rfl,rfl⟩:=hcs
  exact⟨_,_,_,[],rfl,SM.nil W⟩
 ·simp[Value.cells] at hcs
  obtain⟨rfl,rfl,rfl⟩:=hcs
  refine⟨_,_,_,(List.range l).map (λr=>(Z r).take (L r)),rfl,by simp,hl,hm,λ_=>⟨x,rfl,λk hk=>?_⟩⟩
  obtain⟨h1,h2,h3,h4,_,h6,h7⟩:=hr k (by omega)
  have e0:nthL ((List.range l).map (λr=>(Z r).take (L r))) k=(Z k).take (L k):=by simp[nthL,hk]
  have e1:((Z k).take (L k)).length=L k:=by simp; omega
  rw[e0,e1]
  refine⟨A k,C k,h1,e1,h2,h3,λhp=>?_⟩
  cases hA:A k with
  | none=>have:=h6 hA; omega
  | some a'=>
   refine⟨a',rfl,λj hj=>?_⟩
   rw[(h7 a' hA).2 j (by omega)]
   simp[nth,hj]
open Go Go.RowKit Eng Ls
theorem x1b {w:World} {A:Option Addr} {n c:Nat} {m:List (List Int)} (s:SM w A n c m):q5g m:=by
 have hl:=s.len
 have hn:=s.nmax
 refine⟨by omega,λi hi=>?_⟩
 obtain⟨ad,_,h⟩:=s.at_ (by omega)
 obtain⟨A',c',_,h2⟩:=h i (by omega)
 have e:nL m i=nthL m i:=by
  rw[qp9 m i hi]
  unfold nthL
  rw[List.getD_eq_getElem?_getD,List.getElem?_eq_getElem hi]
  rfl
 rw[e]
 exact h2.nmax
end Go.Proofs.YtmijnbjlhnpokaaGreat
