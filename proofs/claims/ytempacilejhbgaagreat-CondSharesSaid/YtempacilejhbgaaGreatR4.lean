/- The greatest shares are the greatest; a further row makes none greater. Plain mathematics. No condition. -/
import Derived.Test.YtempacilejhbgaaGreatR2
import Derived.Test.YtempacilejhbgaaGreatQ10
set_option linter.unusedVariables false
set_option linter.unusedSimpArgs false
namespace Go.Proofs.YtempacilejhbgaaGreat
open Go Go.RowKit Eng
theorem q1h {m:List (List Int)} (hM:Mk m):∀(K:Nat) (d:Nat->Int),wb3 (nL m 0).length d<=K->Sol m.length (nL m 0).length (rowOf m) d->(∃c,c<(nL m 0).length/\d c≠0)->∃s,Named (nL m 0).length s/\0<s.length/\IsC m s/\∀j,j<s.length->d (nI s j).toNat≠0
 | 0,d,hK,_,⟨c,hc,hd⟩=>by
  have:=cnt_lt (d:=λ_=>0) (e:=d) (c0:=c) rfl hd _ hc λc _ q=>absurd rfl q
  omega
 | K+1,d,hK,hs,⟨c1,hc1,hd1⟩=>by
  have hN:=(qw5 d (nL m 0).length).1
  have hnz:=(qw5 d (nL m 0).length).2
  have hin:=wa5 d (nL m 0).length
  have hl:=q41 d (nL m 0).length
  generalize wm0 (nL m 0).length d=s at hN hnz hin hl
  have h1:0<s.length:=by obtain⟨j,hj,_⟩:=hin c1 hc1 hd1; omega
  have hO:=qj8 hM hN h1
  by_cases hC:IsC m s
  ·exact⟨s,hN,h1,hC,hnz⟩
  ·have hsW:∀c,c<s.length->(nI s c).toNat<(nL m 0).length:=λc hc=>by have:=hN.at_ c hc; omega
   have hu:Sol m.length s.length (rowOf (qi8 m s)) λc=>d (nI s c).toNat:=λa ha=>by
    have e:=hs a ha
    rw[q40 s.length (f:=λc=>rowOf m a c*d c) (τ:=λc=>(nI s c).toNat) hsW (λq k hq hk e=>hN.inj hq hk e) λb hb hq=>by
     try dsimp only
     rw[Classical.byContradiction λq:¬d b=0=>by
      obtain⟨j,hj,e⟩:=hin b hb q
      exact hq j hj (by(try dsimp only); rw[e,Int.toNat_natCast]),Int.mul_zero]] at e
    rw[<- e]
    refine qf1 λc hc=>?_
    unfold rowOf
    rw[qr9 m s a ha,qu3 _ _ _ hc]
   have hx:∃z,Sol m.length s.length (rowOf (qi8 m s)) z/\(∃c,c<s.length/\z c=0)/\∃c,c<s.length/\z c≠0:=Classical.byContradiction λhno=>by
    have:=hO.one_mk hu hnz λz hz h0 c hc=>Classical.byContradiction λq=>hno ⟨z,hz,h0,c,hc,q⟩
    exact hC ⟨this.1,this.2⟩
   obtain⟨z,hz,⟨c0,hc0,hz0⟩,c2,hc2,hz2⟩:=hx
   have hat:∀c,c<s.length->(sm s.length λq=>if(nI s q).toNat=(nI s c).toNat then z q else 0)=z c:=λc hc=>by
    rw[qt3 (k:=c) hc λi hi hne=>by
     try dsimp only
     rw[if_neg λe=>hne (hN.inj hi hc e)]]
    try dsimp only
    rw[if_pos rfl]
   have hoff:∀c,c<(nL m 0).length->(sm s.length λq=>if(nI s q).toNat=c then z q else 0)≠0->d c≠0:=λc hc hne q=>hne (sm_zero λi hi=>by
    try dsimp only
    rw[if_neg λe=>hnz i hi (by rw[e]; exact q)])
   have hlt:=cnt_lt (d:=λcol=>sm s.length λq=>if(nI s q).toNat=col then z q else 0) (e:=d) (c0:=(nI s c0).toNat) (by(try dsimp only); rw[hat c0 hc0]; exact hz0) (hnz c0 hc0) _ (hsW c0 hc0) hoff
   obtain⟨s',k1,k2,k3,k4⟩:=q1h hM K (λcol=>sm s.length λq=>if(nI s q).toNat=col then z q else 0) (by omega) (λa ha=>by
    rw[wl1 hsW]
    rw[<- hz a ha]
    refine qf1 λc hc=>?_
    unfold rowOf
    rw[qr9 m s a ha,qu3 _ _ _ hc]) ⟨(nI s c2).toNat,hsW c2 hc2,by(try dsimp only); rw[hat c2 hc2]; exact hz2⟩
   exact⟨s',k1,k2,k3,λj hj=>hoff _ (by have:=k1.at_ j hj; omega) (k4 j hj)⟩
theorem w6x {P:Nat->Prop} {x y:Nat->Int} (hx:∀i,P i->0<=x i) (hy:∀i,P i->0<y i):∀n,(∃i,i<n/\P i)->∃i,i<n/\P i/\∀k,k<n->P k->x i*y k<=x k*y i
 | 0,⟨i,hi,_⟩=>by omega
 | n+1,h=>by
  by_cases h0:∃i,i<n/\P i
  ·obtain⟨i,hi,hp,hm⟩:=w6x hx hy n h0
   by_cases hn:P n/\x n*y i<x i*y n
   ·refine⟨n,by omega,hn.1,λk hk hpk=>?_⟩
    rcases Nat.lt_succ_iff_lt_or_eq.1 hk with e | e
    ·have h1:=hm k e hpk
     have h2:x n*y i*y k<=x i*y n*y k:=Int.mul_le_mul_of_nonneg_right (by omega) (by have:=hy k hpk; omega)
     have h3:x i*y k*y n<=x k*y i*y n:=Int.mul_le_mul_of_nonneg_right h1 (by have:=hy n hn.1; omega)
     have h4:y i*(x n*y k)<=y i*(x k*y n):=by
      have e1:x n*y i*y k=y i*(x n*y k):=by grind
      have e2:x i*y n*y k=x i*y k*y n:=by grind
      have e3:x k*y i*y n=y i*(x k*y n):=by grind
      omega
     exact Int.le_of_mul_le_mul_left h4 (hy i hp)
    ·subst e; exact Int.le_refl _
   ·refine⟨i,by omega,hp,λk hk hpk=>?_⟩
    rcases Nat.lt_succ_iff_lt_or_eq.1 hk with e | e
    ·exact hm k e hpk
    ·subst e
     exact Int.not_lt.1 λq=>hn ⟨hpk,q⟩
  ·obtain⟨i,hi,hp⟩:=h
   have e:i=n:=by
    rcases Nat.lt_succ_iff_lt_or_eq.1 hi with e | e
    ·exact absurd ⟨i,e,hp⟩ h0
    ·exact e
   subst e
   refine⟨i,by omega,hp,λk hk hpk=>?_⟩
   rcases Nat.lt_succ_iff_lt_or_eq.1 hk with e | e
   ·exact absurd ⟨k,e,hpk⟩ h0
   ·subst e; exact Int.le_refl _
def sA (n:Nat) (d:Nat->Int):Int:=sm n λi=>qg3 (d i)
def sB (p:List Int) (d:Nat->Int):Int:=sm p.length λj=>qg3 (d (nI p j).toNat)
def sg (x:Int):Int:=if x<0 then -1 else 1
theorem xl6 (x:Int):qg3 x=sg x*x:=by unfold qg3 sg; split <;> omega
theorem xl7 {x:Int} {e:Int} (he:e=1\/e=-1) (h:0<=e*x):qg3 x=e*x:=by
 unfold qg3
 rcases he with rfl | rfl <;> omega
theorem w6y {x:Int} (h:qg3 x=0):x=0:=by unfold qg3 at h; omega
theorem w6z (x:Int):sg x=1\/sg x=-1:=by unfold sg; split <;> simp
theorem w60 {n:Nat} {d:Nat->Int} (h:∃c,c<n/\d c≠0):0<sA n d:=by
 obtain⟨c,hc,hd⟩:=h
 exact xd4 (λi _=>qj6 _) hc (by show 0<qg3 (d c); unfold qg3; omega)
theorem w61 (n:Nat) (x y:Int) (f g:Nat->Int):sm n (λi=>x*f i+y*g i)=x*sm n f+y*sm n g:=by
 rw[wk0,qk3,qk3]
theorem w0e {m:List (List Int)} (hv:qc8 m=true) (h7:(nL m 0).length<=7) {p:List Int} (hp:Named (nL m 0).length p):∀(K:Nat) (d:Nat->Int),wb3 (nL m 0).length d<=K->Sol m.length (nL m 0).length (rowOf m) d->(∃c,c<(nL m 0).length/\d c≠0) ->
  ∃h∈(qo1 m).1,sB p d*sA (nL m 0).length (nI h)<=sB p (nI h)*sA (nL m 0).length d
 | 0,d,hK,_,⟨c,hc,hd⟩=>by
  have:=cnt_lt (d:=λ_=>0) (e:=d) (c0:=c) rfl hd _ hc λc _ q=>absurd rfl q
  omega
 | K+1,d,hK,hs,hne=>by
  obtain⟨s,hsN,hs1,hsC,hsd⟩:=q1h (Mk.of hv) _ d (Nat.le_refl _) hs hne
  obtain⟨h,hh,hc⟩:=xl2 hv h7 hsN hs1 hsC
  have hN:∀j,j<p.length->(nI p j).toNat<(nL m 0).length:=λj hj=>by have:=hp.at_ j hj; omega
  have hAd:=w60 hne
  have hcnz:∃c,c<(nL m 0).length/\nI h c≠0:=⟨(nI s 0).toNat,by have:=hsN.at_ 0 hs1; omega,hc.on 0 hs1⟩
  have hAc:=w60 hcnz
  have hsup:∀i,i<(nL m 0).length->nI h i≠0->d i≠0:=λi hi hne=>by
   refine Classical.byContradiction λq=>hne (hc.off i hi λj hj e=>hsd j hj ?_)
   rw[e,Int.toNat_natCast]; exact Classical.not_not.1 q
  generalize hn:(nL m 0).length=n at *
  generalize hcf:nI h=c at *
  -- the slope
  obtain⟨U,hU⟩:∃U,U=sm n λi=>sg (d i)*c i:=⟨_,rfl⟩
  obtain⟨V,hV⟩:∃V,V=sm p.length λj=>sg (d (nI p j).toNat)*c (nI p j).toNat:=⟨_,rfl⟩
  obtain⟨ε,hε,hsl⟩:∃ε:Int,(ε=1\/ε=-1)/\0<=ε*(V*sA n d-sB p d*U):=by
   rcases Int.le_total 0 (V*sA n d-sB p d*U) with q | q
   ·exact⟨1,.inl rfl,by omega⟩
   ·exact⟨-1,.inr rfl,by omega⟩
  by_cases hbad:∃i,i<n/\ε*(sg (d i)*c i)<0
  ·obtain⟨i0,hi0,hb0,hmin⟩:=w6x (P:=λi=>i<n/\ε*(sg (d i)*c i)<0) (x:=λi=>qg3 (d i)) (y:=λi=>qg3 (c i)) (λi _=>qj6 _) (λi hi=>by
    have:c i≠0:=λq=>by have:=hi.2; rw[q] at this; omega
    show 0<qg3 (c i)
    unfold qg3; omega) n (by obtain⟨i,hi,hb⟩:=hbad; exact⟨i,hi,hi,hb⟩)
   have hc0:c i0≠0:=λq=>by have:=hb0.2; rw[q] at this; omega
   have hd0:d i0≠0:=hsup i0 hi0 hc0
   have pc:0<qg3 (c i0):=by unfold qg3; omega
   have pd:0<qg3 (d i0):=by unfold qg3; omega
   have habs:∀i,i<n->qg3 (qg3 (c i0)*d i+ε*qg3 (d i0)*c i)=qg3 (c i0)*qg3 (d i)+qg3 (d i0)*(ε*(sg (d i)*c i)):=λi hi=>by
    have e1:sg (d i)*(qg3 (c i0)*d i+ε*qg3 (d i0)*c i)=qg3 (c i0)*qg3 (d i)+qg3 (d i0)*(ε*(sg (d i)*c i)):=by
     rw[xl6 (d i)]; grind
    rw[<- e1]
    refine xl7 (w6z _) ?_
    rw[e1]
    rcases Int.lt_or_le (ε*(sg (d i)*c i)) 0 with q | q
    ·have hm:=hmin i hi ⟨hi,q⟩
     have e2:qg3 (c i)=-(ε*(sg (d i)*c i)):=by
      have h1:=w6z (d i)
      unfold qg3
      rcases hε with rfl | rfl <;> rcases h1 with h1 | h1 <;> rw[h1] at q ⊢ <;> omega
     have e3:qg3 (d i0)*qg3 (c i)=-(qg3 (d i0)*(ε*(sg (d i)*c i))):=by rw[e2]; grind
     have hm:qg3 (d i0)*qg3 (c i)<=qg3 (d i)*qg3 (c i0):=hm
     have e4:qg3 (d i)*qg3 (c i0)=qg3 (c i0)*qg3 (d i):=Int.mul_comm _ _
     omega
    ·have h1:=Int.mul_nonneg (qj6 (c i0)) (qj6 (d i))
     have h2:=Int.mul_nonneg (qj6 (d i0)) q
     omega
   obtain⟨d',hd'⟩:∃d':Nat->Int,d'=λi=>qg3 (c i0)*d i+ε*qg3 (d i0)*c i:=⟨_,rfl⟩
   have hA':sA n d'=qg3 (c i0)*sA n d+qg3 (d i0)*(ε*U):=by
    rw[hU,<- qk3 n ε,<- show sm n (λi=>qg3 (c i0)*qg3 (d i)+qg3 (d i0)*(ε*(sg (d i)*c i)))=qg3 (c i0)*sA n d+qg3 (d i0)*sm n (λi=>ε*(sg (d i)*c i)) from w61 n _ _ _ _]
    refine qf1 λi hi=>?_
    rw[hd']
    exact habs i hi
   have hB':sB p d'=qg3 (c i0)*sB p d+qg3 (d i0)*(ε*V):=by
    rw[hV,<- qk3 p.length ε,<- show sm p.length (λj=>qg3 (c i0)*qg3 (d (nI p j).toNat)+qg3 (d i0)*(ε*(sg (d (nI p j).toNat)*c (nI p j).toNat)))=qg3 (c i0)*sB p d+qg3 (d i0)*sm p.length (λj=>ε*(sg (d (nI p j).toNat)*c (nI p j).toNat)) from w61 p.length _ _ _ _]
    refine qf1 λj hj=>?_
    rw[hd']
    exact habs _ (hN j hj)
   have hup:sB p d*sA n d'<=sB p d' * sA n d:=by
    have e:sB p d' * sA n d-sB p d*sA n d'=qg3 (d i0)*(ε*(V*sA n d-sB p d*U)):=by rw[hA',hB']; grind
    have:=Int.mul_nonneg (qj6 (d i0)) hsl
    omega
   by_cases hz:∃k,k<n/\d' k≠0
   ·have hcnt:wb3 n d' < wb3 n d:=cnt_lt (c0:=i0) (by
     have:=habs i0 hi0
     have e2:qg3 (c i0)=-(ε*(sg (d i0)*c i0)):=by
      have h1:=w6z (d i0)
      have q:=hb0.2
      unfold qg3
      rcases hε with rfl | rfl <;> rcases h1 with h1 | h1 <;> rw[h1] at q ⊢ <;> omega
     have e3:qg3 (c i0)*qg3 (d i0)+qg3 (d i0)*(ε*(sg (d i0)*c i0))=0:=by
      have:ε*(sg (d i0)*c i0)=-qg3 (c i0):=by omega
      rw[this]; grind
     rw[e3] at this
     rw[hd']
     exact w6y this) hd0 n hi0 λi hi q=>by
      intro q2
      refine q ?_
      have:c i=0:=Classical.byContradiction λq3=>hsup i hi q3 q2
      rw[hd']
      show qg3 (c i0)*d i+ε*qg3 (d i0)*c i=0
      rw[q2,this]; omega
    have hsol:Sol m.length n (rowOf m) d':=λa ha=>by
     have h1:=hs a ha
     have h2:=hc.sol a ha
     rw[hn,hcf] at h2
     have e:sm n (λi=>rowOf m a i*d' i)=qg3 (c i0)*sm n (λi=>rowOf m a i*d i)+ε*qg3 (d i0)*sm n (λi=>rowOf m a i*c i):=by
      rw[<- w61]
      refine qf1 λi hi=>?_
      rw[hd']; grind
     rw[e,h1,h2]; omega
    have hA'p:=w60 hz
    obtain⟨h',hh',hle'⟩:=w0e hv (by rw[hn]; exact h7) (p:=p) (by rw[hn]; exact hp) K d' (by rw[hn]; omega) (by rw[hn]; exact hsol) (by rw[hn]; exact hz)
    rw[hn] at hle'
    refine⟨h',hh',?_⟩
    have hAh:0<=sA n (nI h'):=wl4 λi _=>qj6 _
    have h1:sB p d*sA n d' * sA n (nI h')<=sB p d' * sA n d*sA n (nI h'):=Int.mul_le_mul_of_nonneg_right hup hAh
    have h2:sB p d' * sA n (nI h')*sA n d<=sB p (nI h')*sA n d' * sA n d:=Int.mul_le_mul_of_nonneg_right hle' (by omega)
    refine Int.le_of_mul_le_mul_left (a:=sA n d') ?_ hA'p
    have e1:sA n d' * (sB p d*sA n (nI h'))=sB p d*sA n d' * sA n (nI h'):=by grind
    have e2:sA n d' * (sB p (nI h')*sA n d)=sB p (nI h')*sA n d' * sA n d:=by grind
    have e3:sB p d' * sA n d*sA n (nI h')=sB p d' * sA n (nI h')*sA n d:=by grind
    omega
   ·refine⟨h,hh,?_⟩
    rw[hcf]
    have hz2:∀i,i<n->qg3 (c i0)*qg3 (d i)=qg3 (d i0)*qg3 (c i):=λi hi=>by
     have q:d' i=0:=Classical.byContradiction λq=>hz ⟨i,hi,q⟩
     have:=habs i hi
     rw[show qg3 (c i0)*d i+ε*qg3 (d i0)*c i=d' i by rw[hd'],q] at this
     have h0:qg3 0=0:=rfl
     rw[h0] at this
     have hle:ε*(sg (d i)*c i)<=0:=Int.not_lt.1 λq=>by
      have h1:=Int.mul_nonneg (qj6 (c i0)) (qj6 (d i))
      have h2:=Int.mul_pos pd q
      omega
     have e2:qg3 (c i)=-(ε*(sg (d i)*c i)):=by
      have h1:=w6z (d i)
      unfold qg3
      rcases hε with rfl | rfl <;> rcases h1 with h1 | h1 <;> rw[h1] at hle ⊢ <;> omega
     rw[e2]
     have:qg3 (d i0) * -(ε*(sg (d i)*c i))=-(qg3 (d i0)*(ε*(sg (d i)*c i))):=by grind
     omega
    have eA:qg3 (c i0)*sA n d=qg3 (d i0)*sA n c:=by
     unfold sA
     rw[<- qk3,<- qk3]
     exact qf1 hz2
    have eB:qg3 (c i0)*sB p d=qg3 (d i0)*sB p c:=by
     unfold sB
     rw[<- qk3,<- qk3]
     exact qf1 λj hj=>hz2 _ (hN j hj)
    have e1:qg3 (c i0)*qg3 (d i0)*(sB p d*sA n c)=qg3 (c i0)*qg3 (d i0)*(sB p c*sA n d):=by
     have:qg3 (c i0)*qg3 (d i0)*(sB p d*sA n c)=(qg3 (c i0)*sB p d)*(qg3 (d i0)*sA n c):=by grind
     rw[this,eB,<- eA]; grind
    exact Int.le_of_eq (Int.eq_of_mul_eq_mul_left (by have:=Int.mul_pos pc pd; omega) e1)
  ·-- nothing goes down: the circuit itself
   refine⟨h,hh,?_⟩
   rw[hcf]
   have hall:∀i,i<n->qg3 (c i)=ε*(sg (d i)*c i):=λi hi=>by
    have q:0<=ε*(sg (d i)*c i):=Int.not_lt.1 λq=>hbad ⟨i,hi,q⟩
    have h1:=w6z (d i)
    unfold qg3
    rcases hε with rfl | rfl <;> rcases h1 with h1 | h1 <;> rw[h1] at q ⊢ <;> omega
   have eA:sA n c=ε*U:=by
    rw[hU,<- qk3]
    exact qf1 hall
   have eB:sB p c=ε*V:=by
    rw[hV,<- qk3]
    exact qf1 λj hj=>hall _ (hN j hj)
   rw[eA,eB]
   have:ε*V*sA n d-sB p d*(ε*U)=ε*(V*sA n d-sB p d*U):=by grind
   omega
theorem wa7 {m:List (List Int)} (hv:qc8 m=true):(qo1 m).1.length<=1000000:=by
 have hM:=Mk.of hv
 have h10:=hM.pix10
 have e1:qo1 m=(q1g m (nL m 0).length (q25 m),0):=by simp[qo1,hv]
 have hc:q25 m<=(nL m 0).length:=by unfold q25; omega
 have:=q9y m (nL m 0).length h10 (q25 m) (by omega)
 rw[e1]
 show(q1g m (nL m 0).length (q25 m)).length<=_
 omega
theorem wl8 {m:List (List Int)} (hv:qc8 m=true) (h7:(nL m 0).length<=7) {i:Nat} (hi:i<(qo1 m).1.length):∃s,w7e m s (nL (qo1 m).1 i):=xu6 hv h7 (qn6 _ _ hi)
theorem xl8 {m:List (List Int)} (hv:qc8 m=true) {s h p:List Int} (hc:w7e m s h) (hp:Named (nL m 0).length p):wj2 h p:=by
 have h10:=(Mk.of hv).pix10
 have hl:=hp.len
 exact⟨w0b hv hc,by omega,λj hj=>by rw[hc.len]; exact hp.at_ j hj,by have:=xl3 hc; omega⟩
theorem xu9 {m:List (List Int)} {s h:List Int} (hc:w7e m s h) (k:Nat):Named (nL m 0).length (q6k h k):=by
 have:=w2l (h:=h) (k:=k)
 rwa [hc.len] at this
theorem x5l {m:List (List Int)} (h7:qc8 m=true->(nL m 0).length<=7):w5w m:=by
 refine⟨λhv=>xk8 hv,λhv k hk=>⟨wa7 hv,λi hi=>?_,λi hi=>?_⟩⟩
 ·obtain⟨s,hc⟩:=wl8 hv (h7 hv) hi
  have hM:=Mk.of hv
  have m1:=hM.pix1
  have m10:=hM.pix10
  exact⟨w0b hv hc,by rw[hc.len]; omega,by rw[hc.len]; omega,Int.natCast_nonneg _,by rw[hc.len]; omega⟩
 ·obtain⟨s,hc⟩:=wl8 hv (h7 hv) hi
  rw[Int.toNat_natCast]
  exact xl8 hv hc (xu9 hc k)
def leQ (a b:Int × Int):Prop:=a.1*b.2<=b.1*a.2
theorem w0f (a:Int × Int):leQ a a:=Int.le_refl _
theorem wl9 {a b c:Int × Int} (ha:1<=a.2) (hb:1<=b.2) (hc:1<=c.2) (h1:leQ a b) (h2:leQ b c):leQ a c:=by
 unfold leQ at *
 have k1:a.1*b.2*c.2<=b.1*a.2*c.2:=Int.mul_le_mul_of_nonneg_right h1 (by omega)
 have k2:b.1*c.2*a.2<=c.1*b.2*a.2:=Int.mul_le_mul_of_nonneg_right h2 (by omega)
 refine Int.le_of_mul_le_mul_left (a:=b.2) ?_ (by omega)
 have e1:b.2*(a.1*c.2)=a.1*b.2*c.2:=by grind
 have e2:b.2*(c.1*a.2)=c.1*b.2*a.2:=by grind
 have e3:b.1*a.2*c.2=b.1*c.2*a.2:=by grind
 omega
theorem q42 {a b:Int × Int}:0<wb0 a b↔b.1*a.2<a.1*b.2:=by
 unfold wb0
 split
 ·rename_i h; constructor <;> intro q <;> omega
 ·split
  ·constructor <;> intro q <;> omega
  ·constructor <;> intro q <;> omega
theorem top_le {a b:Int × Int}:leQ a (q7f a b)/\leQ b (q7f a b):=by
 unfold q7f
 split
 ·rename_i h
  exact⟨Int.le_of_lt (q42.1 h),w0f b⟩
 ·rename_i h
  refine⟨w0f a,Int.not_lt.1 λq=>h (q42.2 q)⟩
theorem x1n {h1 h2 p1 p2:List Int} (k1:wj2 h1 p1) (k2:wj2 h2 p2) (h:inL h1 p1*szL h2<=inL h2 p2*szL h1):leQ (shR h1 p1) (shR h2 p2):=by
 have l1:=w5k k1
 have l2:=w5k k2
 have s1:=q90 k1.ok k1.ne
 have s2:=q90 k2.ok k2.ne
 unfold leQ
 have q1:=l1.eq
 have q2:=l2.eq
 have b1:=l1.pos
 have b2:=l2.pos
 generalize shR h1 p1=a at *
 generalize shR h2 p2=b at *
 generalize inL h1 p1=x at *
 generalize inL h2 p2=y at *
 generalize szL h1=u at *
 generalize szL h2=v at *
 have hb:x*v*(a.2*b.2)<=y*u*(a.2*b.2):=Int.mul_le_mul_of_nonneg_right h (by have:=Int.mul_pos (a:=a.2) (b:=b.2) (by omega) (by omega); omega)
 refine Int.le_of_mul_le_mul_left (a:=u*v) ?_ (Int.mul_pos s1 s2)
 have e1:u*v*(a.1*b.2)=x*v*(a.2*b.2):=by
  have:u*v*(a.1*b.2)=a.1*u*(v*b.2):=by grind
  rw[this,q1]; grind
 have e2:u*v*(b.1*a.2)=y*u*(a.2*b.2):=by
  have:u*v*(b.1*a.2)=b.1*v*(u*a.2):=by grind
  rw[this,q2]; grind
 omega
theorem w0g {l:List (List Int)} {p:List Int} (h:xj2 l p):∀k,k<=l.length->(∀i,i<k->leQ (shR (nL l i) p) (qr2 l p k))/\(qr2 l p k=(0,1)\/∃i,i<k/\qr2 l p k=shR (nL l i) p)
 | 0,_=>⟨λi hi=>by omega,.inl rfl⟩
 | k+1,hk=>by
  obtain⟨h1,h2⟩:=w0g h k (by omega)
  have t:=top_le (a:=qr2 l p k) (b:=shR (nL l k) p)
  refine⟨λi hi=>?_,?_⟩
  ·rcases Nat.lt_succ_iff_lt_or_eq.1 hi with e | e
   ·exact wl9 (q4e (h.ok i (by omega))).pos (q08 h k (by omega)).pos (q08 h (k+1) hk).pos (h1 i e) t.1
   ·subst e; exact t.2
  ·show q7f (qr2 l p k) (shR (nL l k) p)=(0,1)\/∃i,i<k+1/\q7f (qr2 l p k) (shR (nL l k) p)=shR (nL l i) p
   unfold q7f
   split
   ·exact .inr ⟨k,by omega,rfl⟩
   ·rcases h2 with h2 | ⟨i,hi,h2⟩
    ·exact .inl h2
    ·exact .inr ⟨i,by omega,h2⟩
theorem xv0 {h:List Int} {n:Nat} (hl:h.length=n):sA n (nI h)=szL h:=by
 unfold szL sA
 rw[wa6,hl]
theorem xv1 (h p:List Int):sB p (nI h)=inL h p:=by
 have:∀k,ql6 h p k=sm k λj=>qg3 (nI h (nI p j).toNat):=λk=>by
  induction k with
  | zero=>rfl
  | succ k ih=>rw[ql6,ih]; rfl
 exact(this p.length).symm
theorem wq9 {m:List (List Int)} (hv:qc8 m=true) (h7:(nL m 0).length<=7) {p h:List Int} (hp:Named (nL m 0).length p) (hl:h.length=(nL m 0).length) (hs:Sol m.length (nL m 0).length (rowOf m) (nI h)) (hne:szL h≠0):∃i,i<(qo1 m).1.length/\inL h p*szL (nL (qo1 m).1 i)<=inL (nL (qo1 m).1 i) p*szL h:=by
 have h0:∃c,c<(nL m 0).length/\nI h c≠0:=Classical.byContradiction λq=>hne (by
  unfold szL
  rw[wa6]
  refine sm_zero λi hi=>?_
  have:nI h i=0:=Classical.byContradiction λq2=>q ⟨i,by omega,q2⟩
  show qg3 (nI h i)=0
  rw[this]; rfl)
 obtain⟨c,hc,hle⟩:=w0e hv h7 hp _ (nI h) (Nat.le_refl _) hs h0
 obtain⟨i,hi,rfl⟩:=List.mem_iff_getElem.1 hc
 obtain⟨s,hq⟩:=wl8 hv h7 hi
 refine⟨i,hi,?_⟩
 rw[<- ql4 _ _ hi,xv0 hq.len,xv0 hl,xv1,xv1] at hle
 exact hle
end Go.Proofs.YtempacilejhbgaaGreat
