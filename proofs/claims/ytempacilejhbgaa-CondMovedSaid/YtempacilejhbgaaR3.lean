/- No kernel vector has a greater share at some places than a circuit. Plain mathematics. No condition. -/
import Derived.Test.YtempacilejhbgaaR2
set_option linter.unusedVariables false
set_option linter.unusedSimpArgs false
namespace Go.Proofs.Ytempacilejhbgaa
open Go Go.RowKit Eng
theorem q0w {m:List (List Int)} (hM:Mk m):∀(K:Nat) (d:Nat->Int),q9y (nL m 0).length d<=K->Sol m.length (nL m 0).length (rowOf m) d->(∃c,c<(nL m 0).length/\d c≠0)->∃s,Named (nL m 0).length s/\0<s.length/\IsC m s/\∀j,j<s.length->d (nI s j).toNat≠0
 | 0,d,hK,_,⟨c,hc,hd⟩=>by
  have:=cnt_lt (d:=λ_=>0) (e:=d) (c0:=c) rfl hd _ hc λc _ q=>absurd rfl q
  omega
 | K+1,d,hK,hs,⟨c1,hc1,hd1⟩=>by
  have hN:=(qv2 d (nL m 0).length).1
  have hnz:=(qv2 d (nL m 0).length).2
  have hin:=q9q d (nL m 0).length
  have hl:=q4f d (nL m 0).length
  generalize wi8 (nL m 0).length d=s at hN hnz hin hl
  have h1:0<s.length:=by obtain⟨j,hj,_⟩:=hin c1 hc1 hd1; omega
  have hO:=qi9 hM hN h1
  by_cases hC:IsC m s
  ·exact⟨s,hN,h1,hC,hnz⟩
  ·have hsW:∀c,c<s.length->(nI s c).toNat<(nL m 0).length:=λc hc=>by have:=hN.at_ c hc; omega
   have hu:Sol m.length s.length (rowOf (qn4 m s)) λc=>d (nI s c).toNat:=λa ha=>by
    have e:=hs a ha
    rw[q2k s.length (f:=λc=>rowOf m a c*d c) (τ:=λc=>(nI s c).toNat) hsW (λq k hq hk e=>hN.inj hq hk e) λb hb hq=>by
     try dsimp only
     rw[Classical.byContradiction λq:¬d b=0=>by
      obtain⟨j,hj,e⟩:=hin b hb q
      exact hq j hj (by(try dsimp only); rw[e,Int.toNat_natCast]),Int.mul_zero]] at e
    rw[<- e]
    refine qe0 λc hc=>?_
    unfold rowOf
    rw[qx0 m s a ha,qq0 _ _ _ hc]
   have hx:∃z,Sol m.length s.length (rowOf (qn4 m s)) z/\(∃c,c<s.length/\z c=0)/\∃c,c<s.length/\z c≠0:=Classical.byContradiction λhno=>by
    have:=hO.one_mk hu hnz λz hz h0 c hc=>Classical.byContradiction λq=>hno ⟨z,hz,h0,c,hc,q⟩
    exact hC ⟨this.1,this.2⟩
   obtain⟨z,hz,⟨c0,hc0,hz0⟩,c2,hc2,hz2⟩:=hx
   have hat:∀c,c<s.length->(sm s.length λq=>if(nI s q).toNat=(nI s c).toNat then z q else 0)=z c:=λc hc=>by
    rw[qr7 (k:=c) hc λi hi hne=>by
     try dsimp only
     rw[if_neg λe=>hne (hN.inj hi hc e)]]
    try dsimp only
    rw[if_pos rfl]
   have hoff:∀c,c<(nL m 0).length->(sm s.length λq=>if(nI s q).toNat=c then z q else 0)≠0->d c≠0:=λc hc hne q=>hne (qp2 λi hi=>by
    try dsimp only
    rw[if_neg λe=>hnz i hi (by rw[e]; exact q)])
   have hlt:=cnt_lt (d:=λcol=>sm s.length λq=>if(nI s q).toNat=col then z q else 0) (e:=d) (c0:=(nI s c0).toNat) (by(try dsimp only); rw[hat c0 hc0]; exact hz0) (hnz c0 hc0) _ (hsW c0 hc0) hoff
   obtain⟨s',k1,k2,k3,k4⟩:=q0w hM K (λcol=>sm s.length λq=>if(nI s q).toNat=col then z q else 0) (by omega) (λa ha=>by
    rw[wh9 hsW]
    rw[<- hz a ha]
    refine qe0 λc hc=>?_
    unfold rowOf
    rw[qx0 m s a ha,qq0 _ _ _ hc]) ⟨(nI s c2).toNat,hsW c2 hc2,by(try dsimp only); rw[hat c2 hc2]; exact hz2⟩
   exact⟨s',k1,k2,k3,λj hj=>hoff _ (by have:=k1.at_ j hj; omega) (k4 j hj)⟩
theorem w5m {P:Nat->Prop} {x y:Nat->Int} (hx:∀i,P i->0<=x i) (hy:∀i,P i->0<y i):∀n,(∃i,i<n/\P i)->∃i,i<n/\P i/\∀k,k<n->P k->x i*y k<=x k*y i
 | 0,⟨i,hi,_⟩=>by omega
 | n+1,h=>by
  by_cases h0:∃i,i<n/\P i
  ·obtain⟨i,hi,hp,hm⟩:=w5m hx hy n h0
   by_cases hn:P n/\x n*y i<x i*y n
   ·refine⟨n,by omega,hn.1,λk hk hpk=>?_⟩
    rcases Nat.lt_succ_iff_lt_or_eq.1 hk with e | e
    ·have h1:=hm k e hpk
     have h2:x n*y i*y k<=x i*y n*y k:=Int.mul_le_mul_of_nonneg_right (by omega) (by have:=hy k hpk; omega)
     have h3:x i*y k*y n<=x k*y i*y n:=Int.mul_le_mul_of_nonneg_right h1 (by have:=hy n hn.1; omega)
     have h4:y i*(x n*y k)<=y i*(x k*y n):=by
      have e1:x n*y i*y k=y i*(x n*y k):=by grind
      have e2:x i*y n*y k=x i*y k*y n:=by grind
      have e3:x k*y i*y n=y i*(x k*y n):=by grind
      omega
     exact Int.le_of_mul_le_mul_left h4 (hy i hp)
    ·subst e; exact Int.le_refl _
   ·refine⟨i,by omega,hp,λk hk hpk=>?_⟩
    rcases Nat.lt_succ_iff_lt_or_eq.1 hk with e | e
    ·exact hm k e hpk
    ·subst e
     exact Int.not_lt.1 λq=>hn ⟨hpk,q⟩
  ·obtain⟨i,hi,hp⟩:=h
   have e:i=n:=by
    rcases Nat.lt_succ_iff_lt_or_eq.1 hi with e | e
    ·exact absurd ⟨i,e,hp⟩ h0
    ·exact e
   subst e
   refine⟨i,by omega,hp,λk hk hpk=>?_⟩
   rcases Nat.lt_succ_iff_lt_or_eq.1 hk with e | e
   ·exact absurd ⟨k,e,hpk⟩ h0
   ·subst e; exact Int.le_refl _
def sA (n:Nat) (d:Nat->Int):Int:=sm n λi=>qf8 (d i)
def sB (p:List Int) (d:Nat->Int):Int:=sm p.length λj=>qf8 (d (nI p j).toNat)
def sg (x:Int):Int:=if x<0 then -1 else 1
theorem xg5 (x:Int):qf8 x=sg x*x:=by unfold qf8 sg; split <;> omega
theorem xg6 {x:Int} {e:Int} (he:e=1\/e=-1) (h:0<=e*x):qf8 x=e*x:=by
 unfold qf8
 rcases he with rfl | rfl <;> omega
theorem w5n {x:Int} (h:qf8 x=0):x=0:=by unfold qf8 at h; omega
theorem w5o (x:Int):sg x=1\/sg x=-1:=by unfold sg; split <;> simp
theorem w5p {n:Nat} {d:Nat->Int} (h:∃c,c<n/\d c≠0):0<sA n d:=by
 obtain⟨c,hc,hd⟩:=h
 exact w9v (λi _=>qi3 _) hc (by show 0<qf8 (d c); unfold qf8; omega)
theorem w5q (n:Nat) (x y:Int) (f g:Nat->Int):sm n (λi=>x*f i+y*g i)=x*sm n f+y*sm n g:=by
 rw[wg6,qi8,qi8]
theorem wv8 {m:List (List Int)} (hv:qb9 m=true) (h7:(nL m 0).length<=7) {p:List Int} (hp:Named (nL m 0).length p):∀(K:Nat) (d:Nat->Int),q9y (nL m 0).length d<=K->Sol m.length (nL m 0).length (rowOf m) d->(∃c,c<(nL m 0).length/\d c≠0) ->
  ∃h∈(qp1 m).1,sB p d*sA (nL m 0).length (nI h)<=sB p (nI h)*sA (nL m 0).length d
 | 0,d,hK,_,⟨c,hc,hd⟩=>by
  have:=cnt_lt (d:=λ_=>0) (e:=d) (c0:=c) rfl hd _ hc λc _ q=>absurd rfl q
  omega
 | K+1,d,hK,hs,hne=>by
  obtain⟨s,hsN,hs1,hsC,hsd⟩:=q0w (Mk.of hv) _ d (Nat.le_refl _) hs hne
  obtain⟨h,hh,hc⟩:=xg3 hv h7 hsN hs1 hsC
  have hN:∀j,j<p.length->(nI p j).toNat<(nL m 0).length:=λj hj=>by have:=hp.at_ j hj; omega
  have hAd:=w5p hne
  have hcnz:∃c,c<(nL m 0).length/\nI h c≠0:=⟨(nI s 0).toNat,by have:=hsN.at_ 0 hs1; omega,hc.on 0 hs1⟩
  have hAc:=w5p hcnz
  have hsup:∀i,i<(nL m 0).length->nI h i≠0->d i≠0:=λi hi hne=>by
   refine Classical.byContradiction λq=>hne (hc.off i hi λj hj e=>hsd j hj ?_)
   rw[e,Int.toNat_natCast]; exact Classical.not_not.1 q
  generalize hn:(nL m 0).length=n at *
  generalize hcf:nI h=c at *
  -- the slope
  obtain⟨U,hU⟩:∃U,U=sm n λi=>sg (d i)*c i:=⟨_,rfl⟩
  obtain⟨V,hV⟩:∃V,V=sm p.length λj=>sg (d (nI p j).toNat)*c (nI p j).toNat:=⟨_,rfl⟩
  obtain⟨ε,hε,hsl⟩:∃ε:Int,(ε=1\/ε=-1)/\0<=ε*(V*sA n d-sB p d*U):=by
   rcases Int.le_total 0 (V*sA n d-sB p d*U) with q | q
   ·exact⟨1,.inl rfl,by omega⟩
   ·exact⟨-1,.inr rfl,by omega⟩
  by_cases hbad:∃i,i<n/\ε*(sg (d i)*c i)<0
  ·obtain⟨i0,hi0,hb0,hmin⟩:=w5m (P:=λi=>i<n/\ε*(sg (d i)*c i)<0) (x:=λi=>qf8 (d i)) (y:=λi=>qf8 (c i)) (λi _=>qi3 _) (λi hi=>by
    have:c i≠0:=λq=>by have:=hi.2; rw[q] at this; omega
    show 0<qf8 (c i)
    unfold qf8; omega) n (by obtain⟨i,hi,hb⟩:=hbad; exact⟨i,hi,hi,hb⟩)
   have hc0:c i0≠0:=λq=>by have:=hb0.2; rw[q] at this; omega
   have hd0:d i0≠0:=hsup i0 hi0 hc0
   have pc:0<qf8 (c i0):=by unfold qf8; omega
   have pd:0<qf8 (d i0):=by unfold qf8; omega
   have habs:∀i,i<n->qf8 (qf8 (c i0)*d i+ε*qf8 (d i0)*c i)=qf8 (c i0)*qf8 (d i)+qf8 (d i0)*(ε*(sg (d i)*c i)):=λi hi=>by
    have e1:sg (d i)*(qf8 (c i0)*d i+ε*qf8 (d i0)*c i)=qf8 (c i0)*qf8 (d i)+qf8 (d i0)*(ε*(sg (d i)*c i)):=by
     rw[xg5 (d i)]; grind
    rw[<- e1]
    refine xg6 (w5o _) ?_
    rw[e1]
    rcases Int.lt_or_le (ε*(sg (d i)*c i)) 0 with q | q
    ·have hm:=hmin i hi ⟨hi,q⟩
     have e2:qf8 (c i)=-(ε*(sg (d i)*c i)):=by
      have h1:=w5o (d i)
      unfold qf8
      rcases hε with rfl | rfl <;> rcases h1 with h1 | h1 <;> rw[h1] at q ⊢ <;> omega
     have e3:qf8 (d i0)*qf8 (c i)=-(qf8 (d i0)*(ε*(sg (d i)*c i))):=by rw[e2]; grind
     have hm:qf8 (d i0)*qf8 (c i)<=qf8 (d i)*qf8 (c i0):=hm
     have e4:qf8 (d i)*qf8 (c i0)=qf8 (c i0)*qf8 (d i):=Int.mul_comm _ _
     omega
    ·have h1:=Int.mul_nonneg (qi3 (c i0)) (qi3 (d i))
     have h2:=Int.mul_nonneg (qi3 (d i0)) q
     omega
   obtain⟨d',hd'⟩:∃d':Nat->Int,d'=λi=>qf8 (c i0)*d i+ε*qf8 (d i0)*c i:=⟨_,rfl⟩
   have hA':sA n d'=qf8 (c i0)*sA n d+qf8 (d i0)*(ε*U):=by
    rw[hU,<- qi8 n ε,<- show sm n (λi=>qf8 (c i0)*qf8 (d i)+qf8 (d i0)*(ε*(sg (d i)*c i)))=qf8 (c i0)*sA n d+qf8 (d i0)*sm n (λi=>ε*(sg (d i)*c i)) from w5q n _ _ _ _]
    refine qe0 λi hi=>?_
    rw[hd']
    exact habs i hi
   have hB':sB p d'=qf8 (c i0)*sB p d+qf8 (d i0)*(ε*V):=by
    rw[hV,<- qi8 p.length ε,<- show sm p.length (λj=>qf8 (c i0)*qf8 (d (nI p j).toNat)+qf8 (d i0)*(ε*(sg (d (nI p j).toNat)*c (nI p j).toNat)))=qf8 (c i0)*sB p d+qf8 (d i0)*sm p.length (λj=>ε*(sg (d (nI p j).toNat)*c (nI p j).toNat)) from w5q p.length _ _ _ _]
    refine qe0 λj hj=>?_
    rw[hd']
    exact habs _ (hN j hj)
   have hup:sB p d*sA n d'<=sB p d' * sA n d:=by
    have e:sB p d' * sA n d-sB p d*sA n d'=qf8 (d i0)*(ε*(V*sA n d-sB p d*U)):=by rw[hA',hB']; grind
    have:=Int.mul_nonneg (qi3 (d i0)) hsl
    omega
   by_cases hz:∃k,k<n/\d' k≠0
   ·have hcnt:q9y n d' < q9y n d:=cnt_lt (c0:=i0) (by
     have:=habs i0 hi0
     have e2:qf8 (c i0)=-(ε*(sg (d i0)*c i0)):=by
      have h1:=w5o (d i0)
      have q:=hb0.2
      unfold qf8
      rcases hε with rfl | rfl <;> rcases h1 with h1 | h1 <;> rw[h1] at q ⊢ <;> omega
     have e3:qf8 (c i0)*qf8 (d i0)+qf8 (d i0)*(ε*(sg (d i0)*c i0))=0:=by
      have:ε*(sg (d i0)*c i0)=-qf8 (c i0):=by omega
      rw[this]; grind
     rw[e3] at this
     rw[hd']
     exact w5n this) hd0 n hi0 λi hi q=>by
      intro q2
      refine q ?_
      have:c i=0:=Classical.byContradiction λq3=>hsup i hi q3 q2
      rw[hd']
      show qf8 (c i0)*d i+ε*qf8 (d i0)*c i=0
      rw[q2,this]; omega
    have hsol:Sol m.length n (rowOf m) d':=λa ha=>by
     have h1:=hs a ha
     have h2:=hc.sol a ha
     rw[hn,hcf] at h2
     have e:sm n (λi=>rowOf m a i*d' i)=qf8 (c i0)*sm n (λi=>rowOf m a i*d i)+ε*qf8 (d i0)*sm n (λi=>rowOf m a i*c i):=by
      rw[<- w5q]
      refine qe0 λi hi=>?_
      rw[hd']; grind
     rw[e,h1,h2]; omega
    have hA'p:=w5p hz
    obtain⟨h',hh',hle'⟩:=wv8 hv (by rw[hn]; exact h7) (p:=p) (by rw[hn]; exact hp) K d' (by rw[hn]; omega) (by rw[hn]; exact hsol) (by rw[hn]; exact hz)
    rw[hn] at hle'
    refine⟨h',hh',?_⟩
    have hAh:0<=sA n (nI h'):=wi2 λi _=>qi3 _
    have h1:sB p d*sA n d' * sA n (nI h')<=sB p d' * sA n d*sA n (nI h'):=Int.mul_le_mul_of_nonneg_right hup hAh
    have h2:sB p d' * sA n (nI h')*sA n d<=sB p (nI h')*sA n d' * sA n d:=Int.mul_le_mul_of_nonneg_right hle' (by omega)
    refine Int.le_of_mul_le_mul_left (a:=sA n d') ?_ hA'p
    have e1:sA n d' * (sB p d*sA n (nI h'))=sB p d*sA n d' * sA n (nI h'):=by grind
    have e2:sA n d' * (sB p (nI h')*sA n d)=sB p (nI h')*sA n d' * sA n d:=by grind
    have e3:sB p d' * sA n d*sA n (nI h')=sB p d' * sA n (nI h')*sA n d:=by grind
    omega
   ·refine⟨h,hh,?_⟩
    rw[hcf]
    have hz2:∀i,i<n->qf8 (c i0)*qf8 (d i)=qf8 (d i0)*qf8 (c i):=λi hi=>by
     have q:d' i=0:=Classical.byContradiction λq=>hz ⟨i,hi,q⟩
     have:=habs i hi
     rw[show qf8 (c i0)*d i+ε*qf8 (d i0)*c i=d' i by rw[hd'],q] at this
     have h0:qf8 0=0:=rfl
     rw[h0] at this
     have hle:ε*(sg (d i)*c i)<=0:=Int.not_lt.1 λq=>by
      have h1:=Int.mul_nonneg (qi3 (c i0)) (qi3 (d i))
      have h2:=Int.mul_pos pd q
      omega
     have e2:qf8 (c i)=-(ε*(sg (d i)*c i)):=by
      have h1:=w5o (d i)
      unfold qf8
      rcases hε with rfl | rfl <;> rcases h1 with h1 | h1 <;> rw[h1] at hle ⊢ <;> omega
     rw[e2]
     have:qf8 (d i0) * -(ε*(sg (d i)*c i))=-(qf8 (d i0)*(ε*(sg (d i)*c i))):=by grind
     omega
    have eA:qf8 (c i0)*sA n d=qf8 (d i0)*sA n c:=by
     unfold sA
     rw[<- qi8,<- qi8]
     exact qe0 hz2
    have eB:qf8 (c i0)*sB p d=qf8 (d i0)*sB p c:=by
     unfold sB
     rw[<- qi8,<- qi8]
     exact qe0 λj hj=>hz2 _ (hN j hj)
    have e1:qf8 (c i0)*qf8 (d i0)*(sB p d*sA n c)=qf8 (c i0)*qf8 (d i0)*(sB p c*sA n d):=by
     have:qf8 (c i0)*qf8 (d i0)*(sB p d*sA n c)=(qf8 (c i0)*sB p d)*(qf8 (d i0)*sA n c):=by grind
     rw[this,eB,<- eA]; grind
    exact Int.le_of_eq (Int.eq_of_mul_eq_mul_left (by have:=Int.mul_pos pc pd; omega) e1)
  ·-- nothing goes down: the circuit itself
   refine⟨h,hh,?_⟩
   rw[hcf]
   have hall:∀i,i<n->qf8 (c i)=ε*(sg (d i)*c i):=λi hi=>by
    have q:0<=ε*(sg (d i)*c i):=Int.not_lt.1 λq=>hbad ⟨i,hi,q⟩
    have h1:=w5o (d i)
    unfold qf8
    rcases hε with rfl | rfl <;> rcases h1 with h1 | h1 <;> rw[h1] at q ⊢ <;> omega
   have eA:sA n c=ε*U:=by
    rw[hU,<- qi8]
    exact qe0 hall
   have eB:sB p c=ε*V:=by
    rw[hV,<- qi8]
    exact qe0 λj hj=>hall _ (hN j hj)
   rw[eA,eB]
   have:ε*V*sA n d-sB p d*(ε*U)=ε*(V*sA n d-sB p d*U):=by grind
   omega
end Go.Proofs.Ytempacilejhbgaa
