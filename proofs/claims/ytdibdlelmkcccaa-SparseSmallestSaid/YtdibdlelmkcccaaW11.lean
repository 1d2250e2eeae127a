/- The program's test of a fit is the reference's: its fractions are small. Plain mathematics. No condition. -/
import Derived.Test.YtdibdlelmkcccaaW7
import Derived.Test.YtdibdlelmkcccaaW10
set_option linter.unusedVariables false
namespace Go.Proofs.Ytdibdlelmkcccaa
open Go Go.RowKit Eng
theorem wk7 (l:List Int) {p:Nat} (hp:p<l.length) (x:Int) (q:Nat):nI (l.set p x) q=if q=p then x else nI l q:=by
 by_cases e:q=p
 ·subst e
  rw[if_pos rfl,qi5 _ _ (by rw[List.length_set]; exact hp),List.getElem_set_self]
 ·rw[if_neg e]
  unfold nI qa1
  rw[List.getD_eq_getElem?_getD,List.getD_eq_getElem?_getD,List.getElem?_set_ne (Ne.symm e)]
theorem xf5 {m:List (List Int)} {y:List Int} {k:Int} (h:q7k m y k=0):qu7 m y=0/\0<=k/\k<=10:=by
 unfold q7k at h
 rw[wq5] at h
 split at h
 ·rename_i h1
  split at h
  ·rename_i h2; exact⟨h1,qu6.1 h2⟩
  ·cases h
 ·rename_i h1; exact absurd h h1
end Go.Proofs.Ytdibdlelmkcccaa
set_option linter.unusedVariables false
namespace Go.Proofs.Ytdibdlelmkcccaa
open Go Go.RowKit Eng
theorem q41:∀(N:Nat) {n:Nat} {f:Nat->Int} {τ:Nat->Nat},(∀q,q<N->τ q<n)->(∀q k,q<N->k<N->τ q=τ k->q=k)->(∀b,b<n->(∀q,q<N->τ q≠b)->f b=0)->sm n f=sm N λq=>f (τ q)
 | 0,n,f,τ,_,_,h=>qt0 λb hb=>h b hb λq hq=>absurd hq (Nat.not_lt_zero _)
 | N+1,n,f,τ,h1,h2,h3=>by
  have e:sm n f=sm n (λb=>if b=τ N then 0 else f b)+sm n (λb=>if b=τ N then f b else 0):=by
   rw[<- wz6]
   refine qh3 λb _=>?_
   by_cases q:b=τ N
   ·rw[if_pos q,if_pos q]; omega
   ·rw[if_neg q,if_neg q]; omega
  have ih:=q41 N (n:=n) (f:=λb=>if b=τ N then 0 else f b) (τ:=τ) (λq hq=>h1 q (by omega)) (λq k hq hk=>h2 q k (by omega) (by omega)) λb hb hq=>by
   try dsimp only
   by_cases q:b=τ N
   ·rw[if_pos q]
   ·rw[if_neg q]
    refine h3 b hb λk hk=>?_
    rcases Nat.lt_succ_iff_lt_or_eq.1 hk with q2 | q2
    ·exact hq k q2
    ·rw[q2]; exact Ne.symm q
  rw[e,ih,qv9 (k:=τ N) (h1 N (by omega)) λb _ hne=>if_neg hne,if_pos rfl,sm]
  congr 1
  refine qh3 λq hq=>?_
  try dsimp only
  rw[if_neg λk=>by have:=h2 q N (by omega) (by omega) k; omega]
theorem xy8 {n N j:Nat} {R:Nat->Nat->Int} {rows:List (List Int)} {P:List Int} (h:St n (N+1) R j rows P) (hP:P.length=N) (hid:∀q,q<N->nI P q=q) (hN:N<=6) (h1:∀a c,a<n->c<N->(R a c).natAbs<=1) (hy:∀a,a<n->(R a N).natAbs<=1000000) {k:Nat} (hk:k<N) :
  ∃X D:Int,D≠0/\D.natAbs<=400/\X.natAbs<=2400000000/\nI (nL rows k) N*D=X*nI (nL rows k) k:=by
 obtain⟨ρ,pv,τ,hE,t1,t2,t3,t4,t5,t6⟩:=h.tag
 have hpl:=h.pl
 have hcomb:∀k,k<N->∃(c:Int) (lam:Nat->Int),c≠0/\∀col,col<N+1->(sm N λq=>lam q*R (τ q) col)=c*nI (nL rows k) col:=λk hk=>by
  obtain⟨c,l,hc,hl,hs,_⟩:=hE.comb (τ k) (t1 k (by omega))
  refine⟨c,λq=>l (τ q),hc,λcol hcol=>?_⟩
  rw[<- t4 k (by omega) col hcol,hl col hcol]
  refine(q41 N (f:=λb=>l b*R b col) (λq hq=>t1 q (by omega)) (λq k hq hk=>t2 q k (by omega) (by omega)) λb hb hq=>?_).symm
  try dsimp only
  obtain⟨i,hi,rfl⟩:=t3 b hb
  have hiN:¬i<P.length:=λq=>hq i (by omega) rfl
  have hl0:l (τ i)=0:=Classical.byContradiction λq=>by
   rcases hs (τ i) hb q with q2 | q2
   ·rw[t5 i hi,if_neg hiN] at q2; exact q2 rfl
   ·exact hq k hk q2.symm
  rw[hl0,Int.zero_mul]
 have hrow:∀k,k<N->∀col,col<N->nI (nL rows k) col=if k=col then nI (nL rows k) k else 0:=λk hk col hcol=>by
  by_cases q:k=col
  ·rw[if_pos q,<- q]
  ·rw[if_neg q]
   have:=(h.pos col (by omega)).2.2.2.2 k (by omega) q
   rw[hid col hcol,Int.toNat_natCast] at this
   exact this
 have hpp:∀k,k<N->0<nI (nL rows k) k:=λk hk=>by
  have:=(h.pos k (by omega)).2.2.1
  rw[hid k hk,Int.toNat_natCast] at this
  exact this
 obtain⟨A,hA⟩:∃A:Nat->Nat->Int,A=λi c=>R (τ i) c:=⟨_,rfl⟩
 have hD:det N A≠0:=xf7 λk hk=>by
  obtain⟨c,lam,hc,hl⟩:=hcomb k hk
  refine⟨c*nI (nL rows k) k,lam,qt2 hc (by have:=hpp k hk; omega),λcol hcol=>?_⟩
  rw[hA]
  try dsimp only
  rw[hl col (by omega),hrow k hk col hcol]
  by_cases q:k=col
  ·rw[if_pos q,if_pos q]
  ·rw[if_neg q,if_neg q,Int.mul_zero]
 have hA1:∀i c,i<N->c<N->(A i c).natAbs<=1:=λi c hi hc=>by rw[hA]; exact h1 _ _ (t1 i (by omega)) hc
 obtain⟨c,lam,hc,hl⟩:=hcomb k hk
 obtain⟨E,hEd⟩:∃E:Nat->Int,∀r,E r=det N (upd A r λcol=>if k=col then 1 else 0):=⟨_,λ_=>rfl⟩
 have hEb:∀r,r<N->(E r).natAbs<=400:=λr hr=>by
  rw[hEd]
  refine w7k hN λi col hi hcol=>?_
  unfold upd
  split
  ·show(if k=col then(1:Int) else 0).natAbs<=1
   split <;> decide
  ·exact hA1 i col hi hcol
 have hlam:∀r,r<N->lam r*det N A=(c*nI (nL rows k) k)*E r:=λr hr=>by
  have e1:=wa7 A hr lam N (Nat.le_refl _)
  rw[if_pos hr] at e1
  rw[<- e1,hEd]
  have e2:=qo8 N A r hr (c*nI (nL rows k) k) 0 (λcol=>if k=col then 1 else 0) (λ_=>0)
  have e3:=e2.trans (show(c*nI (nL rows k) k)*det N (upd A r λcol=>if k=col then 1 else 0)+0*det N (upd A r λ_=>0)=(c*nI (nL rows k) k)*det N (upd A r λcol=>if k=col then 1 else 0) by rw[Int.zero_mul,Int.add_zero])
  rw[<- e3]
  refine qh7 N λi col hi hcol=>?_
  unfold upd
  by_cases q:i=r
  ·rw[if_pos q,if_pos q,hA]
   try dsimp only
   rw[hl col (by omega),hrow k hk col hcol]
   by_cases q2:k=col
   ·rw[if_pos q2,if_pos q2]; first | omega | simp | grind
   ·rw[if_neg q2,if_neg q2]; first | omega | simp | grind
  ·rw[if_neg q,if_neg q]
 refine⟨sm N λr=>E r*R (τ r) N,det N A,hD,w7k hN hA1,?_,?_⟩
 ·refine Nat.le_trans (xm0 (B:=400000000) λr hr=>?_) (by omega)
  have:=q1v (hEb r hr) (hy _ (t1 r (by omega)))
  omega
 ·have e1:=hl N (by omega)
  have e2:c*(nI (nL rows k) N*det N A)=c*((sm N λr=>E r*R (τ r) N)*nI (nL rows k) k):=by
   have:det N A*(sm N λq=>lam q*R (τ q) N)=(c*nI (nL rows k) k)*sm N λr=>E r*R (τ r) N:=by
    rw[<- qt1,<- qt1]
    refine qh3 λr hr=>?_
    have:=hlam r hr
    try dsimp only
    rw[<- Int.mul_assoc,<- Int.mul_assoc,<- this,Int.mul_comm (det N A)]
   rw[e1] at this
   grind
  exact Int.eq_of_mul_eq_mul_left hc e2
theorem w20 {x p X D:Int} (hp:0<p) (hD:D≠0) (h:x*D=X*p):1<=(wb9 x p).2/\(wb9 x p).2.natAbs<=D.natAbs/\(wb9 x p).1.natAbs<=X.natAbs/\qf2 (wb9 x p).1 (wb9 x p).2=1:=by
 have hg:0<qf2 x p:=qp3 (.inr (by omega))
 have a1:qf2 x p*x.tdiv (qf2 x p)=x:=Int.mul_tdiv_cancel' (Int.natAbs_dvd_natAbs.1 (Nat.gcd_dvd_left _ _))
 have b1:qf2 x p*p.tdiv (qf2 x p)=p:=Int.mul_tdiv_cancel' (Int.natAbs_dvd_natAbs.1 (Nat.gcd_dvd_right _ _))
 have hco:Nat.Coprime (x.tdiv (qf2 x p)).natAbs (p.tdiv (qf2 x p)).natAbs:=by
  have e1:(x.tdiv (qf2 x p)).natAbs=x.natAbs / Nat.gcd x.natAbs p.natAbs:=Int.natAbs_tdiv _ _
  have e2:(p.tdiv (qf2 x p)).natAbs=p.natAbs / Nat.gcd x.natAbs p.natAbs:=Int.natAbs_tdiv _ _
  rw[e1,e2]
  exact Nat.coprime_div_gcd_div_gcd (by have:(0:Int)<(Nat.gcd x.natAbs p.natAbs:Nat):=hg; omega)
 unfold wb9
 try dsimp only
 generalize qf2 x p=g at *
 generalize x.tdiv g=a at *
 generalize p.tdiv g=d at *
 have hd:0<d:=q38 hg (by omega)
 have e:a*D=X*d:=by
  have:g*(a*D-X*d)=0:=by rw[<- a1,<- b1] at h; grind
  have:=qd0 this (by omega)
  omega
 have en:a.natAbs*D.natAbs=X.natAbs*d.natAbs:=by rw[<- Int.natAbs_mul,<- Int.natAbs_mul,e]
 refine⟨by omega,?_,?_,?_⟩
 ·exact Nat.le_of_dvd (by omega) (hco.symm.dvd_of_dvd_mul_left ⟨X.natAbs,by rw[en,Nat.mul_comm]⟩)
 ·rcases Nat.eq_zero_or_pos X.natAbs with q | q
  ·rw[q,Nat.zero_mul] at en
   rcases Nat.mul_eq_zero.1 en with q2 | q2
   ·omega
   ·omega
  ·exact Nat.le_of_dvd q (hco.dvd_of_dvd_mul_right ⟨D.natAbs,by rw[<- en]⟩)
 ·show((Nat.gcd a.natAbs d.natAbs:Nat):Int)=1
  rw[hco]; rfl
theorem xo5 {r:Int × Int} (h1:1<=r.2) (h2:r.2.natAbs<=400) (h3:r.1.natAbs<=10000000000) (h4:qf2 r.1 r.2=1):q14 r=true:=by
 unfold q14
 simp only[Bool.and_eq_true,decide_eq_true_eq,beq_iff_eq]
 exact⟨⟨⟨⟨h1,by omega⟩,by omega⟩,by omega⟩,h4⟩
theorem wr0 {m:List (List Int)} {y pix:List Int} (h:(qk0 m y pix).2=true):∀r∈(qk0 m y pix).1.2,q14 r=true/\r.1≠0:=by
 have hI:=qy5 h
 have hA:=Asked.of hI.chk
 have hS:=qw2 hA
 have hst:=qr4 hS.toMat pix.length (by omega)
 have hpl:=hst.pl
 have h6:=hA.msk.rows6
 unfold qk0 at h
 split at h
 ·cases h
 ·rename_i hno
  have ef:qk0 m y pix=((pix,(qt4 m pix y).1),true):=by unfold qk0; rw[if_neg hno]
  have h0:(qt4 m pix y).2=0:=Classical.byContradiction λq=>hno (.inl q)
  have hz:((qt4 m pix y).1.any λr=>r.1==0)=false:=by
   cases e:((qt4 m pix y).1.any λr=>r.1==0) with
   | false=>rfl
   | true=>exact absurd (.inr e) hno
  have es:qt4 m pix y=wo8 (qc0 (qd3 m pix y) pix.length).1 (qc0 (qd3 m pix y) pix.length).2 pix.length:=by unfold qt4; rw[if_pos hI.chk]; rfl
  have hasc:Asc pix.length (qc0 (qd3 m pix y) pix.length).2:=⟨λq hq=>⟨(hst.pos q hq).1,(hst.pos q hq).2.1⟩,hst.asc⟩
  have hle:=hasc.le
  intro r hr
  rw[ef] at hr
  have hr:r∈(qt4 m pix y).1:=hr
  have hr1:r.1≠0:=by
   have:=List.any_eq_false.1 hz r hr
   simpa using this
  refine⟨?_,hr1⟩
  rw[es] at hr h0
  unfold wo8 at hr h0
  split at h0
  ·cases h0
  ·rename_i hn
   rw[if_neg hn] at hr
   split at h0
   ·cases h0
   ·rename_i hl
    rw[if_neg hl] at hr
    have hlen:(qc0 (qd3 m pix y) pix.length).2.length=pix.length:=by omega
    obtain⟨k,hk,rfl⟩:=List.mem_map.1 hr
    have hk:=List.mem_range.1 hk
    have hid:=λq (hq:q<pix.length)=>hasc.id hlen hq
    unfold xe8
    rw[hid k (by omega),Int.toNat_natCast]
    have hp:=(hst.pos k hk).2.2.1
    rw[hid k (by omega),Int.toNat_natCast] at hp
    rw[wp9 hp]
    obtain⟨X,D,d1,d2,d3,d4⟩:=xy8 hst hlen hid (by omega) (λa c ha hc=>hS.one a c ha hc) (λa ha=>hS.read a pix.length ha (by omega)) (show k<pix.length by omega)
    obtain⟨q1,q2,q3,q4⟩:=w20 hp d1 d4
    exact xo5 q1 (by omega) (by omega) q4
theorem xc0 (m:List (List Int)) (y:List Int) (f:Fit):qj0 m y f=w6r m y f:=by
 rw[Bool.eq_iff_iff]
 unfold qj0 w6r q1c
 rw[wq0]
 simp only[Bool.and_eq_true,decide_eq_true_eq]
 constructor
 ·rintro⟨⟨⟨hv,hc⟩,h2⟩,hval⟩
  exact⟨⟨hc,h2⟩,(qy5 h2).fst.symm,hval.symm⟩
 ·rintro⟨⟨hc,h2⟩,h3,h4⟩
  refine⟨⟨⟨?_,hc⟩,h2⟩,h4.symm⟩
  have hI:=qy5 h2
  have hA:=Asked.of hc
  unfold q8g
  simp only[Bool.and_eq_true,decide_eq_true_eq,Bool.not_eq_true']
  refine⟨⟨by rw[h4]; exact hI.len.symm,?_⟩,?_⟩
  ·unfold wy6
   rw[List.any_eq_false]
   intro r hr
   rw[h4] at hr
   obtain⟨q1,q2⟩:=wr0 h2 r hr
   simp[q1,q2]
  ·rw[q4r]
   exact λi hi hl=>hA.nam.asc (i-1) i (by omega) hl
end Go.Proofs.Ytdibdlelmkcccaa
