/- Kernel vectors: how great they are, and that there is one way to write them. Plain mathematics. No condition. -/
import Derived.Test.YtnchigbbjajiiaaGreatW6
import Derived.Test.YtnchigbbjajiiaaGreatW10
import Derived.Test.YtnchigbbjajiiaaGreatV28
set_option linter.unusedSimpArgs false
set_option linter.unusedVariables false
namespace Go.Proofs.YtnchigbbjajiiaaGreat
open Go Go.RowKit Eng
theorem qw0 {m:List (List Int)} {y pix:List Int} (h:Asked m y pix):Small m.length pix.length (pix.length+1) (qa8 m pix y):=by
 have hM:=h.msk
 have h6:=hM.rows6
 have hp10:=hM.pix10
 have hpl:=h.nam.len
 have hat:∀i,i<m.length->nL (qa8 m pix y) i=qm0 (nL m i) pix++[nI y i]:=λi hi=>by
  grind [qv1,qk5]
 have hlo:∀i,i<m.length->∀c,c<pix.length->(nI (nL (qa8 m pix y) i) c).natAbs<=1:=λi hi c hc=>by
  rw[hat i hi,qk9 _ _ (by grind [qi0]),qq6 _ _ _ hc]
  have h1:=h.nam.at_ c hc
  have h2:=hM.small i hi (nI pix c).toNat ow
  omega
 refine⟨⟨q3m m pix y,λi hi=>by grind [List.length_append,qi0]⟩,h6,ow,ow,λa c ha hc=>hlo a ha c hc,λa c ha hc=>?_⟩
 rcases zap c pix.length with q | q
 ·grind
 ·have e:nI (nL (qa8 m pix y) a) c=nI y a:=by
   grind [qm0,nL,qi0,qn9]
  have:=h.at_ a ha
  omega
theorem x5h (m:List (List Int)) (pix y:List Int):w7k m pix y=q6i m pix y:=by
 unfold w7k q6i
 split
 ·rename_i h
  have hA:=Asked.of h
  have hS:=qw0 hA
  have hW:rdW (qa8 m pix y)=pix.length+1:=hS.each 0 (by have:=hA.msk.rows1; omega)
  unfold svT svR svP svD qb5 qz0
  rw[hW]
  exact(x9z hS.toMat).symm
 rfl
theorem x5i (m:List (List Int)) (y pix:List Int):wo6 m y pix=qj4 m y pix:=by
 unfold wo6 qj4 x6z w7l
 rw[x5h]
theorem x92 {m:List (List Int)} {pix y:List Int} (hl:pix.length<=100000):x8r m pix y:=by
 refine⟨ow,λh=>?_⟩
 have hA:=Asked.of h
 have hS:=qw0 hA
 refine⟨wx1 hS,?_⟩
 have hst:=qt2 hS.toMat pix.length ow
 have hpl:=hst.pl
 have hlen:=hst.len
 have hB:BIG=4000000000000000000:=rfl
 refine⟨λk hk=>?_,λk hk=>?_,λk hk=>?_⟩
 ·have:=(hst.pos k hk).2.2.1
  show nI (nL (qb7 (qa8 m pix y) pix.length).1 k) (nI (qb7 (qa8 m pix y) pix.length).2 k).toNat≠0
  omega
 ·have hk:k<(qb7 (qa8 m pix y) pix.length).2.length:=hk
  have h1:=hst.pos k hk
  have:=(hst.small hS (zab _) (i:=k) ow).2 (nI (qb7 (qa8 m pix y) pix.length).2 k).toNat ow
  show qc0 BIG (nI (nL (qb7 (qa8 m pix y) pix.length).1 k) (nI (qb7 (qa8 m pix y) pix.length).2 k).toNat)
  omega
 ·have hk:k<(qb7 (qa8 m pix y) pix.length).2.length:=hk
  have:=(hst.small hS (zab _) (i:=k) ow).2 pix.length ow
  show qc0 BIG (nI (nL (qb7 (qa8 m pix y) pix.length).1 k) pix.length)
  omega
theorem yn1 {m:List (List Int)} {pix y:List Int} (hf:q6g m) (hl:pix.length<=100000):wm4 m pix y:=by
 refine⟨hf,hl,λh=>?_⟩
 have hA:=Asked.of h
 have hS:=qw0 hA
 have hM:=hA.msk
 have h1:=hM.rows1
 have h6:=hM.rows6
 have hp10:=hM.pix10
 have hpl:=hA.nam.len
 have hW:rdW (qa8 m pix y)=pix.length+1:=hS.each 0 ow
 obtain⟨r1,r2⟩:=w4r hS ow
 have hrst:=qx3 hS.toMat (pix.length+1) (zab _)
 have hB:BIG=4000000000000000000:=rfl
 have e1:svD m pix y=(qf9 (qa8 m pix y) (pix.length+1)).done_:=by grind [svD,qb5]
 have e2:svP m pix y=(qf9 (qa8 m pix y) (pix.length+1)).piv:=by grind [svP,qb5]
 refine⟨ow,⟨ow,ow,λi hi j hj=>?_⟩,ow,hA.len,r1,?_⟩
 ·have:=hA.nam.at_ j hj
  rw[hM.each i hi]; omega
 ·rw[e1,e2]
  obtain⟨hst,hcnt,_⟩:=hrst
  have hlen:=hst.len
  have hpl2:=hst.pl
  rw[zay] at hlen
  have hD:∀i,i<(qf9 (qa8 m pix y) (pix.length+1)).piv.length->nL ((qf9 (qa8 m pix y) (pix.length+1)).done_++(qf9 (qa8 m pix y) (pix.length+1)).left) i=nL (qf9 (qa8 m pix y) (pix.length+1)).done_ i:=λi hi=>qo0 _ _ ow
  refine⟨hcnt,ow,λk hk=>?_,λk hk=>?_,λk hk=>?_,λk hk=>?_,λk hk=>?_⟩
  ·rw[<- hD k ow]; exact hst.each k ow
  ·have:=hst.pos k hk; omega
  ·have:=(hst.pos k hk).2.2.1
   grind
  ·have:=hst.pos k hk
   grind
  grind
structure x0q (m:List (List Int)) (y pix:List Int):Prop where
 chk:q4j m y pix=0
 rows:pix.length<=m.length
 fst:(qj4 m y pix).1.1=pix
 len:(qj4 m y pix).1.2.length=pix.length
theorem qw1 {m:List (List Int)} {y pix:List Int} (h:(qj4 m y pix).2=true):x0q m y pix:=by
 unfold qj4 at h
 split at h
 ·cases h
 ·rename_i hno
  have h0:(q6i m pix y).2=0:=zaf λq=>hno (.inl q)
  have ef:qj4 m y pix=((pix,(q6i m pix y).1),true):=by simp_all [qj4,if_neg]
  rw[show x0q m y pix↔x0q m y pix from zep]
  have hc:q4j m y pix=0:=zaf λq=>by
   simp_all [q6i,if_neg]
  have hA:=Asked.of hc
  have hS:=qw0 hA
  have hst:=qt2 hS.toMat pix.length ow
  have hpl:=hst.pl
  have es:q6i m pix y=xe1 (qb7 (qa8 m pix y) pix.length).1 (qb7 (qa8 m pix y) pix.length).2 pix.length:=by unfold q6i; rw[zao hc]; rfl
  have hle:(qb7 (qa8 m pix y) pix.length).2.length<=pix.length:=(⟨λq hq=>⟨(hst.pos q hq).1,(hst.pos q hq).2.1⟩,hst.asc⟩:Asc pix.length _).le
  rw[es] at h0
  unfold xe1 at h0
  split at h0
  ·omega
  ·rename_i hn
   split at h0
   ·omega
   ·rename_i hl
    refine⟨hc,ow,by rw[ef],?_⟩
    rw[ef]
    show(q6i m pix y).1.length=_
    rw[es]
    unfold xe1
    grind
theorem x0r:((List.range 8).all λn=>decide (qc8 n=(List.range (n+1)).flatMap λ(k:Nat)=>qg4 (n:Nat) (k:Nat)))=true:=by decide +kernel
theorem w1r {n:Nat} (h:n<=7):qc8 n=(List.range (n+1)).flatMap λ(k:Nat)=>qg4 (n:Nat) (k:Nat):=by
 have:=zar.1 x0r n (za2.2 ow)
 grind
theorem wx3 {n k:Nat} {s:List Int} (h:s∈qg4 (n:Nat) (k:Nat)):s.length=k/\k<=n:=by
 grind [qg4,wv3]
theorem w1s (m:List (List Int)) (y:List Int) (s t:List (List Int)):qr2 m y (s++t)=qr2 m y s++qr2 m y t:=zdc
theorem w1t (m:List (List Int)) (y:List Int) (s:List (List Int)):qk6 m y s=qr2 m y s:=by
 grind [qk6,qr2,x5i]
theorem q84 (m:List (List Int)) (y:List Int):∀K,qz1 m y K=qr2 m y ((List.range K).flatMap λ(k:Nat)=>qg4 (nL m 0).length (k:Nat))
 | 0=>rfl
 | K+1=>by
  rw[qz1,q84 m y K,zc3,zcm,w1s]
  simp
theorem xj1 {m:List (List Int)} (y:List Int) (h:(nL m 0).length<=7):q5n m y=qz1 m y ((nL m 0).length+1):=by
 grind [q5n,w1t,w1r,q84]
theorem w1u {m:List (List Int)} {y:List Int} {s:List (List Int)} {f:Fit} (h:f∈qr2 m y s):∃pix∈s,x0q m y pix/\f=(qj4 m y pix).1:=by
 grind [qr2,qw1,Option.some.inj]
theorem q3o {m:List (List Int)} {y:List Int} {k:Nat} {f:Fit} (h:f∈qr2 m y (qg4 (nL m 0).length (k:Nat))):f.1.length=k/\k<=m.length/\k<=(nL m 0).length:=by
 obtain⟨pix,h1,h2,rfl⟩:=w1u h
 have h3:=wx3 h1
 have h4:=h2.rows
 rw[h2.fst]
 omega
theorem wx4 {m:List (List Int)} {y:List Int}:∀K,∀f∈qz1 m y K,f.1.length<K
 | 0,f,h=>by cases h
 | K+1,f,h=>by
  rcases zal.1 h with h | h
  ·have:=wx4 K f h; omega
  ·have:=q3o h; omega
theorem xj2 (m:List (List Int)) (y:List Int) {k:Int} (hk:0<=k):∀K,xi1 k (qz1 m y K)=qz1 m y (min K (q1v m k))
 | 0=>by rfl
 | K+1=>by
  have hN:q1v m k=(min (min k (nL m 0).length) m.length+1).toNat:=rfl
  rw[qz1]
  unfold xi1
  rw[List.filter_append]
  have ih:=xj2 m y hk K
  unfold xi1 at ih
  rw[ih]
  by_cases e:K<q1v m k
  ·rw[show min K (q1v m k)=K by omega,show min (K+1) (q1v m k)=K+1 by omega,qz1]
   congr 1
   rw[List.filter_eq_self]
   intro f hf
   have:=q3o hf
   grind
  ·rw[show min K (q1v m k)=q1v m k by omega,show min (K+1) (q1v m k)=q1v m k by omega]
   rw[List.filter_eq_nil_iff.2 λf hf=>?_,zch]
   have:=q3o hf
   grind
theorem x0s {m:List (List Int)} (y:List Int) {k:Int} (hk:0<=k) (h7:(nL m 0).length<=7):q1w m y k=xi1 k (q5n m y):=by
 rw[xj1 y h7,xj2 m y hk]
 have hN:q1v m k=(min (min k (nL m 0).length) m.length+1).toNat:=rfl
 grind [q1w,min,nL,q1v]
theorem x5j {m:List (List Int)} {y:List Int} (hf:q6g m) (hM:Mk m) (h7:(nL m 0).length<=7):q5o m y:=by
 have h1:=hM.rows1
 refine⟨ow,h7,λs hs=>yn1 hf ?_⟩
 have:=((q1q (n:=(nL m 0).length) (k:=128) h7 (zab _)).2 s hs).1
 omega
theorem x5k {m:List (List Int)} {y:List Int} (h:qn5 m y=0):Mk m:=Mk.of (w4l (pix:=[]) h).2
theorem x5l (m:List (List Int)) (y:List Int):q4j m y []=qn5 m y:=by
 by_cases h:qn5 m y=0
 ·rw[(w4l h).1,h]; rfl
 grind [x5f]
theorem q85 (l:List Int) {p:Nat} (hp:p<l.length) (x:Int) (q:Nat):nI (l.set p x) q=if q=p then x else nI l q:=by
 by_cases e:q=p
 ·subst e
  rw[zao rfl,qf1 _ _ (by grind),zdb]
 simp_all [if_neg,nI,qe0,List.getD_eq_getElem?_getD,List.getElem?_set_ne,Ne.symm]
theorem qx4:∀(N:Nat) {n:Nat} {f:Nat->Int} {τ:Nat->Nat},(∀q,q<N->τ q<n)->(∀q k,q<N->k<N->τ q=τ k->q=k)->(∀b,b<n->(∀q,q<N->τ q≠b)->f b=0)->sm n f=sm N λq=>f (τ q)
 | 0,n,f,τ,_,_,h=>qm5 λb hb=>h b hb λq hq=>absurd hq (zav _)
 | N+1,n,f,τ,h1,h2,h3=>by
  have e:sm n f=sm n (λb=>if b=τ N then 0 else f b)+sm n (λb=>if b=τ N then f b else 0):=by
   rw[<- q8p]
   refine qe1 λb _=>?_
   omega
  have ih:=qx4 N (n:=n) (f:=λb=>if b=τ N then 0 else f b) (τ:=τ) (λq hq=>h1 q ow) (λq k hq hk=>h2 q k ow ow) λb hb hq=>by
   grind
  rw[e,ih,qr0 (k:=τ N) (h1 N ow) λb _ hne=>zak hne,zao rfl,sm]
  congr 1
  refine qe1 λq hq=>?_
  grind
theorem x94 {n N j:Nat} {R:Nat->Nat->Int} {rows:List (List Int)} {P:List Int} (h:St n (N+1) R j rows P) (hP:P.length=N) (hid:∀q,q<N->nI P q=q) (hN:N<=6) (h1:∀a c,a<n->c<N->(R a c).natAbs<=1) (hy:∀a,a<n->(R a N).natAbs<=1000000) {k:Nat} (hk:k<N) :
  ∃X D:Int,D≠0/\D.natAbs<=400/\X.natAbs<=2400000000/\nI (nL rows k) N*D=X*nI (nL rows k) k:=by
 obtain⟨ρ,pv,τ,hE,t1,t2,t3,t4,t5,t6⟩:=h.tag
 have hpl:=h.pl
 have hcomb:∀k,k<N->∃(c:Int) (lam:Nat->Int),c≠0/\∀col,col<N+1->(sm N λq=>lam q*R (τ q) col)=c*nI (nL rows k) col:=λk hk=>by
  obtain⟨c,l,hc,hl,hs,_⟩:=hE.comb (τ k) (t1 k ow)
  refine⟨c,λq=>l (τ q),hc,λcol hcol=>?_⟩
  rw[<- t4 k ow col hcol,hl col hcol]
  refine(qx4 N (f:=λb=>l b*R b col) (λq hq=>t1 q ow) (λq k hq hk=>t2 q k ow ow) λb hb hq=>?_).symm
  try dsimp only
  obtain⟨i,hi,rfl⟩:=t3 b hb
  grind
 have hrow:∀k,k<N->∀col,col<N->nI (nL rows k) col=if k=col then nI (nL rows k) k else 0:=λk hk col hcol=>by
  by_cases q:k=col
  ·grind
  ·rw[zak q]
   have:=(h.pos col ow).2.2.2.2 k ow q
   simp_all
 have hpp:∀k,k<N->0<nI (nL rows k) k:=λk hk=>by
  have:=(h.pos k ow).2.2.1
  grind [Int.toNat_natCast]
 obtain⟨A,hA⟩:∃A:Nat->Nat->Int,A=λi c=>R (τ i) c:=⟨_,rfl⟩
 have hD:det N A≠0:=x2m λk hk=>by
  obtain⟨c,lam,hc,hl⟩:=hcomb k hk
  refine⟨c*nI (nL rows k) k,lam,q02 hc (by grind),λcol hcol=>?_⟩
  rw[hA]
  try dsimp only
  rw[hl col ow,hrow k hk col hcol]
  by_cases q:k=col
  ·rw[zao q,zao q]
  ·rw[zak q,zak q,zbl]
 have hA1:∀i c,i<N->c<N->(A i c).natAbs<=1:=λi c hi hc=>by grind
 obtain⟨c,lam,hc,hl⟩:=hcomb k hk
 obtain⟨E,hEd⟩:∃E:Nat->Int,∀r,E r=det N (upd A r λcol=>if k=col then 1 else 0):=⟨_,λ_=>rfl⟩
 have hEb:∀r,r<N->(E r).natAbs<=400:=λr hr=>by
  rw[hEd]
  refine xh1 hN λi col hi hcol=>?_
  unfold upd
  split
  ·show(if k=col then(1:Int) else 0).natAbs<=1
   split <;> decide
  ·exact hA1 i col hi hcol
 have hlam:∀r,r<N->lam r*det N A=(c*nI (nL rows k) k)*E r:=λr hr=>by
  have e1:=wm0 A hr lam N (zab _)
  rw[zao hr] at e1
  rw[<- e1,hEd]
  have e2:=qs6 N A r hr (c*nI (nL rows k) k) 0 (λcol=>if k=col then 1 else 0) (λ_=>0)
  have e3:=e2.trans (show(c*nI (nL rows k) k)*det N (upd A r λcol=>if k=col then 1 else 0)+0*det N (upd A r λ_=>0)=(c*nI (nL rows k) k)*det N (upd A r λcol=>if k=col then 1 else 0) by simp)
  rw[<- e3]
  refine qj6 N λi col hi hcol=>?_
  unfold upd
  by_cases q:i=r
  ·rw[zao q,zao q,hA]
   try dsimp only
   rw[hl col ow,hrow k hk col hcol]
   by_cases q2:k=col
   ·rw[zao q2,zao q2]; first | omega | simp | grind
   ·rw[zak q2,zak q2]; first | omega | simp | grind
  omega
 refine⟨sm N λr=>E r*R (τ r) N,det N A,hD,xh1 hN hA1,?_,?_⟩
 ·refine zaj (x4w (B:=400000000) λr hr=>?_) ow
  have:=q0v (hEb r hr) (hy _ (t1 r ow))
  omega
 ·have e1:=hl N ow
  have e2:c*(nI (nL rows k) N*det N A)=c*((sm N λr=>E r*R (τ r) N)*nI (nL rows k) k):=by
   have:det N A*(sm N λq=>lam q*R (τ q) N)=(c*nI (nL rows k) k)*sm N λr=>E r*R (τ r) N:=by
    rw[<- qk8,<- qk8]
    refine qe1 λr hr=>?_
    grind
   grind
  grind [Int.eq_of_mul_eq_mul_left]
theorem w7o {x p X D:Int} (hp:0<p) (hD:D≠0) (h:x*D=X*p):1<=(q4n x p).2/\(q4n x p).2.natAbs<=D.natAbs/\(q4n x p).1.natAbs<=X.natAbs/\gcdI (q4n x p).1 (q4n x p).2=1:=by
 have hg:0<gcdI x p:=ql9 (.inr ow)
 have a1:gcdI x p*x.tdiv (gcdI x p)=x:=za9 (za5.1 (zb0 _ _))
 have b1:gcdI x p*p.tdiv (gcdI x p)=p:=za9 (za5.1 (zb3 _ _))
 have hco:Nat.Coprime (x.tdiv (gcdI x p)).natAbs (p.tdiv (gcdI x p)).natAbs:=by
  have e1:(x.tdiv (gcdI x p)).natAbs=x.natAbs / Nat.gcd x.natAbs p.natAbs:=zck _ _
  have e2:(p.tdiv (gcdI x p)).natAbs=p.natAbs / Nat.gcd x.natAbs p.natAbs:=zck _ _
  grind [Nat.coprime_div_gcd_div_gcd,Nat.gcd]
 unfold q4n
 try dsimp only
 generalize gcdI x p=g at *
 generalize x.tdiv g=a at *
 generalize p.tdiv g=d at *
 have hd:0<d:=q4q hg ow
 have e:a*D=X*d:=by
  have:g*(a*D-X*d)=0:=by grind
  have:=qc9 this ow
  omega
 have en:a.natAbs*D.natAbs=X.natAbs*d.natAbs:=by rw[<- zbp,<- zbp,e]
 refine⟨ow,?_,?_,?_⟩
 ·exact zef ow (hco.symm.dvd_of_dvd_mul_left ⟨X.natAbs,by grind⟩)
 ·rcases zb7 X.natAbs with q | q
  ·simp_all [Nat.zero_mul,Nat.mul_eq_zero,q2]
  ·exact zef q (hco.dvd_of_dvd_mul_right ⟨D.natAbs,ow⟩)
 ·show((Nat.gcd a.natAbs d.natAbs:Nat):Int)=1
  omega
theorem x5m {r:Int × Int} (h1:1<=r.2) (h2:r.2.natAbs<=400) (h3:r.1.natAbs<=10000000000) (h4:gcdI r.1 r.2=1):x6v r=true:=by
 unfold x6v
 grind
theorem xj3 {m:List (List Int)} {y pix:List Int} (h:(qj4 m y pix).2=true):∀r∈(qj4 m y pix).1.2,x6v r=true/\r.1≠0:=by
 have hI:=qw1 h
 have hA:=Asked.of hI.chk
 have hS:=qw0 hA
 have hst:=qt2 hS.toMat pix.length ow
 have hpl:=hst.pl
 have h6:=hA.msk.rows6
 unfold qj4 at h
 split at h
 ·cases h
 ·rename_i hno
  have ef:qj4 m y pix=((pix,(q6i m pix y).1),true):=by simp_all [qj4,if_neg]
  have h0:(q6i m pix y).2=0:=zaf λq=>hno (.inl q)
  have hz:((q6i m pix y).1.any λr=>r.1==0)=false:=by
   grind
  have es:q6i m pix y=xe1 (qb7 (qa8 m pix y) pix.length).1 (qb7 (qa8 m pix y) pix.length).2 pix.length:=by unfold q6i; rw[zao hI.chk]; rfl
  have hasc:Asc pix.length (qb7 (qa8 m pix y) pix.length).2:=⟨λq hq=>⟨(hst.pos q hq).1,(hst.pos q hq).2.1⟩,hst.asc⟩
  have hle:=hasc.le
  intro r hr
  rw[ef] at hr
  have hr:r∈(q6i m pix y).1:=hr
  have hr1:r.1≠0:=by
   grind
  refine⟨?_,hr1⟩
  rw[es] at hr h0
  unfold xe1 at hr h0
  split at h0
  ·omega
  ·rename_i hn
   rw[zak hn] at hr
   split at h0
   ·omega
   ·rename_i hl
    rw[zak hl] at hr
    have hlen:(qb7 (qa8 m pix y) pix.length).2.length=pix.length:=ow
    obtain⟨k,hk,rfl⟩:=zba.1 hr
    have hk:=za2.1 hk
    have hid:=λq (hq:q<pix.length)=>hasc.id hlen hq
    unfold wo5
    rw[hid k ow,zaq]
    have hp:=(hst.pos k hk).2.2.1
    rw[hid k ow,zaq] at hp
    rw[q83 hp]
    obtain⟨X,D,d1,d2,d3,d4⟩:=x94 hst hlen hid ow (λa c ha hc=>hS.one a c ha hc) (λa ha=>hS.read a pix.length ha ow) (show k<pix.length by omega)
    grind [q1,q2,w7o,x5m]
def mkM (n W:Nat) (A:Nat->Nat->Int):List (List Int):=(List.range n).map λa=>(List.range W).map λc=>A a c
theorem xj4 {n W:Nat} (A:Nat->Nat->Int) {a:Nat} (ha:a<n):nL (mkM n W A) a=(List.range W).map λc=>A a c:=by
 grind [qm3,mkM]
theorem x97 {n W:Nat} (A:Nat->Nat->Int) {a c:Nat} (ha:a<n) (hc:c<W):nI (nL (mkM n W A) a) c=A a c:=by
 grind [xj4,qf1]
theorem x5n (n W:Nat) (A:Nat->Nat->Int):Mat n W (mkM n W A):=⟨by simp[mkM],λi hi=>by grind [xj4]⟩
theorem w1w {n W:Nat} (A:Nat->Nat->Int) (h:n<W):∃z,Sol n W A z/\∃f,f<W/\z f≠0:=by
 have hM:=x5n n W A
 have hst:=qt2 hM W (zab _)
 have hpl:=hst.pl
 obtain⟨f,hf,hq⟩:=Asc.free (N:=W) (P:=(qb7 (mkM n W A) W).2) ow
 obtain⟨z,z1,z2,_⟩:=hst.free (zab _) hf hq λi h1 h2=>hst.zero i h1 h2 f hf
 refine⟨z,λa ha=>?_,f,hf,z2⟩
 rw[<- z1 a ha]
 grind [qe1,rowOf,x97]
theorem x5o {n:Nat} {B:Nat->Nat->Int} {lam:Nat->Int} (h:∀j,j<n->(sm n λi=>lam i*B i j)=0) {r:Nat} (hr:r<n) (hl:lam r≠0):det n B=0:=by
 have h1:=wm0 B hr lam n (zab _)
 rw[zao hr] at h1
 have h2:det n (upd B r λj=>sm n λi=>lam i*B i j)=det n (upd B r λ_=>0):=qj6 n λi j hi hj=>by
  grind [upd]
 grind [q1u,qc9]
theorem x5p {n:Nat} {B:Nat->Nat->Int} {k l:Nat} (hk:k<n) (hl:l<n) (hne:k≠l) (h:∀i,i<n->B i k=B i l):det n B=0:=by
 obtain⟨z,z1,f,hf,z2⟩:=w1w (n:=n-1) (W:=n) (λa c=>B c (skp l a)) ow
 have e:∀j,j<n->j≠l->(sm n λi=>z i*B i j)=0:=λj hj hne=>by
  have h1:=z1 (if j<l then j else j-1) (by grind)
  have h2:skp l (if j<l then j else j-1)=j:=by
   by_cases q:j<l
   ·simp_all [if_pos,skp]
   ·rw[zak q]; unfold skp; grind
  grind
 refine x5o (lam:=z) (λj hj=>?_) hf z2
 grind [qe1]
theorem x5q {n:Nat} {A:Nat->Nat->Int} (h:∀lam:Nat->Int,(∀j,j<n->(sm n λi=>lam i*A i j)=0)->∀i,i<n->lam i=0):det n A≠0:=by
 refine x2m λk hk=>?_
 obtain⟨z,z1,f,hf,z2⟩:=w1w (n:=n) (W:=n+1) (λj c=>if c<n then A c j else if k=j then 1 else 0) ow
 have e:∀j,j<n->(sm n λi=>z i*A i j)+(if k=j then 1 else 0)*z n=0:=λj hj=>by
  have h1:=z1 j hj
  simp_all [sm,if_neg,Nat.lt_irrefl,qe1,if_pos,Int.mul_comm]
 have hn:z n≠0:=λhz=>by
  have h2:=h z λj hj=>by
   grind
  grind
 refine⟨- z n,z,ow,λj hj=>?_⟩
 grind
def isP (P:List Int) (c:Nat):Prop:=∃q,q<P.length/\nI P q=(c:Int)
theorem wm7 {P:List Int} {c:Nat}:¬isP P c↔∀q,q<P.length->nI P q≠(c:Int):=
 ⟨λh q hq e=>h ⟨q,hq,e⟩,λh ⟨q,hq,e⟩=>h q hq e⟩
theorem St.isP_at {n W j:Nat} {R:Nat->Nat->Int} {rows:List (List Int)} {P:List Int} (h:St n W R j rows P) {k:Nat} (hk:k<P.length):isP P (nI P k).toNat:=⟨k,hk,by have:=(h.pos k hk).1; omega⟩
theorem St.row_eq {n W:Nat} {R:Nat->Nat->Int} {rows:List (List Int)} {P:List Int} (h:St n W R W rows P) {z:Nat->Int} (hz:Sol n W R z) {f:Nat} (hf:f<W) (hnp:¬isP P f) (h0:∀c,c<W->c≠f->¬isP P c->z c=0) {k:Nat} (hk:k<P.length) :
  nI (nL rows k) (nI P k).toNat*z (nI P k).toNat+nI (nL rows k) f*z f=0:=by
 have hpl:=h.pl
 have hp:=h.pos k hk
 have e:=(h.sol z).1 hz k ow
 unfold dt at e
 have hne:(nI P k).toNat≠f:=λq=>hnp (by rw[<- q]; exact h.isP_at hk)
 rw[q58 (k:=(nI P k).toNat) (l:=f) ow hf hne λc hc h1 h2=>?_] at e
 ·exact e
 ·try dsimp only
  by_cases q:isP P c
  ·obtain⟨q2,hq2,e2⟩:=q
   have:=(h.pos q2 hq2).2.2.2.2 k ow λe3=>h1 (by grind)
   grind
  grind
theorem St.sol_mk {n W:Nat} {R:Nat->Nat->Int} {rows:List (List Int)} {P:List Int} (h:St n W R W rows P) {z:Nat->Int} {f:Nat} (hf:f<W) (hnp:¬isP P f) (h0:∀c,c<W->c≠f->¬isP P c->z c=0)
  (hr:∀k,k<P.length->nI (nL rows k) (nI P k).toNat*z (nI P k).toNat+nI (nL rows k) f*z f=0):Sol n W R z:=by
 refine(h.sol z).2 λi hi=>?_
 unfold dt
 rcases zap i P.length with q | q
 ·have hp:=h.pos i q
  have hne:(nI P i).toNat≠f:=λq2=>hnp (by rw[<- q2]; exact h.isP_at q)
  rw[q58 (k:=(nI P i).toNat) (l:=f) ow hf hne λc hc h1 h2=>?_]
  ·grind
  ·try dsimp only
   by_cases q1:isP P c
   ·obtain⟨q2,hq2,e2⟩:=q1
    have:=(h.pos q2 hq2).2.2.2.2 i hi λe3=>h1 (by grind)
    grind
   grind
 ·exact qm5 λc hc=>by
   try dsimp only
   rw[h.zero i q hi c hc,zb6]
theorem St.piv_same {n W:Nat} {R:Nat->Nat->Int} {rows rows':List (List Int)} {P P':List Int} (h:St n W R W rows P) (h':St n W R W rows' P') {f:Nat} (hp:isP P f):isP P' f:=zaf λhn=>by
 obtain⟨k,hk,e⟩:=hp
 have hpk:=h.pos k hk
 rw[e,zaq] at hpk
 have hf:f<W:=ow
 have hpl':=h'.pl
 obtain⟨z,z1,z2,z3⟩:=h'.free (zab _) hf (wm7.1 hn) λi h1 h2=>h'.zero i h1 h2 f hf
 have zl:∀c,c<W->f<c->z c=0:=λc hc hfc=>by
  by_cases q:isP P' c
  ·obtain⟨q2,hq2,e2⟩:=q
   have h1:=h'.row_eq z1 hf hn (λc hc h1 h2=>z3 c hc h1 (wm7.1 h2)) hq2
   have h2:=h'.pos q2 hq2
   rw[e2,zaq] at h1 h2
   rw[h2.2.2.2.1 f hfc,zb6,ze7] at h1
   grind [qc9]
  grind [wm7]
 have hpl:=h.pl
 have h1:=(h.sol z).1 z1 k ow
 unfold dt at h1
 rw[qr0 (k:=f) hf λc hc hne=>?_] at h1
 ·grind [absurd,qc9]
 grind
theorem St.basis {n W:Nat} {R:Nat->Nat->Int} {rows:List (List Int)} {P:List Int} (h:St n W R W rows P):∃τ:Nat->Nat,(∀i,i<P.length->τ i<n)/\∀k,k<P.length->∃(c:Int) (lam:Nat->Int),c≠0/\∀col,col<W->(sm P.length λq=>lam q*R (τ q) col)=c*nI (nL rows k) col:=by
 obtain⟨ρ,pv,τ,hE,t1,t2,t3,t4,t5,t6⟩:=h.tag
 have hpl:=h.pl
 refine⟨τ,λi hi=>t1 i ow,λk hk=>?_⟩
 obtain⟨c,l,hc,hl,hs,_⟩:=hE.comb (τ k) (t1 k ow)
 refine⟨c,λq=>l (τ q),hc,λcol hcol=>?_⟩
 rw[<- t4 k ow col hcol,hl col hcol]
 refine(qx4 P.length (f:=λb=>l b*R b col) (λq hq=>t1 q ow) (λq k hq hk=>t2 q k ow ow) λb hb hq=>?_).symm
 grind
theorem St.minors {n W:Nat} {R:Nat->Nat->Int} {rows:List (List Int)} {P:List Int} (h:St n W R W rows P) (hn:n<=6) (h1:∀a c,a<n->c<W->(R a c).natAbs<=1) :
  ∃D:Int,D≠0/\D.natAbs<=160/\∀f,f<W->¬isP P f->∃w:Nat->Int,(∀k,k<P.length->(w k).natAbs<=160)/\∀k,k<P.length->nI (nL rows k) (nI P k).toNat*w k+nI (nL rows k) f*D=0:=by
 obtain⟨τ,t1,hcomb⟩:=h.basis
 have hpl:=h.pl
 have hpW:∀k,k<P.length->(nI P k).toNat<W:=λk hk=>by have:=h.pos k hk; omega
 have hrow:∀k,k<P.length->∀c,c<P.length->nI (nL rows k) (nI P c).toNat=if k=c then nI (nL rows k) (nI P k).toNat else 0:=λk hk c hc=>by
  by_cases q:k=c
  ·grind
  ·rw[zak q]
   exact(h.pos c hc).2.2.2.2 k ow q
 have hpp:∀k,k<P.length->0<nI (nL rows k) (nI P k).toNat:=λk hk=>(h.pos k hk).2.2.1
 -- what all the first rows say is said by the reduced ones
 have tell:∀(m:Nat) (s:Nat->Nat) (w:Nat->Int),(∀c,c<m->s c<W)->(∀b,b<P.length->(sm m λc=>R (τ b) (s c)*w c)=0)->∀k,k<P.length->(sm m λc=>nI (nL rows k) (s c)*w c)=0:=λm s w hs hw k hk=>by
  obtain⟨c0,lam,hc0,hl⟩:=hcomb k hk
  refine qc9 (a:=c0) ?_ hc0
  rw[<- qk8]
  have e:(sm m λc=>c0*(nI (nL rows k) (s c)*w c))=sm m λc=>sm P.length λq=>lam q*(R (τ q) (s c)*w c):=qe1 λc hc=>by
   grind [Int.mul_assoc,Int.mul_comm,qk8,qe1]
  rw[e,xf6]
  refine qm5 λq hq=>?_
  try dsimp only
  rw[qk8,hw q hq,zbl]
 refine⟨det P.length λa b=>R (τ b) (nI P a).toNat,x5q λlam hlam k hk=>?_,xh4 ow λa b ha hb=>h1 _ _ (t1 b hb) (hpW a ha),λf hf hnp=>?_⟩
 ·have e:=tell P.length (λa=>(nI P a).toNat) lam hpW (λb hb=>by
   grind) k hk
  rw[qr0 (k:=k) hk λi hi hne=>by
   grind] at e
  grind [qc9]
 ·obtain⟨s,hs0,hsk⟩:∃s:Nat->Nat,s 0=f/\∀c,s (c+1)=(nI P c).toNat:=⟨λc=>match c with | 0=>f | c+1=>(nI P c).toNat,rfl,λ_=>rfl⟩
  have hsW:∀c,c<P.length+1->s c<W:=λc hc=>by
   cases c with
   | zero=>omega
   | succ c=>grind
  obtain⟨w,hw⟩:∃w:Nat->Int,∀c,w c=sgn c*det P.length λa b=>R (τ b) (s (skp c a)):=⟨_,λ_=>rfl⟩
  have e0:w 0=det P.length λa b=>R (τ b) (nI P a).toNat:=by
   rw[hw,show sgn 0=1 from rfl,ze0]
   refine qj6 _ λa b ha hb=>?_
   have:skp 0 a=a+1:=by rfl
   grind
  refine⟨λk=>w (k+1),λk hk=>?_,λk hk=>?_⟩
  ·try dsimp only
   rw[hw,zbp,wm1,zdu]
   grind [xh4,q59]
  ·have e:=tell (P.length+1) s w hsW (λb hb=>by
    have hd:det (P.length+1) (λc j=>if j=0 then R (τ b) (s c) else R (τ (j-1)) (s c))=0:=x5p (k:=0) (l:=b+1) ow ow ow λi hi=>by
     rfl
    rw[det] at hd
    grind) k hk
   rw[q58 (k:=k+1) (l:=0) ow ow ow λc hc h2 h3=>?_] at e
   ·grind
   ·try dsimp only
    cases c with
    | zero=>omega
    | succ c=>grind
theorem St.piv_160 {n W:Nat} {R:Nat->Nat->Int} {rows:List (List Int)} {P:List Int} (h:St n W R W rows P) (hn:n<=6) (h1:∀a c,a<n->c<W->(R a c).natAbs<=1) {k:Nat} (hk:k<P.length):(nI (nL rows k) (nI P k).toNat).natAbs<=160:=by
 have hpl:=h.pl
 have hp:=h.pos k hk
 obtain⟨D,hD,hD2,hw⟩:=h.minors hn h1
 obtain⟨ρ,pv,τ,hE,t1,t2,t3,t4,t5,t6⟩:=h.tag
 rcases t6 k ow with⟨s,hs,e⟩ | e | e
 ·grind
 ·grind
 ·have hx:∀c,∃x:Int,c<W->D*nI (nL rows k) c=nI (nL rows k) (nI P k).toNat*x/\(c=(nI P k).toNat->x=D):=λc=>by
   by_cases q:c=(nI P k).toNat
   ·exact⟨D,λ_=>⟨by grind,λ_=>rfl⟩⟩
   ·by_cases q2:isP P c
    ·obtain⟨q3,hq3,e3⟩:=q2
     refine⟨0,λ_=>⟨?_,λq4=>absurd q4 q⟩⟩
     have:=(h.pos q3 hq3).2.2.2.2 k ow λq4=>q (by grind)
     rw[e3,zaq] at this
     grind
    ·by_cases q4:c<W
     ·obtain⟨w,_,w2⟩:=hw c q4 q2
      have:=w2 k hk
      exact⟨- w k,λ_=>⟨by grind,λq4=>absurd q4 q⟩⟩
     ·exact⟨0,λq5=>absurd q5 q4⟩
  obtain⟨x,hx⟩:=zbq hx
  have:=ww5 (W:=W) (r:=nI (nL rows k)) (s:=x) (α:=D) (β:=nI (nL rows k) (nI P k).toNat) hD (λc hc=>(hx c hc).1) e (nI P k).toNat ow
  grind
structure KV (n W:Nat) (R:Nat->Nat->Int) (P:List Int) (f:Nat) (v:List Int):Prop where
 len:v.length=W
 sol:Sol n W R (nI v)
 free:∀c,c<W->c≠f->¬isP P c->nI v c=0
 pos:0<nI v f
theorem KV.prim {n W:Nat} {R:Nat->Nat->Int} {P:List Int} {f:Nat} {v:List Int} (h:KV n W R P f v) (hf:f<W):KV n W R P f (qk1 v):=by
 have hl:=h.len
 have hg:0<max (gcdL v) 1:=ow
 have hm:∀c,c<W->max (gcdL v) 1*nI (qk1 v) c=nI v c:=λc hc=>qz3 v ow
 refine⟨by grind [qn6],λa ha=>?_,λc hc h1 h2=>?_,?_⟩
 ·have:=h.sol a ha
  refine qc9 (a:=max (gcdL v) 1) ?_ ow
  grind [qk8,qe1]
 ·have:=hm c hc
  rw[h.free c hc h1 h2] at this
  grind [qc9]
 ·have:=hm f hf
  have:=h.pos
  exact q4q hg ow
theorem KV.trans {n W:Nat} {R:Nat->Nat->Int} {P P':List Int} {f:Nat} {v:List Int} (h:KV n W R P f v) (hP:∀c,isP P c↔isP P' c):KV n W R P' f v:=
 ⟨h.len,h.sol,λc hc h1 h2=>h.free c hc h1 λq=>h2 ((hP c).1 q),h.pos⟩
theorem KV.cross {n W:Nat} {R:Nat->Nat->Int} {rows:List (List Int)} {P:List Int} (hs:St n W R W rows P) {f:Nat} (hf:f<W) (hnp:¬isP P f) {v u:List Int} (hv:KV n W R P f v) (hu:KV n W R P f u):∀c,c<W->nI u f*nI v c=nI v f*nI u c:=λc hc=>by
 by_cases q:c=f
 ·grind
 ·by_cases q2:isP P c
  ·obtain⟨k,hk,e⟩:=q2
   have a:=hs.row_eq hv.sol hf hnp hv.free hk
   have b:=hs.row_eq hu.sol hf hnp hu.free hk
   have hp:=(hs.pos k hk).2.2.1
   rw[e,zaq] at a b hp
   have:nI (nL rows k) c*(nI u f*nI v c-nI v f*nI u c)=0:=by grind
   grind [qc9]
  ·rw[hv.free c hc q q2,hu.free c hc q q2,zbl,zbl]
theorem Prim.gcd {v:List Int} {W f:Nat} (h:Prim v) (hl:v.length=W) (hf:f<W) (hp:0<nI v f):∀d:Nat,(∀c,c<W->d∣(nI v c).natAbs)->d=1:=by
 subst hl
 rcases h with h | h
 all_goals simp_all
theorem KV.uniq {n W:Nat} {R:Nat->Nat->Int} {rows:List (List Int)} {P:List Int} (hs:St n W R W rows P) {f:Nat} (hf:f<W) (hnp:¬isP P f) {v u:List Int} (hv:KV n W R P f v) (hu:KV n W R P f u) (pv:Prim v) (pu:Prim u):v=u:=by
 have hc:=hv.cross hs hf hnp hu
 have a:=ww5 (W:=W) (r:=nI v) (s:=nI u) (α:=nI u f) (β:=nI v f) (by have:=hu.pos; omega) hc (pv.gcd hv.len hf hv.pos)
 have b:=ww5 (W:=W) (r:=nI u) (s:=nI v) (α:=nI v f) (β:=nI u f) (by have:=hv.pos; omega) (λc h=>(hc c h).symm) (pu.gcd hu.len hf hu.pos)
 have hff:nI u f=nI v f:=by
  have:=a f hf; have:=b f hf; have:=hv.pos; have:=hu.pos; omega
 have h1:=hv.len
 have h2:=hu.len
 refine zbb ow λi hi hi2=>?_
 rw[<- qf1 v i hi,<- qf1 u i hi2]
 have:=hc i ow
 rw[hff] at this
 exact Int.eq_of_mul_eq_mul_left (by have:=hv.pos; omega) this
theorem KV.small {n W:Nat} {R:Nat->Nat->Int} {rows:List (List Int)} {P:List Int} (hs:St n W R W rows P) (hn:n<=6) (h1:∀a c,a<n->c<W->(R a c).natAbs<=1) {f:Nat} (hf:f<W) (hnp:¬isP P f) {v:List Int} (hv:KV n W R P f v) (pv:Prim v):∀x∈v,x.natAbs<=160:=by
 obtain⟨D,hD,hD2,hw⟩:=hs.minors hn h1
 obtain⟨w,w1,w2⟩:=hw f hf hnp
 have hx:∀c,∃x:Int,c<W->D*nI v c=nI v f*x/\x.natAbs<=160:=λc=>by
  by_cases q:c=f
  ·grind
  ·by_cases q2:isP P c
   ·obtain⟨k,hk,e⟩:=q2
    refine⟨w k,λ_=>⟨?_,w1 k hk⟩⟩
    have a:=hs.row_eq hv.sol hf hnp hv.free hk
    have b:=w2 k hk
    have hp:=(hs.pos k hk).2.2.1
    rw[e,zaq] at a b hp
    have:nI (nL rows k) c*(D*nI v c-nI v f*w k)=0:=by grind
    grind [qc9]
   ·exact⟨0,λhc=>⟨by rw[hv.free c hc q q2,zbl,zbl],dc⟩⟩
 obtain⟨x,hx⟩:=zbq hx
 have:=ww5 (W:=W) (r:=nI v) (s:=x) (α:=D) (β:=nI v f) hD (λc hc=>(hx c hc).1) (pv.gcd hv.len hf hv.pos)
 intro y hy
 obtain⟨c,hc,rfl⟩:=q8z hy
 have hl:=hv.len
 grind
end Go.Proofs.YtnchigbbjajiiaaGreat
