/- The bounds of a mask, and the reference's picture of a fit: contracts by the engine. No condition. -/
import Derived.Test.YtempacilejhbgaaGreatR9
import Derived.Test.YtempacilejhbgaaGreatW4
import Derived.Test.YtempacilejhbgaaGreatW14
import Derived.Test.YtempacilejhbgaaGreatW2
import Derived.Test.YtempacilejhbgaaGreatQ15
import Derived.Test.YtempacilejhbgaaGreatV15
set_option linter.unusedVariables false
set_option linter.unusedSimpArgs false
namespace Go.Proofs.YtempacilejhbgaaGreat
open Go Go.RowKit Eng
theorem w3b (x y:Int):qj2 (x*y)=qj2 x*qj2 y:=by unfold qj2; rw[Int.natAbs_mul,Int.natCast_mul]
theorem xn7 (x:Int):qj2 (-x)=qj2 x:=by unfold qj2; rw[Int.natAbs_neg]
theorem xr6 (f:Nat->Int):∀n,qj2 (sm n f)<=sm n λi=>qj2 (f i)
 | 0=>Int.le_refl _
 | n+1=>by
  have:=xr6 f n
  show qj2 (sm n f+f n)<=sm n (λi=>qj2 (f i))+qj2 (f n)
  unfold qj2 at *; omega
theorem xb0 {n:Nat} {q:Nat->Nat->Int} {d:Nat->Int} {c t:Int} (ht:0<=t) (hs:∀j,j<n->(sm n λi=>d i*q i j)=0) (hd:∀j,j<n->q j j=c) (hc:0<c)
  (hq:∀i j,i<n->j<n->i≠j->t*qj2 (q i j)<=c-1) {j:Nat} (hj:j<n):(t*c+c-1)*qj2 (d j)<=(c-1)*sA n d:=by
 have e1:(sm n λi=>d i*q i j)=d j*c+sm n λi=>if i=j then 0 else d i*q i j:=by
  have:(sm n λi=>d i*q i j)=sm n λi=>(if i=j then d j*c else 0)+(if i=j then 0 else d i*q i j):=qf2 λi hi=>by
   by_cases e:i=j
   ·subst e; rw[if_pos rfl,if_pos rfl,hd i hi,Int.add_zero]
   ·rw[if_neg e,if_neg e,Int.zero_add]
  rw[this,q9x,qu2 hj λi _ hne=>if_neg hne,if_pos rfl]
 rw[hs j hj] at e1
 have e2:sA n d=qj2 (d j)+sm n λi=>if i=j then 0 else qj2 (d i):=by
  have:sA n d=sm n λi=>(if i=j then qj2 (d j) else 0)+(if i=j then 0 else qj2 (d i)):=qf2 λi hi=>by
   by_cases e:i=j
   ·subst e; rw[if_pos rfl,if_pos rfl,Int.add_zero]
   ·rw[if_neg e,if_neg e,Int.zero_add]
  rw[this,q9x,qu2 hj λi _ hne=>if_neg hne,if_pos rfl]
 have h1:=xr6 (λi=>if i=j then 0 else d i*q i j) n
 have h2:(sm n λi=>t*qj2 (if i=j then 0 else d i*q i j))<=sm n λi=>(c-1)*(if i=j then 0 else qj2 (d i)):=x2y λi hi=>by
  by_cases e:i=j
  ·rw[if_pos e,if_pos e]
   show t*0<=(c-1)*0
   omega
  ·rw[if_neg e,if_neg e,w3b]
   have h3:=Int.mul_le_mul_of_nonneg_left (hq i j hi hj e) (q2w (d i))
   have e3:t*(qj2 (d i)*qj2 (q i j))=qj2 (d i)*(t*qj2 (q i j)):=by grind
   rw[e3,Int.mul_comm (c-1)]
   exact h3
 rw[qn7,qn7] at h2
 have e4:(sm n λi=>if i=j then 0 else d i*q i j)=-(d j*c):=by omega
 rw[e4,xn7,w3b,show qj2 c=c from by unfold qj2; omega] at h1
 have h5:=Int.mul_le_mul_of_nonneg_left h1 ht
 have e6:(c-1)*sA n d=(c-1)*qj2 (d j)+(c-1)*sm n λi=>if i=j then 0 else qj2 (d i):=by rw[e2,Int.mul_add]
 rw[e6]
 have e7:(t*c+c-1)*qj2 (d j)=(c-1)*qj2 (d j)+t*(qj2 (d j)*c):=by grind
 rw[e7]
 have:=Int.le_trans h5 h2
 omega
theorem w5g {n k:Nat} {q:Nat->Nat->Int} {d:Nat->Int} {c:Int} (hk:1<=k) (hs:∀j,j<n->(sm n λi=>d i*q i j)=0) (hd:∀j,j<n->q j j=c) (hc:0<c)
  (hq:∀i j,i<n->j<n->i≠j->(2*(k:Int)-1)*qj2 (q i j)<=c-1) {p:List Int} (hp:Named n p) (hpk:p.length=k) (hA:0<sA n d):2*sB p d<sA n d:=by
 obtain⟨t,ht⟩:∃t:Int,t=2*(k:Int)-1:=⟨_,rfl⟩
 rw[<- ht] at hq
 have hX:0<t*c+c-1:=by
  have:=Int.mul_pos (a:=t) (b:=c) (by omega) hc
  omega
 have h1:(t*c+c-1)*sB p d<=(k:Int)*((c-1)*sA n d):=by
  unfold sB
  rw[<- qn7,hpk]
  have hle:(sm k λj=>(t*c+c-1)*qj2 (d (nI p j).toNat))<=sm k λ_=>(c-1)*sA n d:=x2y λj hj=>by
   have:=hp.at_ j (by omega)
   exact xb0 (by omega) hs hd hc hq (j:=(nI p j).toNat) (by omega)
  have hc2:∀(K:Nat) (y:Int),(sm K λ_=>y)=(K:Int)*y:=λK y=>by
   induction K with
   | zero=>simp[sm]
   | succ K ih=>rw[sm,ih]; push_cast; rw[Int.add_mul,Int.one_mul]
  rw[hc2] at hle
  exact hle
 have e1:2*((k:Int)*((c-1)*sA n d))=(t*c+c-1)*sA n d-t*sA n d:=by
  have:2*(k:Int)=t+1:=by omega
  have e:2*((k:Int)*((c-1)*sA n d))=(2*(k:Int))*((c-1)*sA n d):=by grind
  rw[e,this]; grind
 have h2:0<t*sA n d:=Int.mul_pos (by omega) hA
 refine Int.lt_of_mul_lt_mul_left (a:=t*c+c-1) ?_ (by omega)
 have e3:(t*c+c-1)*(2*sB p d)=2*((t*c+c-1)*sB p d):=by grind
 omega
theorem wu1 {N D:Int}:∀(f k j:Nat),k<=j->j<bndTo N D f k->(2*(j:Int)+1)*(2*(j:Int)+1)*N<D
 | 0,k,j,h1,h2=>by rw[bndTo] at h2; omega
 | f+1,k,j,h1,h2=>by
  rw[bndTo] at h2
  split at h2
  ·rename_i h3
   by_cases e:j=k
   ·subst e; exact h3
   ·exact wu1 f (k+1) j (by omega) h2
  ·omega
theorem x68 {t q c N D:Int} (ht:0<=t) (hc:0<c) (hD:0<D) (h1:q*q*D<=N*(c*c)) (h2:t*t*N<D):t*qj2 q<=c-1:=by
 have e:qj2 q*qj2 q=q*q:=by unfold qj2; exact Int.natAbs_mul_self
 have hcc:0<c*c:=Int.mul_pos hc hc
 have a1:t*t*(q*q*D)<=t*t*(N*(c*c)):=Int.mul_le_mul_of_nonneg_left h1 (Int.mul_nonneg ht ht)
 have a2:t*t*N*(c*c)<D*(c*c):=Int.mul_lt_mul_of_pos_right h2 hcc
 have a3:(t*qj2 q)*(t*qj2 q)*D<c*c*D:=by
  have e1:(t*qj2 q)*(t*qj2 q)*D=t*t*(qj2 q*qj2 q*D):=by grind
  have e2:t*t*(N*(c*c))=t*t*N*(c*c):=by grind
  have e3:c*c*D=D*(c*c):=Int.mul_comm _ _
  rw[e1,e,e3]
  omega
 have a4:(t*qj2 q)*(t*qj2 q)<c*c:=Int.lt_of_mul_lt_mul_right a3 (by omega)
 have h0:0<=t*qj2 q:=Int.mul_nonneg ht (q2w q)
 generalize t*qj2 q=x at *
 refine Classical.byContradiction λhn=>?_
 have:c*c<=x*x:=Int.mul_le_mul (by omega) (by omega) (by omega) h0
 omega
def ccTo (m:List (List Int)) (j:Nat):Nat->Nat
 | 0=>0
 | i+1=>if nI (nL m i) j≠0 then ccTo m j i+1 else ccTo m j i
theorem xb1 (m:List (List Int)) (j:Nat):∀i,ccTo m j i<=i
 | 0=>Nat.le_refl _
 | i+1=>by have:=xb1 m j i; rw[ccTo]; split <;> omega
theorem x3o {m:List (List Int)} (hM:Mk m) {j:Nat} (hj:j<(nL m 0).length):(ccTo m j m.length:Int)=cq m j j:=by
 have:∀i,i<=m.length->(ccTo m j i:Int)=sm i λa=>nI (nL m a) j*nI (nL m a) j:=λi=>by
  induction i with
  | zero=>exact λ_=>rfl
  | succ i ih=>
   intro hi
   have h1:=hM.small i (by omega) j hj
   rw[sm,<- ih (by omega),ccTo]
   rcases(show nI (nL m i) j=-1\/nI (nL m i) j=0\/nI (nL m i) j=1 by omega) with e | e | e <;> rw[e] <;> simp
 exact this _ (Nat.le_refl _)
def qx8 (m:List (List Int)):Bool:=(List.range (nL m 0).length).all λj=>decide (ccTo m j m.length=ccTo m 0 m.length)
theorem xb3 {m:List (List Int)} (he:wu0 m=0):validB m=true/\∃N D:Int,0<D/\wj4 m=(bndTo N D (nL m 0).length 0:Nat)/\(∀c,c<(nL m 0).length->0<cq m c c)/\∀i j,i<(nL m 0).length->j<(nL m 0).length->i≠j->cq m i j*cq m i j*D<=N*(cq m i i*cq m j j):=by
 obtain⟨hv,b,hb,hR,_⟩:=K.coh_some he
 have hv:validB m=true:=hv
 have hB:=K.cohF_best hb
 have hM:=Mk.of hv
 have hn2:2<=(nL m 0).length:=by
  refine Classical.byContradiction λq=>?_
  have e:K.cohE m=8:=by
   unfold K.cohE
   rw[if_neg (by rw[xa6,hv]; decide),if_pos (show(qh4 (.list (.int .i64)) m 0:List Int).length<2 from Nat.lt_of_not_le q)]
  have he:K.cohE m=0:=he
  rw[e] at he; cases he
 refine⟨hv,b.1,b.2,hB.lo.2.1,?_,λc hc=>?_,λi j hi hj hne=>?_⟩
 ·unfold wj4
  rw[if_pos (show K.cohE m=0 from he),hR]
 ·have hne:∀i,i<c\/c<i->i<(nL m 0).length->cq m c c≠0:=λi hi hin e=>by
   rcases hi with hi | hi
   ·have:=(q55 hB hi hc).1
    rw[e,Int.mul_zero] at this; omega
   ·have:=(q55 hB hi hin).1
    rw[e,Int.zero_mul] at this; omega
  have h0:=x65 m c
  have h1:cq m c c≠0:=by
   by_cases q:c=0
   ·exact hne 1 (.inr (by omega)) (by omega)
   ·exact hne 0 (.inl (by omega)) (by omega)
  omega
 ·rcases Nat.lt_or_gt_of_ne hne with q | q
  ·exact(q55 hB q hj).2
  ·have:=(q55 hB q hi).2
   rw[x3k m i j,Int.mul_comm (cq m i i)]
   exact this
theorem xb4 {m:List (List Int)} (h7:validB m=true->(nL m 0).length<=7) (he:wu0 m=0) (ha:qx8 m=true):wj4 m<=(ordL m:Nat):=by
 obtain⟨hv,N,D,hD,hR,hp,hq⟩:=xb3 he
 have h7:=h7 hv
 have hM:=Mk.of hv
 have hle:=(w22 N D (nL m 0).length 0 (.inl rfl)).1
 rw[hR]
 have hmain:bndTo N D (nL m 0).length 0<=ordL m:=by
  refine xa8 _ 0 (Nat.zero_le _) hle λk hk hkB=>?_
  have hkn:k<=(nL m 0).length:=by omega
  have hT:=(xm2 (m:=m) λ_=>h7).shs hv k hkn
  rcases(qx7 hT _ (Nat.le_refl _)).2 with e | ⟨i,hi,e⟩
  ·rw[e]; exact xr5
  ·rw[e]
   obtain⟨s,hc⟩:=qs2 hv h7 hi
   have hs:=q42 hv hc (q39 hc k)
   rw[w0i hs]
   refine decide_eq_false (Int.not_le.2 ?_)
   have hb:=wu1 (N:=N) (D:=D) (nL m 0).length 0 (k-1) (Nat.zero_le _) (by omega)
   have ek:2*((k-1:Nat):Int)+1=2*(k:Int)-1:=by omega
   rw[ek] at hb
   have hcc:∀j,j<(nL m 0).length->cq m j j=cq m 0 0:=λj hj=>by
    unfold qx8 at ha
    rw[List.all_eq_true] at ha
    have:=of_decide_eq_true (ha j (List.mem_range.2 hj))
    rw[<- x3o hM hj,<- x3o hM (j:=0) (by omega),this]
   have hc0:=hp 0 (by omega)
   have:=w5g (q:=cq m) (d:=nI (nL (qc8 m).1 i)) (c:=cq m 0 0) (k:=k) (by omega) (λj _=>x67 hc.sol j) hcc hc0 (λa b ha hb2 hne=>by
    have h3:=hq a b ha hb2 hne
    rw[hcc a ha,hcc b hb2] at h3
    exact x68 (by omega) hc0 hD h3 hb) (q39 hc k) (wg7 (by rw[hc.len]; exact hkn)) (by rw[xz0 hc.len]; exact wz8 hc)
   rw[x26,xz0 hc.len] at this
   exact this
 omega
def BS:Nat:=1000000000
def x0o (S:Nat):Nat->List Int
 | 0=>[]
 | k+1=>x0o S k++[((S / BS ^ k % BS:Nat):Int)]
theorem wj5 (S:Nat):∀k,(x0o S k).length=k
 | 0=>rfl
 | k+1=>by rw[x0o,List.length_append,wj5 S k]; rfl
theorem xb5 (S:Nat):∀k i,i<k->nI (x0o S k) i=((S / BS ^ i % BS:Nat):Int)
 | k+1,i,h=>by
  have hl:=wj5 S k
  rw[x0o]
  rcases Nat.lt_succ_iff_lt_or_eq.1 h with e | e
  ·rw[qg1 _ i (by rw[List.length_append]; omega),List.getElem_append_left (by omega),<- qg1 _ i (by omega)]
   exact xb5 S k i e
  ·rw[qg1 _ i (by rw[List.length_append]; simp; omega),List.getElem_append_right (by omega)]
   simp[e,hl]
def xz9:Nat->Nat->Nat
 | 0,_=>0
 | f+1,N=>if N=0 then 0 else xz9 f (N / BS)+1
def lenD (N:Nat):Nat:=xz9 N N
theorem w0k:∀f N,N<=f->N<BS ^ xz9 f N/\(xz9 f N=0\/BS ^ (xz9 f N-1)<=N)
 | 0,N,h=>by
  rw[show N=0 by omega]
  exact⟨by show 0<BS ^ 0; decide,.inl rfl⟩
 | f+1,N,h=>by
  rw[xz9]
  by_cases q:N=0
  ·rw[if_pos q,q]
   exact⟨by decide,.inl rfl⟩
  ·rw[if_neg q]
   have hd:N / BS<N:=Nat.div_lt_self (by omega) (by decide)
   obtain⟨h1,h2⟩:=w0k f (N / BS) (by omega)
   generalize xz9 f (N / BS)=k at h1 h2
   refine⟨?_,.inr ?_⟩
   ·rw[Nat.pow_succ]
    exact(Nat.div_lt_iff_lt_mul (by decide)).1 h1
   ·rw[Nat.add_sub_cancel]
    rcases h2 with h2 | h2
    ·rw[h2,Nat.pow_zero]; omega
    ·cases k with
     | zero=>rw[Nat.pow_zero]; omega
     | succ k=>
      rw[Nat.add_sub_cancel] at h2
      rw[Nat.pow_succ]
      exact(Nat.le_div_iff_mul_le (by decide)).1 h2
theorem x0b (N:Nat):N<BS ^ lenD N:=(w0k N N (Nat.le_refl _)).1
theorem x0c (N:Nat):lenD N=0\/BS ^ (lenD N-1)<=N:=(w0k N N (Nat.le_refl _)).2
theorem xb6 {a b:Nat} (h:a<=b):BS ^ a<=BS ^ b:=Nat.pow_le_pow_right (by decide) h
theorem xn8 {N i:Nat}:i<lenD N↔BS ^ i<=N:=by
 constructor
 ·intro h
  rcases x0c N with e | e
  ·omega
  ·exact Nat.le_trans (xb6 (by omega)) e
 ·intro h
  refine Nat.lt_of_not_le λq=>?_
  have:=xb6 q
  have:=x0b N
  omega
def dgs (N:Nat):List Int:=x0o N (lenD N)
theorem x0d (N:Nat):(dgs N).length=lenD N:=wj5 _ _
theorem x3p (N i:Nat):(if i<lenD N then nI (dgs N) i else 0)=((N / BS ^ i % BS:Nat):Int):=by
 by_cases h:i<lenD N
 ·rw[if_pos h]; exact xb5 _ _ _ h
 ·rw[if_neg h]
  have:N<BS ^ i:=Nat.lt_of_not_le λq=>h (xn8.2 q)
  rw[Nat.div_eq_of_lt this]; rfl
def x3q (l:List Int):Nat->Nat
 | 0=>0
 | k+1=>x3q l k+BS ^ k*(nI l k).toNat
def valL (l:List Int):Nat:=x3q l l.length
structure DigOk (l:List Int):Prop where
 len:l.length<=1000
 eq:l=dgs (valL l)
theorem DigOk.lenD {l:List Int} (h:DigOk l):l.length=lenD (valL l):=by
 conv=>lhs; rw[h.eq]
 rw[x0d]
theorem DigOk.at_ {l:List Int} (h:DigOk l) {i:Nat} (hi:i<l.length):nI l i=((valL l / BS ^ i % BS:Nat):Int):=by
 have:=x3p (valL l) i
 rw[if_pos (by rw[<- h.lenD]; exact hi),<- h.eq] at this
 exact this
abbrev x3z:=Bool × List Int × List Int
structure RxOk (K:Nat) (a:x3z):Prop where
 n:a.2.1=dgs (valL a.2.1)
 d:a.2.2=dgs (valL a.2.2)
 ln:a.2.1.length<=K
 ld:a.2.2.length<=K
theorem RxOk.dn {K:Nat} {a:x3z} (h:RxOk K a) (hK:K<=1000:=by omega):DigOk a.2.1:=⟨Nat.le_trans h.ln hK,h.n⟩
theorem RxOk.dd {K:Nat} {a:x3z} (h:RxOk K a) (hK:K<=1000:=by omega):DigOk a.2.2:=⟨Nat.le_trans h.ld hK,h.d⟩
theorem RxOk.up {K L:Nat} {a:x3z} (h:RxOk K a) (hK:K<=L:=by omega):RxOk L a:=⟨h.n,h.d,Nat.le_trans h.ln hK,Nat.le_trans h.ld hK⟩
open Go Go.RowKit Eng Ls
def qu4 (m:List (List Int)):Int × Int:=if(qi7 m).2=8 then((nL m 0).length,0) else if(qi7 m).2≠0 then(0,(qi7 m).2) else(((qi7 m).1-1).tdiv 2,0)
structure Sr4 (m:List (List Int)):Prop where
 sk:x2t m
 bd:qf0 1000 (qi7 m).1
 one:(qi7 m).2=8->0<m.length
abbrev x3r:qb9:=qf6 true none [tMask] [tInt,tInt] (λx=>Sr4 x.1) (λx=>((qu4 x.1).1,(qu4 x.1).2,()))
theorem w0l:qd4 Tryz.prog 15 x3r:=by
 refine meets (snd (SpecsOk.cons ws4 (SpecsOk.nil _))) Tryz.func15 rfl rfl (λ_ _=>none) (λ_=>by kernel_rfl) (by decide) ?_
 rintro⟨m,⟨⟩⟩ h
 revert m
 intro(m:List (List Int)) (h:Sr4 m)
 refine @qd7 _ (let Q0:=qi7 m; let Q1:=qu4 m; x2t m/\((Q0.2==(8:Int))=true->((0:Int)<=(0:Int)/\(0:Int)<(↑m.length:Int))/\(↑(nL m (0:Nat)).length:Int)=Q1.1/\(0:Int)=Q1.2/\True)/\((Q0.2==(8:Int))=false->((Q0.2 != (0:Int))=true->(0:Int)=Q1.1/\Q0.2=Q1.2/\True)/\((Q0.2 != (0:Int))=false->fits .i64 (Q0.1-(1:Int))/\(2:Int)≠(0:Int)/\fits .i64 (Int.tdiv (Q0.1-(1:Int)) (2:Int))/\Int.tdiv (Q0.1-(1:Int)) (2:Int)=Q1.1/\(0:Int)=Q1.2/\True))) (by kernel_rfl) ?_
 try simp only[z0,z1,z2,z3,z4,z5,z6,z7,z8,z9,z10,Int.reduceEq,z11,z12,z13,z14,z15,z16,z17,z18,z19,z20,z21,z22,z23,z24,z25,z26,z27,z28,z29,z30,Int.reduceLE,Int.reduceLT,z31,z32,z33,z34,qa1]
 try simp only[qb3,qb4,qc0,z31,z32,z2,z1]
 have hb:qf0 1000 ((qi7 m).1):=h.bd
 have hb2:qf0 1001 ((qi7 m).1-1):=by unfold qf0 at hb ⊢; omega
 have hb3:qf0 1001 (((qi7 m).1-1).tdiv 2):=qj9 hb2
 unfold qf0 at hb2 hb3
 refine⟨h.sk,λh8=>⟨by have:=h.one h8; omega,by simp[qu4,h8]⟩,λh8=>⟨λhe=>by simp[qu4,h8,he],λhe=>⟨qa4 (by omega) (by omega),qa4 (by omega) (by omega),by simp[qu4,he]⟩⟩⟩
structure w0m (N D:Int) (n k:Nat):Prop where
 le:k<=n
 eq:bndTo N D n 0=bndTo N D (n-k) k
def x7a (m:List (List Int)):Nat->Option Inv
 | 0=>some (Inv.of [6] 1 (λk:Nat=>[(6,.lit (.int .i64 k))]) (λk=>[.box 34 (.cons (.lit (.int .i64 (K.cohR m).1)) (.cons (.lit (.int .i64 (K.cohR m).2)) .nil))]) (λk=>w0m (K.cohR m).1 (K.cohR m).2 (nL m 0).length k) (λk=>(nL m 0).length-k))
 | _=>none
abbrev yd9:qb9:=qf6 true none [tMask] [tInt,tInt] (λ_=>True) (λx=>(wj4 x.1,wu0 x.1,()))
theorem x3s {m:List (List Int)} (h:K.cohE m=0):Mk m/\0<=(K.cohR m).1/\(K.cohR m).1<=100:=by
 obtain⟨hv,b,hb,hR,_⟩:=K.coh_some h
 have hB:=K.cohK_bd (K.IsMask.of hv) (Nat.le_refl _) (by rw[K.cohK_all]; exact hb)
 rw[hR]
 exact⟨Mk.of hv,hB.1⟩
theorem xn9 {N D:Int} {n k:Nat} (h:k<n):bndTo N D (n-k) k=if(2*(k:Int)+1)*(2*(k:Int)+1)*N<D then bndTo N D (n-(k+1)) (k+1) else k:=by
 obtain⟨f,hf⟩:∃f,n-k=f+1:=⟨n-k-1,by omega⟩
 rw[hf,show n-(k+1)=f by omega,bndTo]
theorem x0e (m:List (List Int)):(¬K.cohE m=0->0=wj4 m/\K.cohE m=wu0 m)/\(K.cohE m=0->∃(v1:Unit) (v2:Nat),w0m (K.cohR m).fst (K.cohR m).snd (nL m 0).length v2/\(0:Int)=↑v2/\∀(v3:Nat),w0m (K.cohR m).fst (K.cohR m).snd (nL m 0).length v3->(0:Int) < ↑m.length /\
   (v3<(nL m 0).length->fits IntKind.i64 (2 * ↑v3)/\fits IntKind.i64 (2 * ↑v3+1)/\fits IntKind.i64 (2 * ↑v3)/\fits IntKind.i64 (2 * ↑v3+1)/\fits IntKind.i64 ((2 * ↑v3+1)*(2 * ↑v3+1))/\fits IntKind.i64 ((2 * ↑v3+1)*(2 * ↑v3+1)*(K.cohR m).fst) /\
     ((2*(v3:Int)+1)*(2 * ↑v3+1)*(K.cohR m).fst<(K.cohR m).snd->fits IntKind.i64 (↑v3+1)/\∃(v7:Nat),w0m (K.cohR m).fst (K.cohR m).snd (nL m 0).length v7/\(nL m 0).length-v7<(nL m 0).length-v3/\(v3:Int)+1=↑v7) /\
      ((K.cohR m).snd<=(2*(v3:Int)+1)*(2 * ↑v3+1)*(K.cohR m).fst->(v3:Int)=wj4 m/\0=wu0 m))/\(¬v3<(nL m 0).length->(v3:Int)=wj4 m/\0=wu0 m)):=by
 refine⟨λh=>⟨by simp[wj4,h],rfl⟩,λh=>⟨(),0,⟨Nat.zero_le _,rfl⟩,rfl,λk hk=>?_⟩⟩
 obtain⟨hM,c1,c2⟩:=x3s h
 have h1:=hM.rows1
 have h10:=hM.pix10
 have eR:wj4 m=(bndTo (K.cohR m).1 (K.cohR m).2 (nL m 0).length 0:Nat):=if_pos h
 have eE:wu0 m=0:=h
 rw[eR,eE,hk.eq]
 have hle:=hk.le
 have hstep:=xn9 (N:=(K.cohR m).1) (D:=(K.cohR m).2) (n:=(nL m 0).length) (k:=k)
 generalize(K.cohR m).1=N at *
 generalize(K.cohR m).2=D at *
 refine⟨by omega,λhlt=>?_,λhge=>?_⟩
 ·have hkk:(k:Int)<=9:=by omega
  have k0:(0:Int)<=k:=Int.natCast_nonneg k
  have s1:(2*(k:Int)+1)*(2*(k:Int)+1)<=19*19:=Int.mul_le_mul (by omega) (by omega) (by omega) (by omega)
  have s0:0<=(2*(k:Int)+1)*(2*(k:Int)+1):=Int.mul_nonneg (by omega) (by omega)
  have s2:(2*(k:Int)+1)*(2*(k:Int)+1)*N<=19*19*100:=Int.mul_le_mul s1 c2 c1 (by omega)
  have s3:0<=(2*(k:Int)+1)*(2*(k:Int)+1)*N:=Int.mul_nonneg s0 c1
  refine⟨qa4 (by omega) (by omega),qa4 (by omega) (by omega),qa4 (by omega) (by omega),qa4 (by omega) (by omega),qa4 (by omega) (by omega),qa4 (by omega) (by omega),λhc=>⟨qa4 (by omega) (by omega),k+1,⟨by omega,?_⟩,by omega,by omega⟩,λhc=>⟨?_,rfl⟩⟩
  ·rw[hk.eq,hstep hlt,if_pos hc]
  ·rw[hstep hlt,if_neg (Int.not_lt.2 hc)]
 ·have e:k=(nL m 0).length:=by omega
  rw[e,Nat.sub_self]
  exact⟨rfl,rfl⟩
theorem w5h:qd4 Tryz.prog 54 K.sCoh:=by
 have e:K.sRCoh=K.sCoh:=by
  unfold K.sRCoh K.sCoh
  congr 1
  funext x
  rw[K.cohR_same,K.cohE_same]
 rw[<- e]
 exact K.rCoherence_meets
theorem w5i:qd4 Tryz.prog 16 yd9:=by
 refine meets (snd (SpecsOk.cons w5h (SpecsOk.nil _))) Tryz.func16 rfl rfl (λx=>x7a x.1) (λ_=>by kernel_rfl) (by decide) ?_
 rintro⟨m,⟨⟩⟩ -
 revert m
 intro(m:List (List Int))
 refine @qd7 _ (let Q0:=K.cohR m; True/\((K.cohE m != (0:Int))=true->(0:Int)=wj4 m/\K.cohE m=wu0 m/\True)/\((K.cohE m != (0:Int))=false->∃(v1:Unit),∃(v2:Nat),w0m Q0.1 Q0.2 (nL m (0:Nat)).length v2/\(((0:Int)=(↑v2:Int)/\True)/\(Q0.1=Q0.1/\Q0.2=Q0.2/\True)/\True)/\∀(v3:Nat),w0m Q0.1 Q0.2 (nL m (0:Nat)).length v3->((0:Int)<=(0:Int)/\(0:Int)<(↑m.length:Int))/\(decide ((↑v3:Int)<(↑(nL m (0:Nat)).length:Int))=true->fits .i64 ((2:Int)*(↑v3:Int))/\fits .i64 ((2:Int)*(↑v3:Int)+(1:Int))/\fits .i64 ((2:Int)*(↑v3:Int))/\fits .i64 ((2:Int)*(↑v3:Int)+(1:Int))/\fits .i64 (((2:Int)*(↑v3:Int)+(1:Int))*((2:Int)*(↑v3:Int)+(1:Int)))/\fits .i64 (((2:Int)*(↑v3:Int)+(1:Int))*((2:Int)*(↑v3:Int)+(1:Int))*Q0.1)/\(decide (((2:Int)*(↑v3:Int)+(1:Int))*((2:Int)*(↑v3:Int)+(1:Int))*Q0.1<Q0.2)=true->fits .i64 ((↑v3:Int)+(1:Int))/\∃(v7:Nat),w0m Q0.1 Q0.2 (nL m (0:Nat)).length v7/\(nL m (0:Nat)).length-v7<(nL m (0:Nat)).length-v3/\((↑v3:Int)+(1:Int)=(↑v7:Int)/\True)/\(Q0.1=Q0.1/\Q0.2=Q0.2/\True)/\True)/\(decide (((2:Int)*(↑v3:Int)+(1:Int))*((2:Int)*(↑v3:Int)+(1:Int))*Q0.1<Q0.2)=false->(↑v3:Int)=wj4 m/\(0:Int)=wu0 m/\True))/\(decide ((↑v3:Int)<(↑(nL m (0:Nat)).length:Int))=false->(↑v3:Int)=wj4 m/\(0:Int)=wu0 m/\True))) (by kernel_rfl) ?_
 try simp only[z0,z1,z2,z3,z4,z5,z6,z7,z8,z9,z10,Int.reduceEq,z11,z12,z13,z14,z15,z16,z17,z18,z19,z20,z21,z22,z23,z24,z25,z26,z27,z28,z29,z30,Int.reduceLE,Int.reduceLT,z31,z32,z33,z34,qa1]
 try simp only[qb3,qb4,qc0,z31,z32,z2,z1]
 exact x0e m
end Go.Proofs.YtempacilejhbgaaGreat
