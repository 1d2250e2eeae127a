/- Great numbers by their digits. Plain mathematics. No condition. -/
import Derived.Test.YtnchigbbjajiiaaGreatV23
import Derived.Test.YtnchigbbjajiiaaGreatV0
set_option linter.unusedVariables false
set_option linter.unusedSimpArgs false
namespace Go.Proofs.YtnchigbbjajiiaaGreat
open Go Go.RowKit Eng
def sm:Nat->(Nat->Int)->Int
 | 0,_=>0
 | n+1,f=>sm n f+f n
theorem qe1 {n:Nat} {f g:Nat->Int} (h:∀i,i<n->f i=g i):sm n f=sm n g:=by
 induction n with
 | zero=>rfl
 | succ n ih=>grind [sm]
theorem qm5 {n:Nat} {f:Nat->Int} (h:∀i,i<n->f i=0):sm n f=0:=by
 induction n with
 | zero=>rfl
 | succ n ih=>grind [sm]
theorem q8p (n:Nat) (f g:Nat->Int):sm n (λi=>f i+g i)=sm n f+sm n g:=by
 induction n with
 | zero=>rfl
 | succ n ih=>grind [sm]
theorem x2i (n:Nat) (f g:Nat->Int):sm n (λi=>f i-g i)=sm n f-sm n g:=by
 induction n with
 | zero=>rfl
 | succ n ih=>grind [sm]
theorem qk8 (n:Nat) (c:Int) (f:Nat->Int):sm n (λi=>c*f i)=c*sm n f:=by
 induction n with
 | zero=>simp[sm]
 | succ n ih=>grind [sm,Int.mul_add]
theorem qr0 {n k:Nat} {f:Nat->Int} (hk:k<n) (h:∀i,i<n->i≠k->f i=0):sm n f=f k:=by
 induction n with
 | zero=>omega
 | succ n ih=>
  rw[sm]
  by_cases e:k=n
  ·grind [qm5]
  grind
theorem q58 {n k l:Nat} {f:Nat->Int} (hk:k<n) (hl:l<n) (hkl:k≠l) (h:∀i,i<n->i≠k->i≠l->f i=0):sm n f=f k+f l:=by
 have e:sm n f=sm n (λi=>if i=k then f k else 0)+sm n (λi=>if i=l then f l else 0):=by
  rw[<- q8p]
  refine qe1 λi hi=>?_
  grind
 rw[e,qr0 hk λi _ hne=>zak hne,qr0 hl λi _ hne=>zak hne,zao rfl,zao rfl]
theorem x4w {n:Nat} {f:Nat->Int} {B:Nat} (h:∀i,i<n->(f i).natAbs<=B):(sm n f).natAbs<=n*B:=by
 induction n with
 | zero=>simp[sm]
 | succ n ih=>
  grind [sm,Nat.succ_mul]
theorem xf6 (n k:Nat) (f:Nat->Nat->Int):sm n (λi=>sm k (λj=>f i j))=sm k (λj=>sm n (λi=>f i j)):=by
 induction n with
 | zero=>exact(qm5 λ_ _=>rfl).symm
 | succ n ih=>
  simp_all [sm,q8p]
theorem qv0 (n:Nat) (x y:Int) (f g r:Nat->Int):sm n (λb=>(x*f b-y*g b)*r b)=x*sm n (λb=>f b*r b)-y*sm n (λb=>g b*r b):=by
 simp_all [qk8,x2i,qe1,Int.sub_mul,Int.mul_assoc]
theorem q8q:∀(B A:Nat) (f:Nat->Nat),(∀i,i<A->f i<B)->B<A->∃i j,i<j/\j<A/\f i=f j
 | 0,A,f,h,hA=>absurd (h 0 hA) (zav _)
 | B+1,A,f,h,hA=>by
  by_cases hx:∃i,i<A/\f i=B
  ·obtain⟨i0,h0,h1⟩:=hx
   by_cases hy:∃j,j<A/\j≠i0/\f j=B
   ·obtain⟨j,k0,k1,k2⟩:=hy
    rcases zd7 k1 with q | q
    ·exact⟨j,i0,q,h0,ow⟩
    ·exact⟨i0,j,q,k0,ow⟩
   ·have hn:∀j,j<A->j≠i0->f j<B:=λj hj hne=>by
     grind
    obtain⟨i,j,q1,q2,q3⟩:=q8q B (A-1) (λi=>f (if i<i0 then i else i+1)) (λi hi=>hn _ (by grind) (by grind)) ow
    refine⟨if i<i0 then i else i+1,if j<i0 then j else j+1,?_,?_,q3⟩
    all_goals grind
  ·obtain⟨i,j,q1,q2,q3⟩:=q8q B A f (λi hi=>by
    grind) ow
   exact⟨i,j,q1,q2,q3⟩
def dig (b:Nat):Nat->Nat->Nat
 | 0,N=>N % b
 | a+1,N=>dig b a (N / b)
theorem x2j {b:Nat} (hb:0<b):∀a N,dig b a N<b
 | 0,N=>zcd _ hb
 | a+1,N=>x2j hb a (N / b)
theorem xf7 {b:Nat} (hb:0<b):∀(n N M:Nat),N<b ^ n->M<b ^ n->(∀a,a<n->dig b a N=dig b a M)->N=M
 | 0,N,M,h1,h2,_=>by grind
 | n+1,N,M,h1,h2,h=>by
  have h0:=h 0 ow
  have e:=xf7 hb n (N / b) (M / b) (zdh (by grind)) (zdh (by grind)) λa ha=>h (a+1) ow
  have h0:N % b=M % b:=h0
  grind [Nat.div_add_mod]
def q4p (B:Nat):List Nat->Nat
 | []=>0
 | x :: l=>x+B*q4p B l
theorem w39 {B:Nat}:∀(l:List Nat),(∀x∈l,x<B)->q4p B l<B ^ l.length
 | [],_=>by simp[q4p]
 | x :: l,h=>by
  have h1:=w39 l λy hy=>h y (by grind)
  have h2:=h x (by simp)
  rw[q4p,List.length_cons,zb1,zda (B ^ l.length)]
  calc x+B*q4p B l<B+B*q4p B l:=ow
   _=B*(q4p B l+1):=by grind
   _<=B*B ^ l.length:=zbj (zab _) h1
theorem ww3 {B:Nat} (hB:0<B):∀(l k:List Nat),l.length=k.length->(∀x∈l,x<B)->(∀x∈k,x<B)->q4p B l=q4p B k->l=k
 | [],[],_,_,_,_=>rfl
 | [],_ :: _,h,_,_,_=>by grind
 | _ :: _,[],h,_,_,_=>by grind
 | x :: l,y :: k,h,h1,h2,e=>by
  have hx:=h1 x (by simp)
  have hy:=h2 y (by simp)
  rw[q4p,q4p] at e
  have e1:x=y:=by
   have:=zbi (· % B) e
   grind [Nat.add_mul_mod_self_left,Nat.mod_eq_of_lt]
  subst e1
  have e2:q4p B l=q4p B k:=Nat.eq_of_mul_eq_mul_left hB ow
  rw[ww3 hB l k (by grind) (λz hz=>h1 z (by grind)) (λz hz=>h2 z (by grind)) e2]
def smN:Nat->(Nat->Nat)->Nat
 | 0,_=>0
 | n+1,f=>smN n f+f n
theorem x9g {n C:Nat} {f:Nat->Nat} (h:∀i,i<n->f i<=C):smN n f<=n*C:=by
 induction n with
 | zero=>simp[smN]
 | succ n ih=>
  grind [smN,Nat.succ_mul]
def lhsN (n C:Nat) (f:Nat->Int) (z:Nat->Nat):Nat:=smN n λa=>if 0<f a then z a else if f a<0 then C-z a else 0
theorem x4x {n C:Nat} {f:Nat->Int} (hf:∀a,a<n->(f a).natAbs<=1) {z y:Nat->Nat} (hz:∀a,a<n->z a<=C) (hy:∀a,a<n->y a<=C):(lhsN n C f z:Int)-(lhsN n C f y:Int)=sm n λa=>f a*((z a:Int)-(y a:Int)):=by
 unfold lhsN
 induction n with
 | zero=>rfl
 | succ n ih=>
  have h1:=ih (λa ha=>hf a ow) (λa ha=>hz a ow) (λa ha=>hy a ow)
  have h2:=hf n ow
  have h3:=hz n ow
  have h4:=hy n ow
  rw[smN,smN,sm,<- h1]
  rcases zct (f n) 0 with q | q | q
  ·have e:f n=-1:=ow
   grind
  all_goals grind
theorem x9h {n:Nat} (hn:0<n) (fs:List (Nat->Int)) (hlen:fs.length<n) (h1:∀f∈fs,∀a,a<n->(f a).natAbs<=1):∃z:Nat->Int,(∃a,a<n/\z a≠0)/\(∀a,a<n->(z a).natAbs<=n ^ (n-1))/\∀f∈fs,sm n (λa=>f a*z a)=0:=by
 obtain⟨C,hC⟩:∃C,C=n ^ (n-1):=⟨_,rfl⟩
 have hb:0<C+1:=ow
 let code:Nat->Nat:=λN=>q4p (n*C+1) (fs.map λf=>lhsN n C f λa=>dig (C+1) a N)
 have hdig:∀N a,dig (C+1) a N<=C:=λN a=>by have:=x2j hb a N; omega
 have hl:∀N,∀x∈fs.map (λf=>lhsN n C f λa=>dig (C+1) a N),x<n*C+1:=λN x hx=>by
  obtain⟨f,hf,rfl⟩:=zba.1 hx
  have:=x9g (n:=n) (C:=C) (f:=λa=>if 0<f a then dig (C+1) a N else if f a<0 then C-dig (C+1) a N else 0) λi _=>by
   grind
  exact Nat.lt_succ_of_le this
 obtain⟨N,M,hNM,hM,he⟩:=q8q ((n*C+1) ^ fs.length) ((C+1) ^ n) code (λN _=>by
  have:=w39 _ (hl N)
  grind) (by
  calc(n*C+1) ^ fs.length<=(n*C+1) ^ (n-1):=zdk ow ow
   _<=(n*(C+1)) ^ (n-1):=Nat.pow_le_pow_left (by grind) _
   _=n ^ (n-1)*(C+1) ^ (n-1):=Nat.mul_pow _ _ _
   _=C*(C+1) ^ (n-1):=by grind
   _<(C+1)*(C+1) ^ (n-1):=zdo ow (Nat.pow_pos hb)
   _=(C+1) ^ n:=by rw[zda,<- zb1,show(n-1).succ=n by omega])
 refine⟨λa=>(dig (C+1) a M:Int)-(dig (C+1) a N:Int),zaf λhno=>?_,λa ha=>?_,λf hf=>?_⟩
 ·have:=xf7 hb n N M ow hM λa ha=>by
   grind
  omega
 ·grind
 ·have hll:=ww3 (B:=n*C+1) ow _ _ (by simp) (hl N) (hl M) he
  have hfe:lhsN n C f (λa=>dig (C+1) a N)=lhsN n C f (λa=>dig (C+1) a M):=List.map_inj_left.1 hll f hf
  grind [x4x]
def BS:Nat:=1000000000
theorem qr7 (k:Nat):0<BS ^ k:=Nat.pow_pos dc
def qh3 (S:Nat):Nat->List Int
 | 0=>[]
 | k+1=>qh3 S k++[((S / BS ^ k % BS:Nat):Int)]
theorem qi7 (S:Nat):∀k,(qh3 S k).length=k
 | 0=>rfl
 | k+1=>by rw[qh3,zay,qi7 S k]; rfl
theorem q3l (S:Nat):∀k i,i<k->nI (qh3 S k) i=((S / BS ^ i % BS:Nat):Int)
 | k+1,i,h=>by
  have hl:=qi7 S k
  rw[qh3]
  rcases zat.1 h with e | e
  ·rw[qf1 _ i (by grind),zeb ow,<- qf1 _ i ow]
   exact q3l S k i e
  grind [qf1,List.length_append,List.getElem_append_right]
theorem w4a {l:List Int} {S k:Nat} (hl:l.length=k) (h:∀i,i<k->nI l i=((S / BS ^ i % BS:Nat):Int)):l=qh3 S k:=by
 refine zbb (by rw[qi7,hl]) λi h1 h2=>?_
 rw[<- qf1 l i h1,<- qf1 _ i h2,h i ow,q3l S k i ow]
def x4y:Nat->Nat->Nat
 | 0,_=>0
 | f+1,N=>if N=0 then 0 else x4y f (N / BS)+1
def lenD (N:Nat):Nat:=x4y N N
theorem w1m:∀f N,N<=f->N<BS ^ x4y f N/\(x4y f N=0\/BS ^ (x4y f N-1)<=N)
 | 0,N,h=>by
  rw[show N=0 by omega]
  exact⟨by show 0<BS ^ 0; decide,.inl rfl⟩
 | f+1,N,h=>by
  rw[x4y]
  by_cases q:N=0
  ·simp_all
  ·rw[zak q]
   have hd:N / BS<N:=Nat.div_lt_self ow dc
   obtain⟨h1,h2⟩:=w1m f (N / BS) ow
   generalize x4y f (N / BS)=k at h1 h2
   refine⟨?_,.inr ?_⟩
   ·rw[zb1]
    exact(zcf dc).1 h1
   ·rw[zd5]
    rcases h2 with h2 | h2
    ·rw[h2,zes]; omega
    ·cases k with
     | zero=>grind
     | succ k=>
      rw[zd5] at h2
      rw[zb1]
      exact(zet dc).1 h2
theorem qr1 (N:Nat):N<BS ^ lenD N:=(w1m N N (zab _)).1
theorem xf8 (N:Nat):lenD N=0\/BS ^ (lenD N-1)<=N:=(w1m N N (zab _)).2
theorem qv9 {a b:Nat} (h:a<=b):BS ^ a<=BS ^ b:=zdk dc h
theorem q1s {N k:Nat} (h:N<BS ^ k):lenD N<=k:=zcn λq=>by
 rcases xf8 N with e | e
 ·omega
 ·have:=qv9 (show k<=lenD N-1 by omega)
  omega
theorem qx2 {N i:Nat}:i<lenD N↔BS ^ i<=N:=by
 constructor
 ·intro h
  rcases xf8 N with e | e
  all_goals grind [Nat.le_trans,qv9]
 ·intro h
  refine zdg λq=>?_
  have:=qv9 q
  grind [qr1]
theorem x4z {N k:Nat} (h1:N<BS ^ k) (h2:k=0\/BS ^ (k-1)<=N):lenD N=k:=by
 have:=q1s h1
 rcases h2 with e | e
 ·omega
 ·have:=qx2.2 e
  omega
def dgs (N:Nat):List Int:=qh3 N (lenD N)
theorem q1t (N:Nat):(dgs N).length=lenD N:=qi7 _ _
theorem w4b {N k:Nat} (h1:N<BS ^ k) (h2:k=0\/BS ^ (k-1)<=N):qh3 N k=dgs N:=by grind [dgs,x4z]
theorem x9i (N i:Nat):(if i<lenD N then nI (dgs N) i else 0)=((N / BS ^ i % BS:Nat):Int):=by
 by_cases h:i<lenD N
 ·rw[zao h]; exact q3l _ _ _ h
 simp_all [if_neg,BS,Nat.lt_of_not_le,qx2,Nat.div_eq_of_lt]
def xz0 (l:List Int):Nat->Nat
 | 0=>0
 | k+1=>xz0 l k+BS ^ k*(nI l k).toNat
def valL (l:List Int):Nat:=xz0 l l.length
theorem w4c (S n:Nat):∀k,k<=n->xz0 (qh3 S n) k=S % BS ^ k
 | 0,_=>by rw[zes,Nat.mod_one]; rfl
 | k+1,h=>by
  rw[xz0,w4c S n k ow,q3l S n k ow,zaq,Nat.mod_pow_succ]
theorem wl5 {S n:Nat} (h:S<BS ^ n):valL (qh3 S n)=S:=by
 simp_all [valL,qi7,w4c,Nat.le_refl,Nat.mod_eq_of_lt]
theorem qg7 (N:Nat):valL (dgs N)=N:=wl5 (qr1 N)
theorem x42 {N:Nat}:(dgs N).length=0↔N=0:=by
 rw[q1t]
 constructor
 ·intro h
  have:=qr1 N
  simp_all
 ·rintro rfl; rfl
theorem q2m (A P:Nat) (hP:0<P):A=A / P*P+A % P/\A % P<P:=⟨by grind [Nat.div_add_mod,Nat.mul_comm],zcd _ hP⟩
theorem qt1 (A k:Nat):A / BS ^ (k+1)=A / BS ^ k / BS:=by rw[zb1,zc6]
def qx9 (A B k:Nat):Nat:=(A % BS ^ k+B % BS ^ k) / BS ^ k
theorem xf9 (A B k:Nat):qx9 A B k<=1:=by
 unfold qx9
 have h1:=zcd A (qr7 k)
 have h2:=zcd B (qr7 k)
 have:(A % BS ^ k+B % BS ^ k) / BS ^ k<2:=(zcf (qr7 k)).2 ow
 omega
theorem wl6 (A B k:Nat):(A+B) / BS ^ k=A / BS ^ k+B / BS ^ k+qx9 A B k:=Nat.add_div (qr7 k) ▸ by
 unfold qx9
 have h1:=zcd A (qr7 k)
 have h2:=zcd B (qr7 k)
 generalize A % BS ^ k=a at *
 generalize B % BS ^ k=b at *
 generalize hP:BS ^ k=P at *
 split
 ·rename_i h
  have:(a+b) / P=1:=by
   have e:(a+b) / P<2:=(zcf ow).2 ow
   have e2:1<=(a+b) / P:=(zet ow).2 ow
   omega
  omega
 simp_all
theorem xg0 (A B k:Nat):(A+B) / BS ^ k % BS=(A / BS ^ k % BS+B / BS ^ k % BS+qx9 A B k) % BS:=by
 rw[wl6]
 have e:BS=1000000000:=rfl
 grind
theorem xz1 (A B k:Nat):qx9 A B (k+1)=(A / BS ^ k % BS+B / BS ^ k % BS+qx9 A B k) / BS:=by
 have h1:=wl6 A B k
 have h2:=wl6 A B (k+1)
 rw[qt1,qt1,qt1,h1] at h2
 have h3:=xf9 A B (k+1)
 have e:BS=1000000000:=rfl
 grind
theorem xz2 (A B:Nat):qx9 A B 0=0:=by simp_all [qx9,Nat.pow_zero,Nat.mod_one]
def q62 (A B k:Nat):Nat:=if A % BS ^ k<B % BS ^ k then 1 else 0
theorem xz3 (A B:Nat):q62 A B 0=0:=by simp_all [q62,Nat.pow_zero,Nat.mod_one,if_neg,Nat.lt_irrefl]
theorem xg1 {A B k:Nat} (h:B<=A):(A-B) / BS ^ k+B / BS ^ k+q62 A B k=A / BS ^ k:=by
 unfold q62
 have hP:=qr7 k
 obtain⟨a1,a2⟩:=q2m A (BS ^ k) hP
 obtain⟨b1,b2⟩:=q2m B (BS ^ k) hP
 generalize A / BS ^ k=a at *
 generalize B / BS ^ k=b at *
 generalize A % BS ^ k=x at *
 generalize B % BS ^ k=y at *
 generalize BS ^ k=P at *
 by_cases q:x<y
 ·rw[zao q]
  have hab:b<a:=zdg λq2=>by
   have:=za1 P q2
   omega
  have e:A-B=(a-b-1)*P+(P+x-y):=by
   have h1:(a-b-1)*P=a*P-b*P-P:=by simp_all [Nat.sub_mul,Nat.one_mul]
   have h2:(b+1)*P<=a*P:=za1 P hab
   grind
  have:(A-B) / P=a-b-1:=by
   rw[e,zco,zb5 _ _ hP,zb2 ow,zbz]
  omega
 ·rw[zak q]
  have hab:b<=a:=zcn λq2=>by
   have:=za1 P (show a+1<=b from q2)
   grind
  have e:A-B=(a-b)*P+(x-y):=by
   have h1:(a-b)*P=a*P-b*P:=Nat.sub_mul _ _ _
   have h2:=za1 P hab
   omega
  have:(A-B) / P=a-b:=by
   rw[e,zco,zb5 _ _ hP,zb2 ow,zbz]
  omega
theorem w4d (A B k:Nat):q62 A B k<=1:=by grind [q62]
theorem xg2 {A B k:Nat} (h:B<=A):((A / BS ^ k % BS:Nat):Int)-(B / BS ^ k % BS:Nat)-q62 A B k=((A-B) / BS ^ k % BS:Nat)-1000000000*(q62 A B (k+1):Int):=by
 have h1:=xg1 (k:=k) h
 have h2:=xg1 (k:=k+1) h
 rw[qt1,qt1,qt1] at h2
 have h3:=w4d A B (k+1)
 have h4:=w4d A B k
 have e:BS=1000000000:=rfl
 grind
theorem x9j {S n k v:Nat} (hk:k<n) (hv:v<BS):(qh3 S n).set k (v:Int)=qh3 (S-(S / BS ^ k % BS)*BS ^ k+v*BS ^ k) n/\(S / BS ^ k % BS)*BS ^ k<=S:=by
 have hP:=qr7 k
 obtain⟨a1,a2⟩:=q2m S (BS ^ k) hP
 obtain⟨b1,b2⟩:=q2m (S / BS ^ k) BS dc
 obtain⟨H,hH⟩:∃H,H=S / BS ^ k / BS:=⟨_,rfl⟩
 obtain⟨d,hd⟩:∃d,d=S / BS ^ k % BS:=⟨_,rfl⟩
 obtain⟨L,hL⟩:∃L,L=S % BS ^ k:=⟨_,rfl⟩
 rw[<- hH,<- hd] at b1
 rw[<- hd] at b2
 rw[<- hL] at a2
 rw[b1,<- hL] at a1
 have e1:(H*BS+d)*BS ^ k=H*BS*BS ^ k+d*BS ^ k:=Nat.add_mul _ _ _
 have hle:d*BS ^ k<=S:=ow
 have eT:S-d*BS ^ k+v*BS ^ k=(H*BS+v)*BS ^ k+L:=by grind
 rw[<- hd]
 refine⟨w4a (by rw[za7,qi7]) λi hi=>?_,hle⟩
 rw[eT]
 have hT:((H*BS+v)*BS ^ k+L) / BS ^ k=H*BS+v:=by
  rw[zco,zb5 _ _ hP,zb2 a2,zbz]
 have hS:S / BS ^ k=H*BS+d:=b1
 by_cases q:i=k
 ·rw[q,qf1 _ k (by grind [List.length_set,qi7]),zdb,hT]
  grind [BS,Nat.add_comm,Nat.add_mul_mod_self_right,Nat.mod_eq_of_lt]
 ·rw[qf1 _ i (by grind [List.length_set,qi7]),List.getElem_set_ne ow,<- qf1 _ i (by grind [qi7]),q3l S n i hi]
  rcases zd7 q with q | q
  ·-- a lower digit
   have low:∀Z,(Z*BS ^ k+L) / BS ^ i % BS=L / BS ^ i % BS:=λZ=>by
    have hp:=qr7 i
    have e:BS ^ k=BS ^ (k-i-1)*BS*BS ^ i:=by
     rw[<- zb1,<- zdp]; congr 1; omega
    rw[e,<- ze3,<- ze3,zco,zb5 _ _ hp,Nat.add_mul_mod_self_right]
   rw[low,a1,low]
  ·have up:∀z,z<BS->((H*BS+z)*BS ^ k+L) / BS ^ i=H / BS ^ (i-k-1):=λz hz=>by
    have e:BS ^ i=BS ^ k*(BS*BS ^ (i-k-1)):=by
     rw[zda BS,<- zb1,<- zdp]; grind
    rw[e,<- zc6,<- zc6,zco,zb5 _ _ hP,zb2 a2,zbz,zco,zb5 _ _ (show 0<BS by decide),zb2 hz,zbz]
   rw[up v hv]
   conv=>lhs; rw[a1,up d b2]
theorem x44 {S k:Nat} (h:S<BS ^ (k+1)) (hz:S / BS ^ k % BS=0):S<BS ^ k:=by
 have h1:S / BS ^ k<BS:=by
  simp_all [Nat.div_lt_iff_lt_mul,qr7,Nat.mul_comm,Nat.pow_succ]
 rw[zei h1] at hz
 exact(zdq.1 hz).resolve_left (by grind)
theorem x9k {S k:Nat} (hz:S / BS ^ k % BS≠0):BS ^ k<=S:=zcn λq=>hz (by rw[zb2 q]; rfl)
theorem x45 (S k:Nat):(qh3 S (k+1)).take k=qh3 S k:=by
 simp_all [qh3,List.take_append_of_le_length,qi7,Nat.le_refl,List.take_of_length_le]
theorem xz4 {A B i:Nat} (h:A / BS ^ (i+1)=B / BS ^ (i+1)):(A / BS ^ i % BS<B / BS ^ i % BS->A<B)/\(B / BS ^ i % BS<A / BS ^ i % BS->B<A)/\(A / BS ^ i % BS=B / BS ^ i % BS->A / BS ^ i=B / BS ^ i):=by
 rw[qt1,qt1] at h
 have mono:∀{X Y:Nat},X / BS ^ i<Y / BS ^ i->X<Y:=λ{X Y} q=>zdg λq2=>by
  have:=Nat.div_le_div_right (c:=BS ^ i) q2
  omega
 have e:BS=1000000000:=rfl
 grind
theorem xz5 {A B K:Nat} (hA:lenD A<=K) (hB:lenD B<=K):lenD (A+B)<=K+1:=by
 refine q1s ?_
 grind [Nat.lt_of_lt_of_le,qr1,qv9,Nat.pow_succ,BS,Nat.mul_le_mul_left]
theorem mul_lt {a b K L:Nat} (ha:a<BS ^ K) (hb:b<BS ^ L):a*b<BS ^ (K+L):=by
 rw[zdp]
 have h1:=qr7 K
 have h2:=qr7 L
 calc a*b<=a*BS ^ L:=zdr _ ow
  _<BS ^ K*BS ^ L:=zdo ha h2
theorem xz6 (n:Nat):List.replicate n (0:Int)=qh3 0 n:=by
 refine w4a (by simp) λi hi=>?_
 simp_all [qf1]
structure xr0 (A B n i j c S:Nat):Prop where
 cl:c<BS
 lt:S<BS ^ n
 eq:S+c*BS ^ (i+j)=A % BS ^ i*B+A / BS ^ i % BS*(B % BS ^ j)*BS ^ i
 le:j<=n
theorem x9l {S n k v:Nat} (hk:k<n) (hv:v<BS) (hS:S<BS ^ n):S-(S / BS ^ k % BS)*BS ^ k+v*BS ^ k<BS ^ n:=by
 have hP:=qr7 k
 obtain⟨a1,a2⟩:=q2m S (BS ^ k) hP
 obtain⟨b1,b2⟩:=q2m (S / BS ^ k) BS dc
 have hn:BS ^ n=BS ^ (n-k-1)*BS*BS ^ k:=by rw[<- zb1,<- zdp]; congr 1; omega
 have hH:S / BS ^ k / BS<BS ^ (n-k-1):=by
  rw[<- qt1,zcf (qr7 _),<- zdp,show n-k-1+(k+1)=n by omega]
  omega
 generalize hq:S / BS ^ k=q at *
 generalize S % BS ^ k=L at *
 generalize hHH:q / BS=H at *
 generalize q % BS=d at *
 generalize BS ^ (n-k-1)=Z at *
 generalize BS ^ k=P at *
 rw[hn]
 have e1:q*P=H*BS*P+d*P:=by grind
 have e2:(H+1)*BS*P<=Z*BS*P:=za1 _ (za1 _ hH)
 have e3:(H+1)*BS*P=H*BS*P+BS*P:=by grind
 have e4:(v+1)*P<=BS*P:=za1 _ hv
 grind
def tmQ (A B i j c S:Nat):Nat:=S / BS ^ (i+j) % BS+A / BS ^ i % BS*(B / BS ^ j % BS)+c
def tmS (A B i j c S:Nat):Nat:=S-(S / BS ^ (i+j) % BS)*BS ^ (i+j)+(tmQ A B i j c S % BS)*BS ^ (i+j)
theorem x2k {A B n i j c S:Nat} (h:xr0 A B n i j c S):A / BS ^ i % BS*(B / BS ^ j % BS)<=999999999*999999999/\tmQ A B i j c S<=999999999*999999999+1999999998:=by
 have e:BS=1000000000:=rfl
 have h1:S / BS ^ (i+j) % BS<BS:=zcd _ dc
 have h2:A / BS ^ i % BS<BS:=zcd _ dc
 have h3:B / BS ^ j % BS<BS:=zcd _ dc
 have h4:=h.cl
 have h5:A / BS ^ i % BS*(B / BS ^ j % BS)<=999999999*999999999:=zbj ow ow
 grind [tmQ]
theorem x46 {A B n i j c S:Nat} (h:xr0 A B n i j c S) (hk:i+j<n):xr0 A B n i (j+1) (tmQ A B i j c S / BS) (tmS A B i j c S)/\(qh3 S n).set (i+j) ((tmQ A B i j c S % BS:Nat):Int)=qh3 (tmS A B i j c S) n:=by
 have hv:tmQ A B i j c S % BS<BS:=zcd _ dc
 obtain⟨s1,s2⟩:=x9j (S:=S) hk hv
 refine⟨⟨?_,x9l hk hv h.lt,?_,ow⟩,s1⟩
 ·have:=(x2k h).2
  rw[zcf dc]
  exact Nat.lt_of_le_of_lt this dc
 ·have hq:=Nat.div_add_mod (tmQ A B i j c S) BS
  have he:=h.eq
  have hm:B % BS ^ (j+1)=B % BS ^ j+BS ^ j*(B / BS ^ j % BS):=Nat.mod_pow_succ
  have hP:BS ^ (i+(j+1))=BS*BS ^ (i+j):=by grind
  have hP2:BS ^ (i+j)=BS ^ i*BS ^ j:=zdp _ _ _
  rw[hm,hP]
  have hQ:tmQ A B i j c S=S / BS ^ (i+j) % BS+A / BS ^ i % BS*(B / BS ^ j % BS)+c:=rfl
  unfold tmS
  generalize tmQ A B i j c S=q at *
  generalize S / BS ^ (i+j) % BS=o at *
  generalize A / BS ^ i % BS=x at *
  generalize B / BS ^ j % BS=d at *
  generalize A % BS ^ i*B=Y at *
  generalize B % BS ^ j=b at *
  generalize q / BS=q1 at *
  generalize q % BS=q0 at *
  have e1:q1*(BS*BS ^ (i+j))=BS*q1*BS ^ (i+j):=by grind
  have e2:BS*q1*BS ^ (i+j)+q0*BS ^ (i+j)=q*BS ^ (i+j):=by grind
  grind [BS,Nat.add_mul]
theorem xg3 {A B la i:Nat} (hi:i<la):A % BS ^ (i+1)*B=A % BS ^ i*B+A / BS ^ i % BS*B*BS ^ i:=by
 grind [BS,Nat.mod_pow_succ,Nat.add_mul]
theorem ym2 {A B la lb i j c S:Nat} (h:xr0 A B (la+lb) i j c S) (hi:i<la) (hB:B<BS ^ lb) (hc:0<c):i+j<la+lb:=by
 have he:=h.eq
 have h1:A / BS ^ i % BS*(B % BS ^ j)*BS ^ i<=A / BS ^ i % BS*B*BS ^ i:=za1 _ (zdr _ (Nat.mod_le _ _))
 have h2:=xg3 (A:=A) (B:=B) hi
 have h3:A % BS ^ (i+1)*B<BS ^ (i+1+lb):=mul_lt (zcd _ (qr7 _)) hB
 have h4:1*BS ^ (i+j)<=c*BS ^ (i+j):=za1 _ hc
 refine zdg λq=>?_
 have:=qv9 (show i+1+lb<=i+j by omega)
 omega
end Go.Proofs.YtnchigbbjajiiaaGreat
