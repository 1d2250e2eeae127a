/- Great numbers by their digits. Plain mathematics. No condition. -/
import Derived.Test.YtmijnbjlhnpokaaGreatW2
set_option linter.unusedVariables false
namespace Go.Proofs.YtmijnbjlhnpokaaGreat
open Go Go.RowKit Eng
def BS:Nat:=1000000000
theorem qo8 (k:Nat):0<BS ^ k:=Nat.pow_pos (by decide)
def qi3 (S:Nat):Nat->List Int
 | 0=>[]
 | k+1=>qi3 S k++[((S / BS ^ k % BS:Nat):Int)]
theorem qj4 (S:Nat):∀k,(qi3 S k).length=k
 | 0=>rfl
 | k+1=>by rw[qi3,List.length_append,qj4 S k]; rfl
theorem q20 (S:Nat):∀k i,i<k->nI (qi3 S k) i=((S / BS ^ i % BS:Nat):Int)
 | k+1,i,h=>by
  have hl:=qj4 S k
  rw[qi3]
  rcases Nat.lt_succ_iff_lt_or_eq.1 h with e | e
  ·rw[qh7 _ i (by rw[List.length_append]; omega),List.getElem_append_left (by omega),<- qh7 _ i (by omega)]
   exact q20 S k i e
  ·rw[qh7 _ i (by rw[List.length_append]; simp; omega),List.getElem_append_right (by omega)]
   simp[e,hl]
theorem w1z {l:List Int} {S k:Nat} (hl:l.length=k) (h:∀i,i<k->nI l i=((S / BS ^ i % BS:Nat):Int)):l=qi3 S k:=by
 refine List.ext_getElem (by rw[qj4,hl]) λi h1 h2=>?_
 rw[<- qh7 l i h1,<- qh7 _ i h2,h i (by omega),q20 S k i (by omega)]
def xu9:Nat->Nat->Nat
 | 0,_=>0
 | f+1,N=>if N=0 then 0 else xu9 f (N / BS)+1
def lenD (N:Nat):Nat:=xu9 N N
theorem ww1:∀f N,N<=f->N<BS ^ xu9 f N/\(xu9 f N=0\/BS ^ (xu9 f N-1)<=N)
 | 0,N,h=>by
  rw[show N=0 by omega]
  exact⟨by show 0<BS ^ 0; decide,.inl rfl⟩
 | f+1,N,h=>by
  rw[xu9]
  by_cases q:N=0
  ·rw[if_pos q,q]
   exact⟨by decide,.inl rfl⟩
  ·rw[if_neg q]
   have hd:N / BS<N:=Nat.div_lt_self (by omega) (by decide)
   obtain⟨h1,h2⟩:=ww1 f (N / BS) (by omega)
   generalize xu9 f (N / BS)=k at h1 h2
   refine⟨?_,.inr ?_⟩
   ·rw[Nat.pow_succ]
    exact(Nat.div_lt_iff_lt_mul (by decide)).1 h1
   ·rw[Nat.add_sub_cancel]
    rcases h2 with h2 | h2
    ·rw[h2,Nat.pow_zero]; omega
    ·cases k with
     | zero=>rw[Nat.pow_zero]; omega
     | succ k=>
      rw[Nat.add_sub_cancel] at h2
      rw[Nat.pow_succ]
      exact(Nat.le_div_iff_mul_le (by decide)).1 h2
theorem qo4 (N:Nat):N<BS ^ lenD N:=(ww1 N N (Nat.le_refl _)).1
theorem w80 (N:Nat):lenD N=0\/BS ^ (lenD N-1)<=N:=(ww1 N N (Nat.le_refl _)).2
theorem qs8 {a b:Nat} (h:a<=b):BS ^ a<=BS ^ b:=Nat.pow_le_pow_right (by decide) h
theorem qw7 {N k:Nat} (h:N<BS ^ k):lenD N<=k:=Nat.le_of_not_lt λq=>by
 rcases w80 N with e | e
 ·omega
 ·have:=qs8 (show k<=lenD N-1 by omega)
  omega
theorem qt9 {N i:Nat}:i<lenD N↔BS ^ i<=N:=by
 constructor
 ·intro h
  rcases w80 N with e | e
  ·omega
  ·exact Nat.le_trans (qs8 (by omega)) e
 ·intro h
  refine Nat.lt_of_not_le λq=>?_
  have:=qs8 q
  have:=qo4 N
  omega
theorem xv0 {N k:Nat} (h1:N<BS ^ k) (h2:k=0\/BS ^ (k-1)<=N):lenD N=k:=by
 have:=qw7 h1
 rcases h2 with e | e
 ·omega
 ·have:=qt9.2 e
  omega
def dgs (N:Nat):List Int:=qi3 N (lenD N)
theorem qw8 (N:Nat):(dgs N).length=lenD N:=qj4 _ _
theorem w11 {N k:Nat} (h1:N<BS ^ k) (h2:k=0\/BS ^ (k-1)<=N):qi3 N k=dgs N:=by unfold dgs; rw[xv0 h1 h2]
theorem x2a (N i:Nat):(if i<lenD N then nI (dgs N) i else 0)=((N / BS ^ i % BS:Nat):Int):=by
 by_cases h:i<lenD N
 ·rw[if_pos h]; exact q20 _ _ _ h
 ·rw[if_neg h]
  have:N<BS ^ i:=Nat.lt_of_not_le λq=>h (qt9.2 q)
  rw[Nat.div_eq_of_lt this]; rfl
def xh9 (l:List Int):Nat->Nat
 | 0=>0
 | k+1=>xh9 l k+BS ^ k*(nI l k).toNat
def valL (l:List Int):Nat:=xh9 l l.length
theorem w13 (S n:Nat):∀k,k<=n->xh9 (qi3 S n) k=S % BS ^ k
 | 0,_=>by rw[Nat.pow_zero,Nat.mod_one]; rfl
 | k+1,h=>by
  rw[xh9,w13 S n k (by omega),q20 S n k (by omega),Int.toNat_natCast,Nat.mod_pow_succ]
theorem wg6 {S n:Nat} (h:S<BS ^ n):valL (qi3 S n)=S:=by
 unfold valL
 rw[qj4,w13 S n n (Nat.le_refl _),Nat.mod_eq_of_lt h]
theorem qh4 (N:Nat):valL (dgs N)=N:=wg6 (qo4 N)
theorem xv1 {N:Nat}:(dgs N).length=0↔N=0:=by
 rw[qw8]
 constructor
 ·intro h
  have:=qo4 N
  rw[h,Nat.pow_zero] at this
  omega
 ·rintro rfl; rfl
theorem q2b (A P:Nat) (hP:0<P):A=A / P*P+A % P/\A % P<P:=⟨by have:=Nat.div_add_mod A P; rw[Nat.mul_comm] at this; omega,Nat.mod_lt _ hP⟩
theorem qr5 (A k:Nat):A / BS ^ (k+1)=A / BS ^ k / BS:=by rw[Nat.pow_succ,Nat.div_div_eq_div_mul]
def qu9 (A B k:Nat):Nat:=(A % BS ^ k+B % BS ^ k) / BS ^ k
theorem w81 (A B k:Nat):qu9 A B k<=1:=by
 unfold qu9
 have h1:=Nat.mod_lt A (qo8 k)
 have h2:=Nat.mod_lt B (qo8 k)
 have:(A % BS ^ k+B % BS ^ k) / BS ^ k<2:=(Nat.div_lt_iff_lt_mul (qo8 k)).2 (by omega)
 omega
theorem wg7 (A B k:Nat):(A+B) / BS ^ k=A / BS ^ k+B / BS ^ k+qu9 A B k:=Nat.add_div (qo8 k) ▸ by
 unfold qu9
 have h1:=Nat.mod_lt A (qo8 k)
 have h2:=Nat.mod_lt B (qo8 k)
 generalize A % BS ^ k=a at *
 generalize B % BS ^ k=b at *
 generalize hP:BS ^ k=P at *
 split
 ·rename_i h
  have:(a+b) / P=1:=by
   have e:(a+b) / P<2:=(Nat.div_lt_iff_lt_mul (by omega)).2 (by omega)
   have e2:1<=(a+b) / P:=(Nat.le_div_iff_mul_le (by omega)).2 (by omega)
   omega
  omega
 ·rename_i h
  have:(a+b) / P=0:=Nat.div_eq_of_lt (by omega)
  omega
theorem w82 (A B k:Nat):(A+B) / BS ^ k % BS=(A / BS ^ k % BS+B / BS ^ k % BS+qu9 A B k) % BS:=by
 rw[wg7]
 have e:BS=1000000000:=rfl
 generalize A / BS ^ k=a
 generalize B / BS ^ k=b
 generalize qu9 A B k=c
 rw[e]; omega
theorem xi0 (A B k:Nat):qu9 A B (k+1)=(A / BS ^ k % BS+B / BS ^ k % BS+qu9 A B k) / BS:=by
 have h1:=wg7 A B k
 have h2:=wg7 A B (k+1)
 rw[qr5,qr5,qr5,h1] at h2
 have h3:=w81 A B (k+1)
 have e:BS=1000000000:=rfl
 generalize A / BS ^ k=a at *
 generalize B / BS ^ k=b at *
 generalize qu9 A B k=c at *
 generalize qu9 A B (k+1)=d at *
 rw[e] at *
 omega
theorem xi1 (A B:Nat):qu9 A B 0=0:=by unfold qu9; rw[Nat.pow_zero,Nat.mod_one,Nat.mod_one]
def q4k (A B k:Nat):Nat:=if A % BS ^ k<B % BS ^ k then 1 else 0
theorem xi2 (A B:Nat):q4k A B 0=0:=by unfold q4k; rw[Nat.pow_zero,Nat.mod_one,Nat.mod_one,if_neg (Nat.lt_irrefl _)]
theorem w83 {A B k:Nat} (h:B<=A):(A-B) / BS ^ k+B / BS ^ k+q4k A B k=A / BS ^ k:=by
 unfold q4k
 have hP:=qo8 k
 obtain⟨a1,a2⟩:=q2b A (BS ^ k) hP
 obtain⟨b1,b2⟩:=q2b B (BS ^ k) hP
 generalize A / BS ^ k=a at *
 generalize B / BS ^ k=b at *
 generalize A % BS ^ k=x at *
 generalize B % BS ^ k=y at *
 generalize BS ^ k=P at *
 by_cases q:x<y
 ·rw[if_pos q]
  have hab:b<a:=Nat.lt_of_not_le λq2=>by
   have:=Nat.mul_le_mul_right P q2
   omega
  have e:A-B=(a-b-1)*P+(P+x-y):=by
   have h1:(a-b-1)*P=a*P-b*P-P:=by rw[Nat.sub_mul,Nat.sub_mul,Nat.one_mul]
   have h2:(b+1)*P<=a*P:=Nat.mul_le_mul_right P hab
   rw[Nat.add_mul,Nat.one_mul] at h2
   omega
  have:(A-B) / P=a-b-1:=by
   rw[e,Nat.add_comm,Nat.add_mul_div_right _ _ hP,Nat.div_eq_of_lt (by omega),Nat.zero_add]
  omega
 ·rw[if_neg q]
  have hab:b<=a:=Nat.le_of_not_lt λq2=>by
   have:=Nat.mul_le_mul_right P (show a+1<=b from q2)
   rw[Nat.add_mul,Nat.one_mul] at this
   omega
  have e:A-B=(a-b)*P+(x-y):=by
   have h1:(a-b)*P=a*P-b*P:=Nat.sub_mul _ _ _
   have h2:=Nat.mul_le_mul_right P hab
   omega
  have:(A-B) / P=a-b:=by
   rw[e,Nat.add_comm,Nat.add_mul_div_right _ _ hP,Nat.div_eq_of_lt (by omega),Nat.zero_add]
  omega
theorem w14 (A B k:Nat):q4k A B k<=1:=by unfold q4k; split <;> omega
theorem w84 {A B k:Nat} (h:B<=A):((A / BS ^ k % BS:Nat):Int)-(B / BS ^ k % BS:Nat)-q4k A B k=((A-B) / BS ^ k % BS:Nat)-1000000000*(q4k A B (k+1):Int):=by
 have h1:=w83 (k:=k) h
 have h2:=w83 (k:=k+1) h
 rw[qr5,qr5,qr5] at h2
 have h3:=w14 A B (k+1)
 have h4:=w14 A B k
 have e:BS=1000000000:=rfl
 generalize A / BS ^ k=a at *
 generalize B / BS ^ k=b at *
 generalize(A-B) / BS ^ k=c at *
 generalize q4k A B k=d at *
 generalize q4k A B (k+1)=f at *
 rw[e] at *
 omega
theorem x2b {S n k v:Nat} (hk:k<n) (hv:v<BS):(qi3 S n).set k (v:Int)=qi3 (S-(S / BS ^ k % BS)*BS ^ k+v*BS ^ k) n/\(S / BS ^ k % BS)*BS ^ k<=S:=by
 have hP:=qo8 k
 obtain⟨a1,a2⟩:=q2b S (BS ^ k) hP
 obtain⟨b1,b2⟩:=q2b (S / BS ^ k) BS (by decide)
 obtain⟨H,hH⟩:∃H,H=S / BS ^ k / BS:=⟨_,rfl⟩
 obtain⟨d,hd⟩:∃d,d=S / BS ^ k % BS:=⟨_,rfl⟩
 obtain⟨L,hL⟩:∃L,L=S % BS ^ k:=⟨_,rfl⟩
 rw[<- hH,<- hd] at b1
 rw[<- hd] at b2
 rw[<- hL] at a2
 rw[b1,<- hL] at a1
 have e1:(H*BS+d)*BS ^ k=H*BS*BS ^ k+d*BS ^ k:=Nat.add_mul _ _ _
 have hle:d*BS ^ k<=S:=by omega
 have eT:S-d*BS ^ k+v*BS ^ k=(H*BS+v)*BS ^ k+L:=by rw[Nat.add_mul]; omega
 rw[<- hd]
 refine⟨w1z (by rw[List.length_set,qj4]) λi hi=>?_,hle⟩
 rw[eT]
 have hT:((H*BS+v)*BS ^ k+L) / BS ^ k=H*BS+v:=by
  rw[Nat.add_comm,Nat.add_mul_div_right _ _ hP,Nat.div_eq_of_lt a2,Nat.zero_add]
 have hS:S / BS ^ k=H*BS+d:=b1
 by_cases q:i=k
 ·rw[q,qh7 _ k (by rw[List.length_set,qj4]; exact hk),List.getElem_set_self,hT]
  have:(H*BS+v) % BS=v:=by rw[Nat.add_comm,Nat.add_mul_mod_self_right,Nat.mod_eq_of_lt hv]
  rw[this]
 ·rw[qh7 _ i (by rw[List.length_set,qj4]; exact hi),List.getElem_set_ne (by omega),<- qh7 _ i (by rw[qj4]; exact hi),q20 S n i hi]
  rcases Nat.lt_or_gt_of_ne q with q | q
  ·-- a lower digit
   have low:∀Z,(Z*BS ^ k+L) / BS ^ i % BS=L / BS ^ i % BS:=λZ=>by
    have hp:=qo8 i
    have e:BS ^ k=BS ^ (k-i-1)*BS*BS ^ i:=by
     rw[<- Nat.pow_succ,<- Nat.pow_add]; congr 1; omega
    rw[e,<- Nat.mul_assoc,<- Nat.mul_assoc,Nat.add_comm,Nat.add_mul_div_right _ _ hp,Nat.add_mul_mod_self_right]
   rw[low,a1,low]
  ·have up:∀z,z<BS->((H*BS+z)*BS ^ k+L) / BS ^ i=H / BS ^ (i-k-1):=λz hz=>by
    have e:BS ^ i=BS ^ k*(BS*BS ^ (i-k-1)):=by
     rw[Nat.mul_comm BS,<- Nat.pow_succ,<- Nat.pow_add]; congr 1; omega
    rw[e,<- Nat.div_div_eq_div_mul,<- Nat.div_div_eq_div_mul,Nat.add_comm,Nat.add_mul_div_right _ _ hP,Nat.div_eq_of_lt a2,Nat.zero_add,Nat.add_comm,Nat.add_mul_div_right _ _ (show 0<BS by decide),Nat.div_eq_of_lt hz,Nat.zero_add]
   rw[up v hv]
   conv=>lhs; rw[a1,up d b2]
theorem xv2 {S k:Nat} (h:S<BS ^ (k+1)) (hz:S / BS ^ k % BS=0):S<BS ^ k:=by
 have h1:S / BS ^ k<BS:=by
  rw[Nat.div_lt_iff_lt_mul (qo8 k),Nat.mul_comm,<- Nat.pow_succ]; exact h
 rw[Nat.mod_eq_of_lt h1] at hz
 exact(Nat.div_eq_zero_iff.1 hz).resolve_left (by have:=qo8 k; omega)
theorem x2c {S k:Nat} (hz:S / BS ^ k % BS≠0):BS ^ k<=S:=Nat.le_of_not_lt λq=>hz (by rw[Nat.div_eq_of_lt q]; rfl)
theorem xv3 (S k:Nat):(qi3 S (k+1)).take k=qi3 S k:=by
 rw[qi3,List.take_append_of_le_length (by rw[qj4]; exact Nat.le_refl _),List.take_of_length_le (by rw[qj4]; exact Nat.le_refl _)]
theorem xi3 {A B i:Nat} (h:A / BS ^ (i+1)=B / BS ^ (i+1)):(A / BS ^ i % BS<B / BS ^ i % BS->A<B)/\(B / BS ^ i % BS<A / BS ^ i % BS->B<A)/\(A / BS ^ i % BS=B / BS ^ i % BS->A / BS ^ i=B / BS ^ i):=by
 rw[qr5,qr5] at h
 have mono:∀{X Y:Nat},X / BS ^ i<Y / BS ^ i->X<Y:=λ{X Y} q=>Nat.lt_of_not_le λq2=>by
  have:=Nat.div_le_div_right (c:=BS ^ i) q2
  omega
 have e:BS=1000000000:=rfl
 refine⟨λq=>mono ?_,λq=>mono ?_,λq=>?_⟩
 ·generalize A / BS ^ i=a at *
  generalize B / BS ^ i=b at *
  rw[e] at *; omega
 ·generalize A / BS ^ i=a at *
  generalize B / BS ^ i=b at *
  rw[e] at *; omega
 ·generalize A / BS ^ i=a at *
  generalize B / BS ^ i=b at *
  rw[e] at *; omega
theorem xi4 {A B K:Nat} (hA:lenD A<=K) (hB:lenD B<=K):lenD (A+B)<=K+1:=by
 refine qw7 ?_
 have h1:=Nat.lt_of_lt_of_le (qo4 A) (qs8 hA)
 have h2:=Nat.lt_of_lt_of_le (qo4 B) (qs8 hB)
 rw[Nat.pow_succ]
 have:BS ^ K*2<=BS ^ K*BS:=Nat.mul_le_mul_left _ (by decide)
 omega
theorem mul_lt {a b K L:Nat} (ha:a<BS ^ K) (hb:b<BS ^ L):a*b<BS ^ (K+L):=by
 rw[Nat.pow_add]
 have h1:=qo8 K
 have h2:=qo8 L
 calc a*b<=a*BS ^ L:=Nat.mul_le_mul_left _ (by omega)
  _<BS ^ K*BS ^ L:=Nat.mul_lt_mul_of_pos_right ha h2
theorem xi5 (n:Nat):List.replicate n (0:Int)=qi3 0 n:=by
 refine w1z (by simp) λi hi=>?_
 rw[qh7 _ i (by simpa using hi)]
 simp
structure w9r (A B n i j c S:Nat):Prop where
 cl:c<BS
 lt:S<BS ^ n
 eq:S+c*BS ^ (i+j)=A % BS ^ i*B+A / BS ^ i % BS*(B % BS ^ j)*BS ^ i
 le:j<=n
theorem x2d {S n k v:Nat} (hk:k<n) (hv:v<BS) (hS:S<BS ^ n):S-(S / BS ^ k % BS)*BS ^ k+v*BS ^ k<BS ^ n:=by
 have hP:=qo8 k
 obtain⟨a1,a2⟩:=q2b S (BS ^ k) hP
 obtain⟨b1,b2⟩:=q2b (S / BS ^ k) BS (by decide)
 have hn:BS ^ n=BS ^ (n-k-1)*BS*BS ^ k:=by rw[<- Nat.pow_succ,<- Nat.pow_add]; congr 1; omega
 have hH:S / BS ^ k / BS<BS ^ (n-k-1):=by
  rw[<- qr5,Nat.div_lt_iff_lt_mul (qo8 _),<- Nat.pow_add,show n-k-1+(k+1)=n by omega]
  exact hS
 generalize hq:S / BS ^ k=q at *
 generalize S % BS ^ k=L at *
 generalize hHH:q / BS=H at *
 generalize q % BS=d at *
 generalize BS ^ (n-k-1)=Z at *
 generalize BS ^ k=P at *
 rw[hn]
 have e1:q*P=H*BS*P+d*P:=by rw[b1,Nat.add_mul]
 have e2:(H+1)*BS*P<=Z*BS*P:=Nat.mul_le_mul_right _ (Nat.mul_le_mul_right _ hH)
 have e3:(H+1)*BS*P=H*BS*P+BS*P:=by rw[Nat.add_mul,Nat.one_mul,Nat.add_mul]
 have e4:(v+1)*P<=BS*P:=Nat.mul_le_mul_right _ hv
 rw[Nat.add_mul,Nat.one_mul] at e4
 omega
def tmQ (A B i j c S:Nat):Nat:=S / BS ^ (i+j) % BS+A / BS ^ i % BS*(B / BS ^ j % BS)+c
def tmS (A B i j c S:Nat):Nat:=S-(S / BS ^ (i+j) % BS)*BS ^ (i+j)+(tmQ A B i j c S % BS)*BS ^ (i+j)
theorem xm0 {A B n i j c S:Nat} (h:w9r A B n i j c S):A / BS ^ i % BS*(B / BS ^ j % BS)<=999999999*999999999/\tmQ A B i j c S<=999999999*999999999+1999999998:=by
 have e:BS=1000000000:=rfl
 have h1:S / BS ^ (i+j) % BS<BS:=Nat.mod_lt _ (by decide)
 have h2:A / BS ^ i % BS<BS:=Nat.mod_lt _ (by decide)
 have h3:B / BS ^ j % BS<BS:=Nat.mod_lt _ (by decide)
 have h4:=h.cl
 have h5:A / BS ^ i % BS*(B / BS ^ j % BS)<=999999999*999999999:=Nat.mul_le_mul (by omega) (by omega)
 unfold tmQ
 omega
theorem xv4 {A B n i j c S:Nat} (h:w9r A B n i j c S) (hk:i+j<n):w9r A B n i (j+1) (tmQ A B i j c S / BS) (tmS A B i j c S)/\(qi3 S n).set (i+j) ((tmQ A B i j c S % BS:Nat):Int)=qi3 (tmS A B i j c S) n:=by
 have hv:tmQ A B i j c S % BS<BS:=Nat.mod_lt _ (by decide)
 obtain⟨s1,s2⟩:=x2b (S:=S) hk hv
 refine⟨⟨?_,x2d hk hv h.lt,?_,by have:=h.le; omega⟩,s1⟩
 ·have:=(xm0 h).2
  rw[Nat.div_lt_iff_lt_mul (by decide)]
  exact Nat.lt_of_le_of_lt this (by decide)
 ·have hq:=Nat.div_add_mod (tmQ A B i j c S) BS
  have he:=h.eq
  have hm:B % BS ^ (j+1)=B % BS ^ j+BS ^ j*(B / BS ^ j % BS):=Nat.mod_pow_succ
  have hP:BS ^ (i+(j+1))=BS*BS ^ (i+j):=by rw[<- Nat.add_assoc,Nat.pow_succ,Nat.mul_comm]
  have hP2:BS ^ (i+j)=BS ^ i*BS ^ j:=Nat.pow_add _ _ _
  rw[hm,hP]
  have hQ:tmQ A B i j c S=S / BS ^ (i+j) % BS+A / BS ^ i % BS*(B / BS ^ j % BS)+c:=rfl
  unfold tmS
  generalize tmQ A B i j c S=q at *
  generalize S / BS ^ (i+j) % BS=o at *
  generalize A / BS ^ i % BS=x at *
  generalize B / BS ^ j % BS=d at *
  generalize A % BS ^ i*B=Y at *
  generalize B % BS ^ j=b at *
  generalize q / BS=q1 at *
  generalize q % BS=q0 at *
  have e1:q1*(BS*BS ^ (i+j))=BS*q1*BS ^ (i+j):=by rw[<- Nat.mul_assoc,Nat.mul_comm q1]
  have e2:BS*q1*BS ^ (i+j)+q0*BS ^ (i+j)=q*BS ^ (i+j):=by rw[<- Nat.add_mul,hq]
  have e3:q*BS ^ (i+j)=o*BS ^ (i+j)+x*d*BS ^ (i+j)+c*BS ^ (i+j):=by rw[hQ,Nat.add_mul,Nat.add_mul]
  have e4:x*(b+BS ^ j*d)*BS ^ i=x*b*BS ^ i+x*d*BS ^ (i+j):=by
   rw[hP2]
   generalize BS ^ i=u
   generalize BS ^ j=v
   grind
  rw[e1,e4]
  omega
theorem w85 {A B la i:Nat} (hi:i<la):A % BS ^ (i+1)*B=A % BS ^ i*B+A / BS ^ i % BS*B*BS ^ i:=by
 have hm:A % BS ^ (i+1)=A % BS ^ i+BS ^ i*(A / BS ^ i % BS):=Nat.mod_pow_succ
 rw[hm,Nat.add_mul]
 generalize BS ^ i=u
 grind
theorem x6a {A B la lb i j c S:Nat} (h:w9r A B (la+lb) i j c S) (hi:i<la) (hB:B<BS ^ lb) (hc:0<c):i+j<la+lb:=by
 have he:=h.eq
 have h1:A / BS ^ i % BS*(B % BS ^ j)*BS ^ i<=A / BS ^ i % BS*B*BS ^ i:=Nat.mul_le_mul_right _ (Nat.mul_le_mul_left _ (Nat.mod_le _ _))
 have h2:=w85 (A:=A) (B:=B) hi
 have h3:A % BS ^ (i+1)*B<BS ^ (i+1+lb):=mul_lt (Nat.mod_lt _ (qo8 _)) hB
 have h4:1*BS ^ (i+j)<=c*BS ^ (i+j):=Nat.mul_le_mul_right _ hc
 refine Nat.lt_of_not_le λq=>?_
 have:=qs8 (show i+1+lb<=i+j by omega)
 omega
end Go.Proofs.YtmijnbjlhnpokaaGreat
