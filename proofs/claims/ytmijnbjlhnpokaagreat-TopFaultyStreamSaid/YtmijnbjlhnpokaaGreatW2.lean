/- Rows that are eliminated: what they are made of, and how great they grow. Plain mathematics. No condition. -/
import Derived.Test.YtmijnbjlhnpokaaGreatV0
set_option linter.unusedVariables false
namespace Go.Proofs.YtmijnbjlhnpokaaGreat
def sm:Nat->(Nat->Int)->Int
 | 0,_=>0
 | n+1,f=>sm n f+f n
theorem qg7 {n:Nat} {f g:Nat->Int} (h:∀i,i<n->f i=g i):sm n f=sm n g:=by
 induction n with
 | zero=>rfl
 | succ n ih=>rw[sm,sm,ih λi hi=>h i (by omega),h n (by omega)]
theorem qt9 {n:Nat} {f:Nat->Int} (h:∀i,i<n->f i=0):sm n f=0:=by
 induction n with
 | zero=>rfl
 | succ n ih=>rw[sm,ih λi hi=>h i (by omega),h n (by omega)]; rfl
theorem w2c (n:Nat) (f g:Nat->Int):sm n (λi=>f i+g i)=sm n f+sm n g:=by
 induction n with
 | zero=>rfl
 | succ n ih=>simp only[sm,ih]; omega
theorem xs5 (n:Nat) (f g:Nat->Int):sm n (λi=>f i-g i)=sm n f-sm n g:=by
 induction n with
 | zero=>rfl
 | succ n ih=>simp only[sm,ih]; omega
theorem qu0 (n:Nat) (c:Int) (f:Nat->Int):sm n (λi=>c*f i)=c*sm n f:=by
 induction n with
 | zero=>simp[sm]
 | succ n ih=>simp only[sm,ih,Int.mul_add]
theorem qu1 {n k:Nat} {f:Nat->Int} (hk:k<n) (h:∀i,i<n->i≠k->f i=0):sm n f=f k:=by
 induction n with
 | zero=>omega
 | succ n ih=>
  rw[sm]
  by_cases e:k=n
  ·subst e
   rw[qt9 λi hi=>h i (by omega) (by omega)]; omega
  ·rw[ih (by omega) λi hi hne=>h i (by omega) hne,h n (by omega) (Ne.symm e)]; omega
theorem q9w {n k l:Nat} {f:Nat->Int} (hk:k<n) (hl:l<n) (hkl:k≠l) (h:∀i,i<n->i≠k->i≠l->f i=0):sm n f=f k+f l:=by
 have e:sm n f=sm n (λi=>if i=k then f k else 0)+sm n (λi=>if i=l then f l else 0):=by
  rw[<- w2c]
  refine qg7 λi hi=>?_
  by_cases e1:i=k
  ·subst e1; rw[if_pos rfl,if_neg hkl]; omega
  ·rw[if_neg e1]
   by_cases e2:i=l
   ·subst e2; rw[if_pos rfl]; omega
   ·rw[if_neg e2,h i hi e1 e2]; rfl
 rw[e,qu1 hk λi _ hne=>if_neg hne,qu1 hl λi _ hne=>if_neg hne,if_pos rfl,if_pos rfl]
theorem x46 {n:Nat} {f:Nat->Int} {B:Nat} (h:∀i,i<n->(f i).natAbs<=B):(sm n f).natAbs<=n*B:=by
 induction n with
 | zero=>simp[sm]
 | succ n ih=>
  have h1:=ih λi hi=>h i (by omega)
  have h2:=h n (by omega)
  rw[sm,Nat.succ_mul]
  omega
theorem w9v (n k:Nat) (f:Nat->Nat->Int):sm n (λi=>sm k (λj=>f i j))=sm k (λj=>sm n (λi=>f i j)):=by
 induction n with
 | zero=>exact(qt9 λ_ _=>rfl).symm
 | succ n ih=>
  rw[sm,ih,<- w2c]
  rfl
theorem qs9 (n:Nat) (x y:Int) (f g r:Nat->Int):sm n (λb=>(x*f b-y*g b)*r b)=x*sm n (λb=>f b*r b)-y*sm n (λb=>g b*r b):=by
 rw[<- qu0,<- qu0,<- xs5]
 refine qg7 λi _=>?_
 rw[Int.sub_mul,Int.mul_assoc,Int.mul_assoc]
theorem q7s:∀(B A:Nat) (f:Nat->Nat),(∀i,i<A->f i<B)->B<A->∃i j,i<j/\j<A/\f i=f j
 | 0,A,f,h,hA=>absurd (h 0 hA) (Nat.not_lt_zero _)
 | B+1,A,f,h,hA=>by
  by_cases hx:∃i,i<A/\f i=B
  ·obtain⟨i0,h0,h1⟩:=hx
   by_cases hy:∃j,j<A/\j≠i0/\f j=B
   ·obtain⟨j,k0,k1,k2⟩:=hy
    rcases Nat.lt_or_gt_of_ne k1 with q | q
    ·exact⟨j,i0,q,h0,by omega⟩
    ·exact⟨i0,j,q,k0,by omega⟩
   ·have hn:∀j,j<A->j≠i0->f j<B:=λj hj hne=>by
     have:=h j hj
     rcases Nat.lt_or_ge (f j) B with q | q
     ·exact q
     ·exact absurd ⟨j,hj,hne,by omega⟩ hy
    obtain⟨i,j,q1,q2,q3⟩:=q7s B (A-1) (λi=>f (if i<i0 then i else i+1)) (λi hi=>hn _ (by split <;> omega) (by split <;> omega)) (by omega)
    refine⟨if i<i0 then i else i+1,if j<i0 then j else j+1,?_,?_,q3⟩
    ·split <;> split <;> omega
    ·split <;> omega
  ·obtain⟨i,j,q1,q2,q3⟩:=q7s B A f (λi hi=>by
    have:=h i hi
    rcases Nat.lt_or_ge (f i) B with q | q
    ·exact q
    ·exact absurd ⟨i,hi,by omega⟩ hx) (by omega)
   exact⟨i,j,q1,q2,q3⟩
def dig (b:Nat):Nat->Nat->Nat
 | 0,N=>N % b
 | a+1,N=>dig b a (N / b)
theorem xs6 {b:Nat} (hb:0<b):∀a N,dig b a N<b
 | 0,N=>Nat.mod_lt _ hb
 | a+1,N=>xs6 hb a (N / b)
theorem w9w {b:Nat} (hb:0<b):∀(n N M:Nat),N<b ^ n->M<b ^ n->(∀a,a<n->dig b a N=dig b a M)->N=M
 | 0,N,M,h1,h2,_=>by simp at h1 h2; omega
 | n+1,N,M,h1,h2,h=>by
  have h0:=h 0 (by omega)
  have e:=w9w hb n (N / b) (M / b) (Nat.div_lt_of_lt_mul (by rw[Nat.pow_succ,Nat.mul_comm] at h1; exact h1)) (Nat.div_lt_of_lt_mul (by rw[Nat.pow_succ,Nat.mul_comm] at h2; exact h2)) λa ha=>h (a+1) (by omega)
  have h0:N % b=M % b:=h0
  rw[<- Nat.div_add_mod N b,<- Nat.div_add_mod M b,e,h0]
def q3w (B:Nat):List Nat->Nat
 | []=>0
 | x :: l=>x+B*q3w B l
theorem w2d {B:Nat}:∀(l:List Nat),(∀x∈l,x<B)->q3w B l<B ^ l.length
 | [],_=>by simp[q3w]
 | x :: l,h=>by
  have h1:=w2d l λy hy=>h y (by simp[hy])
  have h2:=h x (by simp)
  rw[q3w,List.length_cons,Nat.pow_succ,Nat.mul_comm (B ^ l.length)]
  calc x+B*q3w B l<B+B*q3w B l:=by omega
   _=B*(q3w B l+1):=by rw[Nat.mul_add]; omega
   _<=B*B ^ l.length:=Nat.mul_le_mul (Nat.le_refl _) h1
theorem wr0 {B:Nat} (hB:0<B):∀(l k:List Nat),l.length=k.length->(∀x∈l,x<B)->(∀x∈k,x<B)->q3w B l=q3w B k->l=k
 | [],[],_,_,_,_=>rfl
 | [],_ :: _,h,_,_,_=>by simp at h
 | _ :: _,[],h,_,_,_=>by simp at h
 | x :: l,y :: k,h,h1,h2,e=>by
  have hx:=h1 x (by simp)
  have hy:=h2 y (by simp)
  rw[q3w,q3w] at e
  have e1:x=y:=by
   have:=congrArg (· % B) e
   simpa[Nat.add_mul_mod_self_left,Nat.mod_eq_of_lt hx,Nat.mod_eq_of_lt hy] using this
  subst e1
  have e2:q3w B l=q3w B k:=Nat.eq_of_mul_eq_mul_left hB (by omega)
  rw[wr0 hB l k (by simpa using h) (λz hz=>h1 z (by simp[hz])) (λz hz=>h2 z (by simp[hz])) e2]
def smN:Nat->(Nat->Nat)->Nat
 | 0,_=>0
 | n+1,f=>smN n f+f n
theorem x47 {n C:Nat} {f:Nat->Nat} (h:∀i,i<n->f i<=C):smN n f<=n*C:=by
 induction n with
 | zero=>simp[smN]
 | succ n ih=>
  have h1:=ih λi hi=>h i (by omega)
  have h2:=h n (by omega)
  rw[smN,Nat.succ_mul]; omega
def lhsN (n C:Nat) (f:Nat->Int) (z:Nat->Nat):Nat:=smN n λa=>if 0<f a then z a else if f a<0 then C-z a else 0
theorem x0v {n C:Nat} {f:Nat->Int} (hf:∀a,a<n->(f a).natAbs<=1) {z y:Nat->Nat} (hz:∀a,a<n->z a<=C) (hy:∀a,a<n->y a<=C):(lhsN n C f z:Int)-(lhsN n C f y:Int)=sm n λa=>f a*((z a:Int)-(y a:Int)):=by
 unfold lhsN
 induction n with
 | zero=>rfl
 | succ n ih=>
  have h1:=ih (λa ha=>hf a (by omega)) (λa ha=>hz a (by omega)) (λa ha=>hy a (by omega))
  have h2:=hf n (by omega)
  have h3:=hz n (by omega)
  have h4:=hy n (by omega)
  rw[smN,smN,sm,<- h1]
  rcases Int.lt_trichotomy (f n) 0 with q | q | q
  ·have e:f n=-1:=by omega
   rw[if_neg (by omega),if_pos q,if_neg (by omega),if_pos q,e]
   omega
  ·rw[q]; simp
  ·have e:f n=1:=by omega
   rw[if_pos q,if_pos q,e]
   omega
theorem x48 {n:Nat} (hn:0<n) (fs:List (Nat->Int)) (hlen:fs.length<n) (h1:∀f∈fs,∀a,a<n->(f a).natAbs<=1):∃z:Nat->Int,(∃a,a<n/\z a≠0)/\(∀a,a<n->(z a).natAbs<=n ^ (n-1))/\∀f∈fs,sm n (λa=>f a*z a)=0:=by
 obtain⟨C,hC⟩:∃C,C=n ^ (n-1):=⟨_,rfl⟩
 have hb:0<C+1:=by omega
 let code:Nat->Nat:=λN=>q3w (n*C+1) (fs.map λf=>lhsN n C f λa=>dig (C+1) a N)
 have hdig:∀N a,dig (C+1) a N<=C:=λN a=>by have:=xs6 hb a N; omega
 have hl:∀N,∀x∈fs.map (λf=>lhsN n C f λa=>dig (C+1) a N),x<n*C+1:=λN x hx=>by
  obtain⟨f,hf,rfl⟩:=List.mem_map.1 hx
  have:=x47 (n:=n) (C:=C) (f:=λa=>if 0<f a then dig (C+1) a N else if f a<0 then C-dig (C+1) a N else 0) λi _=>by
   have:=hdig N i
   split
   ·exact this
   ·split <;> omega
  exact Nat.lt_succ_of_le this
 obtain⟨N,M,hNM,hM,he⟩:=q7s ((n*C+1) ^ fs.length) ((C+1) ^ n) code (λN _=>by
  have:=w2d _ (hl N)
  rw[List.length_map] at this
  exact this) (by
  calc(n*C+1) ^ fs.length<=(n*C+1) ^ (n-1):=Nat.pow_le_pow_right (by omega) (by omega)
   _<=(n*(C+1)) ^ (n-1):=Nat.pow_le_pow_left (by rw[Nat.mul_add]; omega) _
   _=n ^ (n-1)*(C+1) ^ (n-1):=Nat.mul_pow _ _ _
   _=C*(C+1) ^ (n-1):=by rw[<- hC]
   _<(C+1)*(C+1) ^ (n-1):=Nat.mul_lt_mul_of_pos_right (by omega) (Nat.pow_pos hb)
   _=(C+1) ^ n:=by rw[Nat.mul_comm,<- Nat.pow_succ,show(n-1).succ=n by omega])
 refine⟨λa=>(dig (C+1) a M:Int)-(dig (C+1) a N:Int),Classical.byContradiction λhno=>?_,λa ha=>?_,λf hf=>?_⟩
 ·have:=w9w hb n N M (by omega) hM λa ha=>by
   rcases Classical.em ((dig (C+1) a M:Int)-(dig (C+1) a N:Int)=0) with q | q
   ·omega
   ·exact absurd ⟨a,ha,q⟩ hno
  omega
 ·have q1:=hdig M a
  have q2:=hdig N a
  rw[<- hC]
  dsimp only
  omega
 ·have hll:=wr0 (B:=n*C+1) (by omega) _ _ (by simp) (hl N) (hl M) he
  have hfe:lhsN n C f (λa=>dig (C+1) a N)=lhsN n C f (λa=>dig (C+1) a M):=List.map_inj_left.1 hll f hf
  rw[<- x0v (h1 f hf) (λa _=>hdig M a) (λa _=>hdig N a),hfe]
  omega
structure El (n W:Nat) (R ρ:Nat->Nat->Int) (pv:Nat->Option Nat):Prop where
 comb:∀a,a<n->∃(c:Int) (l:Nat->Int),c≠0/\(∀j,j<W->c*ρ a j=sm n λb=>l b*R b j)/\(∀b,b<n->l b≠0->pv b≠none\/b=a)/\(pv a=none->l a≠0)
 ind:∀ν:Nat->Int,(∀b,b<n->ν b≠0->pv b≠none)->(∀t p,t<n->pv t=some p->(sm n λb=>ν b*R b p)=0)->∀b,b<n->ν b=0
 piv:∀t p,t<n->pv t=some p->p<W/\ρ t p≠0/\∀a,a<n->a≠t->ρ a p=0
theorem El.start {n W:Nat} {R ρ:Nat->Nat->Int} (h:∀a,a<n->∃c:Int,c≠0/\∀j,j<W->c*ρ a j=R a j):El n W R ρ (λ_=>none):=by
 refine⟨λa ha=>?_,fun ν h1 _ b hb=>?_,λt p _ h=>by cases h⟩
 ·obtain⟨c,hc,h1⟩:=h a ha
  refine⟨c,λb=>if b=a then 1 else 0,hc,λj hj=>?_,λb _ hb=>?_,λ_=>by simp⟩
  ·rw[h1 j hj,qu1 ha λi _ hne=>by(try dsimp only); rw[if_neg hne]; simp]
   (try dsimp only); rw[if_pos rfl]; omega
  ·by_cases e:b=a
   ·exact .inr e
   ·(try dsimp only at hb); rw[if_neg e] at hb; exact absurd rfl hb
 ·rcases Classical.em (ν b=0) with q | q
  ·exact q
  ·exact absurd rfl (h1 b hb q)
theorem qu2 {a b:Int} (ha:a≠0) (hb:b≠0):a*b≠0:=λh=>(Int.mul_eq_zero.1 h).elim ha hb
theorem qd2 {a b:Int} (h:a*b=0) (ha:a≠0):b=0:=(Int.mul_eq_zero.1 h).resolve_left ha
theorem El.step {n W:Nat} {R ρ ρ':Nat->Nat->Int} {pv:Nat->Option Nat} {t0 j:Nat} (h:El n W R ρ pv) (ht:t0<n) (hp:pv t0=none) (hj:j<W) (hx:ρ t0 j≠0)
  (hT:∃s:Int,s≠0/\∀c,c<W->ρ' t0 c=s*ρ t0 c) (hO:∀a,a<n->a≠t0->ρ' a j=0/\∃α β γ:Int,α≠0/\β≠0/\∀c,c<W->α*ρ' a c=β*ρ a c-γ*ρ' t0 c) :
  El n W R ρ' (λb=>if b=t0 then some j else pv b):=by
 obtain⟨s,hs,hsT⟩:=hT
 obtain⟨c0,l0,hc0,hl0,hs0,hn0⟩:=h.comb t0 ht
 have hn0:=hn0 hp
 have hpv:∀b,(if b=t0 then some j else pv b)≠none↔(pv b≠none\/b=t0):=λb=>by
  by_cases e:b=t0
  ·rw[if_pos e]; exact⟨λ_=>.inr e,λ_=>by simp⟩
  ·rw[if_neg e]; exact⟨.inl,λq=>q.resolve_right e⟩
 refine⟨λa ha=>?_,fun ν h1 h2=>?_,λt p htn htp=>?_⟩
 ·by_cases e:a=t0
  ·subst e
   refine⟨c0,λb=>s*l0 b,hc0,λc hc=>?_,λb hb hne=>(hs0 b hb λq=>hne (by(try dsimp only); rw[q,Int.mul_zero])).imp (λq=>(hpv b).2 (.inl q)) id,λq=>absurd q (by simp)⟩
   have e1:(sm n λb=>s*l0 b*R b c)=s*sm n (λb=>l0 b*R b c):=by rw[<- qu0]; exact qg7 λi _=>Int.mul_assoc _ _ _
   rw[e1,<- hl0 c hc,hsT c hc]
   grind
  ·obtain⟨hz,α,β,γ,hα,hβ,hrel⟩:=hO a ha e
   obtain⟨ca,la,hca,hla,hsa,hna⟩:=h.comb a ha
   refine⟨ca*c0*α,λb=>c0*β*la b-ca*γ*s*l0 b,qu2 (qu2 hca hc0) hα,λc hc=>?_,λb hb hne=>?_,λq=>?_⟩
   ·rw[qs9 n (c0*β) (ca*γ*s) la l0 (λb=>R b c),<- hla c hc,<- hl0 c hc]
    have h3:=hrel c hc
    rw[hsT c hc] at h3
    grind
   ·by_cases q1:la b=0
    ·by_cases q2:l0 b=0
     ·exact absurd (by(try dsimp only); rw[q1,q2]; simp) hne
     ·exact .inl ((hpv b).2 ((hs0 b hb q2).imp id id))
    ·rcases hsa b hb q1 with q | q
     ·exact .inl ((hpv b).2 (.inl q))
     ·exact .inr q
   ·have hpa:pv a=none:=by
     rcases Classical.em (pv a=none) with k | k
     ·exact k
     ·exact absurd q ((hpv a).2 (.inl k))
    have h0:l0 a=0:=Classical.byContradiction λk=>by
     rcases hs0 a ha k with k | k
     ·exact k hpa
     ·exact e k
    (try dsimp only); rw[h0]
    have:=qu2 (qu2 hc0 hβ) (hna hpa)
    simpa using this
 ·-- independent
  have hcol:∀p,(sm n λb=>ν b*R b p)=0->(sm n λb=>(l0 t0*ν b-ν t0*l0 b)*R b p)=- (ν t0*sm n λb=>l0 b*R b p):=λp hp=>by
   rw[qs9 n (l0 t0) (ν t0) ν l0 (λb=>R b p),hp]; simp
  have h2':∀t p,t<n->(if t=t0 then some j else pv t)=some p->(sm n λb=>ν b*R b p)=0:=h2
  have hz:=h.ind (λb=>l0 t0*ν b-ν t0*l0 b) (λb hb hne=>by
   by_cases e:b=t0
   ·subst e; exact absurd (by(try dsimp only); grind) hne
   ·by_cases q1:ν b=0
    ·by_cases q2:l0 b=0
     ·exact absurd (by(try dsimp only); rw[q1,q2]; simp) hne
     ·exact(hs0 b hb q2).resolve_right e
    ·exact((hpv b).1 (h1 b hb q1)).resolve_right e) (λt p htn htp=>by
   have hne:t≠t0:=λe=>by rw[e,hp] at htp; cases htp
   have hR:=h2' t p htn (by rw[if_neg hne]; exact htp)
   obtain⟨hpW,_,hpa⟩:=h.piv t p htn htp
   rw[hcol p hR,<- hl0 p hpW,hpa t0 ht (Ne.symm hne)]
   simp)
  have h0:ν t0=0:=by
   have hR:=h2' t0 j ht (if_pos rfl)
   have e1:=hcol j hR
   have e2:(sm n λb=>(l0 t0*ν b-ν t0*l0 b)*R b j)=0:=qt9 λb hb=>by have:=hz b hb; (try dsimp only at this ⊢); rw[this]; simp
   rw[e2,<- hl0 j hj] at e1
   have e3:(c0*ρ t0 j)*ν t0=0:=by grind
   exact qd2 e3 (qu2 hc0 hx)
  intro b hb
  have e1:=hz b hb
  try dsimp only at e1
  rw[h0] at e1
  exact qd2 (a:=l0 t0) (by grind) hn0
 ·by_cases e:t=t0
  ·subst e
   rw[if_pos rfl] at htp
   obtain rfl:=Option.some.inj htp
   refine⟨hj,by rw[hsT j hj]; exact qu2 hs hx,λa ha hne=>(hO a ha hne).1⟩
  ·rw[if_neg e] at htp
   obtain⟨hpW,hpt,hpa⟩:=h.piv t p htn htp
   have h0:ρ' t0 p=0:=by rw[hsT p hpW,hpa t0 ht (Ne.symm e)]; simp
   refine⟨hpW,λq=>?_,λa ha hne=>?_⟩
   ·obtain⟨_,α,β,γ,hα,hβ,hrel⟩:=hO t htn e
    have h3:=hrel p hpW
    rw[q,h0] at h3
    exact qu2 hβ hpt (by grind)
   ·by_cases e2:a=t0
    ·rw[e2]; exact h0
    ·obtain⟨_,α,β,γ,hα,hβ,hrel⟩:=hO a ha e2
     have h3:=hrel p hpW
     rw[h0,hpa a ha hne] at h3
     exact qd2 (a:=α) (by grind) hα
def x49 (W:Nat) (r0 r:Nat->Int):Prop:=(∃s:Int,(s=1\/s=-1)/\∀c,c<W->r c=s*r0 c)\/(∀c,c<W->r c=0)\/∀d:Nat,(∀c,c<W->d∣(r c).natAbs)->d=1
theorem wr1 {W:Nat} {r s:Nat->Int} {α β:Int} (hα:α≠0) (h:∀c,c<W->α*r c=β*s c) (hp:∀d:Nat,(∀c,c<W->d∣(r c).natAbs)->d=1):∀c,c<W->(r c).natAbs<=(s c).natAbs:=by
 have hg:0<Nat.gcd α.natAbs β.natAbs:=Nat.gcd_pos_of_pos_left _ (by omega)
 obtain⟨a',ha'⟩:=Nat.gcd_dvd_left α.natAbs β.natAbs
 obtain⟨b',hb'⟩:=Nat.gcd_dvd_right α.natAbs β.natAbs
 have hco:Nat.Coprime b' a':=by
  have:=Nat.coprime_div_gcd_div_gcd hg
  have e1:α.natAbs / Nat.gcd α.natAbs β.natAbs=a':=by
   conv=>lhs; lhs; rw[ha']
   exact Nat.mul_div_cancel_left _ hg
  have e2:β.natAbs / Nat.gcd α.natAbs β.natAbs=b':=by
   conv=>lhs; lhs; rw[hb']
   exact Nat.mul_div_cancel_left _ hg
  rw[e1,e2] at this
  exact this.symm
 have habs:∀c,c<W->a' * (r c).natAbs=b' * (s c).natAbs:=λc hc=>by
  have h1:=congrArg Int.natAbs (h c hc)
  rw[Int.natAbs_mul,Int.natAbs_mul] at h1
  generalize Nat.gcd α.natAbs β.natAbs=g at hg ha' hb'
  rw[ha',hb',Nat.mul_assoc,Nat.mul_assoc] at h1
  exact Nat.eq_of_mul_eq_mul_left hg h1
 have hb1:b'=1:=hp b' λc hc=>hco.dvd_of_dvd_mul_left ⟨_,habs c hc⟩
 have ha1:0<a':=by
  rcases Nat.eq_zero_or_pos a' with q | q
  ·rw[q,Nat.mul_zero] at ha'; omega
  ·exact q
 intro c hc
 have h1:=habs c hc
 rw[hb1,Nat.one_mul] at h1
 rw[<- h1]
 exact Nat.le_mul_of_pos_left _ ha1
theorem El.bound {n W:Nat} {R ρ:Nat->Nat->Int} {pv:Nat->Option Nat} (h:El n W R ρ pv) (hone:∀t p,t<n->pv t=some p->∀b,b<n->(R b p).natAbs<=1) {a:Nat} (ha:a<n) (hnice:x49 W (R a) (ρ a)) {B:Nat} {c:Nat} (hc:c<W) (hB:∀b,b<n->(R b c).natAbs<=B):(ρ a c).natAbs<=n ^ n*B:=by
 have hn:0<n:=by omega
 have hpw:1<=n ^ n:=Nat.pow_pos hn
 rcases hnice with⟨s,hs,hr⟩ | hr | hr
 ·rw[hr c hc,Int.natAbs_mul]
  have h1:=hB a ha
  have h2:s.natAbs=1:=by rcases hs with rfl | rfl <;> rfl
  rw[h2,Nat.one_mul]
  exact Nat.le_trans h1 (Nat.le_mul_of_pos_left _ hpw)
 ·rw[hr c hc]; simp
 -- few equations
 obtain⟨l,hl⟩:∃form:Nat->Nat->Int,∀b,form b=(match pv b with
  | some p=>λx=>R x p
  | none=>λx=>if x=b then 1 else 0):=⟨_,λ_=>rfl⟩
 obtain⟨z,⟨a0,ha0,hza⟩,hzb,hze⟩:=x48 hn (((List.range n).erase a).map l) (by
  rw[List.length_map,List.length_erase_of_mem (List.mem_range.2 ha),List.length_range]; omega) (λf hf x hx=>by
  obtain⟨b,hb,rfl⟩:=List.mem_map.1 hf
  have hbn:=List.mem_range.1 (List.mem_of_mem_erase hb)
  rw[hl]
  cases hpb:pv b with
  | some p=>exact hone b p hbn hpb x hx
  | none=>(try dsimp only); split <;> simp)
 have heq:∀b,b<n->b≠a->sm n (λx=>l b x*z x)=0:=λb hb hne=>hze (l b) (List.mem_map.2 ⟨b,(List.mem_erase_of_ne hne).2 (List.mem_range.2 hb),rfl⟩)
 have hcol:∀t p,t<n->t≠a->pv t=some p->(sm n λb=>z b*R b p)=0:=λt p ht hne htp=>by
  have:=heq t ht hne
  rw[hl,htp] at this
  rw[<- this]
  exact qg7 λi _=>Int.mul_comm _ _
 have hnul:∀b,b<n->b≠a->pv b=none->z b=0:=λb hb hne hpb=>by
  have:=heq b hb hne
  rw[hl,hpb,qu1 hb λi _ hi=>by simp[hi]] at this
  simpa using this
 obtain⟨c1,la,hc1,hla,hsa,hna⟩:=h.comb a ha
 obtain⟨s,hs⟩:∃s:Nat->Int,s=λc=>sm n λb=>z b*R b c:=⟨_,rfl⟩
 have hpar:∃α β:Int,α≠0/\∀c,c<W->α*ρ a c=β*s c:=by
  cases hpa:pv a with
  | none=>
   have hz:=h.ind (λb=>z a*la b-la a*z b) (λb hb hne hpb=>by
    by_cases e:b=a
    ·subst e; exact hne (by(try dsimp only); grind)
    ·have q1:la b=0:=Classical.byContradiction λq=>(hsa b hb q).elim (λk=>k hpb) e
     (try dsimp only at hne); rw[q1,hnul b hb e hpb] at hne
     exact hne (by simp)) (λt p ht htp=>by
    have hne:t≠a:=λe=>by rw[e,hpa] at htp; cases htp
    obtain⟨hpW,_,hp0⟩:=h.piv t p ht htp
    rw[qs9 n (z a) (la a) la z (λb=>R b p),<- hla p hpW,hcol t p ht hne htp,hp0 a ha (Ne.symm hne)]
    simp)
   have hza0:z a≠0:=λq=>by
    have:=hz a0 ha0
    try dsimp only at this
    rw[q] at this
    exact hza (qd2 (a:=la a) (by grind) (hna hpa))
   refine⟨z a*c1,la a,qu2 hza0 hc1,λc hc=>?_⟩
   have e1:(sm n λb=>(z a*la b-la a*z b)*R b c)=0:=qt9 λb hb=>by have:=hz b hb; (try dsimp only at this ⊢); rw[this]; simp
   rw[qs9 n (z a) (la a) la z (λb=>R b c),<- hla c hc] at e1
   rw[hs]
   grind
  | some p=>
   obtain⟨hpW,hpa0,hp0⟩:=h.piv a p ha hpa
   have hz:=h.ind (λb=>(c1*ρ a p)*z b-s p*la b) (λb hb hne hpb=>by
    have hba:b≠a:=λe=>by rw[e,hpa] at hpb; cases hpb
    have q1:la b=0:=Classical.byContradiction λq=>(hsa b hb q).elim (λk=>k hpb) hba
    (try dsimp only at hne); rw[q1,hnul b hb hba hpb] at hne
    exact hne (by simp)) (λt q ht htq=>by
    obtain⟨hqW,_,hq0⟩:=h.piv t q ht htq
    rw[qs9 n (c1*ρ a p) (s p) z la (λb=>R b q),<- hla q hqW]
    by_cases e:t=a
    ·subst e
     rw[hpa] at htq
     obtain rfl:=Option.some.inj htq
     rw[hs]
     grind
    ·rw[hcol t q ht e htq,hq0 a ha (Ne.symm e)]
     simp)
   have he:s p≠0:=λq=>by
    have:=hz a0 ha0
    try dsimp only at this
    rw[q] at this
    exact hza (qd2 (a:=c1*ρ a p) (by grind) (qu2 hc1 hpa0))
   refine⟨s p*c1,c1*ρ a p,qu2 he hc1,λc hc=>?_⟩
   have e1:(sm n λb=>((c1*ρ a p)*z b-s p*la b)*R b c)=0:=qt9 λb hb=>by have:=hz b hb; (try dsimp only at this ⊢); rw[this]; simp
   rw[qs9 n (c1*ρ a p) (s p) z la (λb=>R b c),<- hla c hc] at e1
   have e2:s c=sm n λb=>z b*R b c:=by rw[hs]
   rw[<- e2] at e1
   grind
 obtain⟨α,β,hα,hab⟩:=hpar
 have h1:=wr1 hα hab hr c hc
 have h2:(s c).natAbs<=n*(n ^ (n-1)*B):=by
  rw[hs]
  refine x46 λb hb=>?_
  rw[Int.natAbs_mul]
  exact Nat.mul_le_mul (hzb b hb) (hB b hb)
 have h3:n*(n ^ (n-1)*B)=n ^ n*B:=by
  rw[<- Nat.mul_assoc,Nat.mul_comm n,<- Nat.pow_succ,show(n-1).succ=n by omega]
 omega
end Go.Proofs.YtmijnbjlhnpokaaGreat
