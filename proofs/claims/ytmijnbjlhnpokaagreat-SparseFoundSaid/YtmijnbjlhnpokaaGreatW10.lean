/- How great determinants of few small numbers are. Plain mathematics. No condition. -/
import Derived.Test.YtmijnbjlhnpokaaGreatV0
set_option linter.unusedVariables false
namespace Go.Proofs.YtmijnbjlhnpokaaGreat
def sm:Nat->(Nat->Int)->Int
 | 0,_=>0
 | n+1,f=>sm n f+f n
theorem qa7 {n:Nat} {f g:Nat->Int} (h:∀i,i<n->f i=g i):sm n f=sm n g:=by
 induction n with
 | zero=>rfl
 | succ n ih=>rw[sm,sm,ih λi hi=>h i (by omega),h n (by omega)]
theorem sm_zero {n:Nat} {f:Nat->Int} (h:∀i,i<n->f i=0):sm n f=0:=by
 induction n with
 | zero=>rfl
 | succ n ih=>rw[sm,ih λi hi=>h i (by omega),h n (by omega)]; rfl
theorem q3n (n:Nat) (f g:Nat->Int):sm n (λi=>f i+g i)=sm n f+sm n g:=by
 induction n with
 | zero=>rfl
 | succ n ih=>simp only[sm,ih]; omega
theorem w1u (n:Nat) (f g:Nat->Int):sm n (λi=>f i-g i)=sm n f-sm n g:=by
 induction n with
 | zero=>rfl
 | succ n ih=>simp only[sm,ih]; omega
theorem qf7 (n:Nat) (c:Int) (f:Nat->Int):sm n (λi=>c*f i)=c*sm n f:=by
 induction n with
 | zero=>simp[sm]
 | succ n ih=>simp only[sm,ih,Int.mul_add]
theorem qk1 {n k:Nat} {f:Nat->Int} (hk:k<n) (h:∀i,i<n->i≠k->f i=0):sm n f=f k:=by
 induction n with
 | zero=>omega
 | succ n ih=>
  rw[sm]
  by_cases e:k=n
  ·subst e
   rw[sm_zero λi hi=>h i (by omega) (by omega)]; omega
  ·rw[ih (by omega) λi hi hne=>h i (by omega) hne,h n (by omega) (Ne.symm e)]; omega
theorem q3o {n k l:Nat} {f:Nat->Int} (hk:k<n) (hl:l<n) (hkl:k≠l) (h:∀i,i<n->i≠k->i≠l->f i=0):sm n f=f k+f l:=by
 have e:sm n f=sm n (λi=>if i=k then f k else 0)+sm n (λi=>if i=l then f l else 0):=by
  rw[<- q3n]
  refine qa7 λi hi=>?_
  by_cases e1:i=k
  ·subst e1; rw[if_pos rfl,if_neg hkl]; omega
  ·rw[if_neg e1]
   by_cases e2:i=l
   ·subst e2; rw[if_pos rfl]; omega
   ·rw[if_neg e2,h i hi e1 e2]; rfl
 rw[e,qk1 hk λi _ hne=>if_neg hne,qk1 hl λi _ hne=>if_neg hne,if_pos rfl,if_pos rfl]
theorem wf6 {n:Nat} {f:Nat->Int} {B:Nat} (h:∀i,i<n->(f i).natAbs<=B):(sm n f).natAbs<=n*B:=by
 induction n with
 | zero=>simp[sm]
 | succ n ih=>
  have h1:=ih λi hi=>h i (by omega)
  have h2:=h n (by omega)
  rw[sm,Nat.succ_mul]
  omega
theorem qv7 (n k:Nat) (f:Nat->Nat->Int):sm n (λi=>sm k (λj=>f i j))=sm k (λj=>sm n (λi=>f i j)):=by
 induction n with
 | zero=>exact(sm_zero λ_ _=>rfl).symm
 | succ n ih=>
  rw[sm,ih,<- q3n]
  rfl
theorem ql2 (n:Nat) (x y:Int) (f g r:Nat->Int):sm n (λb=>(x*f b-y*g b)*r b)=x*sm n (λb=>f b*r b)-y*sm n (λb=>g b*r b):=by
 rw[<- qf7,<- qf7,<- w1u]
 refine qa7 λi _=>?_
 rw[Int.sub_mul,Int.mul_assoc,Int.mul_assoc]
theorem q7a:∀(B A:Nat) (f:Nat->Nat),(∀i,i<A->f i<B)->B<A->∃i j,i<j/\j<A/\f i=f j
 | 0,A,f,h,hA=>absurd (h 0 hA) (Nat.not_lt_zero _)
 | B+1,A,f,h,hA=>by
  by_cases hx:∃i,i<A/\f i=B
  ·obtain⟨i0,h0,h1⟩:=hx
   by_cases hy:∃j,j<A/\j≠i0/\f j=B
   ·obtain⟨j,k0,k1,k2⟩:=hy
    rcases Nat.lt_or_gt_of_ne k1 with q | q
    ·exact⟨j,i0,q,h0,by omega⟩
    ·exact⟨i0,j,q,k0,by omega⟩
   ·have hn:∀j,j<A->j≠i0->f j<B:=λj hj hne=>by
     have:=h j hj
     rcases Nat.lt_or_ge (f j) B with q | q
     ·exact q
     ·exact absurd ⟨j,hj,hne,by omega⟩ hy
    obtain⟨i,j,q1,q2,q3⟩:=q7a B (A-1) (λi=>f (if i<i0 then i else i+1)) (λi hi=>hn _ (by split <;> omega) (by split <;> omega)) (by omega)
    refine⟨if i<i0 then i else i+1,if j<i0 then j else j+1,?_,?_,q3⟩
    ·split <;> split <;> omega
    ·split <;> omega
  ·obtain⟨i,j,q1,q2,q3⟩:=q7a B A f (λi hi=>by
    have:=h i hi
    rcases Nat.lt_or_ge (f i) B with q | q
    ·exact q
    ·exact absurd ⟨i,hi,by omega⟩ hx) (by omega)
   exact⟨i,j,q1,q2,q3⟩
def dig (b:Nat):Nat->Nat->Nat
 | 0,N=>N % b
 | a+1,N=>dig b a (N / b)
theorem xq7 {b:Nat} (hb:0<b):∀a N,dig b a N<b
 | 0,N=>Nat.mod_lt _ hb
 | a+1,N=>xq7 hb a (N / b)
theorem w7t {b:Nat} (hb:0<b):∀(n N M:Nat),N<b ^ n->M<b ^ n->(∀a,a<n->dig b a N=dig b a M)->N=M
 | 0,N,M,h1,h2,_=>by simp at h1 h2; omega
 | n+1,N,M,h1,h2,h=>by
  have h0:=h 0 (by omega)
  have e:=w7t hb n (N / b) (M / b) (Nat.div_lt_of_lt_mul (by rw[Nat.pow_succ,Nat.mul_comm] at h1; exact h1)) (Nat.div_lt_of_lt_mul (by rw[Nat.pow_succ,Nat.mul_comm] at h2; exact h2)) λa ha=>h (a+1) (by omega)
  have h0:N % b=M % b:=h0
  rw[<- Nat.div_add_mod N b,<- Nat.div_add_mod M b,e,h0]
def q3p (B:Nat):List Nat->Nat
 | []=>0
 | x :: l=>x+B*q3p B l
theorem w1w {B:Nat}:∀(l:List Nat),(∀x∈l,x<B)->q3p B l<B ^ l.length
 | [],_=>by simp[q3p]
 | x :: l,h=>by
  have h1:=w1w l λy hy=>h y (by simp[hy])
  have h2:=h x (by simp)
  rw[q3p,List.length_cons,Nat.pow_succ,Nat.mul_comm (B ^ l.length)]
  calc x+B*q3p B l<B+B*q3p B l:=by omega
   _=B*(q3p B l+1):=by rw[Nat.mul_add]; omega
   _<=B*B ^ l.length:=Nat.mul_le_mul (Nat.le_refl _) h1
theorem wn8 {B:Nat} (hB:0<B):∀(l k:List Nat),l.length=k.length->(∀x∈l,x<B)->(∀x∈k,x<B)->q3p B l=q3p B k->l=k
 | [],[],_,_,_,_=>rfl
 | [],_ :: _,h,_,_,_=>by simp at h
 | _ :: _,[],h,_,_,_=>by simp at h
 | x :: l,y :: k,h,h1,h2,e=>by
  have hx:=h1 x (by simp)
  have hy:=h2 y (by simp)
  rw[q3p,q3p] at e
  have e1:x=y:=by
   have:=congrArg (· % B) e
   simpa[Nat.add_mul_mod_self_left,Nat.mod_eq_of_lt hx,Nat.mod_eq_of_lt hy] using this
  subst e1
  have e2:q3p B l=q3p B k:=Nat.eq_of_mul_eq_mul_left hB (by omega)
  rw[wn8 hB l k (by simpa using h) (λz hz=>h1 z (by simp[hz])) (λz hz=>h2 z (by simp[hz])) e2]
def smN:Nat->(Nat->Nat)->Nat
 | 0,_=>0
 | n+1,f=>smN n f+f n
theorem x2w {n C:Nat} {f:Nat->Nat} (h:∀i,i<n->f i<=C):smN n f<=n*C:=by
 induction n with
 | zero=>simp[smN]
 | succ n ih=>
  have h1:=ih λi hi=>h i (by omega)
  have h2:=h n (by omega)
  rw[smN,Nat.succ_mul]; omega
def lhsN (n C:Nat) (f:Nat->Int) (z:Nat->Nat):Nat:=smN n λa=>if 0<f a then z a else if f a<0 then C-z a else 0
theorem xx1 {n C:Nat} {f:Nat->Int} (hf:∀a,a<n->(f a).natAbs<=1) {z y:Nat->Nat} (hz:∀a,a<n->z a<=C) (hy:∀a,a<n->y a<=C):(lhsN n C f z:Int)-(lhsN n C f y:Int)=sm n λa=>f a*((z a:Int)-(y a:Int)):=by
 unfold lhsN
 induction n with
 | zero=>rfl
 | succ n ih=>
  have h1:=ih (λa ha=>hf a (by omega)) (λa ha=>hz a (by omega)) (λa ha=>hy a (by omega))
  have h2:=hf n (by omega)
  have h3:=hz n (by omega)
  have h4:=hy n (by omega)
  rw[smN,smN,sm,<- h1]
  rcases Int.lt_trichotomy (f n) 0 with q | q | q
  ·have e:f n=-1:=by omega
   rw[if_neg (by omega),if_pos q,if_neg (by omega),if_pos q,e]
   omega
  ·rw[q]; simp
  ·have e:f n=1:=by omega
   rw[if_pos q,if_pos q,e]
   omega
theorem x2x {n:Nat} (hn:0<n) (fs:List (Nat->Int)) (hlen:fs.length<n) (h1:∀f∈fs,∀a,a<n->(f a).natAbs<=1):∃z:Nat->Int,(∃a,a<n/\z a≠0)/\(∀a,a<n->(z a).natAbs<=n ^ (n-1))/\∀f∈fs,sm n (λa=>f a*z a)=0:=by
 obtain⟨C,hC⟩:∃C,C=n ^ (n-1):=⟨_,rfl⟩
 have hb:0<C+1:=by omega
 let code:Nat->Nat:=λN=>q3p (n*C+1) (fs.map λf=>lhsN n C f λa=>dig (C+1) a N)
 have hdig:∀N a,dig (C+1) a N<=C:=λN a=>by have:=xq7 hb a N; omega
 have hl:∀N,∀x∈fs.map (λf=>lhsN n C f λa=>dig (C+1) a N),x<n*C+1:=λN x hx=>by
  obtain⟨f,hf,rfl⟩:=List.mem_map.1 hx
  have:=x2w (n:=n) (C:=C) (f:=λa=>if 0<f a then dig (C+1) a N else if f a<0 then C-dig (C+1) a N else 0) λi _=>by
   have:=hdig N i
   split
   ·exact this
   ·split <;> omega
  exact Nat.lt_succ_of_le this
 obtain⟨N,M,hNM,hM,he⟩:=q7a ((n*C+1) ^ fs.length) ((C+1) ^ n) code (λN _=>by
  have:=w1w _ (hl N)
  rw[List.length_map] at this
  exact this) (by
  calc(n*C+1) ^ fs.length<=(n*C+1) ^ (n-1):=Nat.pow_le_pow_right (by omega) (by omega)
   _<=(n*(C+1)) ^ (n-1):=Nat.pow_le_pow_left (by rw[Nat.mul_add]; omega) _
   _=n ^ (n-1)*(C+1) ^ (n-1):=Nat.mul_pow _ _ _
   _=C*(C+1) ^ (n-1):=by rw[<- hC]
   _<(C+1)*(C+1) ^ (n-1):=Nat.mul_lt_mul_of_pos_right (by omega) (Nat.pow_pos hb)
   _=(C+1) ^ n:=by rw[Nat.mul_comm,<- Nat.pow_succ,show(n-1).succ=n by omega])
 refine⟨λa=>(dig (C+1) a M:Int)-(dig (C+1) a N:Int),Classical.byContradiction λhno=>?_,λa ha=>?_,λf hf=>?_⟩
 ·have:=w7t hb n N M (by omega) hM λa ha=>by
   rcases Classical.em ((dig (C+1) a M:Int)-(dig (C+1) a N:Int)=0) with q | q
   ·omega
   ·exact absurd ⟨a,ha,q⟩ hno
  omega
 ·have q1:=hdig M a
  have q2:=hdig N a
  rw[<- hC]
  dsimp only
  omega
 ·have hll:=wn8 (B:=n*C+1) (by omega) _ _ (by simp) (hl N) (hl M) he
  have hfe:lhsN n C f (λa=>dig (C+1) a N)=lhsN n C f (λa=>dig (C+1) a M):=List.map_inj_left.1 hll f hf
  rw[<- xx1 (h1 f hf) (λa _=>hdig M a) (λa _=>hdig N a),hfe]
  omega
structure El (n W:Nat) (R ρ:Nat->Nat->Int) (pv:Nat->Option Nat):Prop where
 comb:∀a,a<n->∃(c:Int) (l:Nat->Int),c≠0/\(∀j,j<W->c*ρ a j=sm n λb=>l b*R b j)/\(∀b,b<n->l b≠0->pv b≠none\/b=a)/\(pv a=none->l a≠0)
 ind:∀ν:Nat->Int,(∀b,b<n->ν b≠0->pv b≠none)->(∀t p,t<n->pv t=some p->(sm n λb=>ν b*R b p)=0)->∀b,b<n->ν b=0
 piv:∀t p,t<n->pv t=some p->p<W/\ρ t p≠0/\∀a,a<n->a≠t->ρ a p=0
theorem El.start {n W:Nat} {R ρ:Nat->Nat->Int} (h:∀a,a<n->∃c:Int,c≠0/\∀j,j<W->c*ρ a j=R a j):El n W R ρ (λ_=>none):=by
 refine⟨λa ha=>?_,fun ν h1 _ b hb=>?_,λt p _ h=>by cases h⟩
 ·obtain⟨c,hc,h1⟩:=h a ha
  refine⟨c,λb=>if b=a then 1 else 0,hc,λj hj=>?_,λb _ hb=>?_,λ_=>by simp⟩
  ·rw[h1 j hj,qk1 ha λi _ hne=>by(try dsimp only); rw[if_neg hne]; simp]
   (try dsimp only); rw[if_pos rfl]; omega
  ·by_cases e:b=a
   ·exact .inr e
   ·(try dsimp only at hb); rw[if_neg e] at hb; exact absurd rfl hb
 ·rcases Classical.em (ν b=0) with q | q
  ·exact q
  ·exact absurd rfl (h1 b hb q)
theorem ql7 {a b:Int} (ha:a≠0) (hb:b≠0):a*b≠0:=λh=>(Int.mul_eq_zero.1 h).elim ha hb
theorem qc7 {a b:Int} (h:a*b=0) (ha:a≠0):b=0:=(Int.mul_eq_zero.1 h).resolve_left ha
theorem El.step {n W:Nat} {R ρ ρ':Nat->Nat->Int} {pv:Nat->Option Nat} {t0 j:Nat} (h:El n W R ρ pv) (ht:t0<n) (hp:pv t0=none) (hj:j<W) (hx:ρ t0 j≠0)
  (hT:∃s:Int,s≠0/\∀c,c<W->ρ' t0 c=s*ρ t0 c) (hO:∀a,a<n->a≠t0->ρ' a j=0/\∃α β γ:Int,α≠0/\β≠0/\∀c,c<W->α*ρ' a c=β*ρ a c-γ*ρ' t0 c) :
  El n W R ρ' (λb=>if b=t0 then some j else pv b):=by
 obtain⟨s,hs,hsT⟩:=hT
 obtain⟨c0,l0,hc0,hl0,hs0,hn0⟩:=h.comb t0 ht
 have hn0:=hn0 hp
 have hpv:∀b,(if b=t0 then some j else pv b)≠none↔(pv b≠none\/b=t0):=λb=>by
  by_cases e:b=t0
  ·rw[if_pos e]; exact⟨λ_=>.inr e,λ_=>by simp⟩
  ·rw[if_neg e]; exact⟨.inl,λq=>q.resolve_right e⟩
 refine⟨λa ha=>?_,fun ν h1 h2=>?_,λt p htn htp=>?_⟩
 ·by_cases e:a=t0
  ·subst e
   refine⟨c0,λb=>s*l0 b,hc0,λc hc=>?_,λb hb hne=>(hs0 b hb λq=>hne (by(try dsimp only); rw[q,Int.mul_zero])).imp (λq=>(hpv b).2 (.inl q)) id,λq=>absurd q (by simp)⟩
   have e1:(sm n λb=>s*l0 b*R b c)=s*sm n (λb=>l0 b*R b c):=by rw[<- qf7]; exact qa7 λi _=>Int.mul_assoc _ _ _
   rw[e1,<- hl0 c hc,hsT c hc]
   grind
  ·obtain⟨hz,α,β,γ,hα,hβ,hrel⟩:=hO a ha e
   obtain⟨ca,la,hca,hla,hsa,hna⟩:=h.comb a ha
   refine⟨ca*c0*α,λb=>c0*β*la b-ca*γ*s*l0 b,ql7 (ql7 hca hc0) hα,λc hc=>?_,λb hb hne=>?_,λq=>?_⟩
   ·rw[ql2 n (c0*β) (ca*γ*s) la l0 (λb=>R b c),<- hla c hc,<- hl0 c hc]
    have h3:=hrel c hc
    rw[hsT c hc] at h3
    grind
   ·by_cases q1:la b=0
    ·by_cases q2:l0 b=0
     ·exact absurd (by(try dsimp only); rw[q1,q2]; simp) hne
     ·exact .inl ((hpv b).2 ((hs0 b hb q2).imp id id))
    ·rcases hsa b hb q1 with q | q
     ·exact .inl ((hpv b).2 (.inl q))
     ·exact .inr q
   ·have hpa:pv a=none:=by
     rcases Classical.em (pv a=none) with k | k
     ·exact k
     ·exact absurd q ((hpv a).2 (.inl k))
    have h0:l0 a=0:=Classical.byContradiction λk=>by
     rcases hs0 a ha k with k | k
     ·exact k hpa
     ·exact e k
    (try dsimp only); rw[h0]
    have:=ql7 (ql7 hc0 hβ) (hna hpa)
    simpa using this
 ·-- independent
  have hcol:∀p,(sm n λb=>ν b*R b p)=0->(sm n λb=>(l0 t0*ν b-ν t0*l0 b)*R b p)=- (ν t0*sm n λb=>l0 b*R b p):=λp hp=>by
   rw[ql2 n (l0 t0) (ν t0) ν l0 (λb=>R b p),hp]; simp
  have h2':∀t p,t<n->(if t=t0 then some j else pv t)=some p->(sm n λb=>ν b*R b p)=0:=h2
  have hz:=h.ind (λb=>l0 t0*ν b-ν t0*l0 b) (λb hb hne=>by
   by_cases e:b=t0
   ·subst e; exact absurd (by(try dsimp only); grind) hne
   ·by_cases q1:ν b=0
    ·by_cases q2:l0 b=0
     ·exact absurd (by(try dsimp only); rw[q1,q2]; simp) hne
     ·exact(hs0 b hb q2).resolve_right e
    ·exact((hpv b).1 (h1 b hb q1)).resolve_right e) (λt p htn htp=>by
   have hne:t≠t0:=λe=>by rw[e,hp] at htp; cases htp
   have hR:=h2' t p htn (by rw[if_neg hne]; exact htp)
   obtain⟨hpW,_,hpa⟩:=h.piv t p htn htp
   rw[hcol p hR,<- hl0 p hpW,hpa t0 ht (Ne.symm hne)]
   simp)
  have h0:ν t0=0:=by
   have hR:=h2' t0 j ht (if_pos rfl)
   have e1:=hcol j hR
   have e2:(sm n λb=>(l0 t0*ν b-ν t0*l0 b)*R b j)=0:=sm_zero λb hb=>by have:=hz b hb; (try dsimp only at this ⊢); rw[this]; simp
   rw[e2,<- hl0 j hj] at e1
   have e3:(c0*ρ t0 j)*ν t0=0:=by grind
   exact qc7 e3 (ql7 hc0 hx)
  intro b hb
  have e1:=hz b hb
  try dsimp only at e1
  rw[h0] at e1
  exact qc7 (a:=l0 t0) (by grind) hn0
 ·by_cases e:t=t0
  ·subst e
   rw[if_pos rfl] at htp
   obtain rfl:=Option.some.inj htp
   refine⟨hj,by rw[hsT j hj]; exact ql7 hs hx,λa ha hne=>(hO a ha hne).1⟩
  ·rw[if_neg e] at htp
   obtain⟨hpW,hpt,hpa⟩:=h.piv t p htn htp
   have h0:ρ' t0 p=0:=by rw[hsT p hpW,hpa t0 ht (Ne.symm e)]; simp
   refine⟨hpW,λq=>?_,λa ha hne=>?_⟩
   ·obtain⟨_,α,β,γ,hα,hβ,hrel⟩:=hO t htn e
    have h3:=hrel p hpW
    rw[q,h0] at h3
    exact ql7 hβ hpt (by grind)
   ·by_cases e2:a=t0
    ·rw[e2]; exact h0
    ·obtain⟨_,α,β,γ,hα,hβ,hrel⟩:=hO a ha e2
     have h3:=hrel p hpW
     rw[h0,hpa a ha hne] at h3
     exact qc7 (a:=α) (by grind) hα
def x1f (W:Nat) (r0 r:Nat->Int):Prop:=(∃s:Int,(s=1\/s=-1)/\∀c,c<W->r c=s*r0 c)\/(∀c,c<W->r c=0)\/∀d:Nat,(∀c,c<W->d∣(r c).natAbs)->d=1
theorem q9o {W:Nat} {r s:Nat->Int} {α β:Int} (hα:α≠0) (h:∀c,c<W->α*r c=β*s c) (hp:∀d:Nat,(∀c,c<W->d∣(r c).natAbs)->d=1):∀c,c<W->(r c).natAbs<=(s c).natAbs:=by
 have hg:0<Nat.gcd α.natAbs β.natAbs:=Nat.gcd_pos_of_pos_left _ (by omega)
 obtain⟨a',ha'⟩:=Nat.gcd_dvd_left α.natAbs β.natAbs
 obtain⟨b',hb'⟩:=Nat.gcd_dvd_right α.natAbs β.natAbs
 have hco:Nat.Coprime b' a':=by
  have:=Nat.coprime_div_gcd_div_gcd hg
  have e1:α.natAbs / Nat.gcd α.natAbs β.natAbs=a':=by
   conv=>lhs; lhs; rw[ha']
   exact Nat.mul_div_cancel_left _ hg
  have e2:β.natAbs / Nat.gcd α.natAbs β.natAbs=b':=by
   conv=>lhs; lhs; rw[hb']
   exact Nat.mul_div_cancel_left _ hg
  rw[e1,e2] at this
  exact this.symm
 have habs:∀c,c<W->a' * (r c).natAbs=b' * (s c).natAbs:=λc hc=>by
  have h1:=congrArg Int.natAbs (h c hc)
  rw[Int.natAbs_mul,Int.natAbs_mul] at h1
  generalize Nat.gcd α.natAbs β.natAbs=g at hg ha' hb'
  rw[ha',hb',Nat.mul_assoc,Nat.mul_assoc] at h1
  exact Nat.eq_of_mul_eq_mul_left hg h1
 have hb1:b'=1:=hp b' λc hc=>hco.dvd_of_dvd_mul_left ⟨_,habs c hc⟩
 have ha1:0<a':=by
  rcases Nat.eq_zero_or_pos a' with q | q
  ·rw[q,Nat.mul_zero] at ha'; omega
  ·exact q
 intro c hc
 have h1:=habs c hc
 rw[hb1,Nat.one_mul] at h1
 rw[<- h1]
 exact Nat.le_mul_of_pos_left _ ha1
theorem El.bound {n W:Nat} {R ρ:Nat->Nat->Int} {pv:Nat->Option Nat} (h:El n W R ρ pv) (hone:∀t p,t<n->pv t=some p->∀b,b<n->(R b p).natAbs<=1) {a:Nat} (ha:a<n) (hnice:x1f W (R a) (ρ a)) {B:Nat} {c:Nat} (hc:c<W) (hB:∀b,b<n->(R b c).natAbs<=B):(ρ a c).natAbs<=n ^ n*B:=by
 have hn:0<n:=by omega
 have hpw:1<=n ^ n:=Nat.pow_pos hn
 rcases hnice with⟨s,hs,hr⟩ | hr | hr
 ·rw[hr c hc,Int.natAbs_mul]
  have h1:=hB a ha
  have h2:s.natAbs=1:=by rcases hs with rfl | rfl <;> rfl
  rw[h2,Nat.one_mul]
  exact Nat.le_trans h1 (Nat.le_mul_of_pos_left _ hpw)
 ·rw[hr c hc]; simp
 -- few equations
 obtain⟨l,hl⟩:∃form:Nat->Nat->Int,∀b,form b=(match pv b with
  | some p=>λx=>R x p
  | none=>λx=>if x=b then 1 else 0):=⟨_,λ_=>rfl⟩
 obtain⟨z,⟨a0,ha0,hza⟩,hzb,hze⟩:=x2x hn (((List.range n).erase a).map l) (by
  rw[List.length_map,List.length_erase_of_mem (List.mem_range.2 ha),List.length_range]; omega) (λf hf x hx=>by
  obtain⟨b,hb,rfl⟩:=List.mem_map.1 hf
  have hbn:=List.mem_range.1 (List.mem_of_mem_erase hb)
  rw[hl]
  cases hpb:pv b with
  | some p=>exact hone b p hbn hpb x hx
  | none=>(try dsimp only); split <;> simp)
 have heq:∀b,b<n->b≠a->sm n (λx=>l b x*z x)=0:=λb hb hne=>hze (l b) (List.mem_map.2 ⟨b,(List.mem_erase_of_ne hne).2 (List.mem_range.2 hb),rfl⟩)
 have hcol:∀t p,t<n->t≠a->pv t=some p->(sm n λb=>z b*R b p)=0:=λt p ht hne htp=>by
  have:=heq t ht hne
  rw[hl,htp] at this
  rw[<- this]
  exact qa7 λi _=>Int.mul_comm _ _
 have hnul:∀b,b<n->b≠a->pv b=none->z b=0:=λb hb hne hpb=>by
  have:=heq b hb hne
  rw[hl,hpb,qk1 hb λi _ hi=>by simp[hi]] at this
  simpa using this
 obtain⟨c1,la,hc1,hla,hsa,hna⟩:=h.comb a ha
 obtain⟨s,hs⟩:∃s:Nat->Int,s=λc=>sm n λb=>z b*R b c:=⟨_,rfl⟩
 have hpar:∃α β:Int,α≠0/\∀c,c<W->α*ρ a c=β*s c:=by
  cases hpa:pv a with
  | none=>
   have hz:=h.ind (λb=>z a*la b-la a*z b) (λb hb hne hpb=>by
    by_cases e:b=a
    ·subst e; exact hne (by(try dsimp only); grind)
    ·have q1:la b=0:=Classical.byContradiction λq=>(hsa b hb q).elim (λk=>k hpb) e
     (try dsimp only at hne); rw[q1,hnul b hb e hpb] at hne
     exact hne (by simp)) (λt p ht htp=>by
    have hne:t≠a:=λe=>by rw[e,hpa] at htp; cases htp
    obtain⟨hpW,_,hp0⟩:=h.piv t p ht htp
    rw[ql2 n (z a) (la a) la z (λb=>R b p),<- hla p hpW,hcol t p ht hne htp,hp0 a ha (Ne.symm hne)]
    simp)
   have hza0:z a≠0:=λq=>by
    have:=hz a0 ha0
    try dsimp only at this
    rw[q] at this
    exact hza (qc7 (a:=la a) (by grind) (hna hpa))
   refine⟨z a*c1,la a,ql7 hza0 hc1,λc hc=>?_⟩
   have e1:(sm n λb=>(z a*la b-la a*z b)*R b c)=0:=sm_zero λb hb=>by have:=hz b hb; (try dsimp only at this ⊢); rw[this]; simp
   rw[ql2 n (z a) (la a) la z (λb=>R b c),<- hla c hc] at e1
   rw[hs]
   grind
  | some p=>
   obtain⟨hpW,hpa0,hp0⟩:=h.piv a p ha hpa
   have hz:=h.ind (λb=>(c1*ρ a p)*z b-s p*la b) (λb hb hne hpb=>by
    have hba:b≠a:=λe=>by rw[e,hpa] at hpb; cases hpb
    have q1:la b=0:=Classical.byContradiction λq=>(hsa b hb q).elim (λk=>k hpb) hba
    (try dsimp only at hne); rw[q1,hnul b hb hba hpb] at hne
    exact hne (by simp)) (λt q ht htq=>by
    obtain⟨hqW,_,hq0⟩:=h.piv t q ht htq
    rw[ql2 n (c1*ρ a p) (s p) z la (λb=>R b q),<- hla q hqW]
    by_cases e:t=a
    ·subst e
     rw[hpa] at htq
     obtain rfl:=Option.some.inj htq
     rw[hs]
     grind
    ·rw[hcol t q ht e htq,hq0 a ha (Ne.symm e)]
     simp)
   have he:s p≠0:=λq=>by
    have:=hz a0 ha0
    try dsimp only at this
    rw[q] at this
    exact hza (qc7 (a:=c1*ρ a p) (by grind) (ql7 hc1 hpa0))
   refine⟨s p*c1,c1*ρ a p,ql7 he hc1,λc hc=>?_⟩
   have e1:(sm n λb=>((c1*ρ a p)*z b-s p*la b)*R b c)=0:=sm_zero λb hb=>by have:=hz b hb; (try dsimp only at this ⊢); rw[this]; simp
   rw[ql2 n (c1*ρ a p) (s p) z la (λb=>R b c),<- hla c hc] at e1
   have e2:s c=sm n λb=>z b*R b c:=by rw[hs]
   rw[<- e2] at e1
   grind
 obtain⟨α,β,hα,hab⟩:=hpar
 have h1:=q9o hα hab hr c hc
 have h2:(s c).natAbs<=n*(n ^ (n-1)*B):=by
  rw[hs]
  refine wf6 λb hb=>?_
  rw[Int.natAbs_mul]
  exact Nat.mul_le_mul (hzb b hb) (hB b hb)
 have h3:n*(n ^ (n-1)*B)=n ^ n*B:=by
  rw[<- Nat.mul_assoc,Nat.mul_comm n,<- Nat.pow_succ,show(n-1).succ=n by omega]
 omega
def sgn (i:Nat):Int:=if i % 2=0 then 1 else -1
def skp (i a:Nat):Nat:=if a<i then a else a+1
def det:Nat->(Nat->Nat->Int)->Int
 | 0,_=>1
 | n+1,A=>sm (n+1) λi=>sgn i*A i 0*det n (λa b=>A (skp i a) (b+1))
theorem q5e {n i a:Nat} (ha:a<n):skp i a<n+1:=by unfold skp; split <;> omega
theorem xq8 (i a:Nat):skp i a≠i:=by unfold skp; split <;> omega
theorem qf2:∀(n:Nat) {A B:Nat->Nat->Int},(∀i j,i<n->j<n->A i j=B i j)->det n A=det n B
 | 0,_,_,_=>rfl
 | n+1,A,B,h=>by
  rw[det,det]
  refine qa7 λi hi=>?_
  rw[h i 0 hi (by omega),qf2 n (A:=λa b=>A (skp i a) (b+1)) (B:=λa b=>B (skp i a) (b+1)) λa b ha hb=>h _ _ (q5e ha) (by omega)]
def upd (A:Nat->Nat->Int) (r:Nat) (u:Nat->Int):Nat->Nat->Int:=λi j=>if i=r then u j else A i j
theorem qv1 (A:Nat->Nat->Int) (r:Nat):upd A r (A r)=A:=by
 funext i j; unfold upd; split
 ·rename_i h; rw[h]
 ·rfl
theorem wf7 (A:Nat->Nat->Int) {r s:Nat} (h:r≠s) (u v:Nat->Int):upd (upd A r u) s v=upd (upd A s v) r u:=by
 funext i j; unfold upd
 by_cases e:i=s
 ·rw[if_pos e,if_neg (by omega),if_pos e]
 ·rw[if_neg e,if_neg e]
theorem q4n (A:Nat->Nat->Int) (r:Nat) (w:Nat->Int):(λa b=>upd A r w (skp r a) (b+1))=λa b=>A (skp r a) (b+1):=by
 funext a b; unfold upd; rw[if_neg (xq8 r a)]
theorem q7b {i r:Nat} (h:i≠r) (A:Nat->Nat->Int) (w:Nat->Int):(λa b=>upd A r w (skp i a) (b+1))=upd (λa b=>A (skp i a) (b+1)) (if r<i then r else r-1) (λb=>w (b+1)):=by
 funext a b
 have e:skp i a=r↔a=(if r<i then r else r-1):=by unfold skp; split <;> split <;> omega
 unfold upd
 by_cases q:a=(if r<i then r else r-1)
 ·rw[if_pos q,if_pos (e.2 q)]
 ·rw[if_neg q,if_neg λk=>q (e.1 k)]
theorem qn7:∀(n:Nat) (A:Nat->Nat->Int) (r:Nat),r<n->∀(x y:Int) (u v:Nat->Int),det n (upd A r (λj=>x*u j+y*v j))=x*det n (upd A r u)+y*det n (upd A r v)
 | n+1,A,r,hr,x,y,u,v=>by
  rw[det,det,det,<- qf7,<- qf7,<- q3n]
  refine qa7 λi hi=>?_
  by_cases e:i=r
  ·subst e
   rw[q4n,q4n,q4n]
   have e1:∀w,upd A i w i 0=w 0:=λw=>if_pos rfl
   rw[e1,e1,e1]
   grind
  ·rw[q7b e,q7b e,q7b e]
   have e1:∀w,upd A r w i 0=A i 0:=λw=>if_neg e
   rw[e1,e1,e1]
   have ih:=qn7 n (λa b=>A (skp i a) (b+1)) (if r<i then r else r-1) (by split <;> omega) x y (λb=>u (b+1)) (λb=>v (b+1))
   try dsimp only at ih ⊢
   rw[ih]
   grind
theorem qv2 {n:Nat} {A:Nat->Nat->Int} {r:Nat} (hr:r<n):det n (upd A r λ_=>0)=0:=by
 have:=qn7 n A r hr 0 0 (λ_=>0) (λ_=>0)
 simpa using this
theorem xi6 (r:Nat):sgn (r+1)=- sgn r:=by unfold sgn; split <;> split <;> omega
theorem wf9:∀(n:Nat) (A:Nat->Nat->Int) (r:Nat),r+1<n->(∀j,j<n->A r j=A (r+1) j)->det n A=0
 | n+1,A,r,hr,h=>by
  rw[det,q3o (k:=r) (l:=r+1) (by omega) hr (by omega) λi hi h1 h2=>?_]
  ·have em:det n (λa b=>A (skp r a) (b+1))=det n (λa b=>A (skp (r+1) a) (b+1)):=qf2 n λa b ha hb=>by
    by_cases e:a=r
    ·subst e
     have e1:skp a a=a+1:=by unfold skp; rw[if_neg (Nat.lt_irrefl _)]
     have e2:skp (a+1) a=a:=by unfold skp; rw[if_pos (Nat.lt_succ_self _)]
     rw[e1,e2,h _ (by omega)]
    ·have:skp r a=skp (r+1) a:=by unfold skp; split <;> split <;> omega
     rw[this]
   try dsimp only
   rw[em,h 0 (by omega),xi6]
   grind
  ·try dsimp only
   have:det n (λa b=>A (skp i a) (b+1))=0:=by
    rcases Nat.lt_or_ge i r with q | q
    ·refine wf9 n _ (r-1) (by omega) λj hj=>?_
     have e1:skp i (r-1)=r:=by unfold skp; rw[if_neg (by omega)]; omega
     have e2:skp i (r-1+1)=r+1:=by unfold skp; rw[if_neg (by omega)]; omega
     try dsimp only
     rw[e1,e2,h _ (by omega)]
    ·refine wf9 n _ r (by omega) λj hj=>?_
     have e1:skp i r=r:=by unfold skp; rw[if_pos (by omega)]
     have e2:skp i (r+1)=r+1:=by unfold skp; rw[if_pos (by omega)]
     try dsimp only
     rw[e1,e2,h _ (by omega)]
   rw[this,Int.mul_zero]
theorem wg1 {n:Nat} {A:Nat->Nat->Int} {r s:Nat} (hr:r<n) (hs:s<n) (hne:r≠s) (hz:∀w,det n (upd (upd A r w) s w)=0) (u v:Nat->Int):det n (upd (upd A r u) s v)=- det n (upd (upd A r v) s u):=by
 have h:=hz (λj=>1*u j+1*v j)
 have lin:∀w,det n (upd (upd A r (λj=>1*u j+1*v j)) s w)=det n (upd (upd A r u) s w)+det n (upd (upd A r v) s w):=λw=>by
  rw[wf7 A hne,qn7 n _ r hr,wf7 A hne,wf7 A hne]; omega
 rw[qn7 n _ s hs,lin,lin,hz u,hz v] at h
 omega
theorem w7u:∀(d n:Nat) (A:Nat->Nat->Int) (r s:Nat),s=r+d+1->s<n->(∀j,j<n->A r j=A s j)->det n A=0
 | 0,n,A,r,s,hd,hs,h=>wf9 n A r (by omega) λj hj=>by rw[h j hj,hd]
 | d+1,n,A,r,s,hd,hs,h=>by
  have e:upd (upd A (s-1) (A (s-1))) s (A s)=A:=by rw[qv1]; exact qv1 A s
  have h2:=wg1 (n:=n) (A:=A) (r:=s-1) (s:=s) (by omega) hs (by omega) (λw=>wf9 n _ (s-1) (by omega) λj hj=>by
   unfold upd
   rw[show s-1+1=s by omega,if_neg (by omega),if_pos rfl,if_pos rfl]) (A (s-1)) (A s)
  rw[e] at h2
  have h3:=w7u d n (upd (upd A (s-1) (A s)) s (A (s-1))) r (s-1) (by omega) (by omega) λj hj=>by
   unfold upd
   rw[if_neg (by omega),if_neg (by omega),if_neg (by omega),if_pos rfl]
   exact h j hj
  rw[h2,h3]; rfl
theorem q4o {n:Nat} {A:Nat->Nat->Int} {r s:Nat} (hr:r<n) (hs:s<n) (hne:r≠s) (h:∀j,j<n->A r j=A s j):det n A=0:=by
 rcases Nat.lt_or_gt_of_ne hne with q | q
 ·exact w7u (s-r-1) n A r s (by omega) hs h
 ·exact w7u (r-s-1) n A s r (by omega) hr λj hj=>(h j hj).symm
theorem wg6 {n:Nat} (A:Nat->Nat->Int) {r:Nat} (hr:r<n) (lam:Nat->Int):∀k,k<=n->det n (upd A r (λj=>sm k λi=>lam i*A i j))=if r<k then lam r*det n A else 0
 | 0,_=>by
  rw[if_neg (Nat.not_lt_zero _)]
  exact qv2 hr
 | k+1,hk=>by
  have ih:=wg6 A hr lam k (by omega)
  have e:(λj=>sm (k+1) λi=>lam i*A i j)=λj=>1*(sm k λi=>lam i*A i j)+lam k*A k j:=by funext j; rw[sm]; omega
  rw[e,qn7 n A r hr 1 (lam k) (λj=>sm k λi=>lam i*A i j) (A k),ih]
  by_cases q:k=r
  ·subst q
   rw[qv1,if_neg (Nat.lt_irrefl _),if_pos (Nat.lt_succ_self _)]; omega
  ·have:det n (upd A r (A k))=0:=q4o hr (show k<n by omega) (Ne.symm q) λj hj=>by
    unfold upd
    rw[if_pos rfl,if_neg q]
   rw[this]
   by_cases q2:r<k
   ·rw[if_pos q2,if_pos (by omega)]; omega
   ·rw[if_neg q2,if_neg (by omega)]; omega
theorem w1x {n:Nat} {A:Nat->Nat->Int} (h0:det n A=0):∀(d s:Nat),s+d=n->∀σ:Nat->Nat,(∀i,i<n->σ i<n)->(∀i,i<s->σ i=i)->det n (λi j=>A (σ i) j)=0
 | 0,s,hs,σ,h1,h2=>by
  rw[<- h0]
  exact qf2 n λi j hi hj=>by rw[h2 i (by omega)]
 | d+1,s,hs,σ,h1,h2=>by
  by_cases hx:∃t,s<=t/\t<n/\σ t=s
  ·obtain⟨t,t1,t2,t3⟩:=hx
   have hq:=w1x h0 d (s+1) (by omega) (λi=>if i=s then s else if i=t then σ s else σ i) (λi hi=>by
    (try dsimp only); split
    ·omega
    ·split
     ·exact h1 s (by omega)
     ·exact h1 i hi) (λi hi=>by
    try dsimp only
    by_cases e:i=s
    ·rw[if_pos e,e]
    ·rw[if_neg e,if_neg (by omega)]; exact h2 i (by omega))
   by_cases e:t=s
   ·rw[<- hq]
    refine qf2 n λi j hi hj=>?_
    try dsimp only
    by_cases e2:i=s
    ·rw[if_pos e2,e2,<- e,t3,e]
    ·rw[if_neg e2,if_neg (by omega)]
   ·have ha:=wg1 (n:=n) (A:=λi j=>A (σ i) j) (r:=s) (s:=t) (by omega) t2 (Ne.symm e) (λw=>q4o (r:=s) (s:=t) (by omega) t2 (Ne.symm e) λj hj=>by
     unfold upd
     rw[if_neg (Ne.symm e),if_pos rfl,if_pos rfl]) (A (σ s)) (A (σ t))
    have e1:upd (upd (λi j=>A (σ i) j) s (A (σ s))) t (A (σ t))=λi j=>A (σ i) j:=by
     funext i j; unfold upd
     by_cases q:i=t
     ·rw[if_pos q,q]
     ·rw[if_neg q]
      by_cases q2:i=s
      ·rw[if_pos q2,q2]
      ·rw[if_neg q2]
    have e2:upd (upd (λi j=>A (σ i) j) s (A (σ t))) t (A (σ s))=λi j=>A ((λi=>if i=s then s else if i=t then σ s else σ i) i) j:=by
     funext i j; unfold upd
     try dsimp only
     by_cases q:i=t
     ·rw[if_pos q,if_neg (by omega),if_pos q]
     ·rw[if_neg q]
      by_cases q2:i=s
      ·rw[if_pos q2,if_pos q2,t3]
      ·rw[if_neg q2,if_neg q2,if_neg q]
    rw[e1,e2] at ha
    rw[ha,hq]; rfl
  ·have hns:∀i,i<n->σ i≠s:=λi hi e=>by
    rcases Nat.lt_or_ge i s with q | q
    ·have:=h2 i q; omega
    ·exact hx ⟨i,q,hi,e⟩
   obtain⟨i,j,q1,q2,q3⟩:=q7a (n-1) n (λi=>if σ i<s then σ i else σ i-1) (λi hi=>by
    have:=h1 i hi
    have:=hns i hi
    (try dsimp only); split <;> omega) (by omega)
   have e:σ i=σ j:=by
    have:=hns i (by omega)
    have:=hns j q2
    try dsimp only at q3
    split at q3 <;> split at q3 <;> omega
   exact q4o (r:=i) (s:=j) (by omega) q2 (by omega) λk hk=>by rw[e]
theorem w7v {n:Nat} {A:Nat->Nat->Int} (h0:det n A=0):∀(d k:Nat),k+d=n->∀B:Nat->Nat->Int,(∀i,i<k->∃a,a<n/\∀j,j<n->B i j=A a j)->(∀i,k<=i->i<n->∃lam:Nat->Int,∀j,j<n->B i j=sm n λa=>lam a*A a j)->det n B=0
 | 0,k,hk,B,h1,_=>by
  have hx:∀i,∃a,i<n->a<n/\∀j,j<n->B i j=A a j:=λi=>by
   by_cases hi:i<n
   ·obtain⟨a,h⟩:=h1 i (by omega)
    exact⟨a,λ_=>h⟩
   ·exact⟨0,λq=>absurd q hi⟩
  obtain⟨σ,hσ⟩:=Classical.axiomOfChoice hx
  rw[qf2 n (B:=λi j=>A (σ i) j) λi j hi hj=>(hσ i hi).2 j hj]
  exact w1x h0 n 0 (by omega) σ (λi hi=>(hσ i hi).1) λi hi=>absurd hi (Nat.not_lt_zero _)
 | d+1,k,hk,B,h1,h2=>by
  obtain⟨lam,hl⟩:=h2 k (Nat.le_refl _) (by omega)
  have key:∀m,m<=n->det n (upd B k (λj=>sm m λa=>lam a*A a j))=0:=λm=>by
   induction m with
   | zero=>exact λ_=>qv2 (by omega)
   | succ m ih=>
    intro hm
    have e:(λj=>sm (m+1) λi=>lam i*A i j)=λj=>1*(sm m λi=>lam i*A i j)+lam m*A m j:=by funext j; rw[sm]; omega
    rw[e,qn7 n B k (by omega) 1 (lam m) (λj=>sm m λi=>lam i*A i j) (A m),ih (by omega)]
    have:=w7v h0 d (k+1) (by omega) (upd B k (A m)) (λi hi=>by
     by_cases q:i=k
     ·exact⟨m,by omega,λj hj=>by unfold upd; rw[if_pos q]⟩
     ·obtain⟨a,ha,hb⟩:=h1 i (by omega)
      exact⟨a,ha,λj hj=>by unfold upd; rw[if_neg q]; exact hb j hj⟩) (λi h3 h4=>by
     obtain⟨lam',h5⟩:=h2 i (by omega) h4
     exact⟨lam',λj hj=>by unfold upd; rw[if_neg (by omega)]; exact h5 j hj⟩)
    rw[this]; omega
  rw[<- key n (Nat.le_refl _)]
  refine qf2 n λi j hi hj=>?_
  unfold upd
  by_cases q:i=k
  ·rw[if_pos q,q,hl j hj]
  ·rw[if_neg q]
theorem w1y:∀(n:Nat) (d:Nat->Int),(∀i,i<n->d i≠0)->det n (λi j=>if i=j then d i else 0)≠0
 | 0,_,_=>by show(1:Int)≠0; decide
 | n+1,d,h=>by
  rw[det,qk1 (k:=0) (by omega) λi hi hne=>by
   try dsimp only
   rw[if_neg hne]; simp]
  try dsimp only
  have e:det n (λa b=>if skp 0 a=b+1 then d (skp 0 a) else 0)=det n (λa b=>if a=b then d (a+1) else 0):=qf2 n λa b ha hb=>by
   have:skp 0 a=a+1:=by unfold skp; rw[if_neg (Nat.not_lt_zero _)]
   rw[this]
   by_cases q:a=b
   ·rw[if_pos q,if_pos (by omega)]
   ·rw[if_neg q,if_neg (by omega)]
  rw[e,if_pos rfl]
  exact ql7 (ql7 (by decide) (h 0 (by omega))) (w1y n (λa=>d (a+1)) λi hi=>h (i+1) (by omega))
theorem xq9 {n:Nat} {A:Nat->Nat->Int} (h:∀k,k<n->∃(d:Int) (lam:Nat->Int),d≠0/\∀j,j<n->(sm n λi=>lam i*A i j)=if k=j then d else 0):det n A≠0:=λh0=>by
 have hx:∀k,∃d:Int,k<n->d≠0/\∃lam:Nat->Int,∀j,j<n->(sm n λi=>lam i*A i j)=if k=j then d else 0:=λk=>by
  by_cases hk:k<n
  ·obtain⟨d,lam,h1,h2⟩:=h k hk
   exact⟨d,λ_=>⟨h1,lam,h2⟩⟩
  ·exact⟨0,λq=>absurd q hk⟩
 obtain⟨d,hd⟩:=Classical.axiomOfChoice hx
 refine w1y n d (λi hi=>(hd i hi).1) (w7v h0 n 0 (by omega) _ (λi hi=>absurd hi (Nat.not_lt_zero _)) λi _ hi=>?_)
 obtain⟨_,lam,hl⟩:=hd i hi
 exact⟨lam,λj hj=>(hl j hj).symm⟩
theorem wg7 (i:Nat):(sgn i).natAbs=1:=by unfold sgn; split <;> rfl
theorem q9p {n B:Nat} {A:Nat->Nat->Int} (h1:∀i,i<n+1->(A i 0).natAbs<=1) (h2:∀i,i<n+1->(det n (λa b=>A (skp i a) (b+1))).natAbs<=B):(det (n+1) A).natAbs<=(n+1)*B:=by
 rw[det]
 refine wf6 λi hi=>?_
 rw[Int.natAbs_mul,Int.natAbs_mul,wg7,Nat.one_mul]
 calc(A i 0).natAbs*_<=1*B:=Nat.mul_le_mul (h1 i hi) (h2 i hi)
  _=B:=Nat.one_mul _
def x5b:Nat->Nat
 | 0=>1
 | n+1=>(n+1)*x5b n
theorem ww6:∀(n:Nat) {A:Nat->Nat->Int},(∀i j,i<n->j<n->(A i j).natAbs<=1)->(det n A).natAbs<=x5b n
 | 0,_,_=>Nat.le_refl _
 | n+1,A,h=>q9p (λi hi=>h i 0 hi (by omega)) λi hi=>ww6 n λa b ha hb=>h _ _ (q5e ha) (by omega)
def d3 (x y z:Nat):Int:=
 let b:=λ(c k:Nat)=>((c / 2 ^ k % 2:Nat):Int)
 b x 0*(b y 1*b z 2-b y 2*b z 1)-b y 0*(b x 1*b z 2-b x 2*b z 1)+b z 0*(b x 1*b y 2-b x 2*b y 1)
def q7c (x:Int):Int:=if 0<x then x else 0
def ya4 (p q r s:Nat):Bool:=decide (q7c (d3 q r s)+q7c (- d3 p r s)+q7c (d3 p q s)+q7c (- d3 p q r)<=4) && decide (q7c (- d3 q r s)+q7c (d3 p r s)+q7c (- d3 p q s)+q7c (d3 p q r)<=4)
theorem xi7:((List.range 8).all λp=>(List.range 8).all λq=>(List.range 8).all λr=>(List.range 8).all λs=>ya4 p q r s)=true:=by decide +kernel
theorem xi8 (A:Nat->Nat->Int):det 3 A=A 0 0*(A 1 1*A 2 2-A 1 2*A 2 1)-A 1 0*(A 0 1*A 2 2-A 0 2*A 2 1)+A 2 0*(A 0 1*A 1 2-A 0 2*A 1 1):=by
 simp[det,sm,skp,sgn]
 grind
theorem x5c (A:Nat->Nat->Int):det 4 A=A 0 0*det 3 (λa b=>A (skp 0 a) (b+1))-A 1 0*det 3 (λa b=>A (skp 1 a) (b+1))+A 2 0*det 3 (λa b=>A (skp 2 a) (b+1))-A 3 0*det 3 (λa b=>A (skp 3 a) (b+1)):=by
 rw[det]
 simp only[sm,show sgn 0=1 from rfl,show sgn 1=-1 from rfl,show sgn 2=1 from rfl,show sgn 3=-1 from rfl]
 grind
def qo4 (x y z:Int):Nat:=(x+2*y+4*z).toNat
def Bit (x:Int):Prop:=x=0\/x=1
theorem xx2 {x y z:Int} (hx:Bit x) (hy:Bit y) (hz:Bit z):qo4 x y z<8:=by unfold qo4 Bit at *; omega
theorem w7w {A:Nat->Nat->Int} (h:∀i j,i<3->j<3->Bit (A i j)):d3 (qo4 (A 0 0) (A 0 1) (A 0 2)) (qo4 (A 1 0) (A 1 1) (A 1 2)) (qo4 (A 2 0) (A 2 1) (A 2 2))=det 3 A:=by
 rw[xi8]
 have hb:∀i,i<3->((qo4 (A i 0) (A i 1) (A i 2) / 2 ^ 0 % 2:Nat):Int)=A i 0/\((qo4 (A i 0) (A i 1) (A i 2) / 2 ^ 1 % 2:Nat):Int)=A i 1/\((qo4 (A i 0) (A i 1) (A i 2) / 2 ^ 2 % 2:Nat):Int)=A i 2:=λi hi=>by
  have h0:=h i 0 hi (by omega)
  have h1:=h i 1 hi (by omega)
  have h2:=h i 2 hi (by omega)
  unfold Bit at h0 h1 h2
  unfold qo4
  rcases h0 with e0 | e0 <;> rcases h1 with e1 | e1 <;> rcases h2 with e2 | e2 <;> rw[e0,e1,e2] <;> decide
 unfold d3
 try dsimp only
 obtain⟨a0,a1,a2⟩:=hb 0 (by omega)
 obtain⟨b0,b1,b2⟩:=hb 1 (by omega)
 obtain⟨c0,c1,c2⟩:=hb 2 (by omega)
 rw[a0,a1,a2,b0,b1,b2,c0,c1,c2]
theorem qv8 {x:Int}:x<=q7c x/\0<=q7c x:=by unfold q7c; split <;> omega
theorem xi9 {A:Nat->Nat->Int} (h:∀i j,i<4->j<4->Bit (A i j)):(det 4 A).natAbs<=4:=by
 have hc:∀i,i<4->qo4 (A i 1) (A i 2) (A i 3)<8:=λi hi=>xx2 (h i 1 hi (by omega)) (h i 2 hi (by omega)) (h i 3 hi (by omega))
 have hk:=List.all_eq_true.1 (List.all_eq_true.1 (List.all_eq_true.1 (List.all_eq_true.1 xi7 _ (List.mem_range.2 (hc 0 (by omega)))) _ (List.mem_range.2 (hc 1 (by omega)))) _ (List.mem_range.2 (hc 2 (by omega)))) _ (List.mem_range.2 (hc 3 (by omega)))
 unfold ya4 at hk
 rw[Bool.and_eq_true,decide_eq_true_eq,decide_eq_true_eq] at hk
 have e:∀i,i<4->det 3 (λa b=>A (skp i a) (b+1))=d3 (qo4 (A (skp i 0) 1) (A (skp i 0) 2) (A (skp i 0) 3)) (qo4 (A (skp i 1) 1) (A (skp i 1) 2) (A (skp i 1) 3)) (qo4 (A (skp i 2) 1) (A (skp i 2) 2) (A (skp i 2) 3)):=λi hi=>
  (w7w (A:=λa b=>A (skp i a) (b+1)) λa b ha hb=>h _ _ (q5e ha) (by omega)).symm
 rw[x5c,e 0 (by omega),e 1 (by omega),e 2 (by omega),e 3 (by omega)]
 have s0:skp 0 0=1/\skp 0 1=2/\skp 0 2=3/\skp 1 0=0/\skp 1 1=2/\skp 1 2=3/\skp 2 0=0/\skp 2 1=1/\skp 2 2=3/\skp 3 0=0/\skp 3 1=1/\skp 3 2=2:=by decide
 obtain⟨k0,k1,k2,k3,k4,k5,k6,k7,k8,k9,k10,k11⟩:=s0
 rw[k0,k1,k2,k3,k4,k5,k6,k7,k8,k9,k10,k11]
 generalize d3 (qo4 (A 1 1) (A 1 2) (A 1 3)) (qo4 (A 2 1) (A 2 2) (A 2 3)) (qo4 (A 3 1) (A 3 2) (A 3 3))=m0 at hk ⊢
 generalize d3 (qo4 (A 0 1) (A 0 2) (A 0 3)) (qo4 (A 2 1) (A 2 2) (A 2 3)) (qo4 (A 3 1) (A 3 2) (A 3 3))=m1 at hk ⊢
 generalize d3 (qo4 (A 0 1) (A 0 2) (A 0 3)) (qo4 (A 1 1) (A 1 2) (A 1 3)) (qo4 (A 3 1) (A 3 2) (A 3 3))=m2 at hk ⊢
 generalize d3 (qo4 (A 0 1) (A 0 2) (A 0 3)) (qo4 (A 1 1) (A 1 2) (A 1 3)) (qo4 (A 2 1) (A 2 2) (A 2 3))=m3 at hk ⊢
 have p0:=qv8 (x:=m0); have p1:=qv8 (x:=m1); have p2:=qv8 (x:=m2); have p3:=qv8 (x:=m3)
 have n0:=qv8 (x:=-m0); have n1:=qv8 (x:=-m1); have n2:=qv8 (x:=-m2); have n3:=qv8 (x:=-m3)
 have h0:=h 0 0 (by omega) (by omega); have h1:=h 1 0 (by omega) (by omega); have h2:=h 2 0 (by omega) (by omega); have h3:=h 3 0 (by omega) (by omega)
 unfold Bit at h0 h1 h2 h3
 rcases h0 with e0 | e0 <;> rcases h1 with e1 | e1 <;> rcases h2 with e2 | e2 <;> rcases h3 with e3 | e3 <;> rw[e0,e1,e2,e3] <;> omega
def One (x:Int):Prop:=x=1\/x=-1
theorem w36 (e d:Nat->Int) (B:Nat->Nat->Int):det 4 (λi j=>-2*(e i*d j*B i j))=16*(e 0*e 1*e 2*e 3*(d 0*d 1*d 2*d 3))*det 4 B:=by
 rw[x5c,x5c,xi8,xi8,xi8,xi8,xi8,xi8,xi8,xi8]
 simp only[skp]
 simp
 grind
theorem wg8 {n:Nat} (A:Nat->Nat->Int) (c:Nat->Int) (hn:0<n):∀k,k<=n->det n (λi j=>if 0<i/\i<k then A i j-c i*A 0 j else A i j)=det n A
 | 0,_=>qf2 n λi j _ _=>by rw[if_neg (by omega)]
 | k+1,hk=>by
  rw[<- wg8 A c hn k (by omega)]
  by_cases e:k=0
  ·exact qf2 n λi j _ _=>by rw[if_neg (by omega),if_neg (by omega)]
  ·have h1:(λi j=>if 0<i/\i<k+1 then A i j-c i*A 0 j else A i j)=upd (λi j=>if 0<i/\i<k then A i j-c i*A 0 j else A i j) k (λj=>1*A k j+(- c k)*A 0 j):=by
    funext i j; unfold upd
    by_cases q:i=k
    ·rw[if_pos q,q,if_pos (by omega)]; grind
    ·rw[if_neg q]
     try dsimp only
     by_cases q2:0<i/\i<k
     ·rw[if_pos q2,if_pos (by omega)]
     ·rw[if_neg q2,if_neg (by omega)]
   have h2:upd (λi j=>if 0<i/\i<k then A i j-c i*A 0 j else A i j) k (A k)=λi j=>if 0<i/\i<k then A i j-c i*A 0 j else A i j:=by
    funext i j; unfold upd
    by_cases q:i=k
    ·rw[if_pos q,q,if_neg (by omega)]
    ·rw[if_neg q]
   have h3:det n (upd (λi j=>if 0<i/\i<k then A i j-c i*A 0 j else A i j) k (A 0))=0:=q4o (r:=k) (s:=0) (by omega) hn e λj hj=>by
    unfold upd
    rw[if_pos rfl,if_neg (Ne.symm e)]
    try dsimp only
    rw[if_neg (by omega)]
   rw[h1,qn7 n _ k (by omega),h2,h3]; omega
theorem xr0 {x:Int} (h:One x):x*x=1:=by rcases h with rfl | rfl <;> rfl
theorem q7d {x:Int} (h:One x):x.natAbs=1:=by rcases h with rfl | rfl <;> rfl
theorem xj0 {A:Nat->Nat->Int} (h:∀i j,i<5->j<5->One (A i j)):(det 5 A).natAbs<=64:=by
 obtain⟨B,hB⟩:∃B:Nat->Nat->Int,∀i j,B i j=if A (i+1) 0*A (i+1) (j+1)=A 0 0*A 0 (j+1) then 0 else 1:=⟨_,λ_ _=>rfl⟩
 have hbit:∀i j,i<4->j<4->Bit (B i j):=λi j _ _=>by
  rw[hB]; unfold Bit; split
  ·exact .inl rfl
  ·exact .inr rfl
 rw[<- wg8 A (λi=>A i 0*A 0 0) (by omega) 5 (Nat.le_refl _),det,qk1 (k:=0) (by omega) λi hi hne=>?_]
 ·try dsimp only
  have e:det 4 (λa b=>if 0<skp 0 a/\skp 0 a<5 then A (skp 0 a) (b+1)-A (skp 0 a) 0*A 0 0*A 0 (b+1) else A (skp 0 a) (b+1))=det 4 (λi j=>-2*((λi=>A (i+1) 0) i*(λj=>A 0 0*A 0 (j+1)) j*B i j)):=qf2 4 λa b ha hb=>by
   have es:skp 0 a=a+1:=by unfold skp; rw[if_neg (Nat.not_lt_zero _)]
   rw[es,if_pos (by omega),hB]
   try dsimp only
   have o1:=h (a+1) 0 (by omega) (by omega)
   have o2:=h (a+1) (b+1) (by omega) (by omega)
   have o3:=h 0 0 (by omega) (by omega)
   have o4:=h 0 (b+1) (by omega) (by omega)
   unfold One at o1 o2 o3 o4
   rcases o1 with q1 | q1 <;> rcases o2 with q2 | q2 <;> rcases o3 with q3 | q3 <;> rcases o4 with q4 | q4 <;> rw[q1,q2,q3,q4] <;> decide
  rw[e,w36,if_neg (by omega)]
  have b4:=xi9 hbit
  have o:=λi j (hi:i<5) (hj:j<5)=>q7d (h i j hi hj)
  simp only[Int.natAbs_mul,wg7,o 0 0 (by omega) (by omega),o 1 0 (by omega) (by omega),o 2 0 (by omega) (by omega),o 3 0 (by omega) (by omega),o 4 0 (by omega) (by omega),o 0 1 (by omega) (by omega),o 0 2 (by omega) (by omega),o 0 3 (by omega) (by omega),o 0 4 (by omega) (by omega),Nat.mul_one,Nat.one_mul,show(0+1)=1 from rfl,show(1+1)=2 from rfl,show(2+1)=3 from rfl,show(3+1)=4 from rfl,show(16:Int).natAbs=16 from rfl]
  omega
 ·try dsimp only
  rw[if_pos (by omega),Int.mul_assoc (A i 0),xr0 (h 0 0 (by omega) (by omega))]
  simp
theorem q7e:∀k,k<=5->∀A:Nat->Nat->Int,(∀i j,i<5->j<5->(A i j).natAbs<=1)->(∀i j,i<5->k<=i->j<5->A i j≠0)->(det 5 A).natAbs<=64
 | 0,_,A,h1,h2=>xj0 λi j hi hj=>by
  have:=h1 i j hi hj
  have:=h2 i j hi (Nat.zero_le _) hj
  unfold One; omega
 | k+1,hk,A,h1,h2=>by
  have key:∀t,t<=5->∀v:Nat->Int,(∀j,j<5->(v j).natAbs<=1)->(∀j,j<5->t<=j->v j≠0)->(det 5 (upd A k v)).natAbs<=64:=λt=>by
   induction t with
   | zero=>
    intro _ v hv1 hv2
    refine q7e k (by omega) _ (λi j hi hj=>?_) λi j hi hki hj=>?_
    ·unfold upd; split
     ·exact hv1 j hj
     ·exact h1 i j hi hj
    ·unfold upd; split
     ·exact hv2 j hj (Nat.zero_le _)
     ·exact h2 i j hi (by omega) hj
   | succ t ih=>
    intro ht v hv1 hv2
    by_cases e:v t=0
    ·have a1:=ih (by omega) (λj=>if j=t then 1 else v j) (λj hj=>by
      (try dsimp only); split
      ·decide
      ·exact hv1 j hj) (λj hj htj=>by
      (try dsimp only); split
      ·decide
      ·exact hv2 j hj (by omega))
     have a2:=ih (by omega) (λj=>if j=t then -1 else v j) (λj hj=>by
      (try dsimp only); split
      ·decide
      ·exact hv1 j hj) (λj hj htj=>by
      (try dsimp only); split
      ·decide
      ·exact hv2 j hj (by omega))
     have e1:=qn7 5 A k (by omega) 1 1 (λj=>if j=t then 1 else v j) (λj=>if j=t then -1 else v j)
     have e2:=qn7 5 A k (by omega) 2 0 v v
     have e3:(λj=>(1:Int)*(if j=t then 1 else v j)+1*(if j=t then -1 else v j))=λj=>2*v j+0*v j:=by
      funext j
      by_cases q:j=t
      ·rw[if_pos q,if_pos q,q,e]; rfl
      ·rw[if_neg q,if_neg q]; omega
     rw[e3,e2] at e1
     omega
    ·exact ih (by omega) v hv1 λj hj htj=>by
      rcases Nat.lt_or_ge t j with q | q
      ·exact hv2 j hj q
      ·rw[show j=t by omega]; exact e
  have:=key 5 (Nat.le_refl _) (A k) (λj hj=>h1 k j (by omega) hj) λj hj h5=>by omega
  rwa [qv1] at this
theorem w7x {n:Nat} (hn:n<=6) {A:Nat->Nat->Int} (h:∀i j,i<n->j<n->(A i j).natAbs<=1):(det n A).natAbs<=400:=by
 have h5:∀{A:Nat->Nat->Int},(∀i j,i<5->j<5->(A i j).natAbs<=1)->(det 5 A).natAbs<=64:=λ{A} h=>q7e 5 (Nat.le_refl _) A h λi j hi h5=>by omega
 rcases Nat.lt_or_ge n 5 with q | q
 ·have:=ww6 n h
  have hf:∀k:Fin 5,x5b k.val<=400:=by decide
  exact Nat.le_trans this (hf ⟨n,q⟩)
 ·rcases Nat.lt_or_ge n 6 with q2 | q2
  ·obtain rfl:n=5:=by omega
   exact Nat.le_trans (h5 h) (by decide)
  ·obtain rfl:n=6:=by omega
   exact Nat.le_trans (q9p (n:=5) (B:=64) (λi hi=>h i 0 hi (by omega)) λi hi=>h5 λa b ha hb=>h _ _ (q5e ha) (by omega)) (by decide)
end Go.Proofs.YtmijnbjlhnpokaaGreat
