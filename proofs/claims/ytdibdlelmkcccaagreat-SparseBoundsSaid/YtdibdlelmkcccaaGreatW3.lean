/- Reduced rows as lists: one step of an elimination, whoever takes it. Plain mathematics. No condition. -/
import Derived.Test.YtdibdlelmkcccaaGreatW1
set_option linter.unusedVariables false
namespace Go.Proofs.YtdibdlelmkcccaaGreat
structure El (n W:Nat) (R ρ:Nat->Nat->Int) (pv:Nat->Option Nat):Prop where
 comb:∀a,a<n->∃(c:Int) (l:Nat->Int),c≠0/\(∀j,j<W->c*ρ a j=sm n λb=>l b*R b j)/\(∀b,b<n->l b≠0->pv b≠none\/b=a)/\(pv a=none->l a≠0)
 ind:∀ν:Nat->Int,(∀b,b<n->ν b≠0->pv b≠none)->(∀t p,t<n->pv t=some p->(sm n λb=>ν b*R b p)=0)->∀b,b<n->ν b=0
 piv:∀t p,t<n->pv t=some p->p<W/\ρ t p≠0/\∀a,a<n->a≠t->ρ a p=0
theorem El.start {n W:Nat} {R ρ:Nat->Nat->Int} (h:∀a,a<n->∃c:Int,c≠0/\∀j,j<W->c*ρ a j=R a j):El n W R ρ (λ_=>none):=by
 refine⟨λa ha=>?_,fun ν h1 _ b hb=>?_,λt p _ h=>by cases h⟩
 ·obtain⟨c,hc,h1⟩:=h a ha
  refine⟨c,λb=>if b=a then 1 else 0,hc,λj hj=>?_,λb _ hb=>?_,λ_=>by simp⟩
  ·rw[h1 j hj,qs3 ha λi _ hne=>by(try dsimp only); rw[if_neg hne]; simp]
   (try dsimp only); rw[if_pos rfl]; omega
  ·by_cases e:b=a
   ·exact .inr e
   ·(try dsimp only at hb); rw[if_neg e] at hb; exact absurd rfl hb
 ·rcases Classical.em (ν b=0) with q | q
  ·exact q
  ·exact absurd rfl (h1 b hb q)
theorem qu2 {a b:Int} (ha:a≠0) (hb:b≠0):a*b≠0:=λh=>(Int.mul_eq_zero.1 h).elim ha hb
theorem qd0 {a b:Int} (h:a*b=0) (ha:a≠0):b=0:=(Int.mul_eq_zero.1 h).resolve_left ha
theorem El.step {n W:Nat} {R ρ ρ':Nat->Nat->Int} {pv:Nat->Option Nat} {t0 j:Nat} (h:El n W R ρ pv) (ht:t0<n) (hp:pv t0=none) (hj:j<W) (hx:ρ t0 j≠0)
  (hT:∃s:Int,s≠0/\∀c,c<W->ρ' t0 c=s*ρ t0 c) (hO:∀a,a<n->a≠t0->ρ' a j=0/\∃α β γ:Int,α≠0/\β≠0/\∀c,c<W->α*ρ' a c=β*ρ a c-γ*ρ' t0 c) :
  El n W R ρ' (λb=>if b=t0 then some j else pv b):=by
 obtain⟨s,hs,hsT⟩:=hT
 obtain⟨c0,l0,hc0,hl0,hs0,hn0⟩:=h.comb t0 ht
 have hn0:=hn0 hp
 have hpv:∀b,(if b=t0 then some j else pv b)≠none↔(pv b≠none\/b=t0):=λb=>by
  by_cases e:b=t0
  ·rw[if_pos e]; exact⟨λ_=>.inr e,λ_=>by simp⟩
  ·rw[if_neg e]; exact⟨.inl,λq=>q.resolve_right e⟩
 refine⟨λa ha=>?_,fun ν h1 h2=>?_,λt p htn htp=>?_⟩
 ·by_cases e:a=t0
  ·subst e
   refine⟨c0,λb=>s*l0 b,hc0,λc hc=>?_,λb hb hne=>(hs0 b hb λq=>hne (by(try dsimp only); rw[q,Int.mul_zero])).imp (λq=>(hpv b).2 (.inl q)) id,λq=>absurd q (by simp)⟩
   have e1:(sm n λb=>s*l0 b*R b c)=s*sm n (λb=>l0 b*R b c):=by rw[<- qp2]; exact qf5 λi _=>Int.mul_assoc _ _ _
   rw[e1,<- hl0 c hc,hsT c hc]
   grind
  ·obtain⟨hz,α,β,γ,hα,hβ,hrel⟩:=hO a ha e
   obtain⟨ca,la,hca,hla,hsa,hna⟩:=h.comb a ha
   refine⟨ca*c0*α,λb=>c0*β*la b-ca*γ*s*l0 b,qu2 (qu2 hca hc0) hα,λc hc=>?_,λb hb hne=>?_,λq=>?_⟩
   ·rw[qt2 n (c0*β) (ca*γ*s) la l0 (λb=>R b c),<- hla c hc,<- hl0 c hc]
    have h3:=hrel c hc
    rw[hsT c hc] at h3
    grind
   ·by_cases q1:la b=0
    ·by_cases q2:l0 b=0
     ·exact absurd (by(try dsimp only); rw[q1,q2]; simp) hne
     ·exact .inl ((hpv b).2 ((hs0 b hb q2).imp id id))
    ·rcases hsa b hb q1 with q | q
     ·exact .inl ((hpv b).2 (.inl q))
     ·exact .inr q
   ·have hpa:pv a=none:=by
     rcases Classical.em (pv a=none) with k | k
     ·exact k
     ·exact absurd q ((hpv a).2 (.inl k))
    have h0:l0 a=0:=Classical.byContradiction λk=>by
     rcases hs0 a ha k with k | k
     ·exact k hpa
     ·exact e k
    (try dsimp only); rw[h0]
    have:=qu2 (qu2 hc0 hβ) (hna hpa)
    simpa using this
 ·-- independent
  have hcol:∀p,(sm n λb=>ν b*R b p)=0->(sm n λb=>(l0 t0*ν b-ν t0*l0 b)*R b p)=- (ν t0*sm n λb=>l0 b*R b p):=λp hp=>by
   rw[qt2 n (l0 t0) (ν t0) ν l0 (λb=>R b p),hp]; simp
  have h2':∀t p,t<n->(if t=t0 then some j else pv t)=some p->(sm n λb=>ν b*R b p)=0:=h2
  have hz:=h.ind (λb=>l0 t0*ν b-ν t0*l0 b) (λb hb hne=>by
   by_cases e:b=t0
   ·subst e; exact absurd (by(try dsimp only); grind) hne
   ·by_cases q1:ν b=0
    ·by_cases q2:l0 b=0
     ·exact absurd (by(try dsimp only); rw[q1,q2]; simp) hne
     ·exact(hs0 b hb q2).resolve_right e
    ·exact((hpv b).1 (h1 b hb q1)).resolve_right e) (λt p htn htp=>by
   have hne:t≠t0:=λe=>by rw[e,hp] at htp; cases htp
   have hR:=h2' t p htn (by rw[if_neg hne]; exact htp)
   obtain⟨hpW,_,hpa⟩:=h.piv t p htn htp
   rw[hcol p hR,<- hl0 p hpW,hpa t0 ht (Ne.symm hne)]
   simp)
  have h0:ν t0=0:=by
   have hR:=h2' t0 j ht (if_pos rfl)
   have e1:=hcol j hR
   have e2:(sm n λb=>(l0 t0*ν b-ν t0*l0 b)*R b j)=0:=qr9 λb hb=>by have:=hz b hb; (try dsimp only at this ⊢); rw[this]; simp
   rw[e2,<- hl0 j hj] at e1
   have e3:(c0*ρ t0 j)*ν t0=0:=by grind
   exact qd0 e3 (qu2 hc0 hx)
  intro b hb
  have e1:=hz b hb
  try dsimp only at e1
  rw[h0] at e1
  exact qd0 (a:=l0 t0) (by grind) hn0
 ·by_cases e:t=t0
  ·subst e
   rw[if_pos rfl] at htp
   obtain rfl:=Option.some.inj htp
   refine⟨hj,by rw[hsT j hj]; exact qu2 hs hx,λa ha hne=>(hO a ha hne).1⟩
  ·rw[if_neg e] at htp
   obtain⟨hpW,hpt,hpa⟩:=h.piv t p htn htp
   have h0:ρ' t0 p=0:=by rw[hsT p hpW,hpa t0 ht (Ne.symm e)]; simp
   refine⟨hpW,λq=>?_,λa ha hne=>?_⟩
   ·obtain⟨_,α,β,γ,hα,hβ,hrel⟩:=hO t htn e
    have h3:=hrel p hpW
    rw[q,h0] at h3
    exact qu2 hβ hpt (by grind)
   ·by_cases e2:a=t0
    ·rw[e2]; exact h0
    ·obtain⟨_,α,β,γ,hα,hβ,hrel⟩:=hO a ha e2
     have h3:=hrel p hpW
     rw[h0,hpa a ha hne] at h3
     exact qd0 (a:=α) (by grind) hα
def x1r (W:Nat) (r0 r:Nat->Int):Prop:=(∃s:Int,(s=1\/s=-1)/\∀c,c<W->r c=s*r0 c)\/(∀c,c<W->r c=0)\/∀d:Nat,(∀c,c<W->d∣(r c).natAbs)->d=1
theorem wo3 {W:Nat} {r s:Nat->Int} {α β:Int} (hα:α≠0) (h:∀c,c<W->α*r c=β*s c) (hp:∀d:Nat,(∀c,c<W->d∣(r c).natAbs)->d=1):∀c,c<W->(r c).natAbs<=(s c).natAbs:=by
 have hg:0<Nat.gcd α.natAbs β.natAbs:=Nat.gcd_pos_of_pos_left _ (by omega)
 obtain⟨a',ha'⟩:=Nat.gcd_dvd_left α.natAbs β.natAbs
 obtain⟨b',hb'⟩:=Nat.gcd_dvd_right α.natAbs β.natAbs
 have hco:Nat.Coprime b' a':=by
  have:=Nat.coprime_div_gcd_div_gcd hg
  have e1:α.natAbs / Nat.gcd α.natAbs β.natAbs=a':=by
   conv=>lhs; lhs; rw[ha']
   exact Nat.mul_div_cancel_left _ hg
  have e2:β.natAbs / Nat.gcd α.natAbs β.natAbs=b':=by
   conv=>lhs; lhs; rw[hb']
   exact Nat.mul_div_cancel_left _ hg
  rw[e1,e2] at this
  exact this.symm
 have habs:∀c,c<W->a' * (r c).natAbs=b' * (s c).natAbs:=λc hc=>by
  have h1:=congrArg Int.natAbs (h c hc)
  rw[Int.natAbs_mul,Int.natAbs_mul] at h1
  generalize Nat.gcd α.natAbs β.natAbs=g at hg ha' hb'
  rw[ha',hb',Nat.mul_assoc,Nat.mul_assoc] at h1
  exact Nat.eq_of_mul_eq_mul_left hg h1
 have hb1:b'=1:=hp b' λc hc=>hco.dvd_of_dvd_mul_left ⟨_,habs c hc⟩
 have ha1:0<a':=by
  rcases Nat.eq_zero_or_pos a' with q | q
  ·rw[q,Nat.mul_zero] at ha'; omega
  ·exact q
 intro c hc
 have h1:=habs c hc
 rw[hb1,Nat.one_mul] at h1
 rw[<- h1]
 exact Nat.le_mul_of_pos_left _ ha1
theorem El.bound {n W:Nat} {R ρ:Nat->Nat->Int} {pv:Nat->Option Nat} (h:El n W R ρ pv) (hone:∀t p,t<n->pv t=some p->∀b,b<n->(R b p).natAbs<=1) {a:Nat} (ha:a<n) (hnice:x1r W (R a) (ρ a)) {B:Nat} {c:Nat} (hc:c<W) (hB:∀b,b<n->(R b c).natAbs<=B):(ρ a c).natAbs<=n ^ n*B:=by
 have hn:0<n:=by omega
 have hpw:1<=n ^ n:=Nat.pow_pos hn
 rcases hnice with⟨s,hs,hr⟩ | hr | hr
 ·rw[hr c hc,Int.natAbs_mul]
  have h1:=hB a ha
  have h2:s.natAbs=1:=by rcases hs with rfl | rfl <;> rfl
  rw[h2,Nat.one_mul]
  exact Nat.le_trans h1 (Nat.le_mul_of_pos_left _ hpw)
 ·rw[hr c hc]; simp
 -- few equations
 obtain⟨l,hl⟩:∃form:Nat->Nat->Int,∀b,form b=(match pv b with
  | some p=>λx=>R x p
  | none=>λx=>if x=b then 1 else 0):=⟨_,λ_=>rfl⟩
 obtain⟨z,⟨a0,ha0,hza⟩,hzb,hze⟩:=x1q hn (((List.range n).erase a).map l) (by
  rw[List.length_map,List.length_erase_of_mem (List.mem_range.2 ha),List.length_range]; omega) (λf hf x hx=>by
  obtain⟨b,hb,rfl⟩:=List.mem_map.1 hf
  have hbn:=List.mem_range.1 (List.mem_of_mem_erase hb)
  rw[hl]
  cases hpb:pv b with
  | some p=>exact hone b p hbn hpb x hx
  | none=>(try dsimp only); split <;> simp)
 have heq:∀b,b<n->b≠a->sm n (λx=>l b x*z x)=0:=λb hb hne=>hze (l b) (List.mem_map.2 ⟨b,(List.mem_erase_of_ne hne).2 (List.mem_range.2 hb),rfl⟩)
 have hcol:∀t p,t<n->t≠a->pv t=some p->(sm n λb=>z b*R b p)=0:=λt p ht hne htp=>by
  have:=heq t ht hne
  rw[hl,htp] at this
  rw[<- this]
  exact qf5 λi _=>Int.mul_comm _ _
 have hnul:∀b,b<n->b≠a->pv b=none->z b=0:=λb hb hne hpb=>by
  have:=heq b hb hne
  rw[hl,hpb,qs3 hb λi _ hi=>by simp[hi]] at this
  simpa using this
 obtain⟨c1,la,hc1,hla,hsa,hna⟩:=h.comb a ha
 obtain⟨s,hs⟩:∃s:Nat->Int,s=λc=>sm n λb=>z b*R b c:=⟨_,rfl⟩
 have hpar:∃α β:Int,α≠0/\∀c,c<W->α*ρ a c=β*s c:=by
  cases hpa:pv a with
  | none=>
   have hz:=h.ind (λb=>z a*la b-la a*z b) (λb hb hne hpb=>by
    by_cases e:b=a
    ·subst e; exact hne (by(try dsimp only); grind)
    ·have q1:la b=0:=Classical.byContradiction λq=>(hsa b hb q).elim (λk=>k hpb) e
     (try dsimp only at hne); rw[q1,hnul b hb e hpb] at hne
     exact hne (by simp)) (λt p ht htp=>by
    have hne:t≠a:=λe=>by rw[e,hpa] at htp; cases htp
    obtain⟨hpW,_,hp0⟩:=h.piv t p ht htp
    rw[qt2 n (z a) (la a) la z (λb=>R b p),<- hla p hpW,hcol t p ht hne htp,hp0 a ha (Ne.symm hne)]
    simp)
   have hza0:z a≠0:=λq=>by
    have:=hz a0 ha0
    try dsimp only at this
    rw[q] at this
    exact hza (qd0 (a:=la a) (by grind) (hna hpa))
   refine⟨z a*c1,la a,qu2 hza0 hc1,λc hc=>?_⟩
   have e1:(sm n λb=>(z a*la b-la a*z b)*R b c)=0:=qr9 λb hb=>by have:=hz b hb; (try dsimp only at this ⊢); rw[this]; simp
   rw[qt2 n (z a) (la a) la z (λb=>R b c),<- hla c hc] at e1
   rw[hs]
   grind
  | some p=>
   obtain⟨hpW,hpa0,hp0⟩:=h.piv a p ha hpa
   have hz:=h.ind (λb=>(c1*ρ a p)*z b-s p*la b) (λb hb hne hpb=>by
    have hba:b≠a:=λe=>by rw[e,hpa] at hpb; cases hpb
    have q1:la b=0:=Classical.byContradiction λq=>(hsa b hb q).elim (λk=>k hpb) hba
    (try dsimp only at hne); rw[q1,hnul b hb hba hpb] at hne
    exact hne (by simp)) (λt q ht htq=>by
    obtain⟨hqW,_,hq0⟩:=h.piv t q ht htq
    rw[qt2 n (c1*ρ a p) (s p) z la (λb=>R b q),<- hla q hqW]
    by_cases e:t=a
    ·subst e
     rw[hpa] at htq
     obtain rfl:=Option.some.inj htq
     rw[hs]
     grind
    ·rw[hcol t q ht e htq,hq0 a ha (Ne.symm e)]
     simp)
   have he:s p≠0:=λq=>by
    have:=hz a0 ha0
    try dsimp only at this
    rw[q] at this
    exact hza (qd0 (a:=c1*ρ a p) (by grind) (qu2 hc1 hpa0))
   refine⟨s p*c1,c1*ρ a p,qu2 he hc1,λc hc=>?_⟩
   have e1:(sm n λb=>((c1*ρ a p)*z b-s p*la b)*R b c)=0:=qr9 λb hb=>by have:=hz b hb; (try dsimp only at this ⊢); rw[this]; simp
   rw[qt2 n (c1*ρ a p) (s p) z la (λb=>R b c),<- hla c hc] at e1
   have e2:s c=sm n λb=>z b*R b c:=by rw[hs]
   rw[<- e2] at e1
   grind
 obtain⟨α,β,hα,hab⟩:=hpar
 have h1:=wo3 hα hab hr c hc
 have h2:(s c).natAbs<=n*(n ^ (n-1)*B):=by
  rw[hs]
  refine x1o λb hb=>?_
  rw[Int.natAbs_mul]
  exact Nat.mul_le_mul (hzb b hb) (hB b hb)
 have h3:n*(n ^ (n-1)*B)=n ^ n*B:=by
  rw[<- Nat.mul_assoc,Nat.mul_comm n,<- Nat.pow_succ,show(n-1).succ=n by omega]
 omega
def dt (W:Nat) (r:List Int) (z:Nat->Int):Int:=sm W λc=>nI r c*z c
theorem w1m {W:Nat} {r' r p:List Int} {z:Nat->Int} {α β γ:Int} (h:∀c,c<W->α*nI r' c=β*nI r c-γ*nI p c):α*dt W r' z=β*dt W r z-γ*dt W p z:=by
 unfold dt
 rw[<- qp2,<- qp2,<- qp2,<- xl9]
 refine qf5 λc hc=>?_
 have:=h c hc
 rw[<- Int.mul_assoc,this,Int.sub_mul,Int.mul_assoc,Int.mul_assoc]
theorem ql1 (P:List Int) (x:Int) {q:Nat} (h:q<P.length):nI (P++[x]) q=nI P q:=by
 rw[qh7 _ q (by rw[List.length_append]; omega),qh7 _ q h,List.getElem_append_left h]
theorem qr4 (P:List Int) (x:Int):nI (P++[x]) P.length=x:=by
 rw[qh7 _ _ (by rw[List.length_append]; exact Nat.lt_succ_self _),List.getElem_append_right (Nat.le_refl _)]
 simp
theorem q7a {a x:Int} (ha:0<a) (h:0<a*x):0<x:=Int.lt_of_mul_lt_mul_left (a:=a) (by rw[Int.mul_zero]; exact h) (by omega)
structure Elm (W j:Nat) (r' r p:List Int):Prop where
 zero:nI r' j=0
 rel:∃α β γ:Int,0<α/\0<β/\∀c,c<W->α*nI r' c=β*nI r c-γ*nI p c
 nice:∀f,x1r W f (nI r)->x1r W f (nI r')
structure St (n W:Nat) (R:Nat->Nat->Int) (j:Nat) (rows:List (List Int)) (P:List Int):Prop where
 len:rows.length=n
 each:∀i,i<n->(nL rows i).length=W
 tag:∃(ρ:Nat->Nat->Int) (pv:Nat->Option Nat) (τ:Nat->Nat),El n W R ρ pv/\(∀i,i<n->τ i<n)/\(∀i k,i<n->k<n->τ i=τ k->i=k)/\(∀a,a<n->∃i,i<n/\τ i=a)/\(∀i,i<n->∀c,c<W->ρ (τ i) c=nI (nL rows i) c)/\(∀q,q<n->pv (τ q)=if q<P.length then some (nI P q).toNat else none)/\∀i,i<n->x1r W (R (τ i)) (nI (nL rows i))
 sol:∀z:Nat->Int,(∀a,a<n->(sm W λc=>R a c*z c)=0)↔∀i,i<n->dt W (nL rows i) z=0
 pl:P.length<=n
 zero:∀i,P.length<=i->i<n->∀c,c<j->nI (nL rows i) c=0
 pos:∀q,q<P.length->0<=nI P q/\nI P q<j/\0<nI (nL rows q) (nI P q).toNat/\(∀c,c<(nI P q).toNat->nI (nL rows q) c=0)/\∀i,i<n->i≠q->nI (nL rows i) (nI P q).toNat=0
 asc:∀q k,q<k->k<P.length->nI P q<nI P k
theorem St.skip {n W:Nat} {R:Nat->Nat->Int} {j:Nat} {rows:List (List Int)} {P:List Int} (h:St n W R j rows P) (hz:∀i,P.length<=i->i<n->nI (nL rows i) j=0):St n W R (j+1) rows P:=by
 refine⟨h.len,h.each,h.tag,h.sol,h.pl,λi h1 h2 c hc=>?_,λq hq=>?_,h.asc⟩
 ·rcases Nat.lt_succ_iff_lt_or_eq.1 hc with e | e
  ·exact h.zero i h1 h2 c e
  ·rw[e]; exact hz i h1 h2
 ·obtain⟨q1,q2,q3,q4,q5⟩:=h.pos q hq
  exact⟨q1,by omega,q3,q4,q5⟩
theorem St.step {n W:Nat} {R:Nat->Nat->Int} {j:Nat} {rows rows':List (List Int)} {P:List Int} (h:St n W R j rows P) (hj:j<W) (hk:P.length<n) (hlen:rows'.length=n) (heach:∀i,i<n->(nL rows' i).length=W)
  (π:Nat->Nat) (hπ:∀i,i<n->π i<n) (hinj:∀i k,i<n->k<n->π i=π k->i=k) (hsur:∀i,i<n->∃k,k<n/\π k=i) (hfix:∀i,i<P.length->π i=i)
  (hx:∃s:Int,(s=1\/s=-1)/\∀c,c<W->nI (nL rows' P.length) c=s*nI (nL rows (π P.length)) c) (hpos:0<nI (nL rows' P.length) j)
  (ho:∀i,i<n->i≠P.length->Elm W j (nL rows' i) (nL rows (π i)) (nL rows' P.length)):St n W R (j+1) rows' (P++[(j:Int)]):=by
 obtain⟨s,hs,hsx⟩:=hx
 have hs0:s≠0:=by rcases hs with rfl | rfl <;> decide
 have hge:∀i,P.length<=i->i<n->P.length<=π i:=λi h1 h2=>by
  rcases Nat.lt_or_ge (π i) P.length with e | e
  ·have:=hinj (π i) i (hπ i h2) h2 (hfix _ e)
   omega
  ·exact e
 have hnx:nI (nL rows (π P.length)) j≠0:=λe=>by
  have:=hsx j hj
  rw[e,Int.mul_zero] at this
  omega
 have hpk:∀c,c<j->nI (nL rows' P.length) c=0:=λc hc=>by
  rw[hsx c (by omega),h.zero _ (hge _ (Nat.le_refl _) hk) (hπ _ hk) c hc,Int.mul_zero]
 have hpz:∀q,q<P.length->nI (nL rows' P.length) (nI P q).toNat=0:=λq hq=>by
  have:=h.pos q hq
  exact hpk _ (by omega)
 obtain⟨ρ,pv,τ,hE,t1,t2,t3,t4,t5,t6⟩:=h.tag
 have hsur2:∀a,∃i,a<n->i<n/\τ (π i)=a:=λa=>by
  by_cases ha:a<n
  ·obtain⟨i,hi,e⟩:=t3 a ha
   obtain⟨k,hk,e2⟩:=hsur i hi
   exact⟨k,λ_=>⟨hk,by rw[e2,e]⟩⟩
  ·exact⟨0,λq=>absurd q ha⟩
 obtain⟨σ,hσ⟩:=Classical.axiomOfChoice hsur2
 have hστ:∀i,i<n->σ (τ (π i))=i:=λi hi=>by
  obtain⟨q1,q2⟩:=hσ (τ (π i)) (t1 _ (hπ i hi))
  exact hinj _ _ q1 hi (t2 _ _ (hπ _ q1) (hπ _ hi) q2)
 refine⟨hlen,heach,⟨λa c=>nI (nL rows' (σ a)) c,λb=>if b=τ (π P.length) then some j else pv b,λi=>τ (π i),?_,λi hi=>t1 _ (hπ i hi),λi k hi hk e=>hinj _ _ hi hk (t2 _ _ (hπ i hi) (hπ k hk) e),λa ha=>⟨σ a,hσ a ha⟩,λi hi c hc=>by dsimp only; rw[hστ i hi],λq hq=>?_,λi hi=>?_⟩,λz=>?_,by rw[List.length_append]; exact hk,λi h1 h2 c hc=>?_,λq hq=>?_,λq k h1 h2=>?_⟩
 ·refine hE.step (t1 _ (hπ _ hk)) ?_ hj ?_ ⟨s,hs0,λc hc=>?_⟩ λa ha hne=>?_
  ·rw[t5 _ (hπ _ hk),if_neg (Nat.not_lt.2 (hge _ (Nat.le_refl _) hk))]
  ·rw[t4 _ (hπ _ hk) j hj]; exact hnx
  ·try dsimp only
   rw[hστ _ hk,hsx c hc,t4 _ (hπ _ hk) c hc]
  ·obtain⟨q1,q2⟩:=hσ a ha
   have hne2:σ a≠P.length:=λe=>hne (by rw[<- q2,e])
   have hel:=ho _ q1 hne2
   refine⟨hel.zero,?_⟩
   obtain⟨α,β,γ,hα,hβ,hr⟩:=hel.rel
   refine⟨α,β,γ,by omega,by omega,λc hc=>?_⟩
   try dsimp only
   rw[hστ _ hk,hr c hc]
   have:=t4 _ (hπ _ q1) c hc
   rw[q2] at this
   rw[this]
 ·dsimp only
  by_cases e:q=P.length
  ·subst e
   rw[if_pos rfl,if_pos (by rw[List.length_append]; exact Nat.lt_succ_self _),qr4]
   rfl
  ·rw[if_neg λq2=>e (hinj _ _ hq hk (t2 _ _ (hπ _ hq) (hπ _ hk) q2)),t5 _ (hπ _ hq),List.length_append]
   rcases Nat.lt_or_ge q P.length with e2 | e2
   ·rw[hfix _ e2,if_pos e2,if_pos (by omega),ql1 _ _ e2]
   ·rw[if_neg (Nat.not_lt.2 (hge _ e2 hq)),if_neg (by simp; omega)]
 ·dsimp only
  by_cases e:i=P.length
  ·subst e
   rcases t6 _ (hπ _ hi) with⟨u,hu,hr⟩ | hr | hr
   ·refine .inl ⟨s*u,?_,λc hc=>by rw[hsx c hc,hr c hc,Int.mul_assoc]⟩
    rcases hs with rfl | rfl <;> rcases hu with rfl | rfl <;> simp
   ·exact .inr (.inl λc hc=>by rw[hsx c hc,hr c hc,Int.mul_zero])
   ·refine .inr (.inr λd hd=>hr d λc hc=>?_)
    have:=hd c hc
    rw[hsx c hc,Int.natAbs_mul] at this
    have h1:s.natAbs=1:=by rcases hs with rfl | rfl <;> rfl
    rwa [h1,Nat.one_mul] at this
  ·exact(ho i hi e).nice _ (t6 _ (hπ _ hi))
 ·rw[h.sol z]
  have hdk:dt W (nL rows' P.length) z=s*dt W (nL rows (π P.length)) z:=by
   have:=w1m (W:=W) (r':=nL rows' P.length) (r:=nL rows (π P.length)) (p:=[]) (z:=z) (α:=1) (β:=s) (γ:=0) λc hc=>by rw[hsx c hc]; simp
   simpa using this
  constructor
  ·intro hz i hi
   have hzk:dt W (nL rows' P.length) z=0:=by rw[hdk,hz _ (hπ _ hk),Int.mul_zero]
   by_cases e:i=P.length
   ·rw[e]; exact hzk
   ·obtain⟨α,β,γ,hα,hβ,hr⟩:=(ho i hi e).rel
    have:=w1m (z:=z) hr
    rw[hzk,hz _ (hπ _ hi),Int.mul_zero,Int.mul_zero] at this
    exact qd0 (by omega) (show α≠0 by omega)
  ·intro hz i' hi'
   obtain⟨i,hi,rfl⟩:=hsur i' hi'
   by_cases e:i=P.length
   ·have:=hz _ hk
    rw[hdk] at this
    rw[e]
    exact qd0 this hs0
   ·obtain⟨α,β,γ,hα,hβ,hr⟩:=(ho i hi e).rel
    have:=w1m (z:=z) hr
    rw[hz _ hk,hz _ hi,Int.mul_zero,Int.mul_zero] at this
    exact qd0 (a:=β) (by omega) (by omega)
 ·rw[List.length_append] at h1
  have h1:P.length+1<=i:=h1
  have hel:=ho i h2 (by omega)
  rcases Nat.lt_succ_iff_lt_or_eq.1 hc with e | e
  ·obtain⟨α,β,γ,hα,hβ,hr⟩:=hel.rel
   have:=hr c (by omega)
   rw[hpk c e,h.zero _ (hge _ (by omega) h2) (hπ _ h2) c e] at this
   exact qd0 (a:=α) (by simpa using this) (by omega)
  ·rw[e]; exact hel.zero
 ·rw[List.length_append] at hq
  have hq:q<P.length+1:=hq
  rcases Nat.lt_succ_iff_lt_or_eq.1 hq with e | e
  ·rw[ql1 _ _ e]
   obtain⟨q1,q2,q3,q4,q5⟩:=h.pos q e
   have hel:=ho q (by omega) (by omega)
   obtain⟨α,β,γ,hα,hβ,hr⟩:=hel.rel
   refine⟨q1,by omega,q7a hα ?_,λc hc=>?_,λi hi hne=>?_⟩
   ·rw[hr _ (by omega),hpz q e,hfix _ e,Int.mul_zero,Int.sub_zero]
    exact Int.mul_pos hβ q3
   ·have:=hr c (by omega)
    rw[hpk c (by omega),hfix _ e,q4 c hc] at this
    exact qd0 (a:=α) (by simpa using this) (by omega)
   ·by_cases e3:i=P.length
    ·rw[e3]; exact hpz q e
    ·obtain⟨α,β,γ,hα,hβ,hr⟩:=(ho i hi e3).rel
     have:=hr (nI P q).toNat (by omega)
     rw[hpz q e,q5 (π i) (hπ _ hi) λe4=>hne (hinj _ _ hi (by omega) (by rw[e4,hfix _ e]))] at this
     exact qd0 (a:=α) (by simpa using this) (by omega)
  ·subst e
   rw[qr4]
   refine⟨by omega,by omega,hpos,λc hc=>hpk c hc,λi hi hne=>(ho i hi hne).zero⟩
 ·rw[List.length_append] at h2
  have h2:k<P.length+1:=h2
  rcases Nat.lt_succ_iff_lt_or_eq.1 h2 with e | e
  ·rw[ql1 _ _ e,ql1 _ _ (by omega)]; exact h.asc q k h1 e
  ·subst e
   rw[qr4,ql1 _ _ h1]
   have:=h.pos q h1
   omega
theorem St.bound {n W:Nat} {R:Nat->Nat->Int} {j:Nat} {rows:List (List Int)} {P:List Int} (h:St n W R j rows P) (hone:∀a c,a<n->c<j->(R a c).natAbs<=1) {i c B:Nat} (hi:i<n) (hc:c<W) (hB:∀b,b<n->(R b c).natAbs<=B):(nI (nL rows i) c).natAbs<=n ^ n*B:=by
 obtain⟨ρ,pv,τ,hE,t1,t2,t3,t4,t5,t6⟩:=h.tag
 rw[<- t4 i hi c hc]
 refine hE.bound (λt p ht hp b hb=>?_) (t1 i hi) ?_ hc hB
 ·obtain⟨q,hq,rfl⟩:=t3 t ht
  rw[t5 q hq] at hp
  split at hp
  ·rename_i hqP
   obtain rfl:=Option.some.inj hp
   have:=h.pos q hqP
   exact hone b _ hb (by omega)
  ·cases hp
 ·rcases t6 i hi with⟨s,hs,hr⟩ | hr | hr
  ·exact .inl ⟨s,hs,λc hc=>by rw[t4 i hi c hc]; exact hr c hc⟩
  ·exact .inr (.inl λc hc=>by rw[t4 i hi c hc]; exact hr c hc)
  ·exact .inr (.inr λd hd=>hr d λc hc=>by rw[<- t4 i hi c hc]; exact hd c hc)
end Go.Proofs.YtdibdlelmkcccaaGreat
