/- Rows that are eliminated: what they are made of, and how great they grow. Plain mathematics. No condition. -/
import Derived.Test.YtempacilejhbgaaGreatDoorW1
set_option linter.unusedVariables false
namespace Go.Proofs.YtempacilejhbgaaGreatDoor
structure El (n W:Nat) (R ρ:Nat->Nat->Int) (pv:Nat->Option Nat):Prop where
 comb:∀a,a<n->∃(c:Int) (l:Nat->Int),c≠0/\(∀j,j<W->c*ρ a j=sm n λb=>l b*R b j)/\(∀b,b<n->l b≠0->pv b≠none\/b=a)/\(pv a=none->l a≠0)
 ind:∀ν:Nat->Int,(∀b,b<n->ν b≠0->pv b≠none)->(∀t p,t<n->pv t=some p->(sm n λb=>ν b*R b p)=0)->∀b,b<n->ν b=0
 piv:∀t p,t<n->pv t=some p->p<W/\ρ t p≠0/\∀a,a<n->a≠t->ρ a p=0
theorem El.start {n W:Nat} {R ρ:Nat->Nat->Int} (h:∀a,a<n->∃c:Int,c≠0/\∀j,j<W->c*ρ a j=R a j):El n W R ρ (λ_=>none):=by
 refine⟨λa ha=>?_,fun ν h1 _ b hb=>?_,λt p _ h=>by cases h⟩
 ·obtain⟨c,hc,h1⟩:=h a ha
  refine⟨c,λb=>if b=a then 1 else 0,hc,λj hj=>?_,λb _ hb=>?_,λ_=>by simp⟩
  ·rw[h1 j hj,qw0 ha λi _ hne=>by(try dsimp only); rw[if_neg hne]; simp]
   (try dsimp only); rw[if_pos rfl]; omega
  ·by_cases e:b=a
   ·exact .inr e
   ·(try dsimp only at hb); rw[if_neg e] at hb; exact absurd rfl hb
 ·rcases Classical.em (ν b=0) with q | q
  ·exact q
  ·exact absurd rfl (h1 b hb q)
theorem qu4 {a b:Int} (ha:a≠0) (hb:b≠0):a*b≠0:=λh=>(Int.mul_eq_zero.1 h).elim ha hb
theorem qd5 {a b:Int} (h:a*b=0) (ha:a≠0):b=0:=(Int.mul_eq_zero.1 h).resolve_left ha
theorem El.step {n W:Nat} {R ρ ρ':Nat->Nat->Int} {pv:Nat->Option Nat} {t0 j:Nat} (h:El n W R ρ pv) (ht:t0<n) (hp:pv t0=none) (hj:j<W) (hx:ρ t0 j≠0)
  (hT:∃s:Int,s≠0/\∀c,c<W->ρ' t0 c=s*ρ t0 c) (hO:∀a,a<n->a≠t0->ρ' a j=0/\∃α β γ:Int,α≠0/\β≠0/\∀c,c<W->α*ρ' a c=β*ρ a c-γ*ρ' t0 c) :
  El n W R ρ' (λb=>if b=t0 then some j else pv b):=by
 obtain⟨s,hs,hsT⟩:=hT
 obtain⟨c0,l0,hc0,hl0,hs0,hn0⟩:=h.comb t0 ht
 have hn0:=hn0 hp
 have hpv:∀b,(if b=t0 then some j else pv b)≠none↔(pv b≠none\/b=t0):=λb=>by
  by_cases e:b=t0
  ·rw[if_pos e]; exact⟨λ_=>.inr e,λ_=>by simp⟩
  ·rw[if_neg e]; exact⟨.inl,λq=>q.resolve_right e⟩
 refine⟨λa ha=>?_,fun ν h1 h2=>?_,λt p htn htp=>?_⟩
 ·by_cases e:a=t0
  ·subst e
   refine⟨c0,λb=>s*l0 b,hc0,λc hc=>?_,λb hb hne=>(hs0 b hb λq=>hne (by(try dsimp only); rw[q,Int.mul_zero])).imp (λq=>(hpv b).2 (.inl q)) id,λq=>absurd q (by simp)⟩
   have e1:(sm n λb=>s*l0 b*R b c)=s*sm n (λb=>l0 b*R b c):=by rw[<- qt2]; exact qg3 λi _=>Int.mul_assoc _ _ _
   rw[e1,<- hl0 c hc,hsT c hc]
   grind
  ·obtain⟨hz,α,β,γ,hα,hβ,hrel⟩:=hO a ha e
   obtain⟨ca,la,hca,hla,hsa,hna⟩:=h.comb a ha
   refine⟨ca*c0*α,λb=>c0*β*la b-ca*γ*s*l0 b,qu4 (qu4 hca hc0) hα,λc hc=>?_,λb hb hne=>?_,λq=>?_⟩
   ·rw[qr9 n (c0*β) (ca*γ*s) la l0 (λb=>R b c),<- hla c hc,<- hl0 c hc]
    have h3:=hrel c hc
    rw[hsT c hc] at h3
    grind
   ·by_cases q1:la b=0
    ·by_cases q2:l0 b=0
     ·exact absurd (by(try dsimp only); rw[q1,q2]; simp) hne
     ·exact .inl ((hpv b).2 ((hs0 b hb q2).imp id id))
    ·rcases hsa b hb q1 with q | q
     ·exact .inl ((hpv b).2 (.inl q))
     ·exact .inr q
   ·have hpa:pv a=none:=by
     rcases Classical.em (pv a=none) with k | k
     ·exact k
     ·exact absurd q ((hpv a).2 (.inl k))
    have h0:l0 a=0:=Classical.byContradiction λk=>by
     rcases hs0 a ha k with k | k
     ·exact k hpa
     ·exact e k
    (try dsimp only); rw[h0]
    have:=qu4 (qu4 hc0 hβ) (hna hpa)
    simpa using this
 ·-- independent
  have hcol:∀p,(sm n λb=>ν b*R b p)=0->(sm n λb=>(l0 t0*ν b-ν t0*l0 b)*R b p)=- (ν t0*sm n λb=>l0 b*R b p):=λp hp=>by
   rw[qr9 n (l0 t0) (ν t0) ν l0 (λb=>R b p),hp]; simp
  have h2':∀t p,t<n->(if t=t0 then some j else pv t)=some p->(sm n λb=>ν b*R b p)=0:=h2
  have hz:=h.ind (λb=>l0 t0*ν b-ν t0*l0 b) (λb hb hne=>by
   by_cases e:b=t0
   ·subst e; exact absurd (by(try dsimp only); grind) hne
   ·by_cases q1:ν b=0
    ·by_cases q2:l0 b=0
     ·exact absurd (by(try dsimp only); rw[q1,q2]; simp) hne
     ·exact(hs0 b hb q2).resolve_right e
    ·exact((hpv b).1 (h1 b hb q1)).resolve_right e) (λt p htn htp=>by
   have hne:t≠t0:=λe=>by rw[e,hp] at htp; cases htp
   have hR:=h2' t p htn (by rw[if_neg hne]; exact htp)
   obtain⟨hpW,_,hpa⟩:=h.piv t p htn htp
   rw[hcol p hR,<- hl0 p hpW,hpa t0 ht (Ne.symm hne)]
   simp)
  have h0:ν t0=0:=by
   have hR:=h2' t0 j ht (if_pos rfl)
   have e1:=hcol j hR
   have e2:(sm n λb=>(l0 t0*ν b-ν t0*l0 b)*R b j)=0:=qt1 λb hb=>by have:=hz b hb; (try dsimp only at this ⊢); rw[this]; simp
   rw[e2,<- hl0 j hj] at e1
   have e3:(c0*ρ t0 j)*ν t0=0:=by grind
   exact qd5 e3 (qu4 hc0 hx)
  intro b hb
  have e1:=hz b hb
  try dsimp only at e1
  rw[h0] at e1
  exact qd5 (a:=l0 t0) (by grind) hn0
 ·by_cases e:t=t0
  ·subst e
   rw[if_pos rfl] at htp
   obtain rfl:=Option.some.inj htp
   refine⟨hj,by rw[hsT j hj]; exact qu4 hs hx,λa ha hne=>(hO a ha hne).1⟩
  ·rw[if_neg e] at htp
   obtain⟨hpW,hpt,hpa⟩:=h.piv t p htn htp
   have h0:ρ' t0 p=0:=by rw[hsT p hpW,hpa t0 ht (Ne.symm e)]; simp
   refine⟨hpW,λq=>?_,λa ha hne=>?_⟩
   ·obtain⟨_,α,β,γ,hα,hβ,hrel⟩:=hO t htn e
    have h3:=hrel p hpW
    rw[q,h0] at h3
    exact qu4 hβ hpt (by grind)
   ·by_cases e2:a=t0
    ·rw[e2]; exact h0
    ·obtain⟨_,α,β,γ,hα,hβ,hrel⟩:=hO a ha e2
     have h3:=hrel p hpW
     rw[h0,hpa a ha hne] at h3
     exact qd5 (a:=α) (by grind) hα
def xu9 (W:Nat) (r0 r:Nat->Int):Prop:=(∃s:Int,(s=1\/s=-1)/\∀c,c<W->r c=s*r0 c)\/(∀c,c<W->r c=0)\/∀d:Nat,(∀c,c<W->d∣(r c).natAbs)->d=1
theorem wk1 {W:Nat} {r s:Nat->Int} {α β:Int} (hα:α≠0) (h:∀c,c<W->α*r c=β*s c) (hp:∀d:Nat,(∀c,c<W->d∣(r c).natAbs)->d=1):∀c,c<W->(r c).natAbs<=(s c).natAbs:=by
 have hg:0<Nat.gcd α.natAbs β.natAbs:=Nat.gcd_pos_of_pos_left _ (by omega)
 obtain⟨a',ha'⟩:=Nat.gcd_dvd_left α.natAbs β.natAbs
 obtain⟨b',hb'⟩:=Nat.gcd_dvd_right α.natAbs β.natAbs
 have hco:Nat.Coprime b' a':=by
  have:=Nat.coprime_div_gcd_div_gcd hg
  have e1:α.natAbs / Nat.gcd α.natAbs β.natAbs=a':=by
   conv=>lhs; lhs; rw[ha']
   exact Nat.mul_div_cancel_left _ hg
  have e2:β.natAbs / Nat.gcd α.natAbs β.natAbs=b':=by
   conv=>lhs; lhs; rw[hb']
   exact Nat.mul_div_cancel_left _ hg
  rw[e1,e2] at this
  exact this.symm
 have habs:∀c,c<W->a' * (r c).natAbs=b' * (s c).natAbs:=λc hc=>by
  have h1:=congrArg Int.natAbs (h c hc)
  rw[Int.natAbs_mul,Int.natAbs_mul] at h1
  generalize Nat.gcd α.natAbs β.natAbs=g at hg ha' hb'
  rw[ha',hb',Nat.mul_assoc,Nat.mul_assoc] at h1
  exact Nat.eq_of_mul_eq_mul_left hg h1
 have hb1:b'=1:=hp b' λc hc=>hco.dvd_of_dvd_mul_left ⟨_,habs c hc⟩
 have ha1:0<a':=by
  rcases Nat.eq_zero_or_pos a' with q | q
  ·rw[q,Nat.mul_zero] at ha'; omega
  ·exact q
 intro c hc
 have h1:=habs c hc
 rw[hb1,Nat.one_mul] at h1
 rw[<- h1]
 exact Nat.le_mul_of_pos_left _ ha1
theorem El.bound {n W:Nat} {R ρ:Nat->Nat->Int} {pv:Nat->Option Nat} (h:El n W R ρ pv) (hone:∀t p,t<n->pv t=some p->∀b,b<n->(R b p).natAbs<=1) {a:Nat} (ha:a<n) (hnice:xu9 W (R a) (ρ a)) {B:Nat} {c:Nat} (hc:c<W) (hB:∀b,b<n->(R b c).natAbs<=B):(ρ a c).natAbs<=n ^ n*B:=by
 have hn:0<n:=by omega
 have hpw:1<=n ^ n:=Nat.pow_pos hn
 rcases hnice with⟨s,hs,hr⟩ | hr | hr
 ·rw[hr c hc,Int.natAbs_mul]
  have h1:=hB a ha
  have h2:s.natAbs=1:=by rcases hs with rfl | rfl <;> rfl
  rw[h2,Nat.one_mul]
  exact Nat.le_trans h1 (Nat.le_mul_of_pos_left _ hpw)
 ·rw[hr c hc]; simp
 -- few equations
 obtain⟨l,hl⟩:∃form:Nat->Nat->Int,∀b,form b=(match pv b with
  | some p=>λx=>R x p
  | none=>λx=>if x=b then 1 else 0):=⟨_,λ_=>rfl⟩
 obtain⟨z,⟨a0,ha0,hza⟩,hzb,hze⟩:=xu8 hn (((List.range n).erase a).map l) (by
  rw[List.length_map,List.length_erase_of_mem (List.mem_range.2 ha),List.length_range]; omega) (λf hf x hx=>by
  obtain⟨b,hb,rfl⟩:=List.mem_map.1 hf
  have hbn:=List.mem_range.1 (List.mem_of_mem_erase hb)
  rw[hl]
  cases hpb:pv b with
  | some p=>exact hone b p hbn hpb x hx
  | none=>(try dsimp only); split <;> simp)
 have heq:∀b,b<n->b≠a->sm n (λx=>l b x*z x)=0:=λb hb hne=>hze (l b) (List.mem_map.2 ⟨b,(List.mem_erase_of_ne hne).2 (List.mem_range.2 hb),rfl⟩)
 have hcol:∀t p,t<n->t≠a->pv t=some p->(sm n λb=>z b*R b p)=0:=λt p ht hne htp=>by
  have:=heq t ht hne
  rw[hl,htp] at this
  rw[<- this]
  exact qg3 λi _=>Int.mul_comm _ _
 have hnul:∀b,b<n->b≠a->pv b=none->z b=0:=λb hb hne hpb=>by
  have:=heq b hb hne
  rw[hl,hpb,qw0 hb λi _ hi=>by simp[hi]] at this
  simpa using this
 obtain⟨c1,la,hc1,hla,hsa,hna⟩:=h.comb a ha
 obtain⟨s,hs⟩:∃s:Nat->Int,s=λc=>sm n λb=>z b*R b c:=⟨_,rfl⟩
 have hpar:∃α β:Int,α≠0/\∀c,c<W->α*ρ a c=β*s c:=by
  cases hpa:pv a with
  | none=>
   have hz:=h.ind (λb=>z a*la b-la a*z b) (λb hb hne hpb=>by
    by_cases e:b=a
    ·subst e; exact hne (by(try dsimp only); grind)
    ·have q1:la b=0:=Classical.byContradiction λq=>(hsa b hb q).elim (λk=>k hpb) e
     (try dsimp only at hne); rw[q1,hnul b hb e hpb] at hne
     exact hne (by simp)) (λt p ht htp=>by
    have hne:t≠a:=λe=>by rw[e,hpa] at htp; cases htp
    obtain⟨hpW,_,hp0⟩:=h.piv t p ht htp
    rw[qr9 n (z a) (la a) la z (λb=>R b p),<- hla p hpW,hcol t p ht hne htp,hp0 a ha (Ne.symm hne)]
    simp)
   have hza0:z a≠0:=λq=>by
    have:=hz a0 ha0
    try dsimp only at this
    rw[q] at this
    exact hza (qd5 (a:=la a) (by grind) (hna hpa))
   refine⟨z a*c1,la a,qu4 hza0 hc1,λc hc=>?_⟩
   have e1:(sm n λb=>(z a*la b-la a*z b)*R b c)=0:=qt1 λb hb=>by have:=hz b hb; (try dsimp only at this ⊢); rw[this]; simp
   rw[qr9 n (z a) (la a) la z (λb=>R b c),<- hla c hc] at e1
   rw[hs]
   grind
  | some p=>
   obtain⟨hpW,hpa0,hp0⟩:=h.piv a p ha hpa
   have hz:=h.ind (λb=>(c1*ρ a p)*z b-s p*la b) (λb hb hne hpb=>by
    have hba:b≠a:=λe=>by rw[e,hpa] at hpb; cases hpb
    have q1:la b=0:=Classical.byContradiction λq=>(hsa b hb q).elim (λk=>k hpb) hba
    (try dsimp only at hne); rw[q1,hnul b hb hba hpb] at hne
    exact hne (by simp)) (λt q ht htq=>by
    obtain⟨hqW,_,hq0⟩:=h.piv t q ht htq
    rw[qr9 n (c1*ρ a p) (s p) z la (λb=>R b q),<- hla q hqW]
    by_cases e:t=a
    ·subst e
     rw[hpa] at htq
     obtain rfl:=Option.some.inj htq
     rw[hs]
     grind
    ·rw[hcol t q ht e htq,hq0 a ha (Ne.symm e)]
     simp)
   have he:s p≠0:=λq=>by
    have:=hz a0 ha0
    try dsimp only at this
    rw[q] at this
    exact hza (qd5 (a:=c1*ρ a p) (by grind) (qu4 hc1 hpa0))
   refine⟨s p*c1,c1*ρ a p,qu4 he hc1,λc hc=>?_⟩
   have e1:(sm n λb=>((c1*ρ a p)*z b-s p*la b)*R b c)=0:=qt1 λb hb=>by have:=hz b hb; (try dsimp only at this ⊢); rw[this]; simp
   rw[qr9 n (c1*ρ a p) (s p) z la (λb=>R b c),<- hla c hc] at e1
   have e2:s c=sm n λb=>z b*R b c:=by rw[hs]
   rw[<- e2] at e1
   grind
 obtain⟨α,β,hα,hab⟩:=hpar
 have h1:=wk1 hα hab hr c hc
 have h2:(s c).natAbs<=n*(n ^ (n-1)*B):=by
  rw[hs]
  refine xu6 λb hb=>?_
  rw[Int.natAbs_mul]
  exact Nat.mul_le_mul (hzb b hb) (hB b hb)
 have h3:n*(n ^ (n-1)*B)=n ^ n*B:=by
  rw[<- Nat.mul_assoc,Nat.mul_comm n,<- Nat.pow_succ,show(n-1).succ=n by omega]
 omega
end Go.Proofs.YtempacilejhbgaaGreatDoor
