/- How great determinants of few small numbers are. Plain mathematics. No condition. -/
import Derived.Test.YtnchigbbjajiiaaGreatW18
set_option linter.unusedSimpArgs false
set_option linter.unusedVariables false
namespace Go.Proofs.YtnchigbbjajiiaaGreat
structure El (n W:Nat) (R ρ:Nat->Nat->Int) (pv:Nat->Option Nat):Prop where
 comb:∀a,a<n->∃(c:Int) (l:Nat->Int),c≠0/\(∀j,j<W->c*ρ a j=sm n λb=>l b*R b j)/\(∀b,b<n->l b≠0->pv b≠none\/b=a)/\(pv a=none->l a≠0)
 ind:∀ν:Nat->Int,(∀b,b<n->ν b≠0->pv b≠none)->(∀t p,t<n->pv t=some p->(sm n λb=>ν b*R b p)=0)->∀b,b<n->ν b=0
 piv:∀t p,t<n->pv t=some p->p<W/\ρ t p≠0/\∀a,a<n->a≠t->ρ a p=0
theorem El.start {n W:Nat} {R ρ:Nat->Nat->Int} (h:∀a,a<n->∃c:Int,c≠0/\∀j,j<W->c*ρ a j=R a j):El n W R ρ (λ_=>none):=by
 refine⟨λa ha=>?_,fun ν h1 _ b hb=>?_,λt p _ h=>by cases h⟩
 ·obtain⟨c,hc,h1⟩:=h a ha
  refine⟨c,λb=>if b=a then 1 else 0,hc,λj hj=>?_,λb _ hb=>?_,λ_=>by simp⟩
  ·rw[h1 j hj,qr0 ha λi _ hne=>by grind]
   simp
  grind
 grind
theorem q02 {a b:Int} (ha:a≠0) (hb:b≠0):a*b≠0:=λh=>(Int.mul_eq_zero.1 h).elim ha hb
theorem qc9 {a b:Int} (h:a*b=0) (ha:a≠0):b=0:=(Int.mul_eq_zero.1 h).resolve_left ha
theorem El.step {n W:Nat} {R ρ ρ':Nat->Nat->Int} {pv:Nat->Option Nat} {t0 j:Nat} (h:El n W R ρ pv) (ht:t0<n) (hp:pv t0=none) (hj:j<W) (hx:ρ t0 j≠0)
  (hT:∃s:Int,s≠0/\∀c,c<W->ρ' t0 c=s*ρ t0 c) (hO:∀a,a<n->a≠t0->ρ' a j=0/\∃α β γ:Int,α≠0/\β≠0/\∀c,c<W->α*ρ' a c=β*ρ a c-γ*ρ' t0 c) :
  El n W R ρ' (λb=>if b=t0 then some j else pv b):=by
 obtain⟨s,hs,hsT⟩:=hT
 obtain⟨c0,l0,hc0,hl0,hs0,hn0⟩:=h.comb t0 ht
 have hn0:=hn0 hp
 have hpv:∀b,(if b=t0 then some j else pv b)≠none↔(pv b≠none\/b=t0):=λb=>by
  grind
 refine⟨λa ha=>?_,fun ν h1 h2=>?_,λt p htn htp=>?_⟩
 ·by_cases e:a=t0
  ·subst e
   refine⟨c0,λb=>s*l0 b,hc0,λc hc=>?_,λb hb hne=>(hs0 b hb λq=>hne (by grind)).imp (λq=>(hpv b).2 (.inl q)) id,λq=>absurd q (by simp)⟩
   have e1:(sm n λb=>s*l0 b*R b c)=s*sm n (λb=>l0 b*R b c):=by grind [qk8,qe1,Int.mul_assoc]
   grind
  ·obtain⟨hz,α,β,γ,hα,hβ,hrel⟩:=hO a ha e
   obtain⟨ca,la,hca,hla,hsa,hna⟩:=h.comb a ha
   refine⟨ca*c0*α,λb=>c0*β*la b-ca*γ*s*l0 b,q02 (q02 hca hc0) hα,λc hc=>?_,λb hb hne=>?_,λq=>?_⟩
   ·rw[qv0 n (c0*β) (ca*γ*s) la l0 (λb=>R b c),<- hla c hc,<- hl0 c hc]
    grind
   ·grind
   ·have hpa:pv a=none:=by
     grind
    have h0:l0 a=0:=zaf λk=>by
     grind
    simp_all
 ·-- independent
  have hcol:∀p,(sm n λb=>ν b*R b p)=0->(sm n λb=>(l0 t0*ν b-ν t0*l0 b)*R b p)=- (ν t0*sm n λb=>l0 b*R b p):=λp hp=>by
   simp_all [qv0]
  have h2':∀t p,t<n->(if t=t0 then some j else pv t)=some p->(sm n λb=>ν b*R b p)=0:=h2
  have hz:=h.ind (λb=>l0 t0*ν b-ν t0*l0 b) (λb hb hne=>by
   grind) (λt p htn htp=>by
   have hne:t≠t0:=λe=>by grind
   have hR:=h2' t p htn (by grind)
   obtain⟨hpW,_,hpa⟩:=h.piv t p htn htp
   rw[hcol p hR,<- hl0 p hpW,hpa t0 ht (zdd hne)]
   simp)
  have h0:ν t0=0:=by
   have hR:=h2' t0 j ht (zao rfl)
   have e1:=hcol j hR
   grind [sm,qm5,qc9,q02]
  grind [qc9]
 ·by_cases e:t=t0
  ·simp_all
  ·rw[zak e] at htp
   obtain⟨hpW,hpt,hpa⟩:=h.piv t p htn htp
   have h0:ρ' t0 p=0:=by grind
   grind [q02,qc9]
def x9r (W:Nat) (r0 r:Nat->Int):Prop:=(∃s:Int,(s=1\/s=-1)/\∀c,c<W->r c=s*r0 c)\/(∀c,c<W->r c=0)\/∀d:Nat,(∀c,c<W->d∣(r c).natAbs)->d=1
theorem ww5 {W:Nat} {r s:Nat->Int} {α β:Int} (hα:α≠0) (h:∀c,c<W->α*r c=β*s c) (hp:∀d:Nat,(∀c,c<W->d∣(r c).natAbs)->d=1):∀c,c<W->(r c).natAbs<=(s c).natAbs:=by
 have hg:0<Nat.gcd α.natAbs β.natAbs:=Nat.gcd_pos_of_pos_left _ ow
 obtain⟨a',ha'⟩:=zb0 α.natAbs β.natAbs
 obtain⟨b',hb'⟩:=zb3 α.natAbs β.natAbs
 have hco:Nat.Coprime b' a':=by
  have:=zdt hg
  grind [Nat.gcd,Nat.mul_div_cancel_left]
 have habs:∀c,c<W->a' * (r c).natAbs=b' * (s c).natAbs:=λc hc=>by
  have h1:=zbi Int.natAbs (h c hc)
  grind [Int.natAbs_mul,Nat.gcd,Nat.mul_assoc,Nat.eq_of_mul_eq_mul_left]
 have hb1:b'=1:=hp b' λc hc=>hco.dvd_of_dvd_mul_left ⟨_,habs c hc⟩
 have ha1:0<a':=by
  grind
 intro c hc
 have h1:=habs c hc
 rw[hb1,zdu] at h1
 rw[<- h1]
 exact zem _ ha1
theorem El.bound {n W:Nat} {R ρ:Nat->Nat->Int} {pv:Nat->Option Nat} (h:El n W R ρ pv) (hone:∀t p,t<n->pv t=some p->∀b,b<n->(R b p).natAbs<=1) {a:Nat} (ha:a<n) (hnice:x9r W (R a) (ρ a)) {B:Nat} {c:Nat} (hc:c<W) (hB:∀b,b<n->(R b c).natAbs<=B):(ρ a c).natAbs<=n ^ n*B:=by
 have hn:0<n:=ow
 have hpw:1<=n ^ n:=Nat.pow_pos hn
 rcases hnice with⟨s,hs,hr⟩ | hr | hr
 ·rw[hr c hc,zbp]
  have h1:=hB a ha
  have h2:s.natAbs=1:=ow
  rw[h2,zdu]
  exact zaj h1 (zem _ hpw)
 ·rw[hr c hc]; simp
 -- few equations
 obtain⟨l,hl⟩:∃form:Nat->Nat->Int,∀b,form b=(match pv b with
  | some p=>λx=>R x p
  | none=>λx=>if x=b then 1 else 0):=⟨_,λ_=>rfl⟩
 obtain⟨z,⟨a0,ha0,hza⟩,hzb,hze⟩:=x9h hn (((List.range n).erase a).map l) (by
  grind) (λf hf x hx=>by
  grind)
 have heq:∀b,b<n->b≠a->sm n (λx=>l b x*z x)=0:=λb hb hne=>hze (l b) (zba.2 ⟨b,(List.mem_erase_of_ne hne).2 (za2.2 hb),rfl⟩)
 have hcol:∀t p,t<n->t≠a->pv t=some p->(sm n λb=>z b*R b p)=0:=λt p ht hne htp=>by
  grind
 have hnul:∀b,b<n->b≠a->pv b=none->z b=0:=λb hb hne hpb=>by
  grind [qr0]
 obtain⟨c1,la,hc1,hla,hsa,hna⟩:=h.comb a ha
 obtain⟨s,hs⟩:∃s:Nat->Int,s=λc=>sm n λb=>z b*R b c:=⟨_,rfl⟩
 have hpar:∃α β:Int,α≠0/\∀c,c<W->α*ρ a c=β*s c:=by
  cases hpa:pv a with
  | none=>
   have hz:=h.ind (λb=>z a*la b-la a*z b) (λb hb hne hpb=>by
    grind) (λt p ht htp=>by
    have hne:t≠a:=λe=>by grind
    obtain⟨hpW,_,hp0⟩:=h.piv t p ht htp
    rw[qv0 n (z a) (la a) la z (λb=>R b p),<- hla p hpW,hcol t p ht hne htp,hp0 a ha (zdd hne)]
    simp)
   have hza0:z a≠0:=λq=>by
    grind [qc9]
   refine⟨z a*c1,la a,q02 hza0 hc1,λc hc=>?_⟩
   have e1:(sm n λb=>(z a*la b-la a*z b)*R b c)=0:=qm5 λb hb=>by grind
   rw[qv0 n (z a) (la a) la z (λb=>R b c),<- hla c hc] at e1
   grind
  | some p=>
   obtain⟨hpW,hpa0,hp0⟩:=h.piv a p ha hpa
   have hz:=h.ind (λb=>(c1*ρ a p)*z b-s p*la b) (λb hb hne hpb=>by
    grind) (λt q ht htq=>by
    obtain⟨hqW,_,hq0⟩:=h.piv t q ht htq
    rw[qv0 n (c1*ρ a p) (s p) z la (λb=>R b q),<- hla q hqW]
    by_cases e:t=a
    ·subst e
     rw[hpa] at htq
     obtain rfl:=zaa htq
     rw[hs]
     grind
    grind)
   have he:s p≠0:=λq=>by
    grind [qc9,q02]
   refine⟨s p*c1,c1*ρ a p,q02 he hc1,λc hc=>?_⟩
   have e1:(sm n λb=>((c1*ρ a p)*z b-s p*la b)*R b c)=0:=qm5 λb hb=>by grind
   rw[qv0 n (c1*ρ a p) (s p) z la (λb=>R b c),<- hla c hc] at e1
   grind
 obtain⟨α,β,hα,hab⟩:=hpar
 have h1:=ww5 hα hab hr c hc
 have h2:(s c).natAbs<=n*(n ^ (n-1)*B):=by
  rw[hs]
  refine x4w λb hb=>?_
  rw[zbp]
  exact zbj (hzb b hb) (hB b hb)
 have h3:n*(n ^ (n-1)*B)=n ^ n*B:=by
  rw[<- ze3,zda n,<- zb1,show(n-1).succ=n by omega]
 omega
def sgn (i:Nat):Int:=if i % 2=0 then 1 else -1
def skp (i a:Nat):Nat:=if a<i then a else a+1
def det:Nat->(Nat->Nat->Int)->Int
 | 0,_=>1
 | n+1,A=>sm (n+1) λi=>sgn i*A i 0*det n (λa b=>A (skp i a) (b+1))
theorem q59 {n i a:Nat} (ha:a<n):skp i a<n+1:=by grind [skp]
theorem x2l (i a:Nat):skp i a≠i:=by grind [skp]
theorem qj6:∀(n:Nat) {A B:Nat->Nat->Int},(∀i j,i<n->j<n->A i j=B i j)->det n A=det n B
 | 0,_,_,_=>rfl
 | n+1,A,B,h=>by
  rw[det,det]
  refine qe1 λi hi=>?_
  rw[h i 0 hi ow,qj6 n (A:=λa b=>A (skp i a) (b+1)) (B:=λa b=>B (skp i a) (b+1)) λa b ha hb=>h _ _ (q59 ha) ow]
def upd (A:Nat->Nat->Int) (r:Nat) (u:Nat->Int):Nat->Nat->Int:=λi j=>if i=r then u j else A i j
theorem q2n (A:Nat->Nat->Int) (r:Nat):upd A r (A r)=A:=by
 grind [upd]
theorem wl7 (A:Nat->Nat->Int) {r s:Nat} (h:r≠s) (u v:Nat->Int):upd (upd A r u) s v=upd (upd A s v) r u:=by
 funext i j; unfold upd
 omega
theorem q5l (A:Nat->Nat->Int) (r:Nat) (w:Nat->Int):(λa b=>upd A r w (skp r a) (b+1))=λa b=>A (skp r a) (b+1):=by
 simp_all [upd,if_neg,x2l]
theorem q8t {i r:Nat} (h:i≠r) (A:Nat->Nat->Int) (w:Nat->Int):(λa b=>upd A r w (skp i a) (b+1))=upd (λa b=>A (skp i a) (b+1)) (if r<i then r else r-1) (λb=>w (b+1)):=by
 funext a b
 have e:skp i a=r↔a=(if r<i then r else r-1):=by grind [skp]
 simp_all [upd,if_pos,if_neg]
theorem qs6:∀(n:Nat) (A:Nat->Nat->Int) (r:Nat),r<n->∀(x y:Int) (u v:Nat->Int),det n (upd A r (λj=>x*u j+y*v j))=x*det n (upd A r u)+y*det n (upd A r v)
 | n+1,A,r,hr,x,y,u,v=>by
  rw[det,det,det,<- qk8,<- qk8,<- q8p]
  refine qe1 λi hi=>?_
  by_cases e:i=r
  ·subst e
   rw[q5l,q5l,q5l]
   have e1:∀w,upd A i w i 0=w 0:=λw=>zao rfl
   grind
  ·rw[q8t e,q8t e,q8t e]
   have e1:∀w,upd A r w i 0=A i 0:=λw=>zak e
   rw[e1,e1,e1]
   have ih:=qs6 n (λa b=>A (skp i a) (b+1)) (if r<i then r else r-1) (by grind) x y (λb=>u (b+1)) (λb=>v (b+1))
   grind
theorem q1u {n:Nat} {A:Nat->Nat->Int} {r:Nat} (hr:r<n):det n (upd A r λ_=>0)=0:=by
 have:=qs6 n A r hr 0 0 (λ_=>0) (λ_=>0)
 grind
theorem xz9 (r:Nat):sgn (r+1)=- sgn r:=by grind [sgn]
theorem wl8:∀(n:Nat) (A:Nat->Nat->Int) (r:Nat),r+1<n->(∀j,j<n->A r j=A (r+1) j)->det n A=0
 | n+1,A,r,hr,h=>by
  rw[det,q58 (k:=r) (l:=r+1) ow hr ow λi hi h1 h2=>?_]
  ·have em:det n (λa b=>A (skp r a) (b+1))=det n (λa b=>A (skp (r+1) a) (b+1)):=qj6 n λa b ha hb=>by
    by_cases e:a=r
    ·simp_all [skp,if_neg,Nat.lt_irrefl,if_pos,Nat.lt_succ_self]
    grind [skp]
   grind [xz9]
  ·try dsimp only
   have:det n (λa b=>A (skp i a) (b+1))=0:=by
    rcases zap i r with q | q
    ·refine wl8 n _ (r-1) ow λj hj=>?_
     have e1:skp i (r-1)=r:=by unfold skp; grind
     have e2:skp i (r-1+1)=r+1:=by unfold skp; grind
     grind
    ·refine wl8 n _ r ow λj hj=>?_
     have e1:skp i r=r:=by unfold skp; grind
     have e2:skp i (r+1)=r+1:=by unfold skp; grind
     grind
   grind
theorem wl9 {n:Nat} {A:Nat->Nat->Int} {r s:Nat} (hr:r<n) (hs:s<n) (hne:r≠s) (hz:∀w,det n (upd (upd A r w) s w)=0) (u v:Nat->Int):det n (upd (upd A r u) s v)=- det n (upd (upd A r v) s u):=by
 have h:=hz (λj=>1*u j+1*v j)
 have lin:∀w,det n (upd (upd A r (λj=>1*u j+1*v j)) s w)=det n (upd (upd A r u) s w)+det n (upd (upd A r v) s w):=λw=>by
  rw[wl7 A hne,qs6 n _ r hr,wl7 A hne,wl7 A hne]; omega
 rw[qs6 n _ s hs,lin,lin,hz u,hz v] at h
 omega
theorem xg8:∀(d n:Nat) (A:Nat->Nat->Int) (r s:Nat),s=r+d+1->s<n->(∀j,j<n->A r j=A s j)->det n A=0
 | 0,n,A,r,s,hd,hs,h=>wl8 n A r ow λj hj=>by grind
 | d+1,n,A,r,s,hd,hs,h=>by
  have e:upd (upd A (s-1) (A (s-1))) s (A s)=A:=by simp_all [q2n]
  have h2:=wl9 (n:=n) (A:=A) (r:=s-1) (s:=s) ow hs ow (λw=>wl8 n _ (s-1) ow λj hj=>by
   unfold upd
   omega) (A (s-1)) (A s)
  rw[e] at h2
  have h3:=xg8 d n (upd (upd A (s-1) (A s)) s (A (s-1))) r (s-1) ow ow λj hj=>by
   unfold upd
   grind
  omega
theorem q8u {n:Nat} {A:Nat->Nat->Int} {r s:Nat} (hr:r<n) (hs:s<n) (hne:r≠s) (h:∀j,j<n->A r j=A s j):det n A=0:=by
 rcases zd7 hne with q | q
 ·exact xg8 (s-r-1) n A r s ow hs h
 ·exact xg8 (r-s-1) n A s r ow hr λj hj=>(h j hj).symm
theorem wm0 {n:Nat} (A:Nat->Nat->Int) {r:Nat} (hr:r<n) (lam:Nat->Int):∀k,k<=n->det n (upd A r (λj=>sm k λi=>lam i*A i j))=if r<k then lam r*det n A else 0
 | 0,_=>by
  rw[zak (zav _)]
  exact q1u hr
 | k+1,hk=>by
  have ih:=wm0 A hr lam k ow
  have e:(λj=>sm (k+1) λi=>lam i*A i j)=λj=>1*(sm k λi=>lam i*A i j)+lam k*A k j:=by grind [sm]
  rw[e,qs6 n A r hr 1 (lam k) (λj=>sm k λi=>lam i*A i j) (A k),ih]
  by_cases q:k=r
  ·simp_all [q2n,if_neg,Nat.lt_irrefl,if_pos,Nat.lt_succ_self]
  ·have:det n (upd A r (A k))=0:=q8u hr (show k<n by omega) (zdd q) λj hj=>by
    unfold upd
    simp
   grind
theorem w4g {n:Nat} {A:Nat->Nat->Int} (h0:det n A=0):∀(d s:Nat),s+d=n->∀σ:Nat->Nat,(∀i,i<n->σ i<n)->(∀i,i<s->σ i=i)->det n (λi j=>A (σ i) j)=0
 | 0,s,hs,σ,h1,h2=>by
  grind [qj6]
 | d+1,s,hs,σ,h1,h2=>by
  by_cases hx:∃t,s<=t/\t<n/\σ t=s
  ·obtain⟨t,t1,t2,t3⟩:=hx
   have hq:=w4g h0 d (s+1) ow (λi=>if i=s then s else if i=t then σ s else σ i) (λi hi=>by
    grind) (λi hi=>by
    grind)
   by_cases e:t=s
   ·grind
   ·have ha:=wl9 (n:=n) (A:=λi j=>A (σ i) j) (r:=s) (s:=t) ow t2 (zdd e) (λw=>q8u (r:=s) (s:=t) ow t2 (zdd e) λj hj=>by
     unfold upd
     simp) (A (σ s)) (A (σ t))
    have e1:upd (upd (λi j=>A (σ i) j) s (A (σ s))) t (A (σ t))=λi j=>A (σ i) j:=by
     funext i j; unfold upd
     grind
    have e2:upd (upd (λi j=>A (σ i) j) s (A (σ t))) t (A (σ s))=λi j=>A ((λi=>if i=s then s else if i=t then σ s else σ i) i) j:=by
     funext i j; unfold upd
     grind
    grind
  ·have hns:∀i,i<n->σ i≠s:=λi hi e=>by
    grind
   obtain⟨i,j,q1,q2,q3⟩:=q8q (n-1) n (λi=>if σ i<s then σ i else σ i-1) (λi hi=>by
    grind) ow
   have e:σ i=σ j:=by
    grind
   grind [q8u]
theorem xg9 {n:Nat} {A:Nat->Nat->Int} (h0:det n A=0):∀(d k:Nat),k+d=n->∀B:Nat->Nat->Int,(∀i,i<k->∃a,a<n/\∀j,j<n->B i j=A a j)->(∀i,k<=i->i<n->∃lam:Nat->Int,∀j,j<n->B i j=sm n λa=>lam a*A a j)->det n B=0
 | 0,k,hk,B,h1,_=>by
  have hx:∀i,∃a,i<n->a<n/\∀j,j<n->B i j=A a j:=λi=>by
   by_cases hi:i<n
   all_goals grind
  obtain⟨σ,hσ⟩:=zbq hx
  rw[qj6 n (B:=λi j=>A (σ i) j) λi j hi hj=>(hσ i hi).2 j hj]
  exact w4g h0 n 0 ow σ (λi hi=>(hσ i hi).1) λi hi=>absurd hi (zav _)
 | d+1,k,hk,B,h1,h2=>by
  obtain⟨lam,hl⟩:=h2 k (zab _) ow
  have key:∀m,m<=n->det n (upd B k (λj=>sm m λa=>lam a*A a j))=0:=λm=>by
   induction m with
   | zero=>exact λ_=>q1u ow
   | succ m ih=>
    intro hm
    have e:(λj=>sm (m+1) λi=>lam i*A i j)=λj=>1*(sm m λi=>lam i*A i j)+lam m*A m j:=by grind [sm]
    rw[e,qs6 n B k ow 1 (lam m) (λj=>sm m λi=>lam i*A i j) (A m),ih ow]
    have:=xg9 h0 d (k+1) ow (upd B k (A m)) (λi hi=>by
     by_cases q:i=k
     ·exact⟨m,ow,λj hj=>by simp_all [upd,if_pos]⟩
     ·obtain⟨a,ha,hb⟩:=h1 i ow
      exact⟨a,ha,λj hj=>by simp_all [upd,if_neg]⟩) (λi h3 h4=>by
     obtain⟨lam',h5⟩:=h2 i ow h4
     exact⟨lam',λj hj=>by unfold upd; grind⟩)
    grind
  rw[<- key n (zab _)]
  refine qj6 n λi j hi hj=>?_
  simp_all [upd,if_pos,if_neg]
theorem w4h:∀(n:Nat) (d:Nat->Int),(∀i,i<n->d i≠0)->det n (λi j=>if i=j then d i else 0)≠0
 | 0,_,_=>by show(1:Int)≠0; decide
 | n+1,d,h=>by
  rw[det,qr0 (k:=0) ow λi hi hne=>by
   grind]
  try dsimp only
  have e:det n (λa b=>if skp 0 a=b+1 then d (skp 0 a) else 0)=det n (λa b=>if a=b then d (a+1) else 0):=qj6 n λa b ha hb=>by
   simp_all [skp,if_neg,Nat.not_lt_zero,if_pos]
  rw[e,zao rfl]
  exact q02 (q02 dc (h 0 ow)) (w4h n (λa=>d (a+1)) λi hi=>h (i+1) ow)
theorem x2m {n:Nat} {A:Nat->Nat->Int} (h:∀k,k<n->∃(d:Int) (lam:Nat->Int),d≠0/\∀j,j<n->(sm n λi=>lam i*A i j)=if k=j then d else 0):det n A≠0:=λh0=>by
 have hx:∀k,∃d:Int,k<n->d≠0/\∃lam:Nat->Int,∀j,j<n->(sm n λi=>lam i*A i j)=if k=j then d else 0:=λk=>by
  by_cases hk:k<n
  ·simp_all
  ·exact⟨0,λq=>absurd q hk⟩
 obtain⟨d,hd⟩:=zbq hx
 refine w4h n d (λi hi=>(hd i hi).1) (xg9 h0 n 0 ow _ (λi hi=>absurd hi (zav _)) λi _ hi=>?_)
 obtain⟨_,lam,hl⟩:=hd i hi
 exact⟨lam,λj hj=>(hl j hj).symm⟩
theorem wm1 (i:Nat):(sgn i).natAbs=1:=by grind [sgn]
theorem we7 {n B:Nat} {A:Nat->Nat->Int} (h1:∀i,i<n+1->(A i 0).natAbs<=1) (h2:∀i,i<n+1->(det n (λa b=>A (skp i a) (b+1))).natAbs<=B):(det (n+1) A).natAbs<=(n+1)*B:=by
 rw[det]
 refine x4w λi hi=>?_
 rw[zbp,zbp,wm1,zdu]
 calc(A i 0).natAbs*_<=1*B:=zbj (h1 i hi) (h2 i hi)
  _=B:=zdu _
def ye5:Nat->Nat
 | 0=>1
 | n+1=>(n+1)*ye5 n
theorem w1o:∀(n:Nat) {A:Nat->Nat->Int},(∀i j,i<n->j<n->(A i j).natAbs<=1)->(det n A).natAbs<=ye5 n
 | 0,_,_=>zab _
 | n+1,A,h=>we7 (λi hi=>h i 0 hi ow) λi hi=>w1o n λa b ha hb=>h _ _ (q59 ha) ow
def d3 (x y z:Nat):Int:=
 let b:=λ(c k:Nat)=>((c / 2 ^ k % 2:Nat):Int)
 b x 0*(b y 1*b z 2-b y 2*b z 1)-b y 0*(b x 1*b z 2-b x 2*b z 1)+b z 0*(b x 1*b y 2-b x 2*b y 1)
def q8v (x:Int):Int:=if 0<x then x else 0
def yu0 (p q r s:Nat):Bool:=decide (q8v (d3 q r s)+q8v (- d3 p r s)+q8v (d3 p q s)+q8v (- d3 p q r)<=4) && decide (q8v (- d3 q r s)+q8v (d3 p r s)+q8v (- d3 p q s)+q8v (d3 p q r)<=4)
theorem x0b:((List.range 8).all λp=>(List.range 8).all λq=>(List.range 8).all λr=>(List.range 8).all λs=>yu0 p q r s)=true:=by decide +kernel
theorem x0c (A:Nat->Nat->Int):det 3 A=A 0 0*(A 1 1*A 2 2-A 1 2*A 2 1)-A 1 0*(A 0 1*A 2 2-A 0 2*A 2 1)+A 2 0*(A 0 1*A 1 2-A 0 2*A 1 1):=by
 simp[det,sm,skp,sgn]
 grind
theorem ye6 (A:Nat->Nat->Int):det 4 A=A 0 0*det 3 (λa b=>A (skp 0 a) (b+1))-A 1 0*det 3 (λa b=>A (skp 1 a) (b+1))+A 2 0*det 3 (λa b=>A (skp 2 a) (b+1))-A 3 0*det 3 (λa b=>A (skp 3 a) (b+1)):=by
 rw[det]
 simp only[sm,show sgn 0=1 from rfl,show sgn 1=-1 from rfl,show sgn 2=1 from rfl,show sgn 3=-1 from rfl]
 grind
def qp6 (x y z:Int):Nat:=(x+2*y+4*z).toNat
def Bit (x:Int):Prop:=x=0\/x=1
theorem x49 {x y z:Int} (hx:Bit x) (hy:Bit y) (hz:Bit z):qp6 x y z<8:=by grind [qp6,Bit]
theorem xh0 {A:Nat->Nat->Int} (h:∀i j,i<3->j<3->Bit (A i j)):d3 (qp6 (A 0 0) (A 0 1) (A 0 2)) (qp6 (A 1 0) (A 1 1) (A 1 2)) (qp6 (A 2 0) (A 2 1) (A 2 2))=det 3 A:=by
 rw[x0c]
 have hb:∀i,i<3->((qp6 (A i 0) (A i 1) (A i 2) / 2 ^ 0 % 2:Nat):Int)=A i 0/\((qp6 (A i 0) (A i 1) (A i 2) / 2 ^ 1 % 2:Nat):Int)=A i 1/\((qp6 (A i 0) (A i 1) (A i 2) / 2 ^ 2 % 2:Nat):Int)=A i 2:=λi hi=>by
  grind [Bit,qp6]
 grind [d3]
theorem qy0 {x:Int}:x<=q8v x/\0<=q8v x:=by grind [q8v]
theorem x0d {A:Nat->Nat->Int} (h:∀i j,i<4->j<4->Bit (A i j)):(det 4 A).natAbs<=4:=by
 have hc:∀i,i<4->qp6 (A i 1) (A i 2) (A i 3)<8:=λi hi=>x49 (h i 1 hi ow) (h i 2 hi ow) (h i 3 hi ow)
 have hk:=zar.1 (zar.1 (zar.1 (zar.1 x0b _ (za2.2 (hc 0 ow))) _ (za2.2 (hc 1 ow))) _ (za2.2 (hc 2 ow))) _ (za2.2 (hc 3 ow))
 unfold yu0 at hk
 rw[za3,zbf,zbf] at hk
 have e:∀i,i<4->det 3 (λa b=>A (skp i a) (b+1))=d3 (qp6 (A (skp i 0) 1) (A (skp i 0) 2) (A (skp i 0) 3)) (qp6 (A (skp i 1) 1) (A (skp i 1) 2) (A (skp i 1) 3)) (qp6 (A (skp i 2) 1) (A (skp i 2) 2) (A (skp i 2) 3)):=λi hi=>
  (xh0 (A:=λa b=>A (skp i a) (b+1)) λa b ha hb=>h _ _ (q59 ha) ow).symm
 rw[ye6,e 0 ow,e 1 ow,e 2 ow,e 3 ow]
 have s0:skp 0 0=1/\skp 0 1=2/\skp 0 2=3/\skp 1 0=0/\skp 1 1=2/\skp 1 2=3/\skp 2 0=0/\skp 2 1=1/\skp 2 2=3/\skp 3 0=0/\skp 3 1=1/\skp 3 2=2:=dc
 obtain⟨k0,k1,k2,k3,k4,k5,k6,k7,k8,k9,k10,k11⟩:=s0
 rw[k0,k1,k2,k3,k4,k5,k6,k7,k8,k9,k10,k11]
 generalize d3 (qp6 (A 1 1) (A 1 2) (A 1 3)) (qp6 (A 2 1) (A 2 2) (A 2 3)) (qp6 (A 3 1) (A 3 2) (A 3 3))=m0 at hk ⊢
 generalize d3 (qp6 (A 0 1) (A 0 2) (A 0 3)) (qp6 (A 2 1) (A 2 2) (A 2 3)) (qp6 (A 3 1) (A 3 2) (A 3 3))=m1 at hk ⊢
 generalize d3 (qp6 (A 0 1) (A 0 2) (A 0 3)) (qp6 (A 1 1) (A 1 2) (A 1 3)) (qp6 (A 3 1) (A 3 2) (A 3 3))=m2 at hk ⊢
 generalize d3 (qp6 (A 0 1) (A 0 2) (A 0 3)) (qp6 (A 1 1) (A 1 2) (A 1 3)) (qp6 (A 2 1) (A 2 2) (A 2 3))=m3 at hk ⊢
 have p0:=qy0 (x:=m0); have p1:=qy0 (x:=m1); have p2:=qy0 (x:=m2); have p3:=qy0 (x:=m3)
 have n0:=qy0 (x:=-m0); have n1:=qy0 (x:=-m1); have n2:=qy0 (x:=-m2); have n3:=qy0 (x:=-m3)
 grind [Bit]
def One (x:Int):Prop:=x=1\/x=-1
theorem w7h (e d:Nat->Int) (B:Nat->Nat->Int):det 4 (λi j=>-2*(e i*d j*B i j))=16*(e 0*e 1*e 2*e 3*(d 0*d 1*d 2*d 3))*det 4 B:=by
 rw[ye6,ye6,x0c,x0c,x0c,x0c,x0c,x0c,x0c,x0c]
 grind [skp]
theorem wm2 {n:Nat} (A:Nat->Nat->Int) (c:Nat->Int) (hn:0<n):∀k,k<=n->det n (λi j=>if 0<i/\i<k then A i j-c i*A 0 j else A i j)=det n A
 | 0,_=>qj6 n λi j _ _=>by simp
 | k+1,hk=>by
  rw[<- wm2 A c hn k ow]
  by_cases e:k=0
  ·grind
  ·have h1:(λi j=>if 0<i/\i<k+1 then A i j-c i*A 0 j else A i j)=upd (λi j=>if 0<i/\i<k then A i j-c i*A 0 j else A i j) k (λj=>1*A k j+(- c k)*A 0 j):=by
    funext i j; unfold upd
    grind
   have h2:upd (λi j=>if 0<i/\i<k then A i j-c i*A 0 j else A i j) k (A k)=λi j=>if 0<i/\i<k then A i j-c i*A 0 j else A i j:=by
    funext i j; simp_all [upd,if_pos,if_neg]
   have h3:det n (upd (λi j=>if 0<i/\i<k then A i j-c i*A 0 j else A i j) k (A 0))=0:=q8u (r:=k) (s:=0) ow hn e λj hj=>by
    unfold upd
    simp
   rw[h1,qs6 n _ k ow,h2,h3]; omega
theorem x2n {x:Int} (h:One x):x*x=1:=by rcases h with rfl | rfl <;> rfl
theorem wm3 {x:Int} (h:One x):x.natAbs=1:=by rcases h with rfl | rfl <;> rfl
theorem x0e {A:Nat->Nat->Int} (h:∀i j,i<5->j<5->One (A i j)):(det 5 A).natAbs<=64:=by
 obtain⟨B,hB⟩:∃B:Nat->Nat->Int,∀i j,B i j=if A (i+1) 0*A (i+1) (j+1)=A 0 0*A 0 (j+1) then 0 else 1:=⟨_,λ_ _=>rfl⟩
 have hbit:∀i j,i<4->j<4->Bit (B i j):=λi j _ _=>by
  rw[hB]; unfold Bit; omega
 rw[<- wm2 A (λi=>A i 0*A 0 0) ow 5 (zab _),det,qr0 (k:=0) ow λi hi hne=>?_]
 ·try dsimp only
  have e:det 4 (λa b=>if 0<skp 0 a/\skp 0 a<5 then A (skp 0 a) (b+1)-A (skp 0 a) 0*A 0 0*A 0 (b+1) else A (skp 0 a) (b+1))=det 4 (λi j=>-2*((λi=>A (i+1) 0) i*(λj=>A 0 0*A 0 (j+1)) j*B i j)):=qj6 4 λa b ha hb=>by
   have es:skp 0 a=a+1:=by rfl
   rw[es,zao ow,hB]
   grind [One]
  rw[e,w7h,zak ow]
  have b4:=x0d hbit
  have o:=λi j (hi:i<5) (hj:j<5)=>wm3 (h i j hi hj)
  simp only[Int.natAbs_mul,wm1,o 0 0 ow ow,o 1 0 ow ow,o 2 0 ow ow,o 3 0 ow ow,o 4 0 ow ow,o 0 1 ow ow,o 0 2 ow ow,o 0 3 ow ow,o 0 4 ow ow,Nat.mul_one,Nat.one_mul,show(0+1)=1 from rfl,show(1+1)=2 from rfl,show(2+1)=3 from rfl,show(3+1)=4 from rfl,show(16:Int).natAbs=16 from rfl]
  omega
 ·try dsimp only
  rw[zao ow,ze4 (A i 0),x2n (h 0 0 ow ow)]
  simp
theorem q8w:∀k,k<=5->∀A:Nat->Nat->Int,(∀i j,i<5->j<5->(A i j).natAbs<=1)->(∀i j,i<5->k<=i->j<5->A i j≠0)->(det 5 A).natAbs<=64
 | 0,_,A,h1,h2=>x0e λi j hi hj=>by
  have:=h1 i j hi hj
  have:=h2 i j hi (zae _) hj
  grind [One]
 | k+1,hk,A,h1,h2=>by
  have key:∀t,t<=5->∀v:Nat->Int,(∀j,j<5->(v j).natAbs<=1)->(∀j,j<5->t<=j->v j≠0)->(det 5 (upd A k v)).natAbs<=64:=λt=>by
   induction t with
   | zero=>
    intro _ v hv1 hv2
    refine q8w k ow _ (λi j hi hj=>?_) λi j hi hki hj=>?_
    ·grind [upd]
    ·unfold upd; grind
   | succ t ih=>
    intro ht v hv1 hv2
    by_cases e:v t=0
    ·have a1:=ih ow (λj=>if j=t then 1 else v j) (λj hj=>by
      grind) (λj hj htj=>by
      grind)
     have a2:=ih ow (λj=>if j=t then -1 else v j) (λj hj=>by
      grind) (λj hj htj=>by
      grind)
     have e1:=qs6 5 A k ow 1 1 (λj=>if j=t then 1 else v j) (λj=>if j=t then -1 else v j)
     have e2:=qs6 5 A k ow 2 0 v v
     have e3:(λj=>(1:Int)*(if j=t then 1 else v j)+1*(if j=t then -1 else v j))=λj=>2*v j+0*v j:=by
      funext j
      grind
     grind
    grind
  have:=key 5 (zab _) (A k) (λj hj=>h1 k j ow hj) λj hj h5=>by omega
  grind [q2n]
theorem xh1 {n:Nat} (hn:n<=6) {A:Nat->Nat->Int} (h:∀i j,i<n->j<n->(A i j).natAbs<=1):(det n A).natAbs<=400:=by
 have h5:∀{A:Nat->Nat->Int},(∀i j,i<5->j<5->(A i j).natAbs<=1)->(det 5 A).natAbs<=64:=λ{A} h=>q8w 5 (zab _) A h λi j hi h5=>by omega
 rcases zap n 5 with q | q
 ·have:=w1o n h
  have hf:∀k:Fin 5,ye5 k.val<=400:=dc
  exact zaj this (hf ⟨n,q⟩)
 ·rcases zap n 6 with q2 | q2
  ·grind
  ·obtain rfl:n=6:=ow
   exact zaj (we7 (n:=5) (B:=64) (λi hi=>h i 0 hi ow) λi hi=>h5 λa b ha hb=>h _ _ (q59 ha) ow) dc
end Go.Proofs.YtnchigbbjajiiaaGreat
