/- The kernels of the program and of the reference are the same lists. Plain mathematics. No condition. -/
import Derived.Test.YtnchigbbjajiiaaGreatV28
import Derived.Test.YtnchigbbjajiiaaGreatW11
set_option linter.unusedVariables false
namespace Go.Proofs.YtnchigbbjajiiaaGreat
open Go Go.RowKit Eng
def mkM (n W:Nat) (A:Nat->Nat->Int):List (List Int):=(List.range n).map λa=>(List.range W).map λc=>A a c
theorem xj4 {n W:Nat} (A:Nat->Nat->Int) {a:Nat} (ha:a<n):nL (mkM n W A) a=(List.range W).map λc=>A a c:=by
 grind [qm3,mkM]
theorem ya0 {n W:Nat} (A:Nat->Nat->Int) {a c:Nat} (ha:a<n) (hc:c<W):nI (nL (mkM n W A) a) c=A a c:=by
 grind [xj4,qf1]
theorem x5o (n W:Nat) (A:Nat->Nat->Int):Mat n W (mkM n W A):=⟨by simp[mkM],λi hi=>by grind [xj4]⟩
theorem w1w {n W:Nat} (A:Nat->Nat->Int) (h:n<W):∃z,Sol n W A z/\∃f,f<W/\z f≠0:=by
 have hM:=x5o n W A
 have hst:=qt2 hM W (zab _)
 have hpl:=hst.pl
 obtain⟨f,hf,hq⟩:=Asc.free (N:=W) (P:=(qb7 (mkM n W A) W).2) ow
 obtain⟨z,z1,z2,_⟩:=hst.free (zab _) hf hq λi h1 h2=>hst.zero i h1 h2 f hf
 refine⟨z,λa ha=>?_,f,hf,z2⟩
 rw[<- z1 a ha]
 grind [qe1,rowOf,ya0]
theorem x5p {n:Nat} {B:Nat->Nat->Int} {lam:Nat->Int} (h:∀j,j<n->(sm n λi=>lam i*B i j)=0) {r:Nat} (hr:r<n) (hl:lam r≠0):det n B=0:=by
 have h1:=wm0 B hr lam n (zab _)
 rw[zaj hr] at h1
 have h2:det n (upd B r λj=>sm n λi=>lam i*B i j)=det n (upd B r λ_=>0):=qi6 n λi j hi hj=>by
  grind [upd]
 grind [q1w,qc9]
theorem x5q {n:Nat} {B:Nat->Nat->Int} {k l:Nat} (hk:k<n) (hl:l<n) (hne:k≠l) (h:∀i,i<n->B i k=B i l):det n B=0:=by
 obtain⟨z,z1,f,hf,z2⟩:=w1w (n:=n-1) (W:=n) (λa c=>B c (skp l a)) ow
 have e:∀j,j<n->j≠l->(sm n λi=>z i*B i j)=0:=λj hj hne=>by
  have h1:=z1 (if j<l then j else j-1) (by grind)
  have h2:skp l (if j<l then j else j-1)=j:=by
   by_cases q:j<l
   ·simp_all [if_pos,skp]
   ·rw[zag q]; unfold skp; grind
  grind
 refine x5p (lam:=z) (λj hj=>?_) hf z2
 grind [qe1]
theorem x5r {n:Nat} {A:Nat->Nat->Int} (h:∀lam:Nat->Int,(∀j,j<n->(sm n λi=>lam i*A i j)=0)->∀i,i<n->lam i=0):det n A≠0:=by
 refine x2n λk hk=>?_
 obtain⟨z,z1,f,hf,z2⟩:=w1w (n:=n) (W:=n+1) (λj c=>if c<n then A c j else if k=j then 1 else 0) ow
 have e:∀j,j<n->(sm n λi=>z i*A i j)+(if k=j then 1 else 0)*z n=0:=λj hj=>by
  have h1:=z1 j hj
  simp_all [sm,if_neg,Nat.lt_irrefl,qe1,if_pos,Int.mul_comm]
 have hn:z n≠0:=λhz=>by
  have h2:=h z λj hj=>by
   grind
  grind
 refine⟨- z n,z,ow,λj hj=>?_⟩
 grind
def isP (P:List Int) (c:Nat):Prop:=∃q,q<P.length/\nI P q=(c:Int)
theorem wm7 {P:List Int} {c:Nat}:¬isP P c↔∀q,q<P.length->nI P q≠(c:Int):=
 ⟨λh q hq e=>h ⟨q,hq,e⟩,λh ⟨q,hq,e⟩=>h q hq e⟩
theorem St.isP_at {n W j:Nat} {R:Nat->Nat->Int} {rows:List (List Int)} {P:List Int} (h:St n W R j rows P) {k:Nat} (hk:k<P.length):isP P (nI P k).toNat:=⟨k,hk,by have:=(h.pos k hk).1; omega⟩
theorem St.row_eq {n W:Nat} {R:Nat->Nat->Int} {rows:List (List Int)} {P:List Int} (h:St n W R W rows P) {z:Nat->Int} (hz:Sol n W R z) {f:Nat} (hf:f<W) (hnp:¬isP P f) (h0:∀c,c<W->c≠f->¬isP P c->z c=0) {k:Nat} (hk:k<P.length) :
  nI (nL rows k) (nI P k).toNat*z (nI P k).toNat+nI (nL rows k) f*z f=0:=by
 have hpl:=h.pl
 have hp:=h.pos k hk
 have e:=(h.sol z).1 hz k ow
 unfold dt at e
 have hne:(nI P k).toNat≠f:=λq=>hnp (by rw[<- q]; exact h.isP_at hk)
 rw[q58 (k:=(nI P k).toNat) (l:=f) ow hf hne λc hc h1 h2=>?_] at e
 ·exact e
 ·try dsimp only
  by_cases q:isP P c
  ·obtain⟨q2,hq2,e2⟩:=q
   have:=(h.pos q2 hq2).2.2.2.2 k ow λe3=>h1 (by grind)
   grind
  grind
theorem St.sol_mk {n W:Nat} {R:Nat->Nat->Int} {rows:List (List Int)} {P:List Int} (h:St n W R W rows P) {z:Nat->Int} {f:Nat} (hf:f<W) (hnp:¬isP P f) (h0:∀c,c<W->c≠f->¬isP P c->z c=0)
  (hr:∀k,k<P.length->nI (nL rows k) (nI P k).toNat*z (nI P k).toNat+nI (nL rows k) f*z f=0):Sol n W R z:=by
 refine(h.sol z).2 λi hi=>?_
 unfold dt
 rcases zaq i P.length with q | q
 ·have hp:=h.pos i q
  have hne:(nI P i).toNat≠f:=λq2=>hnp (by rw[<- q2]; exact h.isP_at q)
  rw[q58 (k:=(nI P i).toNat) (l:=f) ow hf hne λc hc h1 h2=>?_]
  ·grind
  ·try dsimp only
   by_cases q1:isP P c
   ·obtain⟨q2,hq2,e2⟩:=q1
    have:=(h.pos q2 hq2).2.2.2.2 i hi λe3=>h1 (by grind)
    grind
   grind
 ·exact qm5 λc hc=>by
   try dsimp only
   rw[h.zero i q hi c hc,zbv]
theorem St.piv_same {n W:Nat} {R:Nat->Nat->Int} {rows rows':List (List Int)} {P P':List Int} (h:St n W R W rows P) (h':St n W R W rows' P') {f:Nat} (hp:isP P f):isP P' f:=zaf λhn=>by
 obtain⟨k,hk,e⟩:=hp
 have hpk:=h.pos k hk
 rw[e,zap] at hpk
 have hf:f<W:=ow
 have hpl':=h'.pl
 obtain⟨z,z1,z2,z3⟩:=h'.free (zab _) hf (wm7.1 hn) λi h1 h2=>h'.zero i h1 h2 f hf
 have zl:∀c,c<W->f<c->z c=0:=λc hc hfc=>by
  by_cases q:isP P' c
  ·obtain⟨q2,hq2,e2⟩:=q
   have h1:=h'.row_eq z1 hf hn (λc hc h1 h2=>z3 c hc h1 (wm7.1 h2)) hq2
   have h2:=h'.pos q2 hq2
   rw[e2,zap] at h1 h2
   rw[h2.2.2.2.1 f hfc,zbv,ze8] at h1
   grind [qc9]
  grind [wm7]
 have hpl:=h.pl
 have h1:=(h.sol z).1 z1 k ow
 unfold dt at h1
 rw[qr0 (k:=f) hf λc hc hne=>?_] at h1
 ·grind [absurd,qc9]
 grind
theorem St.basis {n W:Nat} {R:Nat->Nat->Int} {rows:List (List Int)} {P:List Int} (h:St n W R W rows P):∃τ:Nat->Nat,(∀i,i<P.length->τ i<n)/\∀k,k<P.length->∃(c:Int) (lam:Nat->Int),c≠0/\∀col,col<W->(sm P.length λq=>lam q*R (τ q) col)=c*nI (nL rows k) col:=by
 obtain⟨ρ,pv,τ,hE,t1,t2,t3,t4,t5,t6⟩:=h.tag
 have hpl:=h.pl
 refine⟨τ,λi hi=>t1 i ow,λk hk=>?_⟩
 obtain⟨c,l,hc,hl,hs,_⟩:=hE.comb (τ k) (t1 k ow)
 refine⟨c,λq=>l (τ q),hc,λcol hcol=>?_⟩
 rw[<- t4 k ow col hcol,hl col hcol]
 refine(qx5 P.length (f:=λb=>l b*R b col) (λq hq=>t1 q ow) (λq k hq hk=>t2 q k ow ow) λb hb hq=>?_).symm
 grind
theorem St.minors {n W:Nat} {R:Nat->Nat->Int} {rows:List (List Int)} {P:List Int} (h:St n W R W rows P) (hn:n<=6) (h1:∀a c,a<n->c<W->(R a c).natAbs<=1) :
  ∃D:Int,D≠0/\D.natAbs<=160/\∀f,f<W->¬isP P f->∃w:Nat->Int,(∀k,k<P.length->(w k).natAbs<=160)/\∀k,k<P.length->nI (nL rows k) (nI P k).toNat*w k+nI (nL rows k) f*D=0:=by
 obtain⟨τ,t1,hcomb⟩:=h.basis
 have hpl:=h.pl
 have hpW:∀k,k<P.length->(nI P k).toNat<W:=λk hk=>by have:=h.pos k hk; omega
 have hrow:∀k,k<P.length->∀c,c<P.length->nI (nL rows k) (nI P c).toNat=if k=c then nI (nL rows k) (nI P k).toNat else 0:=λk hk c hc=>by
  by_cases q:k=c
  ·grind
  ·rw[zag q]
   exact(h.pos c hc).2.2.2.2 k ow q
 have hpp:∀k,k<P.length->0<nI (nL rows k) (nI P k).toNat:=λk hk=>(h.pos k hk).2.2.1
 -- what all the first rows say is said by the reduced ones
 have tell:∀(m:Nat) (s:Nat->Nat) (w:Nat->Int),(∀c,c<m->s c<W)->(∀b,b<P.length->(sm m λc=>R (τ b) (s c)*w c)=0)->∀k,k<P.length->(sm m λc=>nI (nL rows k) (s c)*w c)=0:=λm s w hs hw k hk=>by
  obtain⟨c0,lam,hc0,hl⟩:=hcomb k hk
  refine qc9 (a:=c0) ?_ hc0
  rw[<- qk8]
  have e:(sm m λc=>c0*(nI (nL rows k) (s c)*w c))=sm m λc=>sm P.length λq=>lam q*(R (τ q) (s c)*w c):=qe1 λc hc=>by
   grind [Int.mul_assoc,Int.mul_comm,qk8,qe1]
  rw[e,xf6]
  refine qm5 λq hq=>?_
  try dsimp only
  rw[qk8,hw q hq,zbb]
 refine⟨det P.length λa b=>R (τ b) (nI P a).toNat,x5r λlam hlam k hk=>?_,xh4 ow λa b ha hb=>h1 _ _ (t1 b hb) (hpW a ha),λf hf hnp=>?_⟩
 ·have e:=tell P.length (λa=>(nI P a).toNat) lam hpW (λb hb=>by
   grind) k hk
  rw[qr0 (k:=k) hk λi hi hne=>by
   grind] at e
  grind [qc9]
 ·obtain⟨s,hs0,hsk⟩:∃s:Nat->Nat,s 0=f/\∀c,s (c+1)=(nI P c).toNat:=⟨λc=>match c with | 0=>f | c+1=>(nI P c).toNat,rfl,λ_=>rfl⟩
  have hsW:∀c,c<P.length+1->s c<W:=λc hc=>by
   cases c with
   | zero=>omega
   | succ c=>grind
  obtain⟨w,hw⟩:∃w:Nat->Int,∀c,w c=sgn c*det P.length λa b=>R (τ b) (s (skp c a)):=⟨_,λ_=>rfl⟩
  have e0:w 0=det P.length λa b=>R (τ b) (nI P a).toNat:=by
   rw[hw,show sgn 0=1 from rfl,ze1]
   refine qi6 _ λa b ha hb=>?_
   have:skp 0 a=a+1:=by rfl
   grind
  refine⟨λk=>w (k+1),λk hk=>?_,λk hk=>?_⟩
  ·try dsimp only
   rw[hw,zbq,wm1,zdw]
   grind [xh4,q59]
  ·have e:=tell (P.length+1) s w hsW (λb hb=>by
    have hd:det (P.length+1) (λc j=>if j=0 then R (τ b) (s c) else R (τ (j-1)) (s c))=0:=x5q (k:=0) (l:=b+1) ow ow ow λi hi=>by
     rfl
    rw[det] at hd
    grind) k hk
   rw[q58 (k:=k+1) (l:=0) ow ow ow λc hc h2 h3=>?_] at e
   ·grind
   ·try dsimp only
    cases c with
    | zero=>omega
    | succ c=>grind
theorem St.piv_160 {n W:Nat} {R:Nat->Nat->Int} {rows:List (List Int)} {P:List Int} (h:St n W R W rows P) (hn:n<=6) (h1:∀a c,a<n->c<W->(R a c).natAbs<=1) {k:Nat} (hk:k<P.length):(nI (nL rows k) (nI P k).toNat).natAbs<=160:=by
 have hpl:=h.pl
 have hp:=h.pos k hk
 obtain⟨D,hD,hD2,hw⟩:=h.minors hn h1
 obtain⟨ρ,pv,τ,hE,t1,t2,t3,t4,t5,t6⟩:=h.tag
 rcases t6 k ow with⟨s,hs,e⟩ | e | e
 ·grind
 ·grind
 ·have hx:∀c,∃x:Int,c<W->D*nI (nL rows k) c=nI (nL rows k) (nI P k).toNat*x/\(c=(nI P k).toNat->x=D):=λc=>by
   by_cases q:c=(nI P k).toNat
   ·exact⟨D,λ_=>⟨by grind,λ_=>rfl⟩⟩
   ·by_cases q2:isP P c
    ·obtain⟨q3,hq3,e3⟩:=q2
     refine⟨0,λ_=>⟨?_,λq4=>absurd q4 q⟩⟩
     have:=(h.pos q3 hq3).2.2.2.2 k ow λq4=>q (by grind)
     rw[e3,zap] at this
     grind
    ·by_cases q4:c<W
     ·obtain⟨w,_,w2⟩:=hw c q4 q2
      have:=w2 k hk
      exact⟨- w k,λ_=>⟨by grind,λq4=>absurd q4 q⟩⟩
     ·exact⟨0,λq5=>absurd q5 q4⟩
  obtain⟨x,hx⟩:=zbs hx
  have:=ww5 (W:=W) (r:=nI (nL rows k)) (s:=x) (α:=D) (β:=nI (nL rows k) (nI P k).toNat) hD (λc hc=>(hx c hc).1) e (nI P k).toNat ow
  grind
structure KV (n W:Nat) (R:Nat->Nat->Int) (P:List Int) (f:Nat) (v:List Int):Prop where
 len:v.length=W
 sol:Sol n W R (nI v)
 free:∀c,c<W->c≠f->¬isP P c->nI v c=0
 pos:0<nI v f
theorem KV.prim {n W:Nat} {R:Nat->Nat->Int} {P:List Int} {f:Nat} {v:List Int} (h:KV n W R P f v) (hf:f<W):KV n W R P f (qk1 v):=by
 have hl:=h.len
 have hg:0<max (gcdL v) 1:=ow
 have hm:∀c,c<W->max (gcdL v) 1*nI (qk1 v) c=nI v c:=λc hc=>qz3 v ow
 refine⟨by grind [qn6],λa ha=>?_,λc hc h1 h2=>?_,?_⟩
 ·have:=h.sol a ha
  refine qc9 (a:=max (gcdL v) 1) ?_ ow
  grind [qk8,qe1]
 ·have:=hm c hc
  rw[h.free c hc h1 h2] at this
  grind [qc9]
 ·have:=hm f hf
  have:=h.pos
  exact q4q hg ow
theorem KV.trans {n W:Nat} {R:Nat->Nat->Int} {P P':List Int} {f:Nat} {v:List Int} (h:KV n W R P f v) (hP:∀c,isP P c↔isP P' c):KV n W R P' f v:=
 ⟨h.len,h.sol,λc hc h1 h2=>h.free c hc h1 λq=>h2 ((hP c).1 q),h.pos⟩
theorem KV.cross {n W:Nat} {R:Nat->Nat->Int} {rows:List (List Int)} {P:List Int} (hs:St n W R W rows P) {f:Nat} (hf:f<W) (hnp:¬isP P f) {v u:List Int} (hv:KV n W R P f v) (hu:KV n W R P f u):∀c,c<W->nI u f*nI v c=nI v f*nI u c:=λc hc=>by
 by_cases q:c=f
 ·grind
 ·by_cases q2:isP P c
  ·obtain⟨k,hk,e⟩:=q2
   have a:=hs.row_eq hv.sol hf hnp hv.free hk
   have b:=hs.row_eq hu.sol hf hnp hu.free hk
   have hp:=(hs.pos k hk).2.2.1
   rw[e,zap] at a b hp
   have:nI (nL rows k) c*(nI u f*nI v c-nI v f*nI u c)=0:=by grind
   grind [qc9]
  ·rw[hv.free c hc q q2,hu.free c hc q q2,zbb,zbb]
theorem Prim.gcd {v:List Int} {W f:Nat} (h:Prim v) (hl:v.length=W) (hf:f<W) (hp:0<nI v f):∀d:Nat,(∀c,c<W->d∣(nI v c).natAbs)->d=1:=by
 subst hl
 rcases h with h | h
 all_goals simp_all
theorem KV.uniq {n W:Nat} {R:Nat->Nat->Int} {rows:List (List Int)} {P:List Int} (hs:St n W R W rows P) {f:Nat} (hf:f<W) (hnp:¬isP P f) {v u:List Int} (hv:KV n W R P f v) (hu:KV n W R P f u) (pv:Prim v) (pu:Prim u):v=u:=by
 have hc:=hv.cross hs hf hnp hu
 have a:=ww5 (W:=W) (r:=nI v) (s:=nI u) (α:=nI u f) (β:=nI v f) (by have:=hu.pos; omega) hc (pv.gcd hv.len hf hv.pos)
 have b:=ww5 (W:=W) (r:=nI u) (s:=nI v) (α:=nI v f) (β:=nI u f) (by have:=hv.pos; omega) (λc h=>(hc c h).symm) (pu.gcd hu.len hf hu.pos)
 have hff:nI u f=nI v f:=by
  have:=a f hf; have:=b f hf; have:=hv.pos; have:=hu.pos; omega
 have h1:=hv.len
 have h2:=hu.len
 refine zbd ow λi hi hi2=>?_
 rw[<- qf1 v i hi,<- qf1 u i hi2]
 have:=hc i ow
 rw[hff] at this
 exact Int.eq_of_mul_eq_mul_left (by have:=hv.pos; omega) this
theorem KV.small {n W:Nat} {R:Nat->Nat->Int} {rows:List (List Int)} {P:List Int} (hs:St n W R W rows P) (hn:n<=6) (h1:∀a c,a<n->c<W->(R a c).natAbs<=1) {f:Nat} (hf:f<W) (hnp:¬isP P f) {v:List Int} (hv:KV n W R P f v) (pv:Prim v):∀x∈v,x.natAbs<=160:=by
 obtain⟨D,hD,hD2,hw⟩:=hs.minors hn h1
 obtain⟨w,w1,w2⟩:=hw f hf hnp
 have hx:∀c,∃x:Int,c<W->D*nI v c=nI v f*x/\x.natAbs<=160:=λc=>by
  by_cases q:c=f
  ·grind
  ·by_cases q2:isP P c
   ·obtain⟨k,hk,e⟩:=q2
    refine⟨w k,λ_=>⟨?_,w1 k hk⟩⟩
    have a:=hs.row_eq hv.sol hf hnp hv.free hk
    have b:=w2 k hk
    have hp:=(hs.pos k hk).2.2.1
    rw[e,zap] at a b hp
    have:nI (nL rows k) c*(D*nI v c-nI v f*w k)=0:=by grind
    grind [qc9]
   ·exact⟨0,λhc=>⟨by rw[hv.free c hc q q2,zbb,zbb],dc⟩⟩
 obtain⟨x,hx⟩:=zbs hx
 have:=ww5 (W:=W) (r:=nI v) (s:=x) (α:=D) (β:=nI v f) hD (λc hc=>(hx c hc).1) (pv.gcd hv.len hf hv.pos)
 intro y hy
 obtain⟨c,hc,rfl⟩:=q8z hy
 have hl:=hv.len
 grind
theorem xj5 {P:List Int} {f:Nat}:(P.any λe=>(f:Int)==e)=true↔isP P f:=by
 rw[zbn]
 constructor
 ·rintro⟨x,hx,e⟩
  obtain⟨q,hq,rfl⟩:=q8z hx
  exact⟨q,hq,(beq_iff_eq.1 e).symm⟩
 ·rintro⟨q,hq,e⟩
  exact⟨nI P q,q8y hq,beq_iff_eq.2 e.symm⟩
theorem wx5 (P:List Int) (f:Nat):∀k,qp2 P f k=true↔∀q,q<k->nI P q≠(f:Int)
 | 0=>⟨λ_ q hq=>absurd hq (zat _),λ_=>rfl⟩
 | k+1=>by
  rw[qp2,za3,wx5 P f k,bne_iff_ne]
  grind
theorem q5p {P:List Int} {f:Nat}:qp2 P f P.length=true↔¬isP P f:=by rw[wx5,wm7]
def q07 (n f:Nat) (t:Int) (P:List Int) (val:Nat->Int):Nat->List Int
 | 0=>(List.replicate n 0).set f t
 | k+1=>(q07 n f t P val k).set (nI P k).toNat (val k)
theorem qz5 (n f:Nat) (t:Int) (P:List Int) (val:Nat->Int):∀k,(q07 n f t P val k).length=n
 | 0=>by simp[q07]
 | k+1=>by rw[q07,za6]; exact qz5 n f t P val k
theorem x2r (n c:Nat):nI (List.replicate n (0:Int)) c=0:=by
 grind [Nat.lt_or_ge,qf1,wm6]
theorem q86 {n f:Nat} {t:Int} {P:List Int} {val:Nat->Int} (hf:f<n) (hP:∀k,k<P.length->0<=nI P k/\nI P k<n) (hnp:¬isP P f):∀k,k<=P.length->nI (q07 n f t P val k) f=t
 | 0,_=>by rw[q07,q85 _ (by grind),zaj rfl]
 | k+1,hk=>by
  have:=hP k ow
  rw[q07,q85 _ (by grind [qz5]),zag λe=>hnp ⟨k,ow,ow⟩]
  exact q86 hf hP hnp k ow
theorem w1x {n f:Nat} {t:Int} {P:List Int} {val:Nat->Int} (hf:f<n) (hP:∀k,k<P.length->0<=nI P k/\nI P k<n) {c:Nat} (hc:c≠f) (hnp:¬isP P c):∀k,k<=P.length->nI (q07 n f t P val k) c=0
 | 0,_=>by simp_all [q07,q85,if_neg,x2r]
 | k+1,hk=>by
  have:=hP k ow
  rw[q07,q85 _ (by grind [qz5]),zag λe=>hnp ⟨k,ow,ow⟩]
  exact w1x hf hP hc hnp k ow
theorem w1y {n f:Nat} {t:Int} {P:List Int} {val:Nat->Int} (hP:∀k,k<P.length->0<=nI P k/\nI P k<n) (hinj:∀q k,q<P.length->k<P.length->nI P q=nI P k->q=k):∀k,k<=P.length->∀q,q<k->nI (q07 n f t P val k) (nI P q).toNat=val q
 | 0,_,q,hq=>absurd hq (zat _)
 | k+1,hk,q,hq=>by
  have h1:=hP k ow
  have h2:=hP q ow
  rw[q07,q85 _ (by grind [qz5])]
  rcases zau.1 hq with e | e
  ·rw[zag λe2=>by grind]
   exact w1y hP hinj k ow q e
  grind
theorem xj6 (r:List (List Int)) (P:List Int) (n f:Nat):∀k,hTo r P n f k=q07 n f (qf7 r P f P.length) P (λk=>((0-nI (nL r k) f)*qf7 r P f P.length).tdiv (nI (nL r k) (nI P k).toNat)) k
 | 0=>rfl
 | k+1=>by rw[hTo,q07,xj6 r P n f k]
theorem w4t (r:List (List Int)) (P:List Int) (n f:Nat):∀k,q9w r P n f k=q07 n f (ql4 r P P.length) P (λk=>(0-nI (nL r k) f)*(ql4 r P P.length).tdiv (q8j r P k)) k
 | 0=>rfl
 | k+1=>by rw[q9w,q07,w4t r P n f k]
theorem w1z (a b:Int):∃x,a=gcdI a b*x:=by
 have h:gcdI a b∣a:=za7.1 (zb1 _ _)
 exact h
theorem w11 (a b:Int):∃x,b=gcdI a b*x:=by
 have h:gcdI a b∣b:=za7.1 (zb4 _ _)
 exact h
theorem x2s {a d:Int} (ha:0<a) (hd:0<d):0<a*d.tdiv (gcdI a d)/\a∣a*d.tdiv (gcdI a d)/\d∣a*d.tdiv (gcdI a d)/\(a*d.tdiv (gcdI a d)).natAbs<=a.natAbs*d.natAbs/\a.tdiv (gcdI a d)*d=a*d.tdiv (gcdI a d):=by
 have hg:=ql9 (a:=a) (b:=d) (.inl ow)
 obtain⟨x,hx⟩:=w1z a d
 obtain⟨y,hy⟩:=w11 a d
 generalize gcdI a d=g at hg hx hy ⊢
 have e1:d.tdiv g=y:=by grind [Int.mul_tdiv_cancel_left]
 have e2:a.tdiv g=x:=by grind [Int.mul_tdiv_cancel_left]
 have hy0:0<y:=q4q hg ow
 rw[e1,e2]
 refine⟨zb8 ha hy0,⟨y,rfl⟩,⟨x,by grind⟩,?_,by grind⟩
 rw[zbq]
 refine zdt _ ?_
 rw[<- e1]
 exact q0x _ _
theorem w4u {p r:Int} (hp:0<p):0<p.tdiv (gcdI p r)/\(p.tdiv (gcdI p r)).natAbs<=p.natAbs/\∀t,p.tdiv (gcdI p r)∣t->p∣(0-r)*t:=by
 have hg:=ql9 (a:=p) (b:=r) (.inl ow)
 obtain⟨x,hx⟩:=w1z p r
 obtain⟨y,hy⟩:=w11 p r
 refine⟨?_,q0x _ _,λt ht=>?_⟩
 ·generalize gcdI p r=g at hg hx hy ⊢
  rw[hx,zef _ ow]
  exact q4q hg ow
 ·generalize gcdI p r=g at hg hx hy ht
  rw[hx,zef _ ow] at ht
  obtain⟨u,hu⟩:=ht
  exact⟨- (y*u),by grind⟩
theorem q5q {r:List (List Int)} {P:List Int} {f:Nat} (hp:∀k,k<P.length->0<nI (nL r k) (nI P k).toNat/\(nI (nL r k) (nI P k).toNat).natAbs<=160):∀k,k<=P.length->0<qf7 r P f k/\(qf7 r P f k).natAbs<=160 ^ k/\∀q,q<k->q6h r P f q∣qf7 r P f k
 | 0,_=>⟨by show(0:Int)<1; decide,by show(1:Int).natAbs<=160 ^ 0; decide,λq hq=>absurd hq (zat _)⟩
 | k+1,hk=>by
  obtain⟨a1,a2,a3⟩:=q5q hp k ow
  obtain⟨b1,b2⟩:=hp k ow
  obtain⟨c1,c2,_⟩:=w4u (r:=nI (nL r k) f) b1
  change 0<q6h r P f k at c1
  change(q6h r P f k).natAbs<=_ at c2
  obtain⟨d1,d2,d3,d4,_⟩:=x2s a1 c1
  rw[qf7]
  refine⟨d1,?_,λq hq=>?_⟩
  ·rw[zb2]
   exact zal d4 (zbl a2 ow)
  grind [Nat.lt_succ_iff_lt_or_eq,Int.dvd_trans,d3]
theorem wm8 {r:List (List Int)} {P:List Int} (hp:∀k,k<P.length->0<q8j r P k/\(q8j r P k).natAbs<=160):∀k,k<=P.length->0<ql4 r P k/\(ql4 r P k).natAbs<=160 ^ k/\∀q,q<k->q8j r P q∣ql4 r P k
 | 0,_=>⟨by show(0:Int)<1; decide,by show(1:Int).natAbs<=160 ^ 0; decide,λq hq=>absurd hq (zat _)⟩
 | k+1,hk=>by
  obtain⟨a1,a2,a3⟩:=wm8 hp k ow
  obtain⟨b1,b2⟩:=hp k ow
  obtain⟨d1,d2,d3,d4,d5⟩:=x2s a1 b1
  rw[ql4,d5]
  refine⟨d1,?_,λq hq=>?_⟩
  ·rw[zb2]
   exact zal d4 (zbl a2 b2)
  grind [Nat.lt_succ_iff_lt_or_eq,Int.dvd_trans,d3]
theorem w4v {k:Nat} (h:k<=6):160 ^ k<=16777216000000:=zal (zdm dc h) dc
structure Ones (n W:Nat) (M:List (List Int)):Prop extends Mat n W M where
 n1:0<n
 n6:n<=6
 w1:0<W
 w:W<=1000
 one:∀a c,a<n->c<W->(nI (nL M a) c).natAbs<=1
theorem Ones.small {n W:Nat} {M:List (List Int)} (h:Ones n W M):Small n W W M:=⟨h.toMat,h.n6,zab _,h.w,h.one,λa c ha hc=>by have:=h.one a c ha hc; omega⟩
theorem Ones.small2 {n W:Nat} {M:List (List Int)} (h:Ones n W M):Small n (W-1) (W-1+1) M:=by
 have h1:=h.w1
 have e:W-1+1=W:=ow
 rw[e]
 exact⟨h.toMat,h.n6,ow,h.w,λa c ha hc=>h.one a c ha ow,λa c ha hc=>by have:=h.one a c ha hc; omega⟩
theorem Ones.rdW {n W:Nat} {M:List (List Int)} (h:Ones n W M):rdW M=W:=h.each 0 h.n1
theorem Ones.stP {n W:Nat} {M:List (List Int)} (h:Ones n W M):St n W (rowOf M) W (qb7 M W).1 (qb7 M W).2:=qt2 h.toMat W (zab _)
theorem Ones.stR {n W:Nat} {M:List (List Int)} (h:Ones n W M):St n W (rowOf M) W ((qf8 M W).done_++(qf8 M W).left) (qf8 M W).piv:=(qx4 h.toMat W (zab _)).st
theorem Ones.at_ {n W:Nat} {M:List (List Int)} (h:Ones n W M) {k:Nat} (hk:k<(qf8 M W).piv.length):nL ((qf8 M W).done_++(qf8 M W).left) k=nL (qf8 M W).done_ k:=qo0 _ _ (by rw[(qx4 h.toMat W (zab _)).cnt]; omega)
theorem Ones.redOk {n W:Nat} {M:List (List Int)} (h:Ones n W M):q78 M W W:=wx1 h.small
theorem Ones.rdOk {n W:Nat} {M:List (List Int)} (h:Ones n W M):xe5 M:=(w4r h.small2 h.n1).1
theorem Ones.pP {n W:Nat} {M:List (List Int)} (h:Ones n W M):∀k,k<(qb7 M W).2.length->0<nI (nL (qb7 M W).1 k) (nI (qb7 M W).2 k).toNat/\(nI (nL (qb7 M W).1 k) (nI (qb7 M W).2 k).toNat).natAbs<=160:=λk hk=>
 ⟨(h.stP.pos k hk).2.2.1,h.stP.piv_160 h.n6 h.one hk⟩
theorem Ones.pR {n W:Nat} {M:List (List Int)} (h:Ones n W M):∀k,k<(qf8 M W).piv.length->0<q8j (qf8 M W).done_ (qf8 M W).piv k/\(q8j (qf8 M W).done_ (qf8 M W).piv k).natAbs<=160:=λk hk=>by
 have h1:=(h.stR.pos k hk).2.2.1
 have h2:=h.stR.piv_160 h.n6 h.one hk
 rw[h.at_ hk] at h1 h2
 exact⟨h1,h2⟩
theorem Ones.kvP {n W:Nat} {M:List (List Int)} (h:Ones n W M) {f:Nat} (hf:f<W) (hnp:¬isP (qb7 M W).2 f):KV n W (rowOf M) (qb7 M W).2 f (hTo (qb7 M W).1 (qb7 M W).2 W f (qb7 M W).2.length):=by
 have hst:=h.stP
 have hP:∀k,k<(qb7 M W).2.length->0<=nI (qb7 M W).2 k/\nI (qb7 M W).2 k<W:=λk hk=>by have:=hst.pos k hk; omega
 have hT:=q5q (f:=f) h.pP _ (zab _)
 rw[xj6]
 have h0:∀c,c<W->c≠f->¬isP (qb7 M W).2 c->nI (q07 W f (qf7 (qb7 M W).1 (qb7 M W).2 f (qb7 M W).2.length) (qb7 M W).2 (λk=>((0-nI (nL (qb7 M W).1 k) f)*qf7 (qb7 M W).1 (qb7 M W).2 f (qb7 M W).2.length).tdiv (nI (nL (qb7 M W).1 k) (nI (qb7 M W).2 k).toNat)) (qb7 M W).2.length) c=0:=λc hc h1 h2=>w1x hf hP h1 h2 _ (zab _)
 refine⟨qz5 _ _ _ _ _ _,hst.sol_mk hf hnp h0 λk hk=>?_,h0,?_⟩
 ·rw[w1y hP (λq k hq hk=>hst.inj hq hk) _ (zab _) k hk,q86 hf hP hnp _ (zab _)]
  have hp:=(h.pP k hk).1
  have hd:=(w4u (r:=nI (nL (qb7 M W).1 k) f) hp).2.2 _ (hT.2.2 k hk)
  grind [Int.mul_tdiv_cancel']
 simp_all [q86,Nat.le_refl]
theorem Ones.kvR {n W:Nat} {M:List (List Int)} (h:Ones n W M) {f:Nat} (hf:f<W) (hnp:¬isP (qf8 M W).piv f):KV n W (rowOf M) (qf8 M W).piv f (q9w (qf8 M W).done_ (qf8 M W).piv W f (qf8 M W).piv.length):=by
 have hst:=h.stR
 have hP:∀k,k<(qf8 M W).piv.length->0<=nI (qf8 M W).piv k/\nI (qf8 M W).piv k<W:=λk hk=>by have:=hst.pos k hk; omega
 have hT:=wm8 h.pR _ (zab _)
 rw[w4t]
 have h0:∀c,c<W->c≠f->¬isP (qf8 M W).piv c->nI (q07 W f (ql4 (qf8 M W).done_ (qf8 M W).piv (qf8 M W).piv.length) (qf8 M W).piv (λk=>(0-nI (nL (qf8 M W).done_ k) f)*(ql4 (qf8 M W).done_ (qf8 M W).piv (qf8 M W).piv.length).tdiv (q8j (qf8 M W).done_ (qf8 M W).piv k)) (qf8 M W).piv.length) c=0:=λc hc h1 h2=>w1x hf hP h1 h2 _ (zab _)
 refine⟨qz5 _ _ _ _ _ _,hst.sol_mk hf hnp h0 λk hk=>?_,h0,?_⟩
 ·rw[w1y hP (λq k hq hk=>hst.inj hq hk) _ (zab _) k hk,q86 hf hP hnp _ (zab _),h.at_ hk]
  have hd:q8j (qf8 M W).done_ (qf8 M W).piv k*(ql4 (qf8 M W).done_ (qf8 M W).piv (qf8 M W).piv.length).tdiv (q8j (qf8 M W).done_ (qf8 M W).piv k)=_:=za9 (hT.2.2 k hk)
  have e:nI (nL (qf8 M W).done_ k) (nI (qf8 M W).piv k).toNat=q8j (qf8 M W).done_ (qf8 M W).piv k:=rfl
  grind
 simp_all [q86,Nat.le_refl]
theorem Ones.piv {n W:Nat} {M:List (List Int)} (h:Ones n W M) (c:Nat):isP (qb7 M W).2 c↔isP (qf8 M W).piv c:=⟨h.stP.piv_same h.stR,h.stR.piv_same h.stP⟩
theorem Ones.ker {n W:Nat} {M:List (List Int)} (h:Ones n W M):∀f,f<=W->qp5 (qb7 M W).1 (qb7 M W).2 W f=qh4 (qf8 M W).done_ (qf8 M W).piv W f
 | 0,_=>rfl
 | f+1,hf=>by
  have ih:=h.ker f ow
  rw[qp5,qh4,ih]
  by_cases q:isP (qb7 M W).2 f
  ·rw[zaj (xj5.2 q),zag λq2=>q5p.1 q2 ((h.piv f).1 q)]
  ·have q2:¬isP (qf8 M W).piv f:=λq3=>q ((h.piv f).2 q3)
   rw[zag λq3=>q (xj5.1 q3),zaj (q5p.2 q2),q6b]
   have a:=(h.kvP ow q).prim ow
   have b:=((h.kvR ow q2).prim ow).trans λc=>(h.piv c).symm
   rw[a.uniq h.stP ow q b (qp3 _) (qp3 _)]
theorem Ones.kernel {n W:Nat} {M:List (List Int)} (h:Ones n W M):qp5 (qb7 M W).1 (qb7 M W).2 W W=qf9 M:=by
 rw[h.ker W (zab _)]
 unfold qf9 qb5
 rw[h.rdW]
theorem Ones.kerAr {n W:Nat} {M:List (List Int)} (h:Ones n W M):xy2 (qb7 M W).1 (qb7 M W).2 W:=by
 have hB:BIG=4000000000000000000:=rfl
 have hst:=h.stP
 have hpl:=hst.pl
 have hn:=h.n6
 have hsm:=λ{k} (hk:k<(qb7 M W).2.length)=>(hst.small h.small (zab _) (i:=k) ow).1
 have hT:=λf=>q5q (f:=f) h.pP
 refine⟨λk hk=>?_,λk hk i hi=>?_,λf hf _ k hk=>?_,λf hf _ k hk=>?_⟩
 ·have:=(h.pP k hk).1; omega
 ·grind
 ·grind [w4v]
 ·obtain⟨a,b,_⟩:=hT f _ (zab _)
  have:=w4v (k:=(qb7 M W).2.length) ow
  have h1:=hsm hk f hf
  have:=q0w (a:=0-nI (nL (qb7 M W).1 k) f) (A:=46656) ow (zal b this)
  omega
theorem Ones.krOk {n W:Nat} {M:List (List Int)} (h:Ones n W M):x6y M:=by
 have hB:BIG=4000000000000000000:=rfl
 have hrst:=qx4 h.toMat W (zab _)
 have hst:=h.stR
 have hpl:=hst.pl
 have hn:=h.n6
 have h1:=h.n1
 have hlen:=h.len
 have hsm:=λ{k} (hk:k<(qf8 M W).piv.length)=>(hst.small h.small (zab _) (i:=k) ow).1
 have hT:=wm8 h.pR
 refine⟨h.rdOk,ow,?_⟩
 unfold qb5
 rw[h.rdW]
 refine⟨hrst.cnt,λk hk=>?_,λk hk=>?_,λk hk=>?_,λk hk i hi=>?_,λf hf _ k hk=>?_,λf hf _ k hk=>?_⟩
 ·try dsimp only at hk
  rw[hrst.cnt] at hk
  try dsimp only
  rw[<- h.at_ hk]
  exact hst.each k ow
 ·have:=hst.pos k hk; grind
 ·have:=(h.pR k hk).1; grind
 ·have hk:k<(qf8 M W).piv.length:=hk
  have:=hsm hk i hi
  rw[h.at_ hk] at this
  grind
 ·grind [qf8,w4v]
 ·have hk:k<(qf8 M W).piv.length:=hk
  obtain⟨a,b,_⟩:=hT _ (zab _)
  have h2:=w4v (k:=(qf8 M W).piv.length) ow
  have h3:=hsm hk f hf
  rw[h.at_ hk] at h3
  have:=q0w (a:=0-nI (nL (qf8 M W).done_ k) f) (b:=(ql4 (qf8 M W).done_ (qf8 M W).piv (qf8 M W).piv.length).tdiv (q8j (qf8 M W).done_ (qf8 M W).piv k)) (A:=46656) (B:=16777216000000) ow (zal (q0x _ _) (zal b h2))
  grind
def q87 (M:List (List Int)) (W:Nat):List Nat:=(List.range W).filter λc=>qp2 (qf8 M W).piv c (qf8 M W).piv.length
theorem wf4 (d:List (List Int)) (P:List Int) (n:Nat):∀f,qh4 d P n f=((List.range f).filter λc=>qp2 P c P.length).map λc=>qk1 (q9w d P n c P.length)
 | 0=>rfl
 | f+1=>by
  rw[qh4,wf4 d P n f,zc9,List.filter_append,List.map_append]
  grind
theorem Ones.kernel_map {n W:Nat} {M:List (List Int)} (h:Ones n W M):qf9 M=(q87 M W).map λc=>qk1 (q9w (qf8 M W).done_ (qf8 M W).piv W c (qf8 M W).piv.length):=by
 unfold qf9 qb5
 rw[h.rdW,wf4]
 rfl
theorem qz6 {M:List (List Int)} {W c:Nat}:c∈q87 M W↔c<W/\¬isP (qf8 M W).piv c:=by
 grind [q87,q5p]
theorem Ones.one_free {n W:Nat} {M:List (List Int)} (h:Ones n W M) (h1:(qf9 M).length=1):∃f,f<W/\¬isP (qf8 M W).piv f/\(∀c,c<W->c≠f->isP (qf8 M W).piv c)/\KV n W (rowOf M) (qf8 M W).piv f (nL (qf9 M) 0)/\Prim (nL (qf9 M) 0):=by
 rw[h.kernel_map] at h1 ⊢
 rw[za4] at h1
 obtain⟨f,hf⟩:=zda.1 h1
 have hm:f∈q87 M W:=by grind
 obtain⟨hfW,hnp⟩:=qz6.1 hm
 refine⟨f,hfW,hnp,λc hc hne=>zaf λq=>?_,?_,?_⟩
 ·have:c∈q87 M W:=qz6.2 ⟨hc,q⟩
  grind
 ·rw[hf]
  exact(h.kvR hfW hnp).prim hfW
 ·rw[hf]
  exact qp3 _
theorem Ones.ker_small {n W:Nat} {M:List (List Int)} (h:Ones n W M) {v:List Int} (hv:v∈qf9 M):v.length=W/\∀x∈v,x.natAbs<=160:=by
 rw[h.kernel_map] at hv
 obtain⟨f,hf,rfl⟩:=zba.1 hv
 obtain⟨hfW,hnp⟩:=qz6.1 hf
 have hk:=(h.kvR hfW hnp).prim hfW
 exact⟨hk.len,hk.small h.stR h.n6 h.one hfW hnp (qp3 _)⟩
theorem Ones.one_mk {n W:Nat} {M:List (List Int)} (h:Ones n W M) {u:Nat->Int} (hu:Sol n W (rowOf M) u) (hu0:∀c,c<W->u c≠0) (hmin:∀z,Sol n W (rowOf M) z->(∃c,c<W/\z c=0)->∀c,c<W->z c=0):(qf9 M).length=1/\∀c,c<W->nI (nL (qf9 M) 0) c≠0:=by
 have hw:=h.w1
 have two:∀f g,f∈q87 M W->g∈q87 M W->f=g:=λf g hf hg=>zaf λhne=>by
  obtain⟨hfW,hfn⟩:=qz6.1 hf
  obtain⟨hgW,hgn⟩:=qz6.1 hg
  have hk:=h.kvR hfW hfn
  have:=hmin _ hk.sol ⟨g,hgW,hk.free g hgW (zc6 hne) hgn⟩ f hfW
  have:=hk.pos
  omega
 have ex:∃f,f∈q87 M W:=zaf λhno=>by
  have hall:∀c,c<W->isP (qf8 M W).piv c:=λc hc=>zaf λq=>hno ⟨c,qz6.2 ⟨hc,q⟩⟩
  obtain⟨k,hk,e⟩:=hall 0 hw
  have hst:=h.stR
  have hpl:=hst.pl
  have hp:=hst.pos k hk
  have h1:=(hst.sol u).1 hu k ow
  unfold dt at h1
  rw[e,zap] at hp
  rw[qr0 (k:=0) hw λc hc hne=>?_] at h1
  ·grind [qc9]
  ·try dsimp only
   obtain⟨q,hq,e2⟩:=hall c hc
   have:=(hst.pos q hq).2.2.2.2 k ow λe3=>hne (by grind)
   grind
 obtain⟨f,hf⟩:=ex
 have hnd:(q87 M W).Nodup:=List.nodup_range.filter _
 have h1:(q87 M W).length=1:=by
  match hl:q87 M W,hnd with
  | [],_=>grind
  | [a],_=>rfl
  | a :: b :: t,hnd=>
   have:=two a b (by grind) (by grind)
   grind
 have hk1:(qf9 M).length=1:=by rw[h.kernel_map,za4]; omega
 refine⟨hk1,λc hc q=>?_⟩
 obtain⟨f,hfW,hfn,_,hv,_⟩:=h.one_free hk1
 have:=hmin _ hv.sol ⟨c,hc,q⟩ f hfW
 have:=hv.pos
 omega
end Go.Proofs.YtnchigbbjajiiaaGreat
