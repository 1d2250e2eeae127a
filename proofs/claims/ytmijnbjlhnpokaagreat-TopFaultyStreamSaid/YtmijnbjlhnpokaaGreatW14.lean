/- Kernel vectors: how great they are, and that there is one way to write them. Plain mathematics. No condition. -/
import Derived.Test.YtmijnbjlhnpokaaGreatW13
import Derived.Test.YtmijnbjlhnpokaaGreatW11
set_option linter.unusedVariables false
namespace Go.Proofs.YtmijnbjlhnpokaaGreat
open Go Go.RowKit Eng
def mkM (n W:Nat) (A:Nat->Nat->Int):List (List Int):=(List.range n).map λa=>(List.range W).map λc=>A a c
theorem xa6 {n W:Nat} (A:Nat->Nat->Int) {a:Nat} (ha:a<n):nL (mkM n W A) a=(List.range W).map λc=>A a c:=by
 rw[qm1 _ _ (by simp[mkM]; exact ha)]; simp[mkM]
theorem x5k {n W:Nat} (A:Nat->Nat->Int) {a c:Nat} (ha:a<n) (hc:c<W):nI (nL (mkM n W A) a) c=A a c:=by
 rw[xa6 A ha,qh0 _ _ (by simp; exact hc)]; simp
theorem x1c (n W:Nat) (A:Nat->Nat->Int):Mat n W (mkM n W A):=⟨by simp[mkM],λi hi=>by rw[xa6 A hi]; simp⟩
theorem wz5 {n W:Nat} (A:Nat->Nat->Int) (h:n<W):∃z,Sol n W A z/\∃f,f<W/\z f≠0:=by
 have hM:=x1c n W A
 have hst:=qz3 hM W (Nat.le_refl _)
 have hpl:=hst.pl
 obtain⟨f,hf,hq⟩:=Asc.free (N:=W) (P:=(qc7 (mkM n W A) W).2) (by omega)
 obtain⟨z,z1,z2,_⟩:=hst.free (Nat.le_refl _) hf hq λi h1 h2=>hst.zero i h1 h2 f hf
 refine⟨z,λa ha=>?_,f,hf,z2⟩
 rw[<- z1 a ha]
 refine qg7 λc hc=>?_
 unfold rowOf
 rw[x5k A ha hc]
theorem x1d {n:Nat} {B:Nat->Nat->Int} {lam:Nat->Int} (h:∀j,j<n->(sm n λi=>lam i*B i j)=0) {r:Nat} (hr:r<n) (hl:lam r≠0):det n B=0:=by
 have h1:=w2e B hr lam n (Nat.le_refl _)
 rw[if_pos hr] at h1
 have h2:det n (upd B r λj=>sm n λi=>lam i*B i j)=det n (upd B r λ_=>0):=qh8 n λi j hi hj=>by
  unfold upd; split
  ·exact h j hj
  ·rfl
 rw[h2,q04 hr] at h1
 exact qd2 h1.symm hl
theorem x1e {n:Nat} {B:Nat->Nat->Int} {k l:Nat} (hk:k<n) (hl:l<n) (hne:k≠l) (h:∀i,i<n->B i k=B i l):det n B=0:=by
 obtain⟨z,z1,f,hf,z2⟩:=wz5 (n:=n-1) (W:=n) (λa c=>B c (skp l a)) (by omega)
 have e:∀j,j<n->j≠l->(sm n λi=>z i*B i j)=0:=λj hj hne=>by
  have h1:=z1 (if j<l then j else j-1) (by split <;> omega)
  have h2:skp l (if j<l then j else j-1)=j:=by
   by_cases q:j<l
   ·rw[if_pos q]; unfold skp; rw[if_pos q]
   ·rw[if_neg q]; unfold skp; rw[if_neg (by omega)]; omega
  try dsimp only at h1
  rw[h2] at h1
  rw[<- h1]
  exact qg7 λi hi=>Int.mul_comm _ _
 refine x1d (lam:=z) (λj hj=>?_) hf z2
 by_cases q:j=l
 ·rw[q,<- e k hk hne]
  refine qg7 λi hi=>?_
  rw[h i hi]
 ·exact e j hj q
theorem x1f {n:Nat} {A:Nat->Nat->Int} (h:∀lam:Nat->Int,(∀j,j<n->(sm n λi=>lam i*A i j)=0)->∀i,i<n->lam i=0):det n A≠0:=by
 refine x5b λk hk=>?_
 obtain⟨z,z1,f,hf,z2⟩:=wz5 (n:=n) (W:=n+1) (λj c=>if c<n then A c j else if k=j then 1 else 0) (by omega)
 have e:∀j,j<n->(sm n λi=>z i*A i j)+(if k=j then 1 else 0)*z n=0:=λj hj=>by
  have h1:=z1 j hj
  rw[sm] at h1
  try dsimp only at h1
  rw[if_neg (Nat.lt_irrefl _)] at h1
  have h2:(sm n λi=>z i*A i j)=sm n λc=>(if c<n then A c j else if k=j then 1 else 0)*z c:=qg7 λi hi=>by
   try dsimp only
   rw[if_pos hi,Int.mul_comm]
  rw[h2]
  exact h1
 have hn:z n≠0:=λhz=>by
  have h2:=h z λj hj=>by
   have:=e j hj
   rw[hz,Int.mul_zero,Int.add_zero] at this
   exact this
  rcases Nat.lt_or_ge f n with q | q
  ·exact z2 (h2 f q)
  ·exact z2 (by rw[show f=n by omega]; exact hz)
 refine⟨- z n,z,by omega,λj hj=>?_⟩
 have:=e j hj
 split
 ·rename_i q; rw[if_pos q] at this; omega
 ·rename_i q; rw[if_neg q] at this; omega
def isP (P:List Int) (c:Nat):Prop:=∃q,q<P.length/\nI P q=(c:Int)
theorem wg8 {P:List Int} {c:Nat}:¬isP P c↔∀q,q<P.length->nI P q≠(c:Int):=
 ⟨λh q hq e=>h ⟨q,hq,e⟩,λh ⟨q,hq,e⟩=>h q hq e⟩
theorem St.isP_at {n W j:Nat} {R:Nat->Nat->Int} {rows:List (List Int)} {P:List Int} (h:St n W R j rows P) {k:Nat} (hk:k<P.length):isP P (nI P k).toNat:=⟨k,hk,by have:=(h.pos k hk).1; omega⟩
theorem St.row_eq {n W:Nat} {R:Nat->Nat->Int} {rows:List (List Int)} {P:List Int} (h:St n W R W rows P) {z:Nat->Int} (hz:Sol n W R z) {f:Nat} (hf:f<W) (hnp:¬isP P f) (h0:∀c,c<W->c≠f->¬isP P c->z c=0) {k:Nat} (hk:k<P.length) :
  nI (nL rows k) (nI P k).toNat*z (nI P k).toNat+nI (nL rows k) f*z f=0:=by
 have hpl:=h.pl
 have hp:=h.pos k hk
 have e:=(h.sol z).1 hz k (by omega)
 unfold dt at e
 have hne:(nI P k).toNat≠f:=λq=>hnp (by rw[<- q]; exact h.isP_at hk)
 rw[q9w (k:=(nI P k).toNat) (l:=f) (by omega) hf hne λc hc h1 h2=>?_] at e
 ·exact e
 ·try dsimp only
  by_cases q:isP P c
  ·obtain⟨q2,hq2,e2⟩:=q
   have:=(h.pos q2 hq2).2.2.2.2 k (by omega) λe3=>h1 (by rw[e3,e2]; rfl)
   rw[e2,Int.toNat_natCast] at this
   rw[this,Int.zero_mul]
  ·rw[h0 c hc h2 q,Int.mul_zero]
theorem St.sol_mk {n W:Nat} {R:Nat->Nat->Int} {rows:List (List Int)} {P:List Int} (h:St n W R W rows P) {z:Nat->Int} {f:Nat} (hf:f<W) (hnp:¬isP P f) (h0:∀c,c<W->c≠f->¬isP P c->z c=0)
  (hr:∀k,k<P.length->nI (nL rows k) (nI P k).toNat*z (nI P k).toNat+nI (nL rows k) f*z f=0):Sol n W R z:=by
 refine(h.sol z).2 λi hi=>?_
 unfold dt
 rcases Nat.lt_or_ge i P.length with q | q
 ·have hp:=h.pos i q
  have hne:(nI P i).toNat≠f:=λq2=>hnp (by rw[<- q2]; exact h.isP_at q)
  rw[q9w (k:=(nI P i).toNat) (l:=f) (by omega) hf hne λc hc h1 h2=>?_]
  ·exact hr i q
  ·try dsimp only
   by_cases q1:isP P c
   ·obtain⟨q2,hq2,e2⟩:=q1
    have:=(h.pos q2 hq2).2.2.2.2 i hi λe3=>h1 (by rw[e3,e2]; rfl)
    rw[e2,Int.toNat_natCast] at this
    rw[this,Int.zero_mul]
   ·rw[h0 c hc h2 q1,Int.mul_zero]
 ·exact qt9 λc hc=>by
   try dsimp only
   rw[h.zero i q hi c hc,Int.zero_mul]
theorem St.piv_same {n W:Nat} {R:Nat->Nat->Int} {rows rows':List (List Int)} {P P':List Int} (h:St n W R W rows P) (h':St n W R W rows' P') {f:Nat} (hp:isP P f):isP P' f:=Classical.byContradiction λhn=>by
 obtain⟨k,hk,e⟩:=hp
 have hpk:=h.pos k hk
 rw[e,Int.toNat_natCast] at hpk
 have hf:f<W:=by omega
 have hpl':=h'.pl
 obtain⟨z,z1,z2,z3⟩:=h'.free (Nat.le_refl _) hf (wg8.1 hn) λi h1 h2=>h'.zero i h1 h2 f hf
 have zl:∀c,c<W->f<c->z c=0:=λc hc hfc=>by
  by_cases q:isP P' c
  ·obtain⟨q2,hq2,e2⟩:=q
   have h1:=h'.row_eq z1 hf hn (λc hc h1 h2=>z3 c hc h1 (wg8.1 h2)) hq2
   have h2:=h'.pos q2 hq2
   rw[e2,Int.toNat_natCast] at h1 h2
   rw[h2.2.2.2.1 f hfc,Int.zero_mul,Int.add_zero] at h1
   exact qd2 h1 (by omega)
  ·exact z3 c hc (by omega) (wg8.1 q)
 have hpl:=h.pl
 have h1:=(h.sol z).1 z1 k (by omega)
 unfold dt at h1
 rw[qu1 (k:=f) hf λc hc hne=>?_] at h1
 ·exact absurd (qd2 h1 (by omega)) z2
 ·try dsimp only
  rcases Nat.lt_or_ge c f with q | q
  ·rw[hpk.2.2.2.1 c q,Int.zero_mul]
  ·rw[zl c hc (by omega),Int.mul_zero]
theorem St.basis {n W:Nat} {R:Nat->Nat->Int} {rows:List (List Int)} {P:List Int} (h:St n W R W rows P):∃τ:Nat->Nat,(∀i,i<P.length->τ i<n)/\∀k,k<P.length->∃(c:Int) (lam:Nat->Int),c≠0/\∀col,col<W->(sm P.length λq=>lam q*R (τ q) col)=c*nI (nL rows k) col:=by
 obtain⟨ρ,pv,τ,hE,t1,t2,t3,t4,t5,t6⟩:=h.tag
 have hpl:=h.pl
 refine⟨τ,λi hi=>t1 i (by omega),λk hk=>?_⟩
 obtain⟨c,l,hc,hl,hs,_⟩:=hE.comb (τ k) (t1 k (by omega))
 refine⟨c,λq=>l (τ q),hc,λcol hcol=>?_⟩
 rw[<- t4 k (by omega) col hcol,hl col hcol]
 refine(wg7 P.length (f:=λb=>l b*R b col) (λq hq=>t1 q (by omega)) (λq k hq hk=>t2 q k (by omega) (by omega)) λb hb hq=>?_).symm
 try dsimp only
 obtain⟨i,hi,rfl⟩:=t3 b hb
 have hiN:¬i<P.length:=λq=>hq i q rfl
 have hl0:l (τ i)=0:=Classical.byContradiction λq=>by
  rcases hs (τ i) hb q with q2 | q2
  ·rw[t5 i hi,if_neg hiN] at q2; exact q2 rfl
  ·exact hq k hk q2.symm
 rw[hl0,Int.zero_mul]
theorem St.minors {n W:Nat} {R:Nat->Nat->Int} {rows:List (List Int)} {P:List Int} (h:St n W R W rows P) (hn:n<=6) (h1:∀a c,a<n->c<W->(R a c).natAbs<=1) :
  ∃D:Int,D≠0/\D.natAbs<=160/\∀f,f<W->¬isP P f->∃w:Nat->Int,(∀k,k<P.length->(w k).natAbs<=160)/\∀k,k<P.length->nI (nL rows k) (nI P k).toNat*w k+nI (nL rows k) f*D=0:=by
 obtain⟨τ,t1,hcomb⟩:=h.basis
 have hpl:=h.pl
 have hpW:∀k,k<P.length->(nI P k).toNat<W:=λk hk=>by have:=h.pos k hk; omega
 have hrow:∀k,k<P.length->∀c,c<P.length->nI (nL rows k) (nI P c).toNat=if k=c then nI (nL rows k) (nI P k).toNat else 0:=λk hk c hc=>by
  by_cases q:k=c
  ·rw[if_pos q,<- q]
  ·rw[if_neg q]
   exact(h.pos c hc).2.2.2.2 k (by omega) q
 have hpp:∀k,k<P.length->0<nI (nL rows k) (nI P k).toNat:=λk hk=>(h.pos k hk).2.2.1
 -- what all the first rows say is said by the reduced ones
 have tell:∀(m:Nat) (s:Nat->Nat) (w:Nat->Int),(∀c,c<m->s c<W)->(∀b,b<P.length->(sm m λc=>R (τ b) (s c)*w c)=0)->∀k,k<P.length->(sm m λc=>nI (nL rows k) (s c)*w c)=0:=λm s w hs hw k hk=>by
  obtain⟨c0,lam,hc0,hl⟩:=hcomb k hk
  refine qd2 (a:=c0) ?_ hc0
  rw[<- qu0]
  have e:(sm m λc=>c0*(nI (nL rows k) (s c)*w c))=sm m λc=>sm P.length λq=>lam q*(R (τ q) (s c)*w c):=qg7 λc hc=>by
   try dsimp only
   rw[<- Int.mul_assoc,<- hl (s c) (hs c hc),Int.mul_comm,<- qu0]
   refine qg7 λq hq=>?_
   grind
  rw[e,w9v]
  refine qt9 λq hq=>?_
  try dsimp only
  rw[qu0,hw q hq,Int.mul_zero]
 refine⟨det P.length λa b=>R (τ b) (nI P a).toNat,x1f λlam hlam k hk=>?_,w93 (by omega) λa b ha hb=>h1 _ _ (t1 b hb) (hpW a ha),λf hf hnp=>?_⟩
 ·have e:=tell P.length (λa=>(nI P a).toNat) lam hpW (λb hb=>by
   rw[<- hlam b hb]
   exact qg7 λc hc=>Int.mul_comm _ _) k hk
  rw[qu1 (k:=k) hk λi hi hne=>by
   try dsimp only
   rw[hrow k hk i hi,if_neg (Ne.symm hne),Int.zero_mul]] at e
  exact qd2 e (by have:=hpp k hk; omega)
 ·obtain⟨s,hs0,hsk⟩:∃s:Nat->Nat,s 0=f/\∀c,s (c+1)=(nI P c).toNat:=⟨λc=>match c with | 0=>f | c+1=>(nI P c).toNat,rfl,λ_=>rfl⟩
  have hsW:∀c,c<P.length+1->s c<W:=λc hc=>by
   cases c with
   | zero=>rw[hs0]; exact hf
   | succ c=>rw[hsk]; exact hpW c (by omega)
  obtain⟨w,hw⟩:∃w:Nat->Int,∀c,w c=sgn c*det P.length λa b=>R (τ b) (s (skp c a)):=⟨_,λ_=>rfl⟩
  have e0:w 0=det P.length λa b=>R (τ b) (nI P a).toNat:=by
   rw[hw,show sgn 0=1 from rfl,Int.one_mul]
   refine qh8 _ λa b ha hb=>?_
   have:skp 0 a=a+1:=by unfold skp; rw[if_neg (Nat.not_lt_zero _)]
   rw[this,hsk]
  refine⟨λk=>w (k+1),λk hk=>?_,λk hk=>?_⟩
  ·try dsimp only
   rw[hw,Int.natAbs_mul,wf9,Nat.one_mul]
   exact w93 (by omega) λa b ha hb=>h1 _ _ (t1 b hb) (hsW _ (q7t ha))
  ·have e:=tell (P.length+1) s w hsW (λb hb=>by
    have hd:det (P.length+1) (λc j=>if j=0 then R (τ b) (s c) else R (τ (j-1)) (s c))=0:=x1e (k:=0) (l:=b+1) (by omega) (by omega) (by omega) λi hi=>by
     try dsimp only
     rw[if_pos rfl,if_neg (by omega),Nat.add_sub_cancel]
    rw[det] at hd
    rw[<- hd]
    refine qg7 λc hc=>?_
    try dsimp only
    rw[if_pos rfl,hw]
    have:det P.length (λa b=>R (τ b) (s (skp c a)))=det P.length λa b_1=>if b_1+1=0 then R (τ b) (s (skp c a)) else R (τ (b_1+1-1)) (s (skp c a)):=qh8 _ λi j hi hj=>by
     rw[if_neg (by omega),Nat.add_sub_cancel]
    rw[<- this]
    grind) k hk
   rw[q9w (k:=k+1) (l:=0) (by omega) (by omega) (by omega) λc hc h2 h3=>?_] at e
   ·try dsimp only at e
    rw[hsk,hs0,e0] at e
    exact e
   ·try dsimp only
    cases c with
    | zero=>exact absurd rfl h3
    | succ c=>rw[hsk,hrow k hk c (by omega),if_neg (by omega),Int.zero_mul]
theorem St.piv_160 {n W:Nat} {R:Nat->Nat->Int} {rows:List (List Int)} {P:List Int} (h:St n W R W rows P) (hn:n<=6) (h1:∀a c,a<n->c<W->(R a c).natAbs<=1) {k:Nat} (hk:k<P.length):(nI (nL rows k) (nI P k).toNat).natAbs<=160:=by
 have hpl:=h.pl
 have hp:=h.pos k hk
 obtain⟨D,hD,hD2,hw⟩:=h.minors hn h1
 obtain⟨ρ,pv,τ,hE,t1,t2,t3,t4,t5,t6⟩:=h.tag
 rcases t6 k (by omega) with⟨s,hs,e⟩ | e | e
 ·have:=h1 (τ k) (nI P k).toNat (t1 k (by omega)) (by omega)
  rw[e _ (by omega),Int.natAbs_mul]
  have:s.natAbs=1:=by rcases hs with rfl | rfl <;> rfl
  rw[this]; omega
 ·have:=e (nI P k).toNat (by omega)
  omega
 ·have hx:∀c,∃x:Int,c<W->D*nI (nL rows k) c=nI (nL rows k) (nI P k).toNat*x/\(c=(nI P k).toNat->x=D):=λc=>by
   by_cases q:c=(nI P k).toNat
   ·exact⟨D,λ_=>⟨by rw[q,Int.mul_comm],λ_=>rfl⟩⟩
   ·by_cases q2:isP P c
    ·obtain⟨q3,hq3,e3⟩:=q2
     refine⟨0,λ_=>⟨?_,λq4=>absurd q4 q⟩⟩
     have:=(h.pos q3 hq3).2.2.2.2 k (by omega) λq4=>q (by rw[q4,e3]; rfl)
     rw[e3,Int.toNat_natCast] at this
     rw[this,Int.mul_zero,Int.mul_zero]
    ·by_cases q4:c<W
     ·obtain⟨w,_,w2⟩:=hw c q4 q2
      have:=w2 k hk
      exact⟨- w k,λ_=>⟨by grind,λq4=>absurd q4 q⟩⟩
     ·exact⟨0,λq5=>absurd q5 q4⟩
  obtain⟨x,hx⟩:=Classical.axiomOfChoice hx
  have:=wr1 (W:=W) (r:=nI (nL rows k)) (s:=x) (α:=D) (β:=nI (nL rows k) (nI P k).toNat) hD (λc hc=>(hx c hc).1) e (nI P k).toNat (by omega)
  rw[(hx _ (by omega)).2 rfl] at this
  omega
structure KV (n W:Nat) (R:Nat->Nat->Int) (P:List Int) (f:Nat) (v:List Int):Prop where
 len:v.length=W
 sol:Sol n W R (nI v)
 free:∀c,c<W->c≠f->¬isP P c->nI v c=0
 pos:0<nI v f
theorem KV.prim {n W:Nat} {R:Nat->Nat->Int} {P:List Int} {f:Nat} {v:List Int} (h:KV n W R P f v) (hf:f<W):KV n W R P f (qr3 v):=by
 have hl:=h.len
 have hg:0<max (gcdL v) 1:=by omega
 have hm:∀c,c<W->max (gcdL v) 1*nI (qr3 v) c=nI v c:=λc hc=>qx1 v (by omega)
 refine⟨by rw[qt8]; exact hl,λa ha=>?_,λc hc h1 h2=>?_,?_⟩
 ·have:=h.sol a ha
  refine qd2 (a:=max (gcdL v) 1) ?_ (by omega)
  rw[<- qu0,<- this]
  refine qg7 λc hc=>?_
  try dsimp only
  rw[<- hm c hc]
  grind
 ·have:=hm c hc
  rw[h.free c hc h1 h2] at this
  exact qd2 this (by omega)
 ·have:=hm f hf
  have:=h.pos
  exact q70 hg (by omega)
theorem KV.trans {n W:Nat} {R:Nat->Nat->Int} {P P':List Int} {f:Nat} {v:List Int} (h:KV n W R P f v) (hP:∀c,isP P c↔isP P' c):KV n W R P' f v:=
 ⟨h.len,h.sol,λc hc h1 h2=>h.free c hc h1 λq=>h2 ((hP c).1 q),h.pos⟩
theorem KV.cross {n W:Nat} {R:Nat->Nat->Int} {rows:List (List Int)} {P:List Int} (hs:St n W R W rows P) {f:Nat} (hf:f<W) (hnp:¬isP P f) {v u:List Int} (hv:KV n W R P f v) (hu:KV n W R P f u):∀c,c<W->nI u f*nI v c=nI v f*nI u c:=λc hc=>by
 by_cases q:c=f
 ·rw[q,Int.mul_comm]
 ·by_cases q2:isP P c
  ·obtain⟨k,hk,e⟩:=q2
   have a:=hs.row_eq hv.sol hf hnp hv.free hk
   have b:=hs.row_eq hu.sol hf hnp hu.free hk
   have hp:=(hs.pos k hk).2.2.1
   rw[e,Int.toNat_natCast] at a b hp
   have:nI (nL rows k) c*(nI u f*nI v c-nI v f*nI u c)=0:=by grind
   have:=qd2 this (by omega)
   omega
  ·rw[hv.free c hc q q2,hu.free c hc q q2,Int.mul_zero,Int.mul_zero]
theorem Prim.gcd {v:List Int} {W f:Nat} (h:Prim v) (hl:v.length=W) (hf:f<W) (hp:0<nI v f):∀d:Nat,(∀c,c<W->d∣(nI v c).natAbs)->d=1:=by
 subst hl
 rcases h with h | h
 ·have:=h f hf; omega
 ·exact h
theorem KV.uniq {n W:Nat} {R:Nat->Nat->Int} {rows:List (List Int)} {P:List Int} (hs:St n W R W rows P) {f:Nat} (hf:f<W) (hnp:¬isP P f) {v u:List Int} (hv:KV n W R P f v) (hu:KV n W R P f u) (pv:Prim v) (pu:Prim u):v=u:=by
 have hc:=hv.cross hs hf hnp hu
 have a:=wr1 (W:=W) (r:=nI v) (s:=nI u) (α:=nI u f) (β:=nI v f) (by have:=hu.pos; omega) hc (pv.gcd hv.len hf hv.pos)
 have b:=wr1 (W:=W) (r:=nI u) (s:=nI v) (α:=nI v f) (β:=nI u f) (by have:=hv.pos; omega) (λc h=>(hc c h).symm) (pu.gcd hu.len hf hu.pos)
 have hff:nI u f=nI v f:=by
  have:=a f hf; have:=b f hf; have:=hv.pos; have:=hu.pos; omega
 have h1:=hv.len
 have h2:=hu.len
 refine List.ext_getElem (by omega) λi hi hi2=>?_
 rw[<- qh0 v i hi,<- qh0 u i hi2]
 have:=hc i (by omega)
 rw[hff] at this
 exact Int.eq_of_mul_eq_mul_left (by have:=hv.pos; omega) this
theorem KV.small {n W:Nat} {R:Nat->Nat->Int} {rows:List (List Int)} {P:List Int} (hs:St n W R W rows P) (hn:n<=6) (h1:∀a c,a<n->c<W->(R a c).natAbs<=1) {f:Nat} (hf:f<W) (hnp:¬isP P f) {v:List Int} (hv:KV n W R P f v) (pv:Prim v):∀x∈v,x.natAbs<=160:=by
 obtain⟨D,hD,hD2,hw⟩:=hs.minors hn h1
 obtain⟨w,w1,w2⟩:=hw f hf hnp
 have hx:∀c,∃x:Int,c<W->D*nI v c=nI v f*x/\x.natAbs<=160:=λc=>by
  by_cases q:c=f
  ·exact⟨D,λ_=>⟨by rw[q,Int.mul_comm],hD2⟩⟩
  ·by_cases q2:isP P c
   ·obtain⟨k,hk,e⟩:=q2
    refine⟨w k,λ_=>⟨?_,w1 k hk⟩⟩
    have a:=hs.row_eq hv.sol hf hnp hv.free hk
    have b:=w2 k hk
    have hp:=(hs.pos k hk).2.2.1
    rw[e,Int.toNat_natCast] at a b hp
    have:nI (nL rows k) c*(D*nI v c-nI v f*w k)=0:=by grind
    have:=qd2 this (by omega)
    omega
   ·exact⟨0,λhc=>⟨by rw[hv.free c hc q q2,Int.mul_zero,Int.mul_zero],by decide⟩⟩
 obtain⟨x,hx⟩:=Classical.axiomOfChoice hx
 have:=wr1 (W:=W) (r:=nI v) (s:=x) (α:=D) (β:=nI v f) hD (λc hc=>(hx c hc).1) (pv.gcd hv.len hf hv.pos)
 intro y hy
 obtain⟨c,hc,rfl⟩:=q72 hy
 have hl:=hv.len
 exact Nat.le_trans (this c (by omega)) (hx c (by omega)).2
end Go.Proofs.YtmijnbjlhnpokaaGreat
