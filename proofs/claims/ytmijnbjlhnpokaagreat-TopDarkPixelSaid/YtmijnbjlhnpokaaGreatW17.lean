/- Circuits are the least solutions; twins. Plain mathematics. No condition. -/
import Derived.Test.YtmijnbjlhnpokaaGreatW3
import Derived.Test.YtmijnbjlhnpokaaGreatW11
set_option linter.unusedVariables false
namespace Go.Proofs.YtmijnbjlhnpokaaGreat
open Go Go.RowKit Eng
def mkM (n W:Nat) (A:Nat->Nat->Int):List (List Int):=(List.range n).map λa=>(List.range W).map λc=>A a c
theorem xc2 {n W:Nat} (A:Nat->Nat->Int) {a:Nat} (ha:a<n):nL (mkM n W A) a=(List.range W).map λc=>A a c:=by
 rw[qj8 _ _ (by simp[mkM]; exact ha)]; simp[mkM]
theorem x5k {n W:Nat} (A:Nat->Nat->Int) {a c:Nat} (ha:a<n) (hc:c<W):nI (nL (mkM n W A) a) c=A a c:=by
 rw[xc2 A ha,qg5 _ _ (by simp; exact hc)]; simp
theorem x1g (n W:Nat) (A:Nat->Nat->Int):Mat n W (mkM n W A):=⟨by simp[mkM],λi hi=>by rw[xc2 A hi]; simp⟩
theorem q8e {n W:Nat} (A:Nat->Nat->Int) (h:n<W):∃z,Sol n W A z/\∃f,f<W/\z f≠0:=by
 have hM:=x1g n W A
 have hst:=qv3 hM W (Nat.le_refl _)
 have hpl:=hst.pl
 obtain⟨f,hf,hq⟩:=Asc.free (N:=W) (P:=(qc7 (mkM n W A) W).2) (by omega)
 obtain⟨z,z1,z2,_⟩:=hst.free (Nat.le_refl _) hf hq λi h1 h2=>hst.zero i h1 h2 f hf
 refine⟨z,λa ha=>?_,f,hf,z2⟩
 rw[<- z1 a ha]
 refine qe8 λc hc=>?_
 unfold rowOf
 rw[x5k A ha hc]
theorem x1h {n:Nat} {B:Nat->Nat->Int} {lam:Nat->Int} (h:∀j,j<n->(sm n λi=>lam i*B i j)=0) {r:Nat} (hr:r<n) (hl:lam r≠0):det n B=0:=by
 have h1:=w2y B hr lam n (Nat.le_refl _)
 rw[if_pos hr] at h1
 have h2:det n (upd B r λj=>sm n λi=>lam i*B i j)=det n (upd B r λ_=>0):=qh7 n λi j hi hj=>by
  unfold upd; split
  ·exact h j hj
  ·rfl
 rw[h2,q1b hr] at h1
 exact qd5 h1.symm hl
theorem x1i {n:Nat} {B:Nat->Nat->Int} {k l:Nat} (hk:k<n) (hl:l<n) (hne:k≠l) (h:∀i,i<n->B i k=B i l):det n B=0:=by
 obtain⟨z,z1,f,hf,z2⟩:=q8e (n:=n-1) (W:=n) (λa c=>B c (skp l a)) (by omega)
 have e:∀j,j<n->j≠l->(sm n λi=>z i*B i j)=0:=λj hj hne=>by
  have h1:=z1 (if j<l then j else j-1) (by split <;> omega)
  have h2:skp l (if j<l then j else j-1)=j:=by
   by_cases q:j<l
   ·rw[if_pos q]; unfold skp; rw[if_pos q]
   ·rw[if_neg q]; unfold skp; rw[if_neg (by omega)]; omega
  try dsimp only at h1
  rw[h2] at h1
  rw[<- h1]
  exact qe8 λi hi=>Int.mul_comm _ _
 refine x1h (lam:=z) (λj hj=>?_) hf z2
 by_cases q:j=l
 ·rw[q,<- e k hk hne]
  refine qe8 λi hi=>?_
  rw[h i hi]
 ·exact e j hj q
theorem x1j {n:Nat} {A:Nat->Nat->Int} (h:∀lam:Nat->Int,(∀j,j<n->(sm n λi=>lam i*A i j)=0)->∀i,i<n->lam i=0):det n A≠0:=by
 refine x5h λk hk=>?_
 obtain⟨z,z1,f,hf,z2⟩:=q8e (n:=n) (W:=n+1) (λj c=>if c<n then A c j else if k=j then 1 else 0) (by omega)
 have e:∀j,j<n->(sm n λi=>z i*A i j)+(if k=j then 1 else 0)*z n=0:=λj hj=>by
  have h1:=z1 j hj
  rw[sm] at h1
  try dsimp only at h1
  rw[if_neg (Nat.lt_irrefl _)] at h1
  have h2:(sm n λi=>z i*A i j)=sm n λc=>(if c<n then A c j else if k=j then 1 else 0)*z c:=qe8 λi hi=>by
   try dsimp only
   rw[if_pos hi,Int.mul_comm]
  rw[h2]
  exact h1
 have hn:z n≠0:=λhz=>by
  have h2:=h z λj hj=>by
   have:=e j hj
   rw[hz,Int.mul_zero,Int.add_zero] at this
   exact this
  rcases Nat.lt_or_ge f n with q | q
  ·exact z2 (h2 f q)
  ·exact z2 (by rw[show f=n by omega]; exact hz)
 refine⟨- z n,z,by omega,λj hj=>?_⟩
 have:=e j hj
 split
 ·rename_i q; rw[if_pos q] at this; omega
 ·rename_i q; rw[if_neg q] at this; omega
def isP (P:List Int) (c:Nat):Prop:=∃q,q<P.length/\nI P q=(c:Int)
theorem wi3 {P:List Int} {c:Nat}:¬isP P c↔∀q,q<P.length->nI P q≠(c:Int):=
 ⟨λh q hq e=>h ⟨q,hq,e⟩,λh ⟨q,hq,e⟩=>h q hq e⟩
theorem St.isP_at {n W j:Nat} {R:Nat->Nat->Int} {rows:List (List Int)} {P:List Int} (h:St n W R j rows P) {k:Nat} (hk:k<P.length):isP P (nI P k).toNat:=⟨k,hk,by have:=(h.pos k hk).1; omega⟩
theorem St.row_eq {n W:Nat} {R:Nat->Nat->Int} {rows:List (List Int)} {P:List Int} (h:St n W R W rows P) {z:Nat->Int} (hz:Sol n W R z) {f:Nat} (hf:f<W) (hnp:¬isP P f) (h0:∀c,c<W->c≠f->¬isP P c->z c=0) {k:Nat} (hk:k<P.length) :
  nI (nL rows k) (nI P k).toNat*z (nI P k).toNat+nI (nL rows k) f*z f=0:=by
 have hpl:=h.pl
 have hp:=h.pos k hk
 have e:=(h.sol z).1 hz k (by omega)
 unfold dt at e
 have hne:(nI P k).toNat≠f:=λq=>hnp (by rw[<- q]; exact h.isP_at hk)
 rw[wa0 (k:=(nI P k).toNat) (l:=f) (by omega) hf hne λc hc h1 h2=>?_] at e
 ·exact e
 ·try dsimp only
  by_cases q:isP P c
  ·obtain⟨q2,hq2,e2⟩:=q
   have:=(h.pos q2 hq2).2.2.2.2 k (by omega) λe3=>h1 (by rw[e3,e2]; rfl)
   rw[e2,Int.toNat_natCast] at this
   rw[this,Int.zero_mul]
  ·rw[h0 c hc h2 q,Int.mul_zero]
theorem St.sol_mk {n W:Nat} {R:Nat->Nat->Int} {rows:List (List Int)} {P:List Int} (h:St n W R W rows P) {z:Nat->Int} {f:Nat} (hf:f<W) (hnp:¬isP P f) (h0:∀c,c<W->c≠f->¬isP P c->z c=0)
  (hr:∀k,k<P.length->nI (nL rows k) (nI P k).toNat*z (nI P k).toNat+nI (nL rows k) f*z f=0):Sol n W R z:=by
 refine(h.sol z).2 λi hi=>?_
 unfold dt
 rcases Nat.lt_or_ge i P.length with q | q
 ·have hp:=h.pos i q
  have hne:(nI P i).toNat≠f:=λq2=>hnp (by rw[<- q2]; exact h.isP_at q)
  rw[wa0 (k:=(nI P i).toNat) (l:=f) (by omega) hf hne λc hc h1 h2=>?_]
  ·exact hr i q
  ·try dsimp only
   by_cases q1:isP P c
   ·obtain⟨q2,hq2,e2⟩:=q1
    have:=(h.pos q2 hq2).2.2.2.2 i hi λe3=>h1 (by rw[e3,e2]; rfl)
    rw[e2,Int.toNat_natCast] at this
    rw[this,Int.zero_mul]
   ·rw[h0 c hc h2 q1,Int.mul_zero]
 ·exact sm_zero λc hc=>by
   try dsimp only
   rw[h.zero i q hi c hc,Int.zero_mul]
theorem St.piv_same {n W:Nat} {R:Nat->Nat->Int} {rows rows':List (List Int)} {P P':List Int} (h:St n W R W rows P) (h':St n W R W rows' P') {f:Nat} (hp:isP P f):isP P' f:=Classical.byContradiction λhn=>by
 obtain⟨k,hk,e⟩:=hp
 have hpk:=h.pos k hk
 rw[e,Int.toNat_natCast] at hpk
 have hf:f<W:=by omega
 have hpl':=h'.pl
 obtain⟨z,z1,z2,z3⟩:=h'.free (Nat.le_refl _) hf (wi3.1 hn) λi h1 h2=>h'.zero i h1 h2 f hf
 have zl:∀c,c<W->f<c->z c=0:=λc hc hfc=>by
  by_cases q:isP P' c
  ·obtain⟨q2,hq2,e2⟩:=q
   have h1:=h'.row_eq z1 hf hn (λc hc h1 h2=>z3 c hc h1 (wi3.1 h2)) hq2
   have h2:=h'.pos q2 hq2
   rw[e2,Int.toNat_natCast] at h1 h2
   rw[h2.2.2.2.1 f hfc,Int.zero_mul,Int.add_zero] at h1
   exact qd5 h1 (by omega)
  ·exact z3 c hc (by omega) (wi3.1 q)
 have hpl:=h.pl
 have h1:=(h.sol z).1 z1 k (by omega)
 unfold dt at h1
 rw[qq0 (k:=f) hf λc hc hne=>?_] at h1
 ·exact absurd (qd5 h1 (by omega)) z2
 ·try dsimp only
  rcases Nat.lt_or_ge c f with q | q
  ·rw[hpk.2.2.2.1 c q,Int.zero_mul]
  ·rw[zl c hc (by omega),Int.mul_zero]
theorem St.basis {n W:Nat} {R:Nat->Nat->Int} {rows:List (List Int)} {P:List Int} (h:St n W R W rows P):∃τ:Nat->Nat,(∀i,i<P.length->τ i<n)/\∀k,k<P.length->∃(c:Int) (lam:Nat->Int),c≠0/\∀col,col<W->(sm P.length λq=>lam q*R (τ q) col)=c*nI (nL rows k) col:=by
 obtain⟨ρ,pv,τ,hE,t1,t2,t3,t4,t5,t6⟩:=h.tag
 have hpl:=h.pl
 refine⟨τ,λi hi=>t1 i (by omega),λk hk=>?_⟩
 obtain⟨c,l,hc,hl,hs,_⟩:=hE.comb (τ k) (t1 k (by omega))
 refine⟨c,λq=>l (τ q),hc,λcol hcol=>?_⟩
 rw[<- t4 k (by omega) col hcol,hl col hcol]
 refine(q39 P.length (f:=λb=>l b*R b col) (λq hq=>t1 q (by omega)) (λq k hq hk=>t2 q k (by omega) (by omega)) λb hb hq=>?_).symm
 try dsimp only
 obtain⟨i,hi,rfl⟩:=t3 b hb
 have hiN:¬i<P.length:=λq=>hq i q rfl
 have hl0:l (τ i)=0:=Classical.byContradiction λq=>by
  rcases hs (τ i) hb q with q2 | q2
  ·rw[t5 i hi,if_neg hiN] at q2; exact q2 rfl
  ·exact hq k hk q2.symm
 rw[hl0,Int.zero_mul]
theorem St.minors {n W:Nat} {R:Nat->Nat->Int} {rows:List (List Int)} {P:List Int} (h:St n W R W rows P) (hn:n<=6) (h1:∀a c,a<n->c<W->(R a c).natAbs<=1) :
  ∃D:Int,D≠0/\D.natAbs<=160/\∀f,f<W->¬isP P f->∃w:Nat->Int,(∀k,k<P.length->(w k).natAbs<=160)/\∀k,k<P.length->nI (nL rows k) (nI P k).toNat*w k+nI (nL rows k) f*D=0:=by
 obtain⟨τ,t1,hcomb⟩:=h.basis
 have hpl:=h.pl
 have hpW:∀k,k<P.length->(nI P k).toNat<W:=λk hk=>by have:=h.pos k hk; omega
 have hrow:∀k,k<P.length->∀c,c<P.length->nI (nL rows k) (nI P c).toNat=if k=c then nI (nL rows k) (nI P k).toNat else 0:=λk hk c hc=>by
  by_cases q:k=c
  ·rw[if_pos q,<- q]
  ·rw[if_neg q]
   exact(h.pos c hc).2.2.2.2 k (by omega) q
 have hpp:∀k,k<P.length->0<nI (nL rows k) (nI P k).toNat:=λk hk=>(h.pos k hk).2.2.1
 -- what all the first rows say is said by the reduced ones
 have tell:∀(m:Nat) (s:Nat->Nat) (w:Nat->Int),(∀c,c<m->s c<W)->(∀b,b<P.length->(sm m λc=>R (τ b) (s c)*w c)=0)->∀k,k<P.length->(sm m λc=>nI (nL rows k) (s c)*w c)=0:=λm s w hs hw k hk=>by
  obtain⟨c0,lam,hc0,hl⟩:=hcomb k hk
  refine qd5 (a:=c0) ?_ hc0
  rw[<- qs6]
  have e:(sm m λc=>c0*(nI (nL rows k) (s c)*w c))=sm m λc=>sm P.length λq=>lam q*(R (τ q) (s c)*w c):=qe8 λc hc=>by
   try dsimp only
   rw[<- Int.mul_assoc,<- hl (s c) (hs c hc),Int.mul_comm,<- qs6]
   refine qe8 λq hq=>?_
   grind
  rw[e,w0j]
  refine sm_zero λq hq=>?_
  try dsimp only
  rw[qs6,hw q hq,Int.mul_zero]
 refine⟨det P.length λa b=>R (τ b) (nI P a).toNat,x1j λlam hlam k hk=>?_,xb4 (by omega) λa b ha hb=>h1 _ _ (t1 b hb) (hpW a ha),λf hf hnp=>?_⟩
 ·have e:=tell P.length (λa=>(nI P a).toNat) lam hpW (λb hb=>by
   rw[<- hlam b hb]
   exact qe8 λc hc=>Int.mul_comm _ _) k hk
  rw[qq0 (k:=k) hk λi hi hne=>by
   try dsimp only
   rw[hrow k hk i hi,if_neg (Ne.symm hne),Int.zero_mul]] at e
  exact qd5 e (by have:=hpp k hk; omega)
 ·obtain⟨s,hs0,hsk⟩:∃s:Nat->Nat,s 0=f/\∀c,s (c+1)=(nI P c).toNat:=⟨λc=>match c with | 0=>f | c+1=>(nI P c).toNat,rfl,λ_=>rfl⟩
  have hsW:∀c,c<P.length+1->s c<W:=λc hc=>by
   cases c with
   | zero=>rw[hs0]; exact hf
   | succ c=>rw[hsk]; exact hpW c (by omega)
  obtain⟨w,hw⟩:∃w:Nat->Int,∀c,w c=sgn c*det P.length λa b=>R (τ b) (s (skp c a)):=⟨_,λ_=>rfl⟩
  have e0:w 0=det P.length λa b=>R (τ b) (nI P a).toNat:=by
   rw[hw,show sgn 0=1 from rfl,Int.one_mul]
   refine qh7 _ λa b ha hb=>?_
   have:skp 0 a=a+1:=by unfold skp; rw[if_neg (Nat.not_lt_zero _)]
   rw[this,hsk]
  refine⟨λk=>w (k+1),λk hk=>?_,λk hk=>?_⟩
  ·try dsimp only
   rw[hw,Int.natAbs_mul,wi0,Nat.one_mul]
   exact xb4 (by omega) λa b ha hb=>h1 _ _ (t1 b hb) (hsW _ (q74 ha))
  ·have e:=tell (P.length+1) s w hsW (λb hb=>by
    have hd:det (P.length+1) (λc j=>if j=0 then R (τ b) (s c) else R (τ (j-1)) (s c))=0:=x1i (k:=0) (l:=b+1) (by omega) (by omega) (by omega) λi hi=>by
     try dsimp only
     rw[if_pos rfl,if_neg (by omega),Nat.add_sub_cancel]
    rw[det] at hd
    rw[<- hd]
    refine qe8 λc hc=>?_
    try dsimp only
    rw[if_pos rfl,hw]
    have:det P.length (λa b=>R (τ b) (s (skp c a)))=det P.length λa b_1=>if b_1+1=0 then R (τ b) (s (skp c a)) else R (τ (b_1+1-1)) (s (skp c a)):=qh7 _ λi j hi hj=>by
     rw[if_neg (by omega),Nat.add_sub_cancel]
    rw[<- this]
    grind) k hk
   rw[wa0 (k:=k+1) (l:=0) (by omega) (by omega) (by omega) λc hc h2 h3=>?_] at e
   ·try dsimp only at e
    rw[hsk,hs0,e0] at e
    exact e
   ·try dsimp only
    cases c with
    | zero=>exact absurd rfl h3
    | succ c=>rw[hsk,hrow k hk c (by omega),if_neg (by omega),Int.zero_mul]
theorem St.piv_160 {n W:Nat} {R:Nat->Nat->Int} {rows:List (List Int)} {P:List Int} (h:St n W R W rows P) (hn:n<=6) (h1:∀a c,a<n->c<W->(R a c).natAbs<=1) {k:Nat} (hk:k<P.length):(nI (nL rows k) (nI P k).toNat).natAbs<=160:=by
 have hpl:=h.pl
 have hp:=h.pos k hk
 obtain⟨D,hD,hD2,hw⟩:=h.minors hn h1
 obtain⟨ρ,pv,τ,hE,t1,t2,t3,t4,t5,t6⟩:=h.tag
 rcases t6 k (by omega) with⟨s,hs,e⟩ | e | e
 ·have:=h1 (τ k) (nI P k).toNat (t1 k (by omega)) (by omega)
  rw[e _ (by omega),Int.natAbs_mul]
  have:s.natAbs=1:=by rcases hs with rfl | rfl <;> rfl
  rw[this]; omega
 ·have:=e (nI P k).toNat (by omega)
  omega
 ·have hx:∀c,∃x:Int,c<W->D*nI (nL rows k) c=nI (nL rows k) (nI P k).toNat*x/\(c=(nI P k).toNat->x=D):=λc=>by
   by_cases q:c=(nI P k).toNat
   ·exact⟨D,λ_=>⟨by rw[q,Int.mul_comm],λ_=>rfl⟩⟩
   ·by_cases q2:isP P c
    ·obtain⟨q3,hq3,e3⟩:=q2
     refine⟨0,λ_=>⟨?_,λq4=>absurd q4 q⟩⟩
     have:=(h.pos q3 hq3).2.2.2.2 k (by omega) λq4=>q (by rw[q4,e3]; rfl)
     rw[e3,Int.toNat_natCast] at this
     rw[this,Int.mul_zero,Int.mul_zero]
    ·by_cases q4:c<W
     ·obtain⟨w,_,w2⟩:=hw c q4 q2
      have:=w2 k hk
      exact⟨- w k,λ_=>⟨by grind,λq4=>absurd q4 q⟩⟩
     ·exact⟨0,λq5=>absurd q5 q4⟩
  obtain⟨x,hx⟩:=Classical.axiomOfChoice hx
  have:=ws6 (W:=W) (r:=nI (nL rows k)) (s:=x) (α:=D) (β:=nI (nL rows k) (nI P k).toNat) hD (λc hc=>(hx c hc).1) e (nI P k).toNat (by omega)
  rw[(hx _ (by omega)).2 rfl] at this
  omega
structure KV (n W:Nat) (R:Nat->Nat->Int) (P:List Int) (f:Nat) (v:List Int):Prop where
 len:v.length=W
 sol:Sol n W R (nI v)
 free:∀c,c<W->c≠f->¬isP P c->nI v c=0
 pos:0<nI v f
theorem KV.prim {n W:Nat} {R:Nat->Nat->Int} {P:List Int} {f:Nat} {v:List Int} (h:KV n W R P f v) (hf:f<W):KV n W R P f (qu3 v):=by
 have hl:=h.len
 have hg:0<max (gcdL v) 1:=by omega
 have hm:∀c,c<W->max (gcdL v) 1*nI (qu3 v) c=nI v c:=λc hc=>qx5 v (by omega)
 refine⟨by rw[qx2]; exact hl,λa ha=>?_,λc hc h1 h2=>?_,?_⟩
 ·have:=h.sol a ha
  refine qd5 (a:=max (gcdL v) 1) ?_ (by omega)
  rw[<- qs6,<- this]
  refine qe8 λc hc=>?_
  try dsimp only
  rw[<- hm c hc]
  grind
 ·have:=hm c hc
  rw[h.free c hc h1 h2] at this
  exact qd5 this (by omega)
 ·have:=hm f hf
  have:=h.pos
  exact ws9 hg (by omega)
theorem KV.trans {n W:Nat} {R:Nat->Nat->Int} {P P':List Int} {f:Nat} {v:List Int} (h:KV n W R P f v) (hP:∀c,isP P c↔isP P' c):KV n W R P' f v:=
 ⟨h.len,h.sol,λc hc h1 h2=>h.free c hc h1 λq=>h2 ((hP c).1 q),h.pos⟩
theorem KV.cross {n W:Nat} {R:Nat->Nat->Int} {rows:List (List Int)} {P:List Int} (hs:St n W R W rows P) {f:Nat} (hf:f<W) (hnp:¬isP P f) {v u:List Int} (hv:KV n W R P f v) (hu:KV n W R P f u):∀c,c<W->nI u f*nI v c=nI v f*nI u c:=λc hc=>by
 by_cases q:c=f
 ·rw[q,Int.mul_comm]
 ·by_cases q2:isP P c
  ·obtain⟨k,hk,e⟩:=q2
   have a:=hs.row_eq hv.sol hf hnp hv.free hk
   have b:=hs.row_eq hu.sol hf hnp hu.free hk
   have hp:=(hs.pos k hk).2.2.1
   rw[e,Int.toNat_natCast] at a b hp
   have:nI (nL rows k) c*(nI u f*nI v c-nI v f*nI u c)=0:=by grind
   have:=qd5 this (by omega)
   omega
  ·rw[hv.free c hc q q2,hu.free c hc q q2,Int.mul_zero,Int.mul_zero]
theorem Prim.gcd {v:List Int} {W f:Nat} (h:Prim v) (hl:v.length=W) (hf:f<W) (hp:0<nI v f):∀d:Nat,(∀c,c<W->d∣(nI v c).natAbs)->d=1:=by
 subst hl
 rcases h with h | h
 ·have:=h f hf; omega
 ·exact h
theorem KV.uniq {n W:Nat} {R:Nat->Nat->Int} {rows:List (List Int)} {P:List Int} (hs:St n W R W rows P) {f:Nat} (hf:f<W) (hnp:¬isP P f) {v u:List Int} (hv:KV n W R P f v) (hu:KV n W R P f u) (pv:Prim v) (pu:Prim u):v=u:=by
 have hc:=hv.cross hs hf hnp hu
 have a:=ws6 (W:=W) (r:=nI v) (s:=nI u) (α:=nI u f) (β:=nI v f) (by have:=hu.pos; omega) hc (pv.gcd hv.len hf hv.pos)
 have b:=ws6 (W:=W) (r:=nI u) (s:=nI v) (α:=nI v f) (β:=nI u f) (by have:=hv.pos; omega) (λc h=>(hc c h).symm) (pu.gcd hu.len hf hu.pos)
 have hff:nI u f=nI v f:=by
  have:=a f hf; have:=b f hf; have:=hv.pos; have:=hu.pos; omega
 have h1:=hv.len
 have h2:=hu.len
 refine List.ext_getElem (by omega) λi hi hi2=>?_
 rw[<- qg5 v i hi,<- qg5 u i hi2]
 have:=hc i (by omega)
 rw[hff] at this
 exact Int.eq_of_mul_eq_mul_left (by have:=hv.pos; omega) this
theorem KV.small {n W:Nat} {R:Nat->Nat->Int} {rows:List (List Int)} {P:List Int} (hs:St n W R W rows P) (hn:n<=6) (h1:∀a c,a<n->c<W->(R a c).natAbs<=1) {f:Nat} (hf:f<W) (hnp:¬isP P f) {v:List Int} (hv:KV n W R P f v) (pv:Prim v):∀x∈v,x.natAbs<=160:=by
 obtain⟨D,hD,hD2,hw⟩:=hs.minors hn h1
 obtain⟨w,w1,w2⟩:=hw f hf hnp
 have hx:∀c,∃x:Int,c<W->D*nI v c=nI v f*x/\x.natAbs<=160:=λc=>by
  by_cases q:c=f
  ·exact⟨D,λ_=>⟨by rw[q,Int.mul_comm],hD2⟩⟩
  ·by_cases q2:isP P c
   ·obtain⟨k,hk,e⟩:=q2
    refine⟨w k,λ_=>⟨?_,w1 k hk⟩⟩
    have a:=hs.row_eq hv.sol hf hnp hv.free hk
    have b:=w2 k hk
    have hp:=(hs.pos k hk).2.2.1
    rw[e,Int.toNat_natCast] at a b hp
    have:nI (nL rows k) c*(D*nI v c-nI v f*w k)=0:=by grind
    have:=qd5 this (by omega)
    omega
   ·exact⟨0,λhc=>⟨by rw[hv.free c hc q q2,Int.mul_zero,Int.mul_zero],by decide⟩⟩
 obtain⟨x,hx⟩:=Classical.axiomOfChoice hx
 have:=ws6 (W:=W) (r:=nI v) (s:=x) (α:=D) (β:=nI v f) hD (λc hc=>(hx c hc).1) (pv.gcd hv.len hf hv.pos)
 intro y hy
 obtain⟨c,hc,rfl⟩:=wt0 hy
 have hl:=hv.len
 exact Nat.le_trans (this c (by omega)) (hx c (by omega)).2
theorem xc3 {P:List Int} {f:Nat}:(P.any λe=>(f:Int)==e)=true↔isP P f:=by
 rw[List.any_eq_true]
 constructor
 ·rintro⟨x,hx,e⟩
  obtain⟨q,hq,rfl⟩:=wt0 hx
  exact⟨q,hq,(beq_iff_eq.1 e).symm⟩
 ·rintro⟨q,hq,e⟩
  exact⟨nI P q,wa1 hq,beq_iff_eq.2 e.symm⟩
theorem wt5 (P:List Int) (f:Nat):∀k,q3x P f k=true↔∀q,q<k->nI P q≠(f:Int)
 | 0=>⟨λ_ q hq=>absurd hq (Nat.not_lt_zero _),λ_=>rfl⟩
 | k+1=>by
  rw[q3x,Bool.and_eq_true,wt5 P f k,bne_iff_ne]
  constructor
  ·rintro⟨h1,h2⟩ q hq
   rcases Nat.lt_succ_iff_lt_or_eq.1 hq with e | e
   ·exact h1 q e
   ·rw[e]; exact h2
  ·exact λh=>⟨λq hq=>h q (by omega),h k (by omega)⟩
theorem q42 {P:List Int} {f:Nat}:q3x P f P.length=true↔¬isP P f:=by rw[wt5,wi3]
def q0g (n f:Nat) (t:Int) (P:List Int) (val:Nat->Int):Nat->List Int
 | 0=>(List.replicate n 0).set f t
 | k+1=>(q0g n f t P val k).set (nI P k).toNat (val k)
theorem qx7 (n f:Nat) (t:Int) (P:List Int) (val:Nat->Int):∀k,(q0g n f t P val k).length=n
 | 0=>by simp[q0g]
 | k+1=>by rw[q0g,List.length_set]; exact qx7 n f t P val k
theorem xc4 (n c:Nat):nI (List.replicate n (0:Int)) c=0:=by
 rcases Nat.lt_or_ge c n with h | h
 ·rw[qg5 _ _ (by simpa using h)]; simp
 ·exact q2x _ (by simpa using h)
theorem q8f {n f:Nat} {t:Int} {P:List Int} {val:Nat->Int} (hf:f<n) (hP:∀k,k<P.length->0<=nI P k/\nI P k<n) (hnp:¬isP P f):∀k,k<=P.length->nI (q0g n f t P val k) f=t
 | 0,_=>by rw[q0g,q8d _ (by simpa using hf),if_pos rfl]
 | k+1,hk=>by
  have:=hP k (by omega)
  rw[q0g,q8d _ (by rw[qx7]; omega),if_neg λe=>hnp ⟨k,by omega,by omega⟩]
  exact q8f hf hP hnp k (by omega)
theorem w0m {n f:Nat} {t:Int} {P:List Int} {val:Nat->Int} (hf:f<n) (hP:∀k,k<P.length->0<=nI P k/\nI P k<n) {c:Nat} (hc:c≠f) (hnp:¬isP P c):∀k,k<=P.length->nI (q0g n f t P val k) c=0
 | 0,_=>by rw[q0g,q8d _ (by simpa using hf),if_neg hc,xc4]
 | k+1,hk=>by
  have:=hP k (by omega)
  rw[q0g,q8d _ (by rw[qx7]; omega),if_neg λe=>hnp ⟨k,by omega,by omega⟩]
  exact w0m hf hP hc hnp k (by omega)
theorem w0n {n f:Nat} {t:Int} {P:List Int} {val:Nat->Int} (hP:∀k,k<P.length->0<=nI P k/\nI P k<n) (hinj:∀q k,q<P.length->k<P.length->nI P q=nI P k->q=k):∀k,k<=P.length->∀q,q<k->nI (q0g n f t P val k) (nI P q).toNat=val q
 | 0,_,q,hq=>absurd hq (Nat.not_lt_zero _)
 | k+1,hk,q,hq=>by
  have h1:=hP k (by omega)
  have h2:=hP q (by omega)
  rw[q0g,q8d _ (by rw[qx7]; omega)]
  rcases Nat.lt_succ_iff_lt_or_eq.1 hq with e | e
  ·rw[if_neg λe2=>by have:=hinj q k (by omega) (by omega) (by omega); omega]
   exact w0n hP hinj k (by omega) q e
  ·rw[if_pos (by rw[e]),e]
theorem xc5 (r:List (List Int)) (P:List Int) (n f:Nat):∀k,hTo r P n f k=q0g n f (qf3 r P f P.length) P (λk=>((0-nI (nL r k) f)*qf3 r P f P.length).tdiv (nI (nL r k) (nI P k).toNat)) k
 | 0=>rfl
 | k+1=>by rw[hTo,q0g,xc5 r P n f k]
theorem w28 (r:List (List Int)) (P:List Int) (n f:Nat):∀k,x0q r P n f k=q0g n f (q4s r P P.length) P (λk=>(0-nI (nL r k) f)*(q4s r P P.length).tdiv (w5j r P k)) k
 | 0=>rfl
 | k+1=>by rw[x0q,q0g,w28 r P n f k]
theorem xc6 (a b:Int):∃x,a=gcdI a b*x:=by
 have h:gcdI a b∣a:=Int.natAbs_dvd_natAbs.1 (Nat.gcd_dvd_left _ _)
 exact h
theorem xc7 (a b:Int):∃x,b=gcdI a b*x:=by
 have h:gcdI a b∣b:=Int.natAbs_dvd_natAbs.1 (Nat.gcd_dvd_right _ _)
 exact h
theorem xv0 {a d:Int} (ha:0<a) (hd:0<d):0<a*d.tdiv (gcdI a d)/\a∣a*d.tdiv (gcdI a d)/\d∣a*d.tdiv (gcdI a d)/\(a*d.tdiv (gcdI a d)).natAbs<=a.natAbs*d.natAbs/\a.tdiv (gcdI a d)*d=a*d.tdiv (gcdI a d):=by
 have hg:=qu9 (a:=a) (b:=d) (.inl (by omega))
 obtain⟨x,hx⟩:=xc6 a d
 obtain⟨y,hy⟩:=xc7 a d
 generalize gcdI a d=g at hg hx hy ⊢
 have e1:d.tdiv g=y:=by rw[hy]; exact Int.mul_tdiv_cancel_left _ (by omega)
 have e2:a.tdiv g=x:=by rw[hx]; exact Int.mul_tdiv_cancel_left _ (by omega)
 have hy0:0<y:=ws9 hg (by omega)
 rw[e1,e2]
 refine⟨Int.mul_pos ha hy0,⟨y,rfl⟩,⟨x,by rw[hx,hy]; grind⟩,?_,by rw[hx,hy]; grind⟩
 rw[Int.natAbs_mul]
 refine Nat.mul_le_mul_left _ ?_
 rw[<- e1]
 exact q58 _ _
theorem w29 {p r:Int} (hp:0<p):0<p.tdiv (gcdI p r)/\(p.tdiv (gcdI p r)).natAbs<=p.natAbs/\∀t,p.tdiv (gcdI p r)∣t->p∣(0-r)*t:=by
 have hg:=qu9 (a:=p) (b:=r) (.inl (by omega))
 obtain⟨x,hx⟩:=xc6 p r
 obtain⟨y,hy⟩:=xc7 p r
 refine⟨?_,q58 _ _,λt ht=>?_⟩
 ·generalize gcdI p r=g at hg hx hy ⊢
  rw[hx,Int.mul_tdiv_cancel_left _ (by omega)]
  exact ws9 hg (by omega)
 ·generalize gcdI p r=g at hg hx hy ht
  rw[hx,Int.mul_tdiv_cancel_left _ (by omega)] at ht
  obtain⟨u,hu⟩:=ht
  exact⟨- (y*u),by rw[hu,hx,hy]; grind⟩
theorem q43 {r:List (List Int)} {P:List Int} {f:Nat} (hp:∀k,k<P.length->0<nI (nL r k) (nI P k).toNat/\(nI (nL r k) (nI P k).toNat).natAbs<=160):∀k,k<=P.length->0<qf3 r P f k/\(qf3 r P f k).natAbs<=160 ^ k/\∀q,q<k->q5r r P f q∣qf3 r P f k
 | 0,_=>⟨by show(0:Int)<1; decide,by show(1:Int).natAbs<=160 ^ 0; decide,λq hq=>absurd hq (Nat.not_lt_zero _)⟩
 | k+1,hk=>by
  obtain⟨a1,a2,a3⟩:=q43 hp k (by omega)
  obtain⟨b1,b2⟩:=hp k (by omega)
  obtain⟨c1,c2,_⟩:=w29 (r:=nI (nL r k) f) b1
  change 0<q5r r P f k at c1
  change(q5r r P f k).natAbs<=_ at c2
  obtain⟨d1,d2,d3,d4,_⟩:=xv0 a1 c1
  rw[qf3]
  refine⟨d1,?_,λq hq=>?_⟩
  ·rw[Nat.pow_succ]
   exact Nat.le_trans d4 (Nat.mul_le_mul a2 (by omega))
  ·rcases Nat.lt_succ_iff_lt_or_eq.1 hq with e | e
   ·exact Int.dvd_trans (a3 q e) d2
   ·rw[e]; exact d3
theorem w3a {r:List (List Int)} {P:List Int} (hp:∀k,k<P.length->0<w5j r P k/\(w5j r P k).natAbs<=160):∀k,k<=P.length->0<q4s r P k/\(q4s r P k).natAbs<=160 ^ k/\∀q,q<k->w5j r P q∣q4s r P k
 | 0,_=>⟨by show(0:Int)<1; decide,by show(1:Int).natAbs<=160 ^ 0; decide,λq hq=>absurd hq (Nat.not_lt_zero _)⟩
 | k+1,hk=>by
  obtain⟨a1,a2,a3⟩:=w3a hp k (by omega)
  obtain⟨b1,b2⟩:=hp k (by omega)
  obtain⟨d1,d2,d3,d4,d5⟩:=xv0 a1 b1
  rw[q4s,d5]
  refine⟨d1,?_,λq hq=>?_⟩
  ·rw[Nat.pow_succ]
   exact Nat.le_trans d4 (Nat.mul_le_mul a2 b2)
  ·rcases Nat.lt_succ_iff_lt_or_eq.1 hq with e | e
   ·exact Int.dvd_trans (a3 q e) d2
   ·rw[e]; exact d3
theorem xv1 {k:Nat} (h:k<=6):160 ^ k<=16777216000000:=Nat.le_trans (Nat.pow_le_pow_right (by decide) h) (by decide)
structure Ones (n W:Nat) (M:List (List Int)):Prop extends Mat n W M where
 n1:0<n
 n6:n<=6
 w1:0<W
 w:W<=1000
 one:∀a c,a<n->c<W->(nI (nL M a) c).natAbs<=1
theorem Ones.small {n W:Nat} {M:List (List Int)} (h:Ones n W M):Small n W W M:=⟨h.toMat,h.n6,Nat.le_refl _,h.w,h.one,λa c ha hc=>by have:=h.one a c ha hc; omega⟩
theorem Ones.rdW {n W:Nat} {M:List (List Int)} (h:Ones n W M):rdW M=W:=h.each 0 h.n1
theorem Ones.stP {n W:Nat} {M:List (List Int)} (h:Ones n W M):St n W (rowOf M) W (qc7 M W).1 (qc7 M W).2:=qv3 h.toMat W (Nat.le_refl _)
theorem Ones.stR {n W:Nat} {M:List (List Int)} (h:Ones n W M):St n W (rowOf M) W ((qn0 M W).done_++(qn0 M W).left) (qn0 M W).piv:=(wi2 h.toMat W (Nat.le_refl _)).st
theorem Ones.at_ {n W:Nat} {M:List (List Int)} (h:Ones n W M) {k:Nat} (hk:k<(qn0 M W).piv.length):nL ((qn0 M W).done_++(qn0 M W).left) k=nL (qn0 M W).done_ k:=qx6 _ _ (by rw[(wi2 h.toMat W (Nat.le_refl _)).cnt]; exact hk)
theorem Ones.redOk {n W:Nat} {M:List (List Int)} (h:Ones n W M):q2u M W W:=q36 h.small
theorem Ones.pP {n W:Nat} {M:List (List Int)} (h:Ones n W M):∀k,k<(qc7 M W).2.length->0<nI (nL (qc7 M W).1 k) (nI (qc7 M W).2 k).toNat/\(nI (nL (qc7 M W).1 k) (nI (qc7 M W).2 k).toNat).natAbs<=160:=λk hk=>
 ⟨(h.stP.pos k hk).2.2.1,h.stP.piv_160 h.n6 h.one hk⟩
theorem Ones.pR {n W:Nat} {M:List (List Int)} (h:Ones n W M):∀k,k<(qn0 M W).piv.length->0<w5j (qn0 M W).done_ (qn0 M W).piv k/\(w5j (qn0 M W).done_ (qn0 M W).piv k).natAbs<=160:=λk hk=>by
 have h1:=(h.stR.pos k hk).2.2.1
 have h2:=h.stR.piv_160 h.n6 h.one hk
 rw[h.at_ hk] at h1 h2
 exact⟨h1,h2⟩
theorem Ones.kvP {n W:Nat} {M:List (List Int)} (h:Ones n W M) {f:Nat} (hf:f<W) (hnp:¬isP (qc7 M W).2 f):KV n W (rowOf M) (qc7 M W).2 f (hTo (qc7 M W).1 (qc7 M W).2 W f (qc7 M W).2.length):=by
 have hst:=h.stP
 have hP:∀k,k<(qc7 M W).2.length->0<=nI (qc7 M W).2 k/\nI (qc7 M W).2 k<W:=λk hk=>by have:=hst.pos k hk; omega
 have hT:=q43 (f:=f) h.pP _ (Nat.le_refl _)
 rw[xc5]
 have h0:∀c,c<W->c≠f->¬isP (qc7 M W).2 c->nI (q0g W f (qf3 (qc7 M W).1 (qc7 M W).2 f (qc7 M W).2.length) (qc7 M W).2 (λk=>((0-nI (nL (qc7 M W).1 k) f)*qf3 (qc7 M W).1 (qc7 M W).2 f (qc7 M W).2.length).tdiv (nI (nL (qc7 M W).1 k) (nI (qc7 M W).2 k).toNat)) (qc7 M W).2.length) c=0:=λc hc h1 h2=>w0m hf hP h1 h2 _ (Nat.le_refl _)
 refine⟨qx7 _ _ _ _ _ _,hst.sol_mk hf hnp h0 λk hk=>?_,h0,?_⟩
 ·rw[w0n hP (λq k hq hk=>hst.inj hq hk) _ (Nat.le_refl _) k hk,q8f hf hP hnp _ (Nat.le_refl _)]
  have hp:=(h.pP k hk).1
  have hd:=(w29 (r:=nI (nL (qc7 M W).1 k) f) hp).2.2 _ (hT.2.2 k hk)
  rw[Int.mul_tdiv_cancel' hd]
  grind
 ·rw[q8f hf hP hnp _ (Nat.le_refl _)]
  exact hT.1
theorem Ones.kvR {n W:Nat} {M:List (List Int)} (h:Ones n W M) {f:Nat} (hf:f<W) (hnp:¬isP (qn0 M W).piv f):KV n W (rowOf M) (qn0 M W).piv f (x0q (qn0 M W).done_ (qn0 M W).piv W f (qn0 M W).piv.length):=by
 have hst:=h.stR
 have hP:∀k,k<(qn0 M W).piv.length->0<=nI (qn0 M W).piv k/\nI (qn0 M W).piv k<W:=λk hk=>by have:=hst.pos k hk; omega
 have hT:=w3a h.pR _ (Nat.le_refl _)
 rw[w28]
 have h0:∀c,c<W->c≠f->¬isP (qn0 M W).piv c->nI (q0g W f (q4s (qn0 M W).done_ (qn0 M W).piv (qn0 M W).piv.length) (qn0 M W).piv (λk=>(0-nI (nL (qn0 M W).done_ k) f)*(q4s (qn0 M W).done_ (qn0 M W).piv (qn0 M W).piv.length).tdiv (w5j (qn0 M W).done_ (qn0 M W).piv k)) (qn0 M W).piv.length) c=0:=λc hc h1 h2=>w0m hf hP h1 h2 _ (Nat.le_refl _)
 refine⟨qx7 _ _ _ _ _ _,hst.sol_mk hf hnp h0 λk hk=>?_,h0,?_⟩
 ·rw[w0n hP (λq k hq hk=>hst.inj hq hk) _ (Nat.le_refl _) k hk,q8f hf hP hnp _ (Nat.le_refl _),h.at_ hk]
  have hd:w5j (qn0 M W).done_ (qn0 M W).piv k*(q4s (qn0 M W).done_ (qn0 M W).piv (qn0 M W).piv.length).tdiv (w5j (qn0 M W).done_ (qn0 M W).piv k)=_:=Int.mul_tdiv_cancel' (hT.2.2 k hk)
  have e:nI (nL (qn0 M W).done_ k) (nI (qn0 M W).piv k).toNat=w5j (qn0 M W).done_ (qn0 M W).piv k:=rfl
  rw[e]
  grind
 ·rw[q8f hf hP hnp _ (Nat.le_refl _)]
  exact hT.1
theorem Ones.piv {n W:Nat} {M:List (List Int)} (h:Ones n W M) (c:Nat):isP (qc7 M W).2 c↔isP (qn0 M W).piv c:=⟨h.stP.piv_same h.stR,h.stR.piv_same h.stP⟩
theorem Ones.ker {n W:Nat} {M:List (List Int)} (h:Ones n W M):∀f,f<=W->qo6 (qc7 M W).1 (qc7 M W).2 W f=q7l (qn0 M W).done_ (qn0 M W).piv W f
 | 0,_=>rfl
 | f+1,hf=>by
  have ih:=h.ker f (by omega)
  rw[qo6,q7l,ih]
  by_cases q:isP (qc7 M W).2 f
  ·rw[if_pos (xc3.2 q),if_neg λq2=>q42.1 q2 ((h.piv f).1 q)]
  ·have q2:¬isP (qn0 M W).piv f:=λq3=>q ((h.piv f).2 q3)
   rw[if_neg λq3=>q (xc3.1 q3),if_pos (q42.2 q2),q5i]
   have a:=(h.kvP (by omega) q).prim (by omega)
   have b:=((h.kvR (by omega) q2).prim (by omega)).trans λc=>(h.piv c).symm
   rw[a.uniq h.stP (by omega) q b (qo4 _) (qo4 _)]
theorem Ones.kernel {n W:Nat} {M:List (List Int)} (h:Ones n W M):qo6 (qc7 M W).1 (qc7 M W).2 W W=qj4 M:=by
 rw[h.ker W (Nat.le_refl _)]
 unfold qj4 q57
 rw[h.rdW]
theorem Ones.kerAr {n W:Nat} {M:List (List Int)} (h:Ones n W M):xl7 (qc7 M W).1 (qc7 M W).2 W:=by
 have hB:BIG=4000000000000000000:=rfl
 have hst:=h.stP
 have hpl:=hst.pl
 have hn:=h.n6
 have hsm:=λ{k} (hk:k<(qc7 M W).2.length)=>(hst.small h.small (Nat.le_refl _) (i:=k) (by omega)).1
 have hT:=λf=>q43 (f:=f) h.pP
 refine⟨λk hk=>?_,λk hk i hi=>?_,λf hf _ k hk=>?_,λf hf _ k hk=>?_⟩
 ·have:=(h.pP k hk).1; omega
 ·have:=hsm hk i hi
  constructor <;> omega
 ·obtain⟨a,b,_⟩:=hT f k hk
  have:=xv1 (k:=k) (by omega)
  exact⟨by constructor <;> omega,by omega⟩
 ·obtain⟨a,b,_⟩:=hT f _ (Nat.le_refl _)
  have:=xv1 (k:=(qc7 M W).2.length) (by omega)
  have h1:=hsm hk f hf
  have:=w0l (a:=0-nI (nL (qc7 M W).1 k) f) (A:=46656) (by omega) (Nat.le_trans b this)
  constructor <;> omega
def q8g (M:List (List Int)) (W:Nat):List Nat:=(List.range W).filter λc=>q3x (qn0 M W).piv c (qn0 M W).piv.length
theorem wa5 (d:List (List Int)) (P:List Int) (n:Nat):∀f,q7l d P n f=((List.range f).filter λc=>q3x P c P.length).map λc=>qu3 (x0q d P n c P.length)
 | 0=>rfl
 | f+1=>by
  rw[q7l,wa5 d P n f,List.range_succ,List.filter_append,List.map_append]
  by_cases q:q3x P f P.length=true
  ·rw[if_pos q]
   simp[List.filter,q]
  ·rw[if_neg q]
   have q:q3x P f P.length=false:=by simpa using q
   simp[List.filter,q]
theorem Ones.kernel_map {n W:Nat} {M:List (List Int)} (h:Ones n W M):qj4 M=(q8g M W).map λc=>qu3 (x0q (qn0 M W).done_ (qn0 M W).piv W c (qn0 M W).piv.length):=by
 unfold qj4 q57
 rw[h.rdW,wa5]
 rfl
theorem qx8 {M:List (List Int)} {W c:Nat}:c∈q8g M W↔c<W/\¬isP (qn0 M W).piv c:=by
 unfold q8g
 rw[List.mem_filter,List.mem_range,q42]
theorem Ones.one_free {n W:Nat} {M:List (List Int)} (h:Ones n W M) (h1:(qj4 M).length=1):∃f,f<W/\¬isP (qn0 M W).piv f/\(∀c,c<W->c≠f->isP (qn0 M W).piv c)/\KV n W (rowOf M) (qn0 M W).piv f (nL (qj4 M) 0)/\Prim (nL (qj4 M) 0):=by
 rw[h.kernel_map] at h1 ⊢
 rw[List.length_map] at h1
 obtain⟨f,hf⟩:=List.length_eq_one_iff.1 h1
 have hm:f∈q8g M W:=by rw[hf]; simp
 obtain⟨hfW,hnp⟩:=qx8.1 hm
 refine⟨f,hfW,hnp,λc hc hne=>Classical.byContradiction λq=>?_,?_,?_⟩
 ·have:c∈q8g M W:=qx8.2 ⟨hc,q⟩
  rw[hf] at this
  exact hne (by simpa using this)
 ·rw[hf]
  exact(h.kvR hfW hnp).prim hfW
 ·rw[hf]
  exact qo4 _
theorem Ones.ker_small {n W:Nat} {M:List (List Int)} (h:Ones n W M) {v:List Int} (hv:v∈qj4 M):v.length=W/\∀x∈v,x.natAbs<=160:=by
 rw[h.kernel_map] at hv
 obtain⟨f,hf,rfl⟩:=List.mem_map.1 hv
 obtain⟨hfW,hnp⟩:=qx8.1 hf
 have hk:=(h.kvR hfW hnp).prim hfW
 exact⟨hk.len,hk.small h.stR h.n6 h.one hfW hnp (qo4 _)⟩
theorem Ones.one_mk {n W:Nat} {M:List (List Int)} (h:Ones n W M) {u:Nat->Int} (hu:Sol n W (rowOf M) u) (hu0:∀c,c<W->u c≠0) (hmin:∀z,Sol n W (rowOf M) z->(∃c,c<W/\z c=0)->∀c,c<W->z c=0):(qj4 M).length=1/\∀c,c<W->nI (nL (qj4 M) 0) c≠0:=by
 have hw:=h.w1
 have two:∀f g,f∈q8g M W->g∈q8g M W->f=g:=λf g hf hg=>Classical.byContradiction λhne=>by
  obtain⟨hfW,hfn⟩:=qx8.1 hf
  obtain⟨hgW,hgn⟩:=qx8.1 hg
  have hk:=h.kvR hfW hfn
  have:=hmin _ hk.sol ⟨g,hgW,hk.free g hgW (Ne.symm hne) hgn⟩ f hfW
  have:=hk.pos
  omega
 have ex:∃f,f∈q8g M W:=Classical.byContradiction λhno=>by
  have hall:∀c,c<W->isP (qn0 M W).piv c:=λc hc=>Classical.byContradiction λq=>hno ⟨c,qx8.2 ⟨hc,q⟩⟩
  obtain⟨k,hk,e⟩:=hall 0 hw
  have hst:=h.stR
  have hpl:=hst.pl
  have hp:=hst.pos k hk
  have h1:=(hst.sol u).1 hu k (by omega)
  unfold dt at h1
  rw[e,Int.toNat_natCast] at hp
  rw[qq0 (k:=0) hw λc hc hne=>?_] at h1
  ·exact hu0 0 hw (qd5 h1 (by omega))
  ·try dsimp only
   obtain⟨q,hq,e2⟩:=hall c hc
   have:=(hst.pos q hq).2.2.2.2 k (by omega) λe3=>hne (by rw[e3,e2] at e; omega)
   rw[e2,Int.toNat_natCast] at this
   rw[this,Int.zero_mul]
 obtain⟨f,hf⟩:=ex
 have hnd:(q8g M W).Nodup:=List.nodup_range.filter _
 have h1:(q8g M W).length=1:=by
  match hl:q8g M W,hnd with
  | [],_=>rw[hl] at hf; cases hf
  | [a],_=>rfl
  | a :: b :: t,hnd=>
   have:=two a b (by rw[hl]; simp) (by rw[hl]; simp)
   rw[this] at hnd
   simp at hnd
 have hk1:(qj4 M).length=1:=by rw[h.kernel_map,List.length_map]; exact h1
 refine⟨hk1,λc hc q=>?_⟩
 obtain⟨f,hfW,hfn,_,hv,_⟩:=h.one_free hk1
 have:=hmin _ hv.sol ⟨c,hc,q⟩ f hfW
 have:=hv.pos
 omega
theorem qk5 {m:List (List Int)} {s:List Int} (hM:Mk m) (hs:Named (nL m 0).length s) (h1:0<s.length):Ones m.length s.length (qn4 m s):=by
 have hl:=hs.len
 have h10:=hM.pix10
 refine⟨⟨wp4 m s,λi hi=>by rw[qr3 m s i hi,qj2]⟩,hM.rows1,hM.rows6,h1,by omega,λa c ha hc=>?_⟩
 rw[qr3 m s a ha,qp5 _ _ _ hc]
 have:=hs.at_ c hc
 have:=hM.small a ha (nI s c).toNat (by omega)
 omega
theorem qt6 (m:List (List Int)) (s:List Int):qk8 m s=qn4 m s:=by
 unfold qk8 qb4 qn4
 simp
theorem xc8 {m:List (List Int)} {s:List Int} (hM:Mk m) (hs:Named (nL m 0).length s) (h1:0<s.length):ql3 m s=qz6 m s:=by
 unfold ql3 qi5 qz6
 rw[qt6]
 exact(qk5 hM hs h1).kernel
theorem q6a {n k:Nat} {s:List Int} (h:s∈qf0 (n:Nat) (k:Nat)):Named n s/\s.length=k:=by
 have hl:=(wt4 h).1
 unfold qf0 at h
 split at h
 ·have hc:=w2a h
  have he:=hc.len
  simp only[Int.toNat_natCast] at hc he
  have step:∀d i,i+d+1<k->nI s i<nI s (i+d+1):=λd=>by
   induction d with
   | zero=>intro i hi; have:=hc.asc (i+1) (by omega) (by omega); simpa using this
   | succ d ih=>
    intro i hi
    have h1:=ih i (by omega)
    have h2:=hc.asc (i+(d+1)+1) (by omega) (by omega)
    rw[show i+(d+1)+1-1=i+d+1 by omega] at h2
    omega
  refine⟨⟨λj hj=>?_,λi j hij hj=>?_⟩,hl⟩
  ·have h1:=hc.lo j (by omega)
   have h2:=hc.hi j (by omega)
   omega
  ·have:=step (j-i-1) i (by omega)
   rwa [show i+(j-i-1)+1=j by omega] at this
 ·cases h
theorem q8h:∀(m k:Nat) (a:Int) (l:List Int),l.length=k->(∀i,i<k->a<=nI l i/\nI l i<a+m)->(∀i j,i<j->j<k->nI l i<nI l j)->l∈qp6 m k a
 | m,0,a,l,hl,_,_=>by
  have:l=[]:=List.eq_nil_of_length_eq_zero hl
  rw[w5c,this]; simp
 | 0,k+1,a,l,hl,hb,_=>by
  have:=hb 0 (by omega)
  omega
 | m+1,k+1,a,l,hl,hb,ha=>by
  match l,hl with
  | x :: t,hl=>
  have hl:t.length=k:=by simpa using hl
  rw[qp6,List.mem_append,List.mem_map]
  by_cases e:x=a
  ·refine .inl ⟨t,q8h m k (a+1) t hl (λi hi=>?_) (λi j hij hj=>ha (i+1) (j+1) (by omega) (by omega)),by rw[e]⟩
   have h1:=hb (i+1) (by omega)
   have h2:=ha 0 (i+1) (by omega) (by omega)
   rw[qs3] at h1
   rw[qs2,qs3] at h2
   omega
  ·refine .inr (q8h m (k+1) (a+1) (x :: t) (by simp[hl]) (λi hi=>?_) ha)
   have h0:=hb 0 (by omega)
   rw[qs2] at h0
   have h1:=hb i hi
   rcases Nat.eq_zero_or_pos i with q | q
   ·rw[q,qs2]; omega
   ·have h2:=ha 0 i q hi
    rw[qs2] at h2
    omega
theorem xc9 {n:Nat} {s:List Int} (h:Named n s):s∈qf0 (n:Nat) (s.length:Nat):=by
 have hl:=h.len
 unfold qf0
 rw[if_pos (by omega)]
 refine q8h _ _ _ _ (by rw[Int.toNat_natCast]) (λi hi=>?_) λi j hij hj=>h.asc i j hij (by simpa using hj)
 rw[Int.toNat_natCast] at hi
 have:=h.at_ i hi
 rw[Int.toNat_natCast]
 omega
theorem xq4 {m:List (List Int)} (hv:qa9 m=true):q2v m:=by
 have hM:=Mk.of hv
 have h1:=hM.pix1
 have h10:=hM.pix10
 refine⟨⟨?_⟩,λk hk set hset=>?_⟩
 ·have:=(qk5 hM (Named.idx _) (by rw[qd8]; exact h1)).redOk
  rw[qd8] at this
  rw[qt6]
  exact this
 ·obtain⟨hn,hl⟩:=q6a hset
  have hO:=qk5 hM hn (by omega)
  refine⟨ChoOk.of hM hn λ_ _=>⟨trivial,Nat.zero_le _⟩,by rw[qt6]; exact hO.redOk,?_⟩
  unfold qi5
  rw[qt6]
  exact hO.kerAr
theorem q8i {n:Nat} {s v:List Int} (hs:Named n s):∀k,k<=s.length->∀j,j<k->nI (qg2 n s v k) (nI s j).toNat=nI v j
 | 0,_,j,hj=>absurd hj (Nat.not_lt_zero _)
 | k+1,hk,j,hj=>by
  have h1:=hs.at_ k (by omega)
  have h2:=hs.at_ j (by omega)
  rw[qg2,q8d _ (by rw[ql4]; omega)]
  rcases Nat.lt_succ_iff_lt_or_eq.1 hj with e | e
  ·have:=hs.asc j k e (by omega)
   rw[if_neg (by omega)]
   exact q8i hs k (by omega) j e
  ·rw[if_pos (by rw[e]),e]
theorem wi4 {n:Nat} {s v:List Int} (hs:Named n s) {c:Nat} (hc:∀j,j<s.length->nI s j≠(c:Int)):∀k,k<=s.length->nI (qg2 n s v k) c=0
 | 0,_=>xc4 n c
 | k+1,hk=>by
  have h1:=hs.at_ k (by omega)
  have h2:=hc k (by omega)
  rw[qg2,q8d _ (by rw[ql4]; omega),if_neg (by omega)]
  exact wi4 hs hc k (by omega)
theorem q8j {v:List Int}:∀k,k<=v.length->(wg9 v k=true↔∀c,c<k->nI v c≠0)
 | 0,_=>⟨λ_ c hc=>absurd hc (Nat.not_lt_zero _),λ_=>rfl⟩
 | k+1,hk=>by
  rw[wg9,Bool.and_eq_true,q8j k (by omega),bne_iff_ne]
  constructor
  ·rintro⟨h1,h2⟩ c hc
   rcases Nat.lt_succ_iff_lt_or_eq.1 hc with e | e
   ·exact h1 c e
   ·rw[e]; exact h2
  ·exact λh=>⟨λc hc=>h c (by omega),h k (by omega)⟩
theorem xq5 {v:List Int}:(v.any λe=>(0:Int)==e)=false↔∀c,c<v.length->nI v c≠0:=by
 rw[List.any_eq_false]
 constructor
 ·intro h c hc e
  have:=h _ (wa1 hc)
  rw[e] at this
  exact this rfl
 ·intro h x hx q
  obtain⟨c,hc,rfl⟩:=wt0 hx
  exact h c hc (beq_iff_eq.1 q).symm
structure IsC (m:List (List Int)) (s:List Int):Prop where
 one:(qz6 m s).length=1
 nz:∀c,c<s.length->nI (nL (qz6 m s) 0) c≠0
theorem qx9 {m:List (List Int)} {s:List Int} (hM:Mk m) (hs:Named (nL m 0).length s) (hok:q8u m s=true):wq5 m s=true↔IsC m s:=by
 have h1:0<s.length:=by
  unfold q8u at hok
  rw[Bool.and_eq_true,decide_eq_true_eq] at hok
  omega
 have hO:=qk5 hM hs h1
 unfold wq5
 rw[hok,Bool.true_and,Bool.and_eq_true,decide_eq_true_eq]
 constructor
 ·rintro⟨a,b⟩
  have hl:=(hO.ker_small (qx4 (qj4 (qn4 m s)) 0 (by show 0<(qz6 m s).length; omega))).1
  exact⟨a,(q8j _ (by show s.length<=(nL (qj4 (qn4 m s)) 0).length; omega)).1 b⟩
 ·intro h
  have hl:=(hO.ker_small (qx4 (qj4 (qn4 m s)) 0 (by have:=h.one; show 0<(qz6 m s).length; omega))).1
  exact⟨h.one,(q8j _ (by show s.length<=(nL (qj4 (qn4 m s)) 0).length; omega)).2 h.nz⟩
theorem wt6 {m:List (List Int)} {s:List Int} (hM:Mk m) (hs:Named (nL m 0).length s) (h1:0<s.length):q8t (ql3 m s)=true↔IsC m s:=by
 have hO:=qk5 hM hs h1
 rw[xc8 hM hs h1]
 unfold q8t
 rw[Bool.and_eq_true,decide_eq_true_eq,Bool.not_eq_true',xq5]
 constructor
 ·rintro⟨a,b⟩
  have hl:=(hO.ker_small (qx4 (qj4 (qn4 m s)) 0 (by show 0<(qz6 m s).length; omega))).1
  exact⟨a,λc hc=>b c (by show c<(nL (qj4 (qn4 m s)) 0).length; omega)⟩
 ·intro h
  have hl:=(hO.ker_small (qx4 (qj4 (qn4 m s)) 0 (by have:=h.one; show 0<(qz6 m s).length; omega))).1
  exact⟨h.one,λc hc=>h.nz c (by have:c<(nL (qj4 (qn4 m s)) 0).length:=hc; omega)⟩
theorem x1k {l:List Int} (h:∀d:Nat,(∀c,c<l.length->d∣(nI l c).natAbs)->d=1):qe4 l=l:=by
 have h1:(gcdL l).natAbs=1:=h _ λc hc=>(x5i l 0).2.1 _ (wa1 hc)
 unfold qe4
 rw[if_neg (by omega)]
theorem xd0 (l:List Int):xk8 l=q7j l (-1):=by
 refine List.ext_getElem (by rw[q53,qx3]) λi h1 h2=>?_
 rw[<- qg5 _ i h1,<- qg5 _ i h2,wa2,q59]
 omega
theorem x1l {m:List (List Int)} {s:List Int} (hM:Mk m) (hs:Named (nL m 0).length s) (h1:0<s.length) (hc:IsC m s):x5z m (nL m 0).length s=wq4 m (nL m 0).length s:=by
 have hO:=qk5 hM hs h1
 obtain⟨f,hf,hnp,ho,hv,hp⟩:=hO.one_free hc.one
 have hnz:=hc.nz
 unfold x5z wq4 q7s
 rw[xc8 hM hs h1]
 change KV _ _ _ _ _ (nL (qz6 m s) 0) at hv
 change Prim (nL (qz6 m s) 0) at hp
 generalize nL (qz6 m s) 0=v at *
 have hat:=λj (hj:j<s.length)=>q8i (v:=v) hs _ (Nat.le_refl _) j hj
 have ho2:∀c:Nat,(∀j,j<s.length->nI s j≠(c:Int))->nI (qg2 (nL m 0).length s v s.length) c=0:=λc hc=>wi4 hs hc _ (Nat.le_refl _)
 have hlen:=ql4 (nL m 0).length s v s.length
 generalize qg2 (nL m 0).length s v s.length=u at *
 have hsh:qe4 u=u:=x1k λd hd=>hp.gcd hv.len hf hv.pos d λc hc=>by
  have h2:=hs.at_ c hc
  rw[<- hat c hc]
  exact hd _ (by omega)
 have h0:=hs.at_ 0 h1
 have hfst:qv7 u=nI s 0:=by
  have:=q9q (.int .i64) (λe=>e != 0) u (nI s 0).toNat (by omega) (λi hi=>by
   have:nI u i=0:=ho2 i λj hj e=>by
    rcases Nat.eq_zero_or_pos j with q | q
    ·rw[q] at e; omega
    ·have:=hs.asc 0 j q hj
     omega
   show(nI u i != 0)=false
   rw[this]; rfl) (by
   show(nI u (nI s 0).toNat != 0)=true
   rw[hat 0 h1]
   exact bne_iff_ne.2 (hnz 0 h1))
  unfold qv7
  rw[this]
  omega
 unfold q7h
 rw[hsh,hfst]
 by_cases q:nI u (nI s 0).toNat<0
 ·rw[if_pos ⟨h0.1,q⟩,if_pos q,xd0]
 ·rw[if_neg λk=>q k.2,if_neg q]
theorem wt7 {N K:Nat} {A:Nat->Int} {σ:Nat->Nat} {w:Nat->Int} (hσ:∀q,q<K->σ q<N):(sm N λcol=>A col*sm K λq=>if σ q=col then w q else 0)=sm K λq=>A (σ q)*w q:=by
 have e:(sm N λcol=>A col*sm K λq=>if σ q=col then w q else 0)=sm N λcol=>sm K λq=>A col*if σ q=col then w q else 0:=qe8 λc hc=>by
  try dsimp only
  rw[qs6]
 rw[e,w0j]
 refine qe8 λq hq=>?_
 try dsimp only
 rw[qq0 (k:=σ q) (hσ q hq) λi hi hne=>by
  try dsimp only
  rw[if_neg (Ne.symm hne),Int.mul_zero]]
 try dsimp only
 rw[if_pos rfl]
theorem xq6 {m:List (List Int)} {s:List Int} (hM:Mk m) (hs:Named (nL m 0).length s) (h1:0<s.length):(qn0 (qn4 m s) s.length).piv.length<=(qi5 m (ql7 (nL m 0).length)).2.length:=Nat.le_of_not_lt λhgt=>by
 have hO:=qk5 hM hs h1
 have hF:=(qk5 hM (Named.idx (nL m 0).length) (by rw[qd8]; exact hM.pix1))
 have hstF:=hF.stP
 unfold qi5 at hgt
 rw[qt6] at hgt
 have hst:=hO.stR
 rw[qd8] at hstF hgt
 generalize qc7 (qn4 m (ql7 (nL m 0).length)) (nL m 0).length=F at hstF hgt
 obtain⟨rF,PF⟩:=F
 dsimp only at hstF hgt
 generalize(qn0 (qn4 m s) s.length).piv=P at hst hgt
 generalize(qn0 (qn4 m s) s.length).done_++(qn0 (qn4 m s) s.length).left=rows at hst
 have hpl:=hst.pl
 have hplF:=hstF.pl
 have hPs:∀q,q<P.length->(nI P q).toNat<s.length:=λq hq=>by have:=hst.pos q hq; omega
 have hσ:∀q,q<P.length->(nI s (nI P q).toNat).toNat<(nL m 0).length:=λq hq=>by have:=hs.at_ _ (hPs q hq); omega
 obtain⟨w,w1,q0,hq0,w2⟩:=q8e (n:=PF.length) (W:=P.length) (λk q=>nI (nL rF k) (nI s (nI P q).toNat).toNat) hgt
 have hF2:Sol m.length (nL m 0).length (rowOf (qn4 m (ql7 (nL m 0).length))) λcol=>sm P.length λq=>if(nI s (nI P q).toNat).toNat=col then w q else 0:=(hstF.sol _).2 λi hi=>by
  rcases Nat.lt_or_ge i PF.length with q | q
  ·unfold dt
   rw[wt7 hσ]
   exact w1 i q
  ·refine sm_zero λc hc=>?_
   try dsimp only
   rw[hstF.zero i q hi c hc,Int.zero_mul]
 have hsub:Sol m.length s.length (rowOf (qn4 m s)) λc=>sm P.length λq=>if(nI P q).toNat=c then w q else 0:=λa ha=>by
  rw[wt7 hPs]
  have e1:=hF2 a ha
  rw[wt7 hσ] at e1
  rw[<- e1]
  refine qe8 λq hq=>?_
  have h2:=hs.at_ _ (hPs q hq)
  unfold rowOf
  rw[qr3 m s a ha,qr3 m _ a ha,qp5 _ _ _ (hPs q hq),qp5 _ _ _ (by rw[qd8]; exact hσ q hq),qv5 _ _ (hσ q hq),Int.toNat_natCast]
 have e:=(hst.sol _).1 hsub q0 (by omega)
 unfold dt at e
 rw[wt7 hPs,qq0 (k:=q0) hq0 λi hi hne=>by
  try dsimp only
  rw[(hst.pos i hi).2.2.2.2 q0 (by omega) (Ne.symm hne),Int.zero_mul]] at e
 exact w2 (qd5 e (by have:=(hst.pos q0 hq0).2.2.1; omega))
theorem w3b {m:List (List Int)} {s:List Int} (hM:Mk m) (hs:Named (nL m 0).length s) (h1:0<s.length) (hc:IsC m s):s.length<=(qi5 m (ql7 (nL m 0).length)).2.length+1:=by
 have hO:=qk5 hM hs h1
 have hr:=xq6 hM hs h1
 obtain⟨f,hf,hnp,ho,_,_⟩:=hO.one_free hc.one
 generalize(qn0 (qn4 m s) s.length).piv=P at *
 refine Nat.le_of_not_lt λhgt=>?_
 have hx:∀a,∃q,a<s.length-1->q<P.length/\nI P q=(skp f a:Int):=λa=>by
  by_cases ha:a<s.length-1
  ·obtain⟨q,hq,e⟩:=ho (skp f a) (by have:=q74 (n:=s.length-1) (i:=f) ha; omega) (xu5 f a)
   exact⟨q,λ_=>⟨hq,e⟩⟩
  ·exact⟨0,λq=>absurd q ha⟩
 obtain⟨g,hg⟩:=Classical.axiomOfChoice hx
 obtain⟨i,j,k1,k2,k3⟩:=q73 P.length (s.length-1) g (λi hi=>(hg i hi).1) (by omega)
 have e1:=(hg i (by omega)).2
 have e2:=(hg j k2).2
 rw[k3] at e1
 have:skp f i=skp f j:=by omega
 unfold skp at this
 split at this <;> split at this <;> omega
def x2i (m:List (List Int)) (s:List Int):Option (List Int):=if q8t (ql3 m s) then some (x5z m (nL m 0).length s) else none
def w57 (m:List (List Int)) (s:List Int):Option (List Int):=if wq5 m s then some (wq4 m (nL m 0).length s) else none
theorem wt8 (m:List (List Int)) (L:List (List Int)):∀c,c<=L.length->qr6 m (nL m 0).length L c=(L.take c).filterMap (x2i m)
 | 0,_=>rfl
 | c+1,hc=>by
  rw[qr6,takeL_snoc L c (by omega),List.filterMap_append,wt8 m L c (by omega)]
  unfold x2i
  by_cases q:q8t (ql3 m (nL L c))=true
  ·rw[if_pos q]
   simp[List.filterMap,q]
  ·rw[if_neg q]
   have q:q8t (ql3 m (nL L c))=false:=by simpa using q
   simp[List.filterMap,q]
def wt9 (m:List (List Int)) (k:Nat):List (List Int):=(qf0 (nL m 0).length (k:Nat)).filterMap (w57 m)
theorem w3c (m:List (List Int)):∀K,q2d m (nL m 0).length K=(List.range K).flatMap λ(k:Nat)=>(qf0 (nL m 0).length (k+1:Nat)).filterMap (x2i m)
 | 0=>rfl
 | K+1=>by
  rw[q2d,w3c m K,List.range_succ,List.flatMap_append,wt8 m _ _ (Nat.le_refl _),List.take_length]
  simp
theorem x1m {m:List (List Int)} {s:List Int} (hM:Mk m) (hs:Named (nL m 0).length s) (h1:0<s.length) (hr:s.length<=m.length+1):x2i m s=w57 m s:=by
 have hok:q8u m s=true:=by
  unfold q8u
  rw[Bool.and_eq_true,decide_eq_true_eq,decide_eq_true_eq]
  omega
 unfold x2i w57
 by_cases q:IsC m s
 ·rw[if_pos ((wt6 hM hs h1).2 q),if_pos ((qx9 hM hs hok).2 q),x1l hM hs h1 q]
 ·rw[if_neg λk=>q ((wt6 hM hs h1).1 k),if_neg λk=>q ((qx9 hM hs hok).1 k)]
theorem xd1 {m:List (List Int)} (hM:Mk m):(qi5 m (ql7 (nL m 0).length)).2.length<=m.length:=by
 have hF:=(qk5 hM (Named.idx (nL m 0).length) (by rw[qd8]; exact hM.pix1))
 have:=hF.stP.pl
 unfold qi5
 rw[qt6]
 exact this
theorem xd2 {m:List (List Int)} (hM:Mk m) {k:Nat} (hk:q3y m<=k) (hn:k<(nL m 0).length):wt9 m (k+1)=[]:=by
 unfold wt9
 rw[List.filterMap_eq_nil_iff]
 intro s hs
 obtain⟨hN,hl⟩:=q6a hs
 unfold w57
 rw[if_neg]
 intro q
 have hok:q8u m s=true:=by
  unfold wq5 at q
  rw[Bool.and_eq_true,Bool.and_eq_true] at q
  exact q.1.1
 have:=w3b hM hN (by omega) ((qx9 hM hN hok).1 q)
 unfold q3y at hk
 omega
theorem wu0 {f:Nat->List (List Int)} {K:Nat}:∀d,(∀k,K<=k->k<K+d->f k=[])->(List.range (K+d)).flatMap f=(List.range K).flatMap f
 | 0,_=>rfl
 | d+1,h=>by
  rw[<- Nat.add_assoc,List.range_succ,List.flatMap_append,wu0 d λk h1 h2=>h k h1 (by omega)]
  simp[h (K+d) (by omega) (by omega)]
theorem w3d {f g:List Int->Option (List Int)}:∀l:List (List Int),(∀x∈l,f x=g x)->l.filterMap f=l.filterMap g
 | [],_=>rfl
 | x :: l,h=>by rw[List.filterMap_cons,List.filterMap_cons,h x (by simp),w3d l λy hy=>h y (by simp[hy])]
theorem w3e {m:List (List Int)} (hv:qa9 m=true) (h7:(nL m 0).length<=7):q2d m (nL m 0).length (q3y m)=(List.range (nL m 0).length).flatMap λk=>wt9 m (k+1):=by
 have hM:=Mk.of hv
 have hcn:q3y m<=(nL m 0).length:=by unfold q3y; omega
 have e:=wu0 (f:=λk=>wt9 m (k+1)) (K:=q3y m) ((nL m 0).length-q3y m) λk h1 h2=>xd2 hM h1 (by omega)
 rw[show q3y m+((nL m 0).length-q3y m)=(nL m 0).length by omega] at e
 rw[e,w3c]
 have hr:=xd1 hM
 have key:∀K,K<=q3y m->((List.range K).flatMap λ(k:Nat)=>(qf0 (nL m 0).length (k+1:Nat)).filterMap (x2i m))=(List.range K).flatMap λk=>wt9 m (k+1):=λK=>by
  induction K with
  | zero=>exact λ_=>rfl
  | succ K ih=>
   intro hK
   rw[List.range_succ,List.flatMap_append,List.flatMap_append,ih (by omega)]
   congr 1
   simp only[List.flatMap_cons,List.flatMap_nil,List.append_nil]
   unfold wt9
   refine w3d _ λs hs=>?_
   obtain⟨hN,hl⟩:=q6a hs
   exact x1m hM hN (by omega) (by unfold q3y at hK; omega)
 exact key _ (Nat.le_refl _)
def q8k:Nat->(Nat->Int)->Nat
 | 0,_=>0
 | k+1,d=>if d k≠0 then q8k k d+1 else q8k k d
theorem w3f (l:List Int):∀k,nzTo l k=q8k k (nI l)
 | 0=>rfl
 | k+1=>by rw[nzTo,q8k,w3f l k]
theorem cnt_le {d e:Nat->Int}:∀k,(∀c,c<k->d c≠0->e c≠0)->q8k k d<=q8k k e
 | 0,_=>Nat.le_refl _
 | k+1,h=>by
  have ih:=cnt_le k λc hc=>h c (by omega)
  rw[q8k,q8k]
  by_cases q:d k≠0
  ·rw[if_pos q,if_pos (h k (by omega) q)]; omega
  ·rw[if_neg q]; split <;> omega
theorem cnt_lt {d e:Nat->Int} {c0:Nat} (h1:d c0=0) (h2:e c0≠0):∀k,c0<k->(∀c,c<k->d c≠0->e c≠0)->q8k k d<q8k k e
 | k+1,hk,h=>by
  rw[q8k,q8k]
  by_cases q:c0=k
  ·have ih:=cnt_le (d:=d) (e:=e) k λc hc=>h c (by omega)
   rw[<- q,if_neg (by rw[h1]; exact λk=>k rfl),if_pos h2,q]
   omega
  ·have ih:=cnt_lt h1 h2 k (by omega) λc hc=>h c (by omega)
   by_cases q2:d k≠0
   ·rw[if_pos q2,if_pos (h k (by omega) q2)]; omega
   ·rw[if_neg q2]; split <;> omega
def wv3:Nat->(Nat->Int)->List Int
 | 0,_=>[]
 | k+1,d=>if d k≠0 then wv3 k d++[(k:Int)] else wv3 k d
theorem q6b (d:Nat->Int):∀k,(wv3 k d).length=q8k k d
 | 0=>rfl
 | k+1=>by
  rw[wv3,q8k]
  split
  ·rw[List.length_append,q6b d k]; rfl
  ·exact q6b d k
theorem qy0 (d:Nat->Int):∀k,Named k (wv3 k d)/\∀j,j<(wv3 k d).length->d (nI (wv3 k d) j).toNat≠0
 | 0=>⟨⟨λj hj=>absurd hj (Nat.not_lt_zero _),λi j _ hj=>absurd hj (Nat.not_lt_zero _)⟩,λj hj=>absurd hj (Nat.not_lt_zero _)⟩
 | k+1=>by
  obtain⟨h1,h2⟩:=qy0 d k
  rw[wv3]
  by_cases q:d k≠0
  ·rw[if_pos q]
   have hl:(wv3 k d++[(k:Int)]).length=(wv3 k d).length+1:=by simp
   refine⟨⟨λj hj=>?_,λi j hij hj=>?_⟩,λj hj=>?_⟩
   ·rw[hl] at hj
    rcases Nat.lt_succ_iff_lt_or_eq.1 hj with e | e
    ·rw[ql6 _ _ e]; have:=h1.at_ j e; omega
    ·rw[e,qr8]; omega
   ·rw[hl] at hj
    rw[ql6 _ _ (show i<(wv3 k d).length by omega)]
    rcases Nat.lt_succ_iff_lt_or_eq.1 hj with e | e
    ·rw[ql6 _ _ e]; exact h1.asc i j hij e
    ·rw[e,qr8]; exact(h1.at_ i (by omega)).2
   ·rw[hl] at hj
    rcases Nat.lt_succ_iff_lt_or_eq.1 hj with e | e
    ·rw[ql6 _ _ e]; exact h2 j e
    ·rw[e,qr8,Int.toNat_natCast]; exact q
  ·rw[if_neg q]
   exact⟨⟨λj hj=>by have:=h1.at_ j hj; omega,h1.asc⟩,h2⟩
theorem wi5 (d:Nat->Int):∀k c,c<k->d c≠0->∃j,j<(wv3 k d).length/\nI (wv3 k d) j=(c:Int)
 | k+1,c,hc,hd=>by
  rw[wv3]
  by_cases q:c=k
  ·rw[if_pos (by rw[<- q]; exact hd)]
   exact⟨(wv3 k d).length,by simp,by rw[qr8,q]⟩
  ·obtain⟨j,h1,h2⟩:=wi5 d k c (by omega) hd
   split
   ·exact⟨j,by rw[List.length_append]; omega,by rw[ql6 _ _ h1]; exact h2⟩
   ·exact⟨j,h1,h2⟩
theorem Named.inj {n:Nat} {s:List Int} (h:Named n s) {i j:Nat} (hi:i<s.length) (hj:j<s.length) (e:(nI s i).toNat=(nI s j).toNat):i=j:=by
 have h1:=h.at_ i hi
 have h2:=h.at_ j hj
 rcases Nat.lt_trichotomy i j with q | q | q
 ·have:=h.asc i j q hj; omega
 ·exact q
 ·have:=h.asc j i q hi; omega
structure w3g (m:List (List Int)) (s h:List Int):Prop where
 nam:Named (nL m 0).length s
 pos:0<s.length
 isc:IsC m s
 len:h.length=(nL m 0).length
 nz:q8k (nL m 0).length (nI h)=s.length
 sol:Sol m.length (nL m 0).length (rowOf m) (nI h)
 on:∀j,j<s.length->nI h (nI s j).toNat≠0
 off:∀c,c<(nL m 0).length->(∀j,j<s.length->nI s j≠(c:Int))->nI h c=0
 small:∀c,(nI h c).natAbs<=160
theorem x5l {N:Nat} {s:List Int} (hs:Named N s) {d:Nat->Int} (hon:∀j,j<s.length->d (nI s j).toNat≠0) (hoff:∀c,c<N->(∀j,j<s.length->nI s j≠(c:Int))->d c=0):q8k N d=s.length:=by
 have h1:=(qy0 d N).1
 have h2:=(qy0 d N).2
 have h3:=wi5 d N
 rw[<- q6b]
 have sub:∀(s t:List Int),Named N s->Named N t->(∀j,j<s.length->∃i,i<t.length/\nI t i=nI s j)->s.length<=t.length:=λs t hs ht h=>Nat.le_of_not_lt λhgt=>by
  have hx:∀j,∃i,j<s.length->i<t.length/\nI t i=nI s j:=λj=>by
   by_cases hj:j<s.length
   ·obtain⟨i,hi⟩:=h j hj; exact⟨i,λ_=>hi⟩
   ·exact⟨0,λq=>absurd q hj⟩
  obtain⟨g,hg⟩:=Classical.axiomOfChoice hx
  obtain⟨i,j,k1,k2,k3⟩:=q73 t.length s.length g (λi hi=>(hg i hi).1) hgt
  have e1:=(hg i (by omega)).2
  have e2:=(hg j k2).2
  rw[k3] at e1
  have:=hs.asc i j k1 k2
  omega
 refine Nat.le_antisymm (sub _ _ h1 hs λj hj=>?_) (sub _ _ hs h1 λj hj=>?_)
 ·have hb:=h1.at_ j hj
  refine Classical.byContradiction λq=>h2 j hj (hoff _ (by omega) λi hi e=>q ⟨i,hi,by omega⟩)
 ·have hb:=hs.at_ j hj
  obtain⟨i,hi,e⟩:=h3 _ (by omega) (hon j hj)
  exact⟨i,hi,by omega⟩
theorem w0o {m:List (List Int)} {s:List Int} (hM:Mk m) (hs:Named (nL m 0).length s) (h1:0<s.length) (hc:IsC m s):w3g m s (wq4 m (nL m 0).length s):=by
 have hO:=qk5 hM hs h1
 obtain⟨f,hf,hnp,ho,hv,hp⟩:=hO.one_free hc.one
 have hsm:=(hO.ker_small (qx4 (qj4 (qn4 m s)) 0 (by have:=hc.one; show 0<(qz6 m s).length; omega))).2
 have hnz:=hc.nz
 unfold wq4 q7s
 change KV _ _ _ _ _ (nL (qz6 m s) 0) at hv
 change Prim (nL (qz6 m s) 0) at hp
 change ∀x∈nL (qz6 m s) 0,_ at hsm
 generalize nL (qz6 m s) 0=v at *
 have hat:=λj (hj:j<s.length)=>q8i (v:=v) hs _ (Nat.le_refl _) j hj
 have ho2:∀c:Nat,(∀j,j<s.length->nI s j≠(c:Int))->nI (qg2 (nL m 0).length s v s.length) c=0:=λc hc=>wi4 hs hc _ (Nat.le_refl _)
 have hlen:=ql4 (nL m 0).length s v s.length
 generalize qg2 (nL m 0).length s v s.length=u at *
 have hsW:∀c,c<s.length->(nI s c).toNat<(nL m 0).length:=λc hc=>by have:=hs.at_ c hc; omega
 have hsol:Sol m.length (nL m 0).length (rowOf m) (nI u):=λa ha=>by
  rw[q39 s.length (f:=λc=>rowOf m a c*nI u c) (τ:=λc=>(nI s c).toNat) hsW (λq k hq hk e=>hs.inj hq hk e) λb hb hq=>by
   try dsimp only
   rw[ho2 b λj hj e=>hq j hj (by(try dsimp only); rw[e,Int.toNat_natCast]),Int.mul_zero]]
  rw[<- hv.sol a ha]
  refine qe8 λc hc=>?_
  try dsimp only
  unfold rowOf
  rw[hat c hc,qr3 m s a ha,qp5 _ _ _ hc]
 have hsmall:∀c,(nI u c).natAbs<=160:=λc=>by
  by_cases q:∃j,j<s.length/\nI s j=(c:Int)
  ·obtain⟨j,hj,e⟩:=q
   have:=hat j hj
   rw[e,Int.toNat_natCast] at this
   rw[this]
   exact hsm _ (wa1 (by rw[hv.len]; exact hj))
  ·rw[ho2 c λj hj e=>q ⟨j,hj,e⟩]; decide
 have both:∀h:List Int,h.length=u.length->∀sg:Int,(sg=1\/sg=-1)->(∀c,nI h c=nI u c*sg)->w3g m s h:=λh hl sg hsg he=>by
  have hsg0:sg≠0:=by rcases hsg with rfl | rfl <;> decide
  have hon:∀j,j<s.length->nI h (nI s j).toNat≠0:=λj hj=>by
   rw[he,hat j hj]; exact qv1 (hnz j hj) hsg0
  have hoff:∀c,c<(nL m 0).length->(∀j,j<s.length->nI s j≠(c:Int))->nI h c=0:=λc hc hj=>by
   rw[he,ho2 c hj,Int.zero_mul]
  refine⟨hs,h1,hc,by omega,x5l hs hon hoff,λa ha=>?_,hon,hoff,λc=>?_⟩
  ·have e:=hsol a ha
   have e2:(sm (nL m 0).length λc=>rowOf m a c*nI h c)=sg*sm (nL m 0).length λc=>rowOf m a c*nI u c:=by
    rw[<- qs6]
    refine qe8 λc hc=>?_
    try dsimp only
    rw[he]; grind
   rw[e2,e,Int.mul_zero]
  ·rw[he,Int.natAbs_mul]
   have:=hsmall c
   rcases hsg with rfl | rfl
   ·simpa using this
   ·simpa using this
 split
 ·exact both _ (qx3 _ _) (-1) (.inr rfl) λc=>q59 u (-1) c
 ·exact both _ rfl 1 (.inl rfl) λc=>by omega
theorem wi6 {m:List (List Int)} (hM:Mk m) {k:Nat} {h:List Int} (hh:h∈wt9 m k):∃s,w3g m s h/\s.length=k:=by
 unfold wt9 at hh
 rw[List.mem_filterMap] at hh
 obtain⟨s,hs,e⟩:=hh
 obtain⟨hN,hl⟩:=q6a hs
 unfold w57 at e
 split at e
 ·rename_i q
  obtain rfl:=Option.some.inj e
  have hok:q8u m s=true:=by
   have q:=q
   unfold wq5 at q
   rw[Bool.and_eq_true,Bool.and_eq_true] at q
   exact q.1.1
  have h1:0<s.length:=by
   unfold q8u at hok
   rw[Bool.and_eq_true,decide_eq_true_eq] at hok
   omega
  exact⟨s,w0o hM hN h1 ((qx9 hM hN hok).1 q),hl⟩
 ·cases e
theorem w3h {m:List (List Int)} (hM:Mk m) {s:List Int} (hs:Named (nL m 0).length s) (h1:0<s.length) (hc:IsC m s):wq4 m (nL m 0).length s∈wt9 m s.length:=by
 have hr:=w3b hM hs h1 hc
 have hr2:=xd1 hM
 have hok:q8u m s=true:=by
  unfold q8u
  rw[Bool.and_eq_true,decide_eq_true_eq,decide_eq_true_eq]
  omega
 unfold wt9
 rw[List.mem_filterMap]
 refine⟨s,xc9 hs,?_⟩
 unfold w57
 rw[if_pos ((qx9 hM hs hok).2 hc)]
theorem wa6 {m:List (List Int)} (hl:q7t m=true) (hv:qa9 m=true):((qh0 m).2=0/\∃s,w3g m s (qh0 m).1/\∀t,Named (nL m 0).length t->0<t.length->IsC m t->s.length<=t.length)\/((qh0 m).2=8/\(qh0 m).1=[]/\∀t,Named (nL m 0).length t->0<t.length->¬IsC m t):=by
 have hM:=Mk.of hv
 have h7:=xn2 hl hM
 have e1:qi1 m=(q2d m (nL m 0).length (q3y m),0):=by simp[qi1,hv]
 rw[w3e hv h7] at e1
 have hmem:∀t,Named (nL m 0).length t->0<t.length->IsC m t->wq4 m (nL m 0).length t∈((List.range (nL m 0).length).flatMap λk=>wt9 m (k+1)):=λt ht h1 hc=>by
  rw[List.mem_flatMap]
  have:=ht.len
  refine⟨t.length-1,List.mem_range.2 (by omega),?_⟩
  rw[show t.length-1+1=t.length by omega]
  exact w3h hM ht h1 hc
 have hpw:∀K,((List.range K).flatMap λk=>wt9 m (k+1)).Pairwise (λa b=>q8k (nL m 0).length (nI a)<=q8k (nL m 0).length (nI b))/\∀h∈((List.range K).flatMap λk=>wt9 m (k+1)),q8k (nL m 0).length (nI h)<=K:=λK=>by
  induction K with
  | zero=>exact⟨List.Pairwise.nil,λh hh=>by cases hh⟩
  | succ K ih=>
   rw[List.range_succ,List.flatMap_append]
   simp only[List.flatMap_cons,List.flatMap_nil,List.append_nil]
   have hk:∀h∈wt9 m (K+1),q8k (nL m 0).length (nI h)=K+1:=λh hh=>by
    obtain⟨s,hs,hsl⟩:=wi6 hM hh
    rw[hs.nz,hsl]
   refine⟨?_,λh hh=>?_⟩
   ·rw[List.pairwise_append]
    refine⟨ih.1,?_,λa ha b hb=>by have:=ih.2 a ha; have:=hk b hb; omega⟩
    rw[List.pairwise_iff_getElem]
    intro i j hi hj _
    have:=hk _ (List.getElem_mem hi)
    have:=hk _ (List.getElem_mem hj)
    omega
   ·rcases List.mem_append.1 hh with hh | hh
    ·have:=ih.2 h hh; omega
    ·have:=hk h hh; omega
 have hpw:=(hpw (nL m 0).length).1
 have hall:∀h∈((List.range (nL m 0).length).flatMap λk=>wt9 m (k+1)),∃s,w3g m s h:=λh hh=>by
  rw[List.mem_flatMap] at hh
  obtain⟨k,_,hk⟩:=hh
  obtain⟨s,hs,_⟩:=wi6 hM hk
  exact⟨s,hs⟩
 unfold qh0
 rw[e1]
 generalize((List.range (nL m 0).length).flatMap λk=>wt9 m (k+1))=L at *
 rw[if_neg λq=>q rfl]
 cases L with
 | nil=>
  rw[if_pos rfl]
  refine .inr ⟨rfl,rfl,λt ht h1 hc=>?_⟩
  have:=hmem t ht h1 hc
  cases this
 | cons h L=>
  rw[if_neg (λq=>by cases q)]
  refine .inl ⟨rfl,?_⟩
  have e0:nL (h :: L) 0=h:=rfl
  obtain⟨s,hs⟩:=hall h (by simp)
  show ∃s,w3g m s (nL (h :: L) 0)/\_
  rw[e0]
  refine⟨s,hs,λt ht h1 hc=>?_⟩
  have hq:=w0o hM ht h1 hc
  have hm:=hmem t ht h1 hc
  have:q8k (nL m 0).length (nI h)<=q8k (nL m 0).length (nI (wq4 m (nL m 0).length t)):=by
   rcases List.mem_cons.1 hm with e | e
   ·rw[e]; exact Nat.le_refl _
   ·exact(List.pairwise_cons.1 hpw).1 _ e
  rw[hs.nz,hq.nz] at this
  exact this
theorem xq7 {m:List (List Int)} (hv:qa9 m=false):qh0 m=([],1):=by
 have e1:qi1 m=([],1):=by simp[qi1,hv]
 unfold qh0
 rw[e1,if_pos (by show(1:Int)≠0; decide)]
theorem w3i {m:List (List Int)} (hl:q7t m=true):(qh0 m).1.length<=10/\∀c,(nI (qh0 m).1 c).natAbs<=160:=by
 by_cases hv:qa9 m=true
 ·have h10:=(Mk.of hv).pix10
  rcases wa6 hl hv with⟨_,s,hs,_⟩ | ⟨_,e,_⟩
  ·have:=hs.len
   exact⟨by omega,hs.small⟩
  ·rw[e]
   exact⟨Nat.zero_le _,λc=>by rw[q2x _ (Nat.zero_le _)]; decide⟩
 ·rw[xq7 (by simpa using hv)]
  exact⟨Nat.zero_le _,λc=>by rw[q2x _ (Nat.zero_le _)]; decide⟩
theorem ya5 {m:List (List Int)} (hl:q7t m=true):xm2 m:=⟨xq4,by have:=(w3i hl).1; omega⟩
end Go.Proofs.YtmijnbjlhnpokaaGreat
