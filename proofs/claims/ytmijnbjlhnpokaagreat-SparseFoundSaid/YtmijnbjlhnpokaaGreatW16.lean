/- The circuits of the program and of the reference are the same lists. Plain mathematics. No condition. -/
import Derived.Test.YtmijnbjlhnpokaaGreatV5
import Derived.Test.YtmijnbjlhnpokaaGreatW11
set_option linter.unusedVariables false
namespace Go.Proofs.YtmijnbjlhnpokaaGreat
open Go Go.RowKit Eng
def mkM (n W:Nat) (A:Nat->Nat->Int):List (List Int):=(List.range n).map λa=>(List.range W).map λc=>A a c
theorem w9j {n W:Nat} (A:Nat->Nat->Int) {a:Nat} (ha:a<n):nL (mkM n W A) a=(List.range W).map λc=>A a c:=by
 rw[qp9 _ _ (by simp[mkM]; exact ha)]; simp[mkM]
theorem x4f {n W:Nat} (A:Nat->Nat->Int) {a c:Nat} (ha:a<n) (hc:c<W):nI (nL (mkM n W A) a) c=A a c:=by
 rw[w9j A ha,qg1 _ _ (by simp; exact hc)]; simp
theorem xz5 (n W:Nat) (A:Nat->Nat->Int):Mat n W (mkM n W A):=⟨by simp[mkM],λi hi=>by rw[w9j A hi]; simp⟩
theorem wy7 {n W:Nat} (A:Nat->Nat->Int) (h:n<W):∃z,Sol n W A z/\∃f,f<W/\z f≠0:=by
 have hM:=xz5 n W A
 have hst:=qn3 hM W (Nat.le_refl _)
 have hpl:=hst.pl
 obtain⟨f,hf,hq⟩:=Asc.free (N:=W) (P:=(qa4 (mkM n W A) W).2) (by omega)
 obtain⟨z,z1,z2,_⟩:=hst.free (Nat.le_refl _) hf hq λi h1 h2=>hst.zero i h1 h2 f hf
 refine⟨z,λa ha=>?_,f,hf,z2⟩
 rw[<- z1 a ha]
 refine qa7 λc hc=>?_
 unfold rowOf
 rw[x4f A ha hc]
theorem xz6 {n:Nat} {B:Nat->Nat->Int} {lam:Nat->Int} (h:∀j,j<n->(sm n λi=>lam i*B i j)=0) {r:Nat} (hr:r<n) (hl:lam r≠0):det n B=0:=by
 have h1:=wg6 B hr lam n (Nat.le_refl _)
 rw[if_pos hr] at h1
 have h2:det n (upd B r λj=>sm n λi=>lam i*B i j)=det n (upd B r λ_=>0):=qf2 n λi j hi hj=>by
  unfold upd; split
  ·exact h j hj
  ·rfl
 rw[h2,qv2 hr] at h1
 exact qc7 h1.symm hl
theorem wy8 {n:Nat} {B:Nat->Nat->Int} {k l:Nat} (hk:k<n) (hl:l<n) (hne:k≠l) (h:∀i,i<n->B i k=B i l):det n B=0:=by
 obtain⟨z,z1,f,hf,z2⟩:=wy7 (n:=n-1) (W:=n) (λa c=>B c (skp l a)) (by omega)
 have e:∀j,j<n->j≠l->(sm n λi=>z i*B i j)=0:=λj hj hne=>by
  have h1:=z1 (if j<l then j else j-1) (by split <;> omega)
  have h2:skp l (if j<l then j else j-1)=j:=by
   by_cases q:j<l
   ·rw[if_pos q]; unfold skp; rw[if_pos q]
   ·rw[if_neg q]; unfold skp; rw[if_neg (by omega)]; omega
  try dsimp only at h1
  rw[h2] at h1
  rw[<- h1]
  exact qa7 λi hi=>Int.mul_comm _ _
 refine xz6 (lam:=z) (λj hj=>?_) hf z2
 by_cases q:j=l
 ·rw[q,<- e k hk hne]
  refine qa7 λi hi=>?_
  rw[h i hi]
 ·exact e j hj q
theorem wy9 {n:Nat} {A:Nat->Nat->Int} (h:∀lam:Nat->Int,(∀j,j<n->(sm n λi=>lam i*A i j)=0)->∀i,i<n->lam i=0):det n A≠0:=by
 refine xq9 λk hk=>?_
 obtain⟨z,z1,f,hf,z2⟩:=wy7 (n:=n) (W:=n+1) (λj c=>if c<n then A c j else if k=j then 1 else 0) (by omega)
 have e:∀j,j<n->(sm n λi=>z i*A i j)+(if k=j then 1 else 0)*z n=0:=λj hj=>by
  have h1:=z1 j hj
  rw[sm] at h1
  try dsimp only at h1
  rw[if_neg (Nat.lt_irrefl _)] at h1
  have h2:(sm n λi=>z i*A i j)=sm n λc=>(if c<n then A c j else if k=j then 1 else 0)*z c:=qa7 λi hi=>by
   try dsimp only
   rw[if_pos hi,Int.mul_comm]
  rw[h2]
  exact h1
 have hn:z n≠0:=λhz=>by
  have h2:=h z λj hj=>by
   have:=e j hj
   rw[hz,Int.mul_zero,Int.add_zero] at this
   exact this
  rcases Nat.lt_or_ge f n with q | q
  ·exact z2 (h2 f q)
  ·exact z2 (by rw[show f=n by omega]; exact hz)
 refine⟨- z n,z,by omega,λj hj=>?_⟩
 have:=e j hj
 split
 ·rename_i q; rw[if_pos q] at this; omega
 ·rename_i q; rw[if_neg q] at this; omega
def isP (P:List Int) (c:Nat):Prop:=∃q,q<P.length/\nI P q=(c:Int)
theorem q79 {P:List Int} {c:Nat}:¬isP P c↔∀q,q<P.length->nI P q≠(c:Int):=
 ⟨λh q hq e=>h ⟨q,hq,e⟩,λh ⟨q,hq,e⟩=>h q hq e⟩
theorem St.isP_at {n W j:Nat} {R:Nat->Nat->Int} {rows:List (List Int)} {P:List Int} (h:St n W R j rows P) {k:Nat} (hk:k<P.length):isP P (nI P k).toNat:=⟨k,hk,by have:=(h.pos k hk).1; omega⟩
theorem St.row_eq {n W:Nat} {R:Nat->Nat->Int} {rows:List (List Int)} {P:List Int} (h:St n W R W rows P) {z:Nat->Int} (hz:Sol n W R z) {f:Nat} (hf:f<W) (hnp:¬isP P f) (h0:∀c,c<W->c≠f->¬isP P c->z c=0) {k:Nat} (hk:k<P.length) :
  nI (nL rows k) (nI P k).toNat*z (nI P k).toNat+nI (nL rows k) f*z f=0:=by
 have hpl:=h.pl
 have hp:=h.pos k hk
 have e:=(h.sol z).1 hz k (by omega)
 unfold dt at e
 have hne:(nI P k).toNat≠f:=λq=>hnp (by rw[<- q]; exact h.isP_at hk)
 rw[q3o (k:=(nI P k).toNat) (l:=f) (by omega) hf hne λc hc h1 h2=>?_] at e
 ·exact e
 ·try dsimp only
  by_cases q:isP P c
  ·obtain⟨q2,hq2,e2⟩:=q
   have:=(h.pos q2 hq2).2.2.2.2 k (by omega) λe3=>h1 (by rw[e3,e2]; rfl)
   rw[e2,Int.toNat_natCast] at this
   rw[this,Int.zero_mul]
  ·rw[h0 c hc h2 q,Int.mul_zero]
theorem St.sol_mk {n W:Nat} {R:Nat->Nat->Int} {rows:List (List Int)} {P:List Int} (h:St n W R W rows P) {z:Nat->Int} {f:Nat} (hf:f<W) (hnp:¬isP P f) (h0:∀c,c<W->c≠f->¬isP P c->z c=0)
  (hr:∀k,k<P.length->nI (nL rows k) (nI P k).toNat*z (nI P k).toNat+nI (nL rows k) f*z f=0):Sol n W R z:=by
 refine(h.sol z).2 λi hi=>?_
 unfold dt
 rcases Nat.lt_or_ge i P.length with q | q
 ·have hp:=h.pos i q
  have hne:(nI P i).toNat≠f:=λq2=>hnp (by rw[<- q2]; exact h.isP_at q)
  rw[q3o (k:=(nI P i).toNat) (l:=f) (by omega) hf hne λc hc h1 h2=>?_]
  ·exact hr i q
  ·try dsimp only
   by_cases q1:isP P c
   ·obtain⟨q2,hq2,e2⟩:=q1
    have:=(h.pos q2 hq2).2.2.2.2 i hi λe3=>h1 (by rw[e3,e2]; rfl)
    rw[e2,Int.toNat_natCast] at this
    rw[this,Int.zero_mul]
   ·rw[h0 c hc h2 q1,Int.mul_zero]
 ·exact sm_zero λc hc=>by
   try dsimp only
   rw[h.zero i q hi c hc,Int.zero_mul]
theorem St.piv_same {n W:Nat} {R:Nat->Nat->Int} {rows rows':List (List Int)} {P P':List Int} (h:St n W R W rows P) (h':St n W R W rows' P') {f:Nat} (hp:isP P f):isP P' f:=Classical.byContradiction λhn=>by
 obtain⟨k,hk,e⟩:=hp
 have hpk:=h.pos k hk
 rw[e,Int.toNat_natCast] at hpk
 have hf:f<W:=by omega
 have hpl':=h'.pl
 obtain⟨z,z1,z2,z3⟩:=h'.free (Nat.le_refl _) hf (q79.1 hn) λi h1 h2=>h'.zero i h1 h2 f hf
 have zl:∀c,c<W->f<c->z c=0:=λc hc hfc=>by
  by_cases q:isP P' c
  ·obtain⟨q2,hq2,e2⟩:=q
   have h1:=h'.row_eq z1 hf hn (λc hc h1 h2=>z3 c hc h1 (q79.1 h2)) hq2
   have h2:=h'.pos q2 hq2
   rw[e2,Int.toNat_natCast] at h1 h2
   rw[h2.2.2.2.1 f hfc,Int.zero_mul,Int.add_zero] at h1
   exact qc7 h1 (by omega)
  ·exact z3 c hc (by omega) (q79.1 q)
 have hpl:=h.pl
 have h1:=(h.sol z).1 z1 k (by omega)
 unfold dt at h1
 rw[qk1 (k:=f) hf λc hc hne=>?_] at h1
 ·exact absurd (qc7 h1 (by omega)) z2
 ·try dsimp only
  rcases Nat.lt_or_ge c f with q | q
  ·rw[hpk.2.2.2.1 c q,Int.zero_mul]
  ·rw[zl c hc (by omega),Int.mul_zero]
theorem St.basis {n W:Nat} {R:Nat->Nat->Int} {rows:List (List Int)} {P:List Int} (h:St n W R W rows P):∃τ:Nat->Nat,(∀i,i<P.length->τ i<n)/\∀k,k<P.length->∃(c:Int) (lam:Nat->Int),c≠0/\∀col,col<W->(sm P.length λq=>lam q*R (τ q) col)=c*nI (nL rows k) col:=by
 obtain⟨ρ,pv,τ,hE,t1,t2,t3,t4,t5,t6⟩:=h.tag
 have hpl:=h.pl
 refine⟨τ,λi hi=>t1 i (by omega),λk hk=>?_⟩
 obtain⟨c,l,hc,hl,hs,_⟩:=hE.comb (τ k) (t1 k (by omega))
 refine⟨c,λq=>l (τ q),hc,λcol hcol=>?_⟩
 rw[<- t4 k (by omega) col hcol,hl col hcol]
 refine(qv4 P.length (f:=λb=>l b*R b col) (λq hq=>t1 q (by omega)) (λq k hq hk=>t2 q k (by omega) (by omega)) λb hb hq=>?_).symm
 try dsimp only
 obtain⟨i,hi,rfl⟩:=t3 b hb
 have hiN:¬i<P.length:=λq=>hq i q rfl
 have hl0:l (τ i)=0:=Classical.byContradiction λq=>by
  rcases hs (τ i) hb q with q2 | q2
  ·rw[t5 i hi,if_neg hiN] at q2; exact q2 rfl
  ·exact hq k hk q2.symm
 rw[hl0,Int.zero_mul]
theorem St.minors {n W:Nat} {R:Nat->Nat->Int} {rows:List (List Int)} {P:List Int} (h:St n W R W rows P) (hn:n<=6) (h1:∀a c,a<n->c<W->(R a c).natAbs<=1) :
  ∃D:Int,D≠0/\D.natAbs<=160/\∀f,f<W->¬isP P f->∃w:Nat->Int,(∀k,k<P.length->(w k).natAbs<=160)/\∀k,k<P.length->nI (nL rows k) (nI P k).toNat*w k+nI (nL rows k) f*D=0:=by
 obtain⟨τ,t1,hcomb⟩:=h.basis
 have hpl:=h.pl
 have hpW:∀k,k<P.length->(nI P k).toNat<W:=λk hk=>by have:=h.pos k hk; omega
 have hrow:∀k,k<P.length->∀c,c<P.length->nI (nL rows k) (nI P c).toNat=if k=c then nI (nL rows k) (nI P k).toNat else 0:=λk hk c hc=>by
  by_cases q:k=c
  ·rw[if_pos q,<- q]
  ·rw[if_neg q]
   exact(h.pos c hc).2.2.2.2 k (by omega) q
 have hpp:∀k,k<P.length->0<nI (nL rows k) (nI P k).toNat:=λk hk=>(h.pos k hk).2.2.1
 -- what all the first rows say is said by the reduced ones
 have tell:∀(m:Nat) (s:Nat->Nat) (w:Nat->Int),(∀c,c<m->s c<W)->(∀b,b<P.length->(sm m λc=>R (τ b) (s c)*w c)=0)->∀k,k<P.length->(sm m λc=>nI (nL rows k) (s c)*w c)=0:=λm s w hs hw k hk=>by
  obtain⟨c0,lam,hc0,hl⟩:=hcomb k hk
  refine qc7 (a:=c0) ?_ hc0
  rw[<- qf7]
  have e:(sm m λc=>c0*(nI (nL rows k) (s c)*w c))=sm m λc=>sm P.length λq=>lam q*(R (τ q) (s c)*w c):=qa7 λc hc=>by
   try dsimp only
   rw[<- Int.mul_assoc,<- hl (s c) (hs c hc),Int.mul_comm,<- qf7]
   refine qa7 λq hq=>?_
   grind
  rw[e,qv7]
  refine sm_zero λq hq=>?_
  try dsimp only
  rw[qf7,hw q hq,Int.mul_zero]
 refine⟨det P.length λa b=>R (τ b) (nI P a).toNat,wy9 λlam hlam k hk=>?_,ww8 (by omega) λa b ha hb=>h1 _ _ (t1 b hb) (hpW a ha),λf hf hnp=>?_⟩
 ·have e:=tell P.length (λa=>(nI P a).toNat) lam hpW (λb hb=>by
   rw[<- hlam b hb]
   exact qa7 λc hc=>Int.mul_comm _ _) k hk
  rw[qk1 (k:=k) hk λi hi hne=>by
   try dsimp only
   rw[hrow k hk i hi,if_neg (Ne.symm hne),Int.zero_mul]] at e
  exact qc7 e (by have:=hpp k hk; omega)
 ·obtain⟨s,hs0,hsk⟩:∃s:Nat->Nat,s 0=f/\∀c,s (c+1)=(nI P c).toNat:=⟨λc=>match c with | 0=>f | c+1=>(nI P c).toNat,rfl,λ_=>rfl⟩
  have hsW:∀c,c<P.length+1->s c<W:=λc hc=>by
   cases c with
   | zero=>rw[hs0]; exact hf
   | succ c=>rw[hsk]; exact hpW c (by omega)
  obtain⟨w,hw⟩:∃w:Nat->Int,∀c,w c=sgn c*det P.length λa b=>R (τ b) (s (skp c a)):=⟨_,λ_=>rfl⟩
  have e0:w 0=det P.length λa b=>R (τ b) (nI P a).toNat:=by
   rw[hw,show sgn 0=1 from rfl,Int.one_mul]
   refine qf2 _ λa b ha hb=>?_
   have:skp 0 a=a+1:=by unfold skp; rw[if_neg (Nat.not_lt_zero _)]
   rw[this,hsk]
  refine⟨λk=>w (k+1),λk hk=>?_,λk hk=>?_⟩
  ·try dsimp only
   rw[hw,Int.natAbs_mul,wg7,Nat.one_mul]
   exact ww8 (by omega) λa b ha hb=>h1 _ _ (t1 b hb) (hsW _ (q5e ha))
  ·have e:=tell (P.length+1) s w hsW (λb hb=>by
    have hd:det (P.length+1) (λc j=>if j=0 then R (τ b) (s c) else R (τ (j-1)) (s c))=0:=wy8 (k:=0) (l:=b+1) (by omega) (by omega) (by omega) λi hi=>by
     try dsimp only
     rw[if_pos rfl,if_neg (by omega),Nat.add_sub_cancel]
    rw[det] at hd
    rw[<- hd]
    refine qa7 λc hc=>?_
    try dsimp only
    rw[if_pos rfl,hw]
    have:det P.length (λa b=>R (τ b) (s (skp c a)))=det P.length λa b_1=>if b_1+1=0 then R (τ b) (s (skp c a)) else R (τ (b_1+1-1)) (s (skp c a)):=qf2 _ λi j hi hj=>by
     rw[if_neg (by omega),Nat.add_sub_cancel]
    rw[<- this]
    grind) k hk
   rw[q3o (k:=k+1) (l:=0) (by omega) (by omega) (by omega) λc hc h2 h3=>?_] at e
   ·try dsimp only at e
    rw[hsk,hs0,e0] at e
    exact e
   ·try dsimp only
    cases c with
    | zero=>exact absurd rfl h3
    | succ c=>rw[hsk,hrow k hk c (by omega),if_neg (by omega),Int.zero_mul]
theorem St.piv_160 {n W:Nat} {R:Nat->Nat->Int} {rows:List (List Int)} {P:List Int} (h:St n W R W rows P) (hn:n<=6) (h1:∀a c,a<n->c<W->(R a c).natAbs<=1) {k:Nat} (hk:k<P.length):(nI (nL rows k) (nI P k).toNat).natAbs<=160:=by
 have hpl:=h.pl
 have hp:=h.pos k hk
 obtain⟨D,hD,hD2,hw⟩:=h.minors hn h1
 obtain⟨ρ,pv,τ,hE,t1,t2,t3,t4,t5,t6⟩:=h.tag
 rcases t6 k (by omega) with⟨s,hs,e⟩ | e | e
 ·have:=h1 (τ k) (nI P k).toNat (t1 k (by omega)) (by omega)
  rw[e _ (by omega),Int.natAbs_mul]
  have:s.natAbs=1:=by rcases hs with rfl | rfl <;> rfl
  rw[this]; omega
 ·have:=e (nI P k).toNat (by omega)
  omega
 ·have hx:∀c,∃x:Int,c<W->D*nI (nL rows k) c=nI (nL rows k) (nI P k).toNat*x/\(c=(nI P k).toNat->x=D):=λc=>by
   by_cases q:c=(nI P k).toNat
   ·exact⟨D,λ_=>⟨by rw[q,Int.mul_comm],λ_=>rfl⟩⟩
   ·by_cases q2:isP P c
    ·obtain⟨q3,hq3,e3⟩:=q2
     refine⟨0,λ_=>⟨?_,λq4=>absurd q4 q⟩⟩
     have:=(h.pos q3 hq3).2.2.2.2 k (by omega) λq4=>q (by rw[q4,e3]; rfl)
     rw[e3,Int.toNat_natCast] at this
     rw[this,Int.mul_zero,Int.mul_zero]
    ·by_cases q4:c<W
     ·obtain⟨w,_,w2⟩:=hw c q4 q2
      have:=w2 k hk
      exact⟨- w k,λ_=>⟨by grind,λq4=>absurd q4 q⟩⟩
     ·exact⟨0,λq5=>absurd q5 q4⟩
  obtain⟨x,hx⟩:=Classical.axiomOfChoice hx
  have:=q9o (W:=W) (r:=nI (nL rows k)) (s:=x) (α:=D) (β:=nI (nL rows k) (nI P k).toNat) hD (λc hc=>(hx c hc).1) e (nI P k).toNat (by omega)
  rw[(hx _ (by omega)).2 rfl] at this
  omega
structure KV (n W:Nat) (R:Nat->Nat->Int) (P:List Int) (f:Nat) (v:List Int):Prop where
 len:v.length=W
 sol:Sol n W R (nI v)
 free:∀c,c<W->c≠f->¬isP P c->nI v c=0
 pos:0<nI v f
theorem KV.prim {n W:Nat} {R:Nat->Nat->Int} {P:List Int} {f:Nat} {v:List Int} (h:KV n W R P f v) (hf:f<W):KV n W R P f (qr7 v):=by
 have hl:=h.len
 have hg:0<max (gcdL v) 1:=by omega
 have hm:∀c,c<W->max (gcdL v) 1*nI (qr7 v) c=nI v c:=λc hc=>qx5 v (by omega)
 refine⟨by rw[qt9]; exact hl,λa ha=>?_,λc hc h1 h2=>?_,?_⟩
 ·have:=h.sol a ha
  refine qc7 (a:=max (gcdL v) 1) ?_ (by omega)
  rw[<- qf7,<- this]
  refine qa7 λc hc=>?_
  try dsimp only
  rw[<- hm c hc]
  grind
 ·have:=hm c hc
  rw[h.free c hc h1 h2] at this
  exact qc7 this (by omega)
 ·have:=hm f hf
  have:=h.pos
  exact q33 hg (by omega)
theorem KV.trans {n W:Nat} {R:Nat->Nat->Int} {P P':List Int} {f:Nat} {v:List Int} (h:KV n W R P f v) (hP:∀c,isP P c↔isP P' c):KV n W R P' f v:=
 ⟨h.len,h.sol,λc hc h1 h2=>h.free c hc h1 λq=>h2 ((hP c).1 q),h.pos⟩
theorem KV.cross {n W:Nat} {R:Nat->Nat->Int} {rows:List (List Int)} {P:List Int} (hs:St n W R W rows P) {f:Nat} (hf:f<W) (hnp:¬isP P f) {v u:List Int} (hv:KV n W R P f v) (hu:KV n W R P f u):∀c,c<W->nI u f*nI v c=nI v f*nI u c:=λc hc=>by
 by_cases q:c=f
 ·rw[q,Int.mul_comm]
 ·by_cases q2:isP P c
  ·obtain⟨k,hk,e⟩:=q2
   have a:=hs.row_eq hv.sol hf hnp hv.free hk
   have b:=hs.row_eq hu.sol hf hnp hu.free hk
   have hp:=(hs.pos k hk).2.2.1
   rw[e,Int.toNat_natCast] at a b hp
   have:nI (nL rows k) c*(nI u f*nI v c-nI v f*nI u c)=0:=by grind
   have:=qc7 this (by omega)
   omega
  ·rw[hv.free c hc q q2,hu.free c hc q q2,Int.mul_zero,Int.mul_zero]
theorem Prim.gcd {v:List Int} {W f:Nat} (h:Prim v) (hl:v.length=W) (hf:f<W) (hp:0<nI v f):∀d:Nat,(∀c,c<W->d∣(nI v c).natAbs)->d=1:=by
 subst hl
 rcases h with h | h
 ·have:=h f hf; omega
 ·exact h
theorem KV.uniq {n W:Nat} {R:Nat->Nat->Int} {rows:List (List Int)} {P:List Int} (hs:St n W R W rows P) {f:Nat} (hf:f<W) (hnp:¬isP P f) {v u:List Int} (hv:KV n W R P f v) (hu:KV n W R P f u) (pv:Prim v) (pu:Prim u):v=u:=by
 have hc:=hv.cross hs hf hnp hu
 have a:=q9o (W:=W) (r:=nI v) (s:=nI u) (α:=nI u f) (β:=nI v f) (by have:=hu.pos; omega) hc (pv.gcd hv.len hf hv.pos)
 have b:=q9o (W:=W) (r:=nI u) (s:=nI v) (α:=nI v f) (β:=nI u f) (by have:=hv.pos; omega) (λc h=>(hc c h).symm) (pu.gcd hu.len hf hu.pos)
 have hff:nI u f=nI v f:=by
  have:=a f hf; have:=b f hf; have:=hv.pos; have:=hu.pos; omega
 have h1:=hv.len
 have h2:=hu.len
 refine List.ext_getElem (by omega) λi hi hi2=>?_
 rw[<- qg1 v i hi,<- qg1 u i hi2]
 have:=hc i (by omega)
 rw[hff] at this
 exact Int.eq_of_mul_eq_mul_left (by have:=hv.pos; omega) this
theorem KV.small {n W:Nat} {R:Nat->Nat->Int} {rows:List (List Int)} {P:List Int} (hs:St n W R W rows P) (hn:n<=6) (h1:∀a c,a<n->c<W->(R a c).natAbs<=1) {f:Nat} (hf:f<W) (hnp:¬isP P f) {v:List Int} (hv:KV n W R P f v) (pv:Prim v):∀x∈v,x.natAbs<=160:=by
 obtain⟨D,hD,hD2,hw⟩:=hs.minors hn h1
 obtain⟨w,w1,w2⟩:=hw f hf hnp
 have hx:∀c,∃x:Int,c<W->D*nI v c=nI v f*x/\x.natAbs<=160:=λc=>by
  by_cases q:c=f
  ·exact⟨D,λ_=>⟨by rw[q,Int.mul_comm],hD2⟩⟩
  ·by_cases q2:isP P c
   ·obtain⟨k,hk,e⟩:=q2
    refine⟨w k,λ_=>⟨?_,w1 k hk⟩⟩
    have a:=hs.row_eq hv.sol hf hnp hv.free hk
    have b:=w2 k hk
    have hp:=(hs.pos k hk).2.2.1
    rw[e,Int.toNat_natCast] at a b hp
    have:nI (nL rows k) c*(D*nI v c-nI v f*w k)=0:=by grind
    have:=qc7 this (by omega)
    omega
   ·exact⟨0,λhc=>⟨by rw[hv.free c hc q q2,Int.mul_zero,Int.mul_zero],by decide⟩⟩
 obtain⟨x,hx⟩:=Classical.axiomOfChoice hx
 have:=q9o (W:=W) (r:=nI v) (s:=x) (α:=D) (β:=nI v f) hD (λc hc=>(hx c hc).1) (pv.gcd hv.len hf hv.pos)
 intro y hy
 obtain⟨c,hc,rfl⟩:=q5j hy
 have hl:=hv.len
 exact Nat.le_trans (this c (by omega)) (hx c (by omega)).2
def qu3 (A:Nat->Nat->Int) (r:Nat) (u:Nat->Int):Nat->Nat->Int:=λi j=>if j=r then u i else A i j
theorem q6b:∀(n:Nat) (A:Nat->Nat->Int) (r:Nat),r<n->∀(x y:Int) (u v:Nat->Int),det n (qu3 A r (λi=>x*u i+y*v i))=x*det n (qu3 A r u)+y*det n (qu3 A r v)
 | n+1,A,0,_,x,y,u,v=>by
  rw[det,det,det,<- qf7,<- qf7,<- q3n]
  refine qa7 λi hi=>?_
  have e1:∀w,qu3 A 0 w i 0=w i:=λw=>if_pos rfl
  have e2:∀w,(λa b=>qu3 A 0 w (skp i a) (b+1))=λa b=>A (skp i a) (b+1):=λw=>by
   funext a b; unfold qu3; rw[if_neg (by omega)]
  rw[e1,e1,e1,e2,e2,e2]
  grind
 | n+1,A,r+1,hr,x,y,u,v=>by
  rw[det,det,det,<- qf7,<- qf7,<- q3n]
  refine qa7 λi hi=>?_
  have e1:∀w,qu3 A (r+1) w i 0=A i 0:=λw=>if_neg (by omega)
  have e2:∀w:Nat->Int,(λa b=>qu3 A (r+1) w (skp i a) (b+1))=qu3 (λa b=>A (skp i a) (b+1)) r (λa=>w (skp i a)):=λw=>by
   funext a b; unfold qu3
   by_cases q:b=r
   ·rw[if_pos (by omega),if_pos q]
   ·rw[if_neg (by omega),if_neg q]
  rw[e1,e1,e1,e2,e2,e2]
  have ih:=q6b n (λa b=>A (skp i a) (b+1)) r (by omega) x y (λa=>u (skp i a)) (λa=>v (skp i a))
  try dsimp only at ih ⊢
  rw[ih]
  grind
theorem q5l {n:Nat} {A:Nat->Nat->Int} {r:Nat} (hr:r<n):det n (qu3 A r λ_=>0)=0:=by
 have:=q6b n A r hr 0 0 (λ_=>0) (λ_=>0)
 simpa using this
theorem xm8 {n:Nat} {A:Nat->Nat->Int} {r:Nat} (hr:r<n) (h:∀i,i<n->A i r=0):det n A=0:=by
 rw[<- q5l (n:=n) (A:=A) hr]
 refine qf2 n λi j hi hj=>?_
 unfold qu3; split
 ·rename_i e; rw[e]; exact h i hi
 ·rfl
theorem q6c {n:Nat} (A:Nat->Nat->Int) {r:Nat} (hr:r<n) (v:Nat->Int) (U:Nat->Nat->Int):∀m,det n (qu3 A r λi=>sm m λk=>v k*U k i)=sm m λk=>v k*det n (qu3 A r (U k))
 | 0=>q5l hr
 | m+1=>by
  rw[sm,<- q6c A hr v U m]
  have:=q6b n A r hr 1 (v m) (λi=>sm m λk=>v k*U k i) (U m)
  rw[Int.one_mul] at this
  rw[<- this]
  refine congrArg (det n) (congrArg (qu3 A r) ?_)
  funext i
  rw[sm,Int.one_mul]
theorem w2k {n:Nat} (A:Nat->Nat->Int) {r:Nat} (hr:r<n) (v:Nat->Int) (U:Nat->Nat->Int):∀m,det n (upd A r λj=>sm m λk=>v k*U k j)=sm m λk=>v k*det n (upd A r (U k))
 | 0=>qv2 hr
 | m+1=>by
  rw[sm,<- w2k A hr v U m]
  have:=qn7 n A r hr 1 (v m) (λi=>sm m λk=>v k*U k i) (U m)
  rw[Int.one_mul] at this
  rw[<- this]
  refine congrArg (det n) (congrArg (upd A r) ?_)
  funext i
  rw[sm,Int.one_mul]
theorem w9k {n i:Nat} (f:Nat->Int) (hi:i<n):(sm n λx=>f x*(if i=x then 1 else 0))=f i:=by
 rw[qk1 hi λk _ hne=>by rw[if_neg (Ne.symm hne),Int.mul_zero],if_pos rfl,Int.mul_one]
def lfm (R:Nat->Nat->Int) (pv:Nat->Option Nat) (x b:Nat):Int:=match pv b with
 | some p=>R x p
 | none=>if x=b then 1 else 0
theorem El.minor {n W:Nat} {R ρ:Nat->Nat->Int} {pv:Nat->Option Nat} (h:El n W R ρ pv) {a:Nat} (ha:a<n) (hnice:∀d:Nat,(∀c,c<W->d∣(ρ a c).natAbs)->d=1) {c:Nat} (hc:c<W):(ρ a c).natAbs<=(det n (qu3 (lfm R pv) a λx=>R x c)).natAbs:=by
 obtain⟨z,hz⟩:∃z:Nat->Int,∀x,z x=det n (qu3 (lfm R pv) a λi=>if i=x then 1 else 0):=⟨_,λ_=>rfl⟩
 have hs:∀f:Nat->Int,(sm n λx=>f x*z x)=det n (qu3 (lfm R pv) a f):=λf=>by
  rw[qa7 (g:=λx=>f x*det n (qu3 (lfm R pv) a λi=>if i=x then 1 else 0)) λx _=>by rw[hz x],<- q6c (lfm R pv) ha f (λx i=>if i=x then 1 else 0) n]
  refine qf2 n λi j hi hj=>?_
  unfold qu3; split
  ·exact w9k f hi
  ·rfl
 have heq:∀b,b<n->b≠a->sm n (λx=>lfm R pv x b*z x)=0:=λb hb hne=>by
  rw[hs λx=>lfm R pv x b]
  refine wy8 ha hb (Ne.symm hne) λi hi=>?_
  unfold qu3
  rw[if_pos rfl,if_neg hne]
 have hdet:det n (qu3 (lfm R pv) a λx=>lfm R pv x a)≠0:=by
  have e:det n (qu3 (lfm R pv) a λx=>lfm R pv x a)=det n (lfm R pv):=qf2 n λi j hi hj=>by
   unfold qu3; split
   ·rename_i q; rw[q]
   ·rfl
  rw[e]
  refine wy9 λlam hl=>h.ind lam (λb hb hne hpb=>?_) λt p ht htp=>?_
  ·have:=hl b hb
   have e1:(sm n λi=>lam i*lfm R pv i b)=lam b:=by
    rw[qa7 (g:=λx=>lam x*(if b=x then 1 else 0)) λx _=>?_,w9k lam hb]
    unfold lfm; rw[hpb]
    by_cases q:x=b
    ·rw[if_pos q,if_pos q.symm]
    ·rw[if_neg q,if_neg (Ne.symm q)]
   rw[e1] at this
   exact hne this
  ·have:=hl t ht
   rw[<- this]
   refine qa7 λi _=>?_
   unfold lfm; rw[htp]
 obtain⟨a0,ha0,hza⟩:∃a0,a0<n/\z a0≠0:=Classical.byContradiction λq=>hdet (by
  rw[<- hs λx=>lfm R pv x a]
  exact sm_zero λx hx=>by
   have:z x=0:=Classical.byContradiction λk=>q ⟨x,hx,k⟩
   rw[this,Int.mul_zero])
 have hcol:∀t p,t<n->t≠a->pv t=some p->(sm n λb=>z b*R b p)=0:=λt p ht hne htp=>by
  have:=heq t ht hne
  rw[<- this]
  refine qa7 λi _=>?_
  unfold lfm; rw[htp]
  exact Int.mul_comm _ _
 have hnul:∀b,b<n->b≠a->pv b=none->z b=0:=λb hb hne hpb=>by
  have:=heq b hb hne
  rw[qk1 hb λi _ hi=>by unfold lfm; rw[hpb]; simp[hi]] at this
  unfold lfm at this
  rw[hpb] at this
  simpa using this
 obtain⟨c1,la,hc1,hla,hsa,hna⟩:=h.comb a ha
 obtain⟨s,hs'⟩:∃s:Nat->Int,s=λc=>sm n λb=>z b*R b c:=⟨_,rfl⟩
 have hpar:∃α β:Int,α≠0/\∀c,c<W->α*ρ a c=β*s c:=by
  cases hpa:pv a with
  | none=>
   have hz:=h.ind (λb=>z a*la b-la a*z b) (λb hb hne hpb=>by
    by_cases e:b=a
    ·subst e; exact hne (by(try dsimp only); grind)
    ·have q1:la b=0:=Classical.byContradiction λq=>(hsa b hb q).elim (λk=>k hpb) e
     (try dsimp only at hne); rw[q1,hnul b hb e hpb] at hne
     exact hne (by simp)) (λt p ht htp=>by
    have hne:t≠a:=λe=>by rw[e,hpa] at htp; cases htp
    obtain⟨hpW,_,hp0⟩:=h.piv t p ht htp
    rw[ql2 n (z a) (la a) la z (λb=>R b p),<- hla p hpW,hcol t p ht hne htp,hp0 a ha (Ne.symm hne)]
    simp)
   have hza0:z a≠0:=λq=>by
    have:=hz a0 ha0
    try dsimp only at this
    rw[q] at this
    exact hza (qc7 (a:=la a) (by grind) (hna hpa))
   refine⟨z a*c1,la a,ql7 hza0 hc1,λc hc=>?_⟩
   have e1:(sm n λb=>(z a*la b-la a*z b)*R b c)=0:=sm_zero λb hb=>by have:=hz b hb; (try dsimp only at this ⊢); rw[this]; simp
   rw[ql2 n (z a) (la a) la z (λb=>R b c),<- hla c hc] at e1
   rw[hs']
   grind
  | some p=>
   obtain⟨hpW,hpa0,hp0⟩:=h.piv a p ha hpa
   have hz:=h.ind (λb=>(c1*ρ a p)*z b-s p*la b) (λb hb hne hpb=>by
    have hba:b≠a:=λe=>by rw[e,hpa] at hpb; cases hpb
    have q1:la b=0:=Classical.byContradiction λq=>(hsa b hb q).elim (λk=>k hpb) hba
    (try dsimp only at hne); rw[q1,hnul b hb hba hpb] at hne
    exact hne (by simp)) (λt q ht htq=>by
    obtain⟨hqW,_,hq0⟩:=h.piv t q ht htq
    rw[ql2 n (c1*ρ a p) (s p) z la (λb=>R b q),<- hla q hqW]
    by_cases e:t=a
    ·subst e
     rw[hpa] at htq
     obtain rfl:=Option.some.inj htq
     rw[hs']
     grind
    ·rw[hcol t q ht e htq,hq0 a ha (Ne.symm e)]
     simp)
   have he:s p≠0:=λq=>by
    have:=hz a0 ha0
    try dsimp only at this
    rw[q] at this
    exact hza (qc7 (a:=c1*ρ a p) (by grind) (ql7 hc1 hpa0))
   refine⟨s p*c1,c1*ρ a p,ql7 he hc1,λc hc=>?_⟩
   have e1:(sm n λb=>((c1*ρ a p)*z b-s p*la b)*R b c)=0:=sm_zero λb hb=>by have:=hz b hb; (try dsimp only at this ⊢); rw[this]; simp
   rw[ql2 n (c1*ρ a p) (s p) z la (λb=>R b c),<- hla c hc] at e1
   have e2:s c=sm n λb=>z b*R b c:=by rw[hs']
   rw[<- e2] at e1
   grind
 obtain⟨α,β,hα,hab⟩:=hpar
 have h1:=q9o hα hab hnice c hc
 have h2:s c=det n (qu3 (lfm R pv) a λx=>R x c):=by
  rw[<- hs λx=>R x c,hs']
  exact qa7 λi _=>Int.mul_comm _ _
 rw[h2] at h1
 exact h1
def xd8:Nat->Nat
 | 0=>1
 | n+1=>(n+1)*xd8 n
theorem xs3 {m K:Nat} (p:Nat->Bool):∀(n:Nat) {f:Nat->Int},(∀i,i<n->(f i).natAbs<=if p i=true then K else 0)->(sm n f).natAbs<=((List.range n).filter p).length*K
 | 0,f,_=>by simp[sm]
 | n+1,f,h=>by
  have h1:=xs3 p (m:=m) n (f:=f) λi hi=>h i (by omega)
  have h2:=h n (Nat.lt_succ_self n)
  rw[sm,List.range_succ,List.filter_append,List.length_append,Nat.add_mul]
  have h3:(List.filter p [n]).length*K=if p n=true then K else 0:=by
   cases e:p n <;> simp[List.filter,e]
  rw[h3]
  omega
structure Mix (n m s:Nat) (a B:Nat->Nat->Int) (un:Nat->Bool) (A:Nat->Nat->Int) (U:List Nat):Prop where
 nd:U.Nodup
 lt:∀i∈U,i<m
 met:∀i∈U,∃x,x<s/\∀j,j<n->A x j=B i j
 row:∀x,x<s->(un x=true/\∀j,j<n->A x j=if x=j then 1 else 0)\/∃i,i<m/\∀j,j<n->A x j=B i j
 rest:∀x,s<=x->x<n->∀j,j<n->A x j=(sm m λi=>a i x*B i j)+if un x=true/\x=j then 1 else 0
theorem w42 (m:Nat) (U:List Nat) (hU:U.Nodup) (hm:∀i∈U,i<m):((List.range m).filter λi=>!U.contains i).length+U.length=m:=by
 have h1:((List.range m).filter λi=>U.contains i).length=U.length:=by
  refine List.Perm.length_eq ((List.perm_ext_iff_of_nodup (List.nodup_range.filter _) hU).2 λx=>?_)
  rw[List.mem_filter,List.mem_range,List.contains_iff_mem]
  exact⟨λh=>h.2,λh=>⟨hm x h,h⟩⟩
 have h2:∀l:List Nat,(l.filter λi=>!U.contains i).length+(l.filter λi=>U.contains i).length=l.length:=λl=>by
  induction l with
  | nil=>rfl
  | cons x l ih=>
   rw[List.filter_cons,List.filter_cons]
   cases e:U.contains x
   ·rw[if_pos (by rfl),if_neg (by decide),List.length_cons,List.length_cons]; omega
   ·rw[if_neg (by decide),if_pos (by rfl),List.length_cons,List.length_cons]; omega
 have h3:=h2 (List.range m)
 rw[List.length_range] at h3
 omega
theorem Mix.bound {n m K:Nat} {a B:Nat->Nat->Int} {un:Nat->Bool} (ha:∀i x,i<m->x<n->(a i x).natAbs<=1) (hB:∀i j,i<m->j<n->un j=true->B i j=0)
  (hK:∀A:Nat->Nat->Int,(∀x,x<n->(un x=true/\∀j,j<n->A x j=if x=j then 1 else 0)\/∃i,i<m/\∀j,j<n->A x j=B i j)->(det n A).natAbs<=K) :
  ∀(d s:Nat),s+d=n->∀(A:Nat->Nat->Int) (U:List Nat),Mix n m s a B un A U->(det n A).natAbs<=xd8 (m-U.length)*K
 | 0,s,hs,A,U,h=>by
  have h1:=hK A λx hx=>h.row x (by omega)
  have h2:∀k,0<xd8 k:=λk=>by
   induction k with
   | zero=>exact Nat.one_pos
   | succ k ih=>exact Nat.mul_pos (Nat.succ_pos _) ih
  exact Nat.le_trans h1 (Nat.le_mul_of_pos_left _ (h2 _))
 | d+1,s,hs,A,U,h=>by
  have hsn:s<n:=by omega
  have hfl:=w42 m U h.nd h.lt
  -- the row s is a sum
  cases hu:un s with
  | true=>
   have e:det n A=det n (upd A s λj=>if s=j then 1 else 0):=by
    have h1:=qn7 n A s hsn 1 1 (λj=>sm m λi=>a i s*B i j) (λj=>if s=j then 1 else 0)
    have h2:det n A=det n (upd A s λj=>1*(sm m λi=>a i s*B i j)+1*if s=j then 1 else 0):=qf2 n λi j hi hj=>by
     unfold upd; split
     ·rename_i q
      rw[q,h.rest s (Nat.le_refl _) hsn j hj,hu]
      try dsimp only
      rw[Int.one_mul,Int.one_mul]
      simp
     ·rfl
    have h3:det n (upd A s λj=>sm m λi=>a i s*B i j)=0:=xm8 hsn λi hi=>by
     unfold upd; split
     ·exact sm_zero λk hk=>by rw[hB k s hk hsn hu,Int.mul_zero]
     ·rename_i q
      rcases Nat.lt_or_ge i s with q2 | q2
      ·rcases h.row i q2 with⟨_,k⟩ | ⟨k,hk,k2⟩
       ·rw[k s hsn,if_neg (by omega)]
       ·rw[k2 s hsn,hB k s hk hsn hu]
      ·rw[h.rest i q2 hi s hsn,if_neg (by omega),Int.add_zero]
       exact sm_zero λk hk=>by rw[hB k s hk hsn hu,Int.mul_zero]
    rw[h2,h1,h3]
    omega
   rw[e]
   refine Mix.bound ha hB hK d (s+1) (by omega) _ U ⟨h.nd,h.lt,λi hi=>?_,λx hx=>?_,λx h1 h2 j hj=>?_⟩
   ·obtain⟨x,hx,k⟩:=h.met i hi
    exact⟨x,by omega,λj hj=>by unfold upd; rw[if_neg (by omega)]; exact k j hj⟩
   ·by_cases q:x=s
    ·subst q
     exact .inl ⟨hu,λj hj=>by unfold upd; rw[if_pos rfl]⟩
    ·rcases h.row x (by omega) with⟨k1,k2⟩ | ⟨i,hi,k⟩
     ·exact .inl ⟨k1,λj hj=>by unfold upd; rw[if_neg q]; exact k2 j hj⟩
     ·exact .inr ⟨i,hi,λj hj=>by unfold upd; rw[if_neg q]; exact k j hj⟩
   ·unfold upd; rw[if_neg (by omega)]; exact h.rest x (by omega) h2 j hj
  | false=>
   have e:det n A=sm m λi=>a i s*det n (upd A s (B i)):=by
    rw[<- w2k A hsn (λi=>a i s) B m]
    refine qf2 n λi j hi hj=>?_
    unfold upd; split
    ·rename_i q
     rw[q,h.rest s (Nat.le_refl _) hsn j hj,hu]
     simp
    ·rfl
   have hstep:∀i,i<m->(a i s*det n (upd A s (B i))).natAbs<=if(!U.contains i)=true then xd8 (m-(U.length+1))*K else 0:=λi hi=>by
    rw[Int.natAbs_mul]
    cases q:U.contains i with
    | true=>
     have hmem:=List.contains_iff_mem.1 q
     obtain⟨x,hx,k⟩:=h.met i hmem
     have h0:det n (upd A s (B i))=0:=q4o (r:=x) (s:=s) (by omega) hsn (by omega) λj hj=>by
      unfold upd; rw[if_neg (by omega),if_pos rfl]; exact k j hj
     rw[h0]; simp
    | false=>
     have hmem:i∉U:=λk=>by rw[List.contains_iff_mem.2 k] at q; cases q
     have h1:=Mix.bound ha hB hK d (s+1) (by omega) (upd A s (B i)) (i :: U) ⟨List.nodup_cons.2 ⟨hmem,h.nd⟩,λk hk=>?_,λk hk=>?_,λx hx=>?_,λx h1 h2 j hj=>?_⟩
     ·have h2:=ha i s hi hsn
      have h3:=Nat.mul_le_mul h2 h1
      rw[List.length_cons,Nat.one_mul] at h3
      simpa using h3
     ·rcases List.mem_cons.1 hk with rfl | hk
      ·exact hi
      ·exact h.lt k hk
     ·rcases List.mem_cons.1 hk with rfl | hk
      ·exact⟨s,Nat.lt_succ_self s,λj hj=>by unfold upd; rw[if_pos rfl]⟩
      ·obtain⟨x,hx,k2⟩:=h.met k hk
       exact⟨x,by omega,λj hj=>by unfold upd; rw[if_neg (by omega)]; exact k2 j hj⟩
     ·by_cases q:x=s
      ·subst q
       exact .inr ⟨i,hi,λj hj=>by unfold upd; rw[if_pos rfl]⟩
      ·rcases h.row x (by omega) with⟨k1,k2⟩ | ⟨k,hk,k2⟩
       ·exact .inl ⟨k1,λj hj=>by unfold upd; rw[if_neg q]; exact k2 j hj⟩
       ·exact .inr ⟨k,hk,λj hj=>by unfold upd; rw[if_neg q]; exact k2 j hj⟩
     ·unfold upd; rw[if_neg (by omega)]; exact h.rest x (by omega) h2 j hj
   have h1:=xs3 (m:=m) (λi=>!U.contains i) m hstep
   rw[<- e] at h1
   refine Nat.le_trans h1 ?_
   rcases Nat.eq_zero_or_pos (m-U.length) with q | q
   ·rw[show((List.range m).filter λi=>!U.contains i).length=0 by omega,Nat.zero_mul]; exact Nat.zero_le _
   ·have h2:xd8 (m-U.length)=(m-U.length)*xd8 (m-(U.length+1)):=by
     obtain⟨k,hk⟩:∃k,m-U.length=k+1:=⟨m-U.length-1,by omega⟩
     rw[hk,show m-(U.length+1)=k by omega,xd8]
    rw[h2,show((List.range m).filter λi=>!U.contains i).length=m-U.length by omega,Nat.mul_assoc]
    exact Nat.le_refl _
structure Gram (n m W:Nat) (R a b:Nat->Nat->Int) (one:Nat->Prop):Prop where
 n6:n<=6
 m6:m<=6
 prod:∀x c,x<n->c<W->R x c=sm m λi=>a i x*b i c
 ones:∀i x,i<m->x<n->(a i x).natAbs<=1
 oneb:∀i c,i<m->c<W->one c->(b i c).natAbs<=1
theorem x4g {k:Nat} (h:k<=6):xd8 k<=720:=by
 have:∀k:Fin 7,xd8 k.val<=720:=by decide
 exact this ⟨k,by omega⟩
theorem Gram.detB {n m W:Nat} {R a b:Nat->Nat->Int} {one:Nat->Prop} {pv:Nat->Option Nat} (hG:Gram n m W R a b one) (hpW:∀t p,t<n->pv t=some p->p<W) (hp:∀t p,t<n->pv t=some p->one p) {t:Nat} (ht:t<n) {c B:Nat} (hc:c<W) (hB1:1<=B) (hB:∀i,i<m->(b i c).natAbs<=B):(det n (qu3 (lfm R pv) t λx=>R x c)).natAbs<=691200*B:=by
 have n6:=hG.n6
 have m6:=hG.m6
 obtain⟨Bm,hBm⟩:∃Bm:Nat->Nat->Int,∀i j,Bm i j=if j=t then b i c else match pv j with
  | some p=>b i p
  | none=>0:=⟨_,λ_ _=>rfl⟩
 obtain⟨un,hun⟩:∃un:Nat->Bool,∀j,un j=true↔(j≠t/\pv j=none):=by
  refine⟨λj=>decide (j≠t/\pv j=none),λj=>by simp⟩
 have hone:∀i j,i<m->j<n->j≠t->(Bm i j).natAbs<=1:=λi j hi hj hne=>by
  rw[hBm,if_neg hne]
  cases hpj:pv j with
  | some p=>exact hG.oneb i p hi (hpW j p hj hpj) (hp j p hj hpj)
  | none=>exact Nat.zero_le 1
 have key:=Mix.bound (n:=n) (m:=m) (K:=960*B) (a:=a) (B:=Bm) (un:=un) hG.ones (λi j hi hj hu=>by
  obtain⟨q1,q2⟩:=(hun j).1 hu
  rw[hBm,if_neg q1,q2]) (λA hA=>by
   -- the column t alone is great
   have e:det n A=det n (qu3 A t λi=>sm n λk=>A k t*(if i=k then 1 else 0)):=qf2 n λi j hi hj=>by
    unfold qu3; split
    ·rename_i q; rw[q]; exact(w9k (λk=>A k t) hi).symm
    ·rfl
   rw[e,q6c A ht (λk=>A k t) (λk i=>if i=k then 1 else 0) n]
   have h1:=wf6 (n:=n) (B:=B*160) (f:=λk=>A k t*det n (qu3 A t λi=>if i=k then 1 else 0)) λk hk=>by
    rw[Int.natAbs_mul]
    refine Nat.mul_le_mul ?_ (ww8 n6 λi j hi hj=>?_)
    ·rcases hA k hk with⟨q1,q2⟩ | ⟨i,hi,q2⟩
     ·rw[q2 t ht]; split <;> simp <;> omega
     ·rw[q2 t ht,hBm,if_pos rfl]; exact hB i hi
    ·unfold qu3
     by_cases hne:j=t
     ·rw[if_pos hne]; dsimp only; by_cases q:i=k
      ·rw[if_pos q]; decide
      ·rw[if_neg q]; decide
     ·rw[if_neg hne]
      rcases hA i hi with⟨q1,q2⟩ | ⟨r,hr,q2⟩
      ·rw[q2 j hj]; split <;> decide
      ·rw[q2 j hj]; exact hone r j hr hj hne
   have h2:n*(B*160)<=6*(B*160):=Nat.mul_le_mul_right _ n6
   omega) n 0 (by omega) (qu3 (lfm R pv) t λx=>R x c) [] ⟨List.nodup_nil,λi hi=>(List.not_mem_nil hi).elim,λi hi=>(List.not_mem_nil hi).elim,λx hx=>absurd hx (Nat.not_lt_zero _),λx _ hx j hj=>by
    unfold qu3
    by_cases q:j=t
    ·rw[if_pos q]
     try dsimp only
     rw[hG.prod x c hx hc]
     have e1:¬(un x=true/\x=j):=λk=>((hun x).1 k.1).1 (k.2.trans q)
     rw[if_neg e1,Int.add_zero]
     refine qa7 λi hi=>?_
     rw[hBm,if_pos q]
    ·rw[if_neg q]
     unfold lfm
     cases hpj:pv j with
     | some p=>
      have e1:¬(un x=true/\x=j):=λk=>by
       have:=((hun x).1 k.1).2
       rw[k.2,hpj] at this; cases this
      try dsimp only
      rw[hG.prod x p hx (hpW j p hj hpj),if_neg e1,Int.add_zero]
      refine qa7 λi hi=>?_
      rw[hBm,if_neg q,hpj]
     | none=>
      try dsimp only
      rw[sm_zero λi hi=>by rw[hBm,if_neg q,hpj]; simp,Int.zero_add]
      by_cases q2:x=j
      ·rw[if_pos q2,if_pos ⟨(hun x).2 ⟨by rw[q2]; exact q,by rw[q2]; exact hpj⟩,q2⟩]
      ·rw[if_neg q2,if_neg λk=>q2 k.2]⟩
 have h1:xd8 (m-([]:List Nat).length)<=720:=x4g (by simp; omega)
 have h2:=Nat.mul_le_mul_right (960*B) h1
 omega
theorem Gram.bound {n m W:Nat} {R a b ρ:Nat->Nat->Int} {one:Nat->Prop} {pv:Nat->Option Nat} (hG:Gram n m W R a b one) (h:El n W R ρ pv) (hp:∀t p,t<n->pv t=some p->one p) {t:Nat} (ht:t<n) (hnice:x1f W (R t) (ρ t)) {c B:Nat} (hc:c<W) (hB1:1<=B) (hB:∀i,i<m->(b i c).natAbs<=B):(ρ t c).natAbs<=691200*B:=by
 have n6:=hG.n6
 have m6:=hG.m6
 rcases hnice with⟨s,hs,hr⟩ | hr | hr
 ·rw[hr c hc,Int.natAbs_mul,hG.prod t c ht hc]
  have h2:s.natAbs=1:=by rcases hs with rfl | rfl <;> rfl
  have h3:=wf6 (n:=m) (f:=λi=>a i t*b i c) (B:=B) λi hi=>by
   rw[Int.natAbs_mul]
   have:=Nat.mul_le_mul (hG.ones i t hi ht) (hB i hi)
   omega
  have h4:m*B<=6*B:=Nat.mul_le_mul_right _ m6
  rw[h2]
  omega
 ·rw[hr c hc]; simp
 exact Nat.le_trans (h.minor ht hr hc) (hG.detB (λt p h1 h2=>(h.piv t p h1 h2).1) hp ht hc hB1 hB)
theorem w9l {P:List Int} {f:Nat}:(P.any λe=>(f:Int)==e)=true↔isP P f:=by
 rw[List.any_eq_true]
 constructor
 ·rintro⟨x,hx,e⟩
  obtain⟨q,hq,rfl⟩:=q5j hx
  exact⟨q,hq,(beq_iff_eq.1 e).symm⟩
 ·rintro⟨q,hq,e⟩
  exact⟨nI P q,q5i hq,beq_iff_eq.2 e.symm⟩
theorem wq8 (P:List Int) (f:Nat):∀k,q3x P f k=true↔∀q,q<k->nI P q≠(f:Int)
 | 0=>⟨λ_ q hq=>absurd hq (Nat.not_lt_zero _),λ_=>rfl⟩
 | k+1=>by
  rw[q3x,Bool.and_eq_true,wq8 P f k,bne_iff_ne]
  constructor
  ·rintro⟨h1,h2⟩ q hq
   rcases Nat.lt_succ_iff_lt_or_eq.1 hq with e | e
   ·exact h1 q e
   ·rw[e]; exact h2
  ·exact λh=>⟨λq hq=>h q (by omega),h k (by omega)⟩
theorem q4y {P:List Int} {f:Nat}:q3x P f P.length=true↔¬isP P f:=by rw[wq8,q79]
def q0i (n f:Nat) (t:Int) (P:List Int) (val:Nat->Int):Nat->List Int
 | 0=>(List.replicate n 0).set f t
 | k+1=>(q0i n f t P val k).set (nI P k).toNat (val k)
theorem qx7 (n f:Nat) (t:Int) (P:List Int) (val:Nat->Int):∀k,(q0i n f t P val k).length=n
 | 0=>by simp[q0i]
 | k+1=>by rw[q0i,List.length_set]; exact qx7 n f t P val k
theorem xs4 (n c:Nat):nI (List.replicate n (0:Int)) c=0:=by
 rcases Nat.lt_or_ge c n with h | h
 ·rw[qg1 _ _ (by simpa using h)]; simp
 ·exact q1g _ (by simpa using h)
theorem q8a {n f:Nat} {t:Int} {P:List Int} {val:Nat->Int} (hf:f<n) (hP:∀k,k<P.length->0<=nI P k/\nI P k<n) (hnp:¬isP P f):∀k,k<=P.length->nI (q0i n f t P val k) f=t
 | 0,_=>by rw[q0i,q78 _ (by simpa using hf),if_pos rfl]
 | k+1,hk=>by
  have:=hP k (by omega)
  rw[q0i,q78 _ (by rw[qx7]; omega),if_neg λe=>hnp ⟨k,by omega,by omega⟩]
  exact q8a hf hP hnp k (by omega)
theorem wz3 {n f:Nat} {t:Int} {P:List Int} {val:Nat->Int} (hf:f<n) (hP:∀k,k<P.length->0<=nI P k/\nI P k<n) {c:Nat} (hc:c≠f) (hnp:¬isP P c):∀k,k<=P.length->nI (q0i n f t P val k) c=0
 | 0,_=>by rw[q0i,q78 _ (by simpa using hf),if_neg hc,xs4]
 | k+1,hk=>by
  have:=hP k (by omega)
  rw[q0i,q78 _ (by rw[qx7]; omega),if_neg λe=>hnp ⟨k,by omega,by omega⟩]
  exact wz3 hf hP hc hnp k (by omega)
theorem wz4 {n f:Nat} {t:Int} {P:List Int} {val:Nat->Int} (hP:∀k,k<P.length->0<=nI P k/\nI P k<n) (hinj:∀q k,q<P.length->k<P.length->nI P q=nI P k->q=k):∀k,k<=P.length->∀q,q<k->nI (q0i n f t P val k) (nI P q).toNat=val q
 | 0,_,q,hq=>absurd hq (Nat.not_lt_zero _)
 | k+1,hk,q,hq=>by
  have h1:=hP k (by omega)
  have h2:=hP q (by omega)
  rw[q0i,q78 _ (by rw[qx7]; omega)]
  rcases Nat.lt_succ_iff_lt_or_eq.1 hq with e | e
  ·rw[if_neg λe2=>by have:=hinj q k (by omega) (by omega) (by omega); omega]
   exact wz4 hP hinj k (by omega) q e
  ·rw[if_pos (by rw[e]),e]
theorem w9m (r:List (List Int)) (P:List Int) (n f:Nat):∀k,hTo r P n f k=q0i n f (qf3 r P f P.length) P (λk=>((0-nI (nL r k) f)*qf3 r P f P.length).tdiv (nI (nL r k) (nI P k).toNat)) k
 | 0=>rfl
 | k+1=>by rw[hTo,q0i,w9m r P n f k]
theorem w2l (r:List (List Int)) (P:List Int) (n f:Nat):∀k,xy4 r P n f k=q0i n f (q4u r P P.length) P (λk=>(0-nI (nL r k) f)*(q4u r P P.length).tdiv (w4v r P k)) k
 | 0=>rfl
 | k+1=>by rw[xy4,q0i,w2l r P n f k]
theorem w9n (a b:Int):∃x,a=qd8 a b*x:=by
 have h:qd8 a b∣a:=Int.natAbs_dvd_natAbs.1 (Nat.gcd_dvd_left _ _)
 exact h
theorem w9o (a b:Int):∃x,b=qd8 a b*x:=by
 have h:qd8 a b∣b:=Int.natAbs_dvd_natAbs.1 (Nat.gcd_dvd_right _ _)
 exact h
theorem w9p {a d:Int} (ha:0<a) (hd:0<d):0<a*d.tdiv (qd8 a d)/\a∣a*d.tdiv (qd8 a d)/\d∣a*d.tdiv (qd8 a d)/\(a*d.tdiv (qd8 a d)).natAbs<=a.natAbs*d.natAbs/\a.tdiv (qd8 a d)*d=a*d.tdiv (qd8 a d):=by
 have hg:=qm5 (a:=a) (b:=d) (.inl (by omega))
 obtain⟨x,hx⟩:=w9n a d
 obtain⟨y,hy⟩:=w9o a d
 generalize qd8 a d=g at hg hx hy ⊢
 have e1:d.tdiv g=y:=by rw[hy]; exact Int.mul_tdiv_cancel_left _ (by omega)
 have e2:a.tdiv g=x:=by rw[hx]; exact Int.mul_tdiv_cancel_left _ (by omega)
 have hy0:0<y:=q33 hg (by omega)
 rw[e1,e2]
 refine⟨Int.mul_pos ha hy0,⟨y,rfl⟩,⟨x,by rw[hx,hy]; grind⟩,?_,by rw[hx,hy]; grind⟩
 rw[Int.natAbs_mul]
 refine Nat.mul_le_mul_left _ ?_
 rw[<- e1]
 exact q6a _ _
theorem w2m {p r:Int} (hp:0<p):0<p.tdiv (qd8 p r)/\(p.tdiv (qd8 p r)).natAbs<=p.natAbs/\∀t,p.tdiv (qd8 p r)∣t->p∣(0-r)*t:=by
 have hg:=qm5 (a:=p) (b:=r) (.inl (by omega))
 obtain⟨x,hx⟩:=w9n p r
 obtain⟨y,hy⟩:=w9o p r
 refine⟨?_,q6a _ _,λt ht=>?_⟩
 ·generalize qd8 p r=g at hg hx hy ⊢
  rw[hx,Int.mul_tdiv_cancel_left _ (by omega)]
  exact q33 hg (by omega)
 ·generalize qd8 p r=g at hg hx hy ht
  rw[hx,Int.mul_tdiv_cancel_left _ (by omega)] at ht
  obtain⟨u,hu⟩:=ht
  exact⟨- (y*u),by rw[hu,hx,hy]; grind⟩
theorem q40 {r:List (List Int)} {P:List Int} {f:Nat} (hp:∀k,k<P.length->0<nI (nL r k) (nI P k).toNat/\(nI (nL r k) (nI P k).toNat).natAbs<=160):∀k,k<=P.length->0<qf3 r P f k/\(qf3 r P f k).natAbs<=160 ^ k/\∀q,q<k->q5q r P f q∣qf3 r P f k
 | 0,_=>⟨by show(0:Int)<1; decide,by show(1:Int).natAbs<=160 ^ 0; decide,λq hq=>absurd hq (Nat.not_lt_zero _)⟩
 | k+1,hk=>by
  obtain⟨a1,a2,a3⟩:=q40 hp k (by omega)
  obtain⟨b1,b2⟩:=hp k (by omega)
  obtain⟨c1,c2,_⟩:=w2m (r:=nI (nL r k) f) b1
  change 0<q5q r P f k at c1
  change(q5q r P f k).natAbs<=_ at c2
  obtain⟨d1,d2,d3,d4,_⟩:=w9p a1 c1
  rw[qf3]
  refine⟨d1,?_,λq hq=>?_⟩
  ·rw[Nat.pow_succ]
   exact Nat.le_trans d4 (Nat.mul_le_mul a2 (by omega))
  ·rcases Nat.lt_succ_iff_lt_or_eq.1 hq with e | e
   ·exact Int.dvd_trans (a3 q e) d2
   ·rw[e]; exact d3
theorem w2n {r:List (List Int)} {P:List Int} (hp:∀k,k<P.length->0<w4v r P k/\(w4v r P k).natAbs<=160):∀k,k<=P.length->0<q4u r P k/\(q4u r P k).natAbs<=160 ^ k/\∀q,q<k->w4v r P q∣q4u r P k
 | 0,_=>⟨by show(0:Int)<1; decide,by show(1:Int).natAbs<=160 ^ 0; decide,λq hq=>absurd hq (Nat.not_lt_zero _)⟩
 | k+1,hk=>by
  obtain⟨a1,a2,a3⟩:=w2n hp k (by omega)
  obtain⟨b1,b2⟩:=hp k (by omega)
  obtain⟨d1,d2,d3,d4,d5⟩:=w9p a1 b1
  rw[q4u,d5]
  refine⟨d1,?_,λq hq=>?_⟩
  ·rw[Nat.pow_succ]
   exact Nat.le_trans d4 (Nat.mul_le_mul a2 b2)
  ·rcases Nat.lt_succ_iff_lt_or_eq.1 hq with e | e
   ·exact Int.dvd_trans (a3 q e) d2
   ·rw[e]; exact d3
theorem xs5 {k:Nat} (h:k<=6):160 ^ k<=16777216000000:=Nat.le_trans (Nat.pow_le_pow_right (by decide) h) (by decide)
structure Ones (n W:Nat) (M:List (List Int)):Prop extends Mat n W M where
 n1:0<n
 n6:n<=6
 w1:0<W
 w:W<=1000
 one:∀a c,a<n->c<W->(nI (nL M a) c).natAbs<=1
theorem Ones.small {n W:Nat} {M:List (List Int)} (h:Ones n W M):Small n W W M:=⟨h.toMat,h.n6,Nat.le_refl _,h.w,h.one,λa c ha hc=>by have:=h.one a c ha hc; omega⟩
theorem Ones.rdW {n W:Nat} {M:List (List Int)} (h:Ones n W M):rdW M=W:=h.each 0 h.n1
theorem Ones.stP {n W:Nat} {M:List (List Int)} (h:Ones n W M):St n W (rowOf M) W (qa4 M W).1 (qa4 M W).2:=qn3 h.toMat W (Nat.le_refl _)
theorem Ones.stR {n W:Nat} {M:List (List Int)} (h:Ones n W M):St n W (rowOf M) W ((qg7 M W).done_++(qg7 M W).left) (qg7 M W).piv:=(qs9 h.toMat W (Nat.le_refl _)).st
theorem Ones.at_ {n W:Nat} {M:List (List Int)} (h:Ones n W M) {k:Nat} (hk:k<(qg7 M W).piv.length):nL ((qg7 M W).done_++(qg7 M W).left) k=nL (qg7 M W).done_ k:=qm1 _ _ (by rw[(qs9 h.toMat W (Nat.le_refl _)).cnt]; exact hk)
theorem Ones.redOk {n W:Nat} {M:List (List Int)} (h:Ones n W M):qz8 M W W:=q1i h.small
theorem Ones.pP {n W:Nat} {M:List (List Int)} (h:Ones n W M):∀k,k<(qa4 M W).2.length->0<nI (nL (qa4 M W).1 k) (nI (qa4 M W).2 k).toNat/\(nI (nL (qa4 M W).1 k) (nI (qa4 M W).2 k).toNat).natAbs<=160:=λk hk=>
 ⟨(h.stP.pos k hk).2.2.1,h.stP.piv_160 h.n6 h.one hk⟩
theorem Ones.pR {n W:Nat} {M:List (List Int)} (h:Ones n W M):∀k,k<(qg7 M W).piv.length->0<w4v (qg7 M W).done_ (qg7 M W).piv k/\(w4v (qg7 M W).done_ (qg7 M W).piv k).natAbs<=160:=λk hk=>by
 have h1:=(h.stR.pos k hk).2.2.1
 have h2:=h.stR.piv_160 h.n6 h.one hk
 rw[h.at_ hk] at h1 h2
 exact⟨h1,h2⟩
theorem Ones.kvP {n W:Nat} {M:List (List Int)} (h:Ones n W M) {f:Nat} (hf:f<W) (hnp:¬isP (qa4 M W).2 f):KV n W (rowOf M) (qa4 M W).2 f (hTo (qa4 M W).1 (qa4 M W).2 W f (qa4 M W).2.length):=by
 have hst:=h.stP
 have hP:∀k,k<(qa4 M W).2.length->0<=nI (qa4 M W).2 k/\nI (qa4 M W).2 k<W:=λk hk=>by have:=hst.pos k hk; omega
 have hT:=q40 (f:=f) h.pP _ (Nat.le_refl _)
 rw[w9m]
 have h0:∀c,c<W->c≠f->¬isP (qa4 M W).2 c->nI (q0i W f (qf3 (qa4 M W).1 (qa4 M W).2 f (qa4 M W).2.length) (qa4 M W).2 (λk=>((0-nI (nL (qa4 M W).1 k) f)*qf3 (qa4 M W).1 (qa4 M W).2 f (qa4 M W).2.length).tdiv (nI (nL (qa4 M W).1 k) (nI (qa4 M W).2 k).toNat)) (qa4 M W).2.length) c=0:=λc hc h1 h2=>wz3 hf hP h1 h2 _ (Nat.le_refl _)
 refine⟨qx7 _ _ _ _ _ _,hst.sol_mk hf hnp h0 λk hk=>?_,h0,?_⟩
 ·rw[wz4 hP (λq k hq hk=>hst.inj hq hk) _ (Nat.le_refl _) k hk,q8a hf hP hnp _ (Nat.le_refl _)]
  have hp:=(h.pP k hk).1
  have hd:=(w2m (r:=nI (nL (qa4 M W).1 k) f) hp).2.2 _ (hT.2.2 k hk)
  rw[Int.mul_tdiv_cancel' hd]
  grind
 ·rw[q8a hf hP hnp _ (Nat.le_refl _)]
  exact hT.1
theorem Ones.kvR {n W:Nat} {M:List (List Int)} (h:Ones n W M) {f:Nat} (hf:f<W) (hnp:¬isP (qg7 M W).piv f):KV n W (rowOf M) (qg7 M W).piv f (xy4 (qg7 M W).done_ (qg7 M W).piv W f (qg7 M W).piv.length):=by
 have hst:=h.stR
 have hP:∀k,k<(qg7 M W).piv.length->0<=nI (qg7 M W).piv k/\nI (qg7 M W).piv k<W:=λk hk=>by have:=hst.pos k hk; omega
 have hT:=w2n h.pR _ (Nat.le_refl _)
 rw[w2l]
 have h0:∀c,c<W->c≠f->¬isP (qg7 M W).piv c->nI (q0i W f (q4u (qg7 M W).done_ (qg7 M W).piv (qg7 M W).piv.length) (qg7 M W).piv (λk=>(0-nI (nL (qg7 M W).done_ k) f)*(q4u (qg7 M W).done_ (qg7 M W).piv (qg7 M W).piv.length).tdiv (w4v (qg7 M W).done_ (qg7 M W).piv k)) (qg7 M W).piv.length) c=0:=λc hc h1 h2=>wz3 hf hP h1 h2 _ (Nat.le_refl _)
 refine⟨qx7 _ _ _ _ _ _,hst.sol_mk hf hnp h0 λk hk=>?_,h0,?_⟩
 ·rw[wz4 hP (λq k hq hk=>hst.inj hq hk) _ (Nat.le_refl _) k hk,q8a hf hP hnp _ (Nat.le_refl _),h.at_ hk]
  have hd:w4v (qg7 M W).done_ (qg7 M W).piv k*(q4u (qg7 M W).done_ (qg7 M W).piv (qg7 M W).piv.length).tdiv (w4v (qg7 M W).done_ (qg7 M W).piv k)=_:=Int.mul_tdiv_cancel' (hT.2.2 k hk)
  have e:nI (nL (qg7 M W).done_ k) (nI (qg7 M W).piv k).toNat=w4v (qg7 M W).done_ (qg7 M W).piv k:=rfl
  rw[e]
  grind
 ·rw[q8a hf hP hnp _ (Nat.le_refl _)]
  exact hT.1
theorem Ones.piv {n W:Nat} {M:List (List Int)} (h:Ones n W M) (c:Nat):isP (qa4 M W).2 c↔isP (qg7 M W).piv c:=⟨h.stP.piv_same h.stR,h.stR.piv_same h.stP⟩
theorem Ones.ker {n W:Nat} {M:List (List Int)} (h:Ones n W M):∀f,f<=W->qo5 (qa4 M W).1 (qa4 M W).2 W f=q7t (qg7 M W).done_ (qg7 M W).piv W f
 | 0,_=>rfl
 | f+1,hf=>by
  have ih:=h.ker f (by omega)
  rw[qo5,q7t,ih]
  by_cases q:isP (qa4 M W).2 f
  ·rw[if_pos (w9l.2 q),if_neg λq2=>q4y.1 q2 ((h.piv f).1 q)]
  ·have q2:¬isP (qg7 M W).piv f:=λq3=>q ((h.piv f).2 q3)
   rw[if_neg λq3=>q (w9l.1 q3),if_pos (q4y.2 q2),q5k]
   have a:=(h.kvP (by omega) q).prim (by omega)
   have b:=((h.kvR (by omega) q2).prim (by omega)).trans λc=>(h.piv c).symm
   rw[a.uniq h.stP (by omega) q b (qm6 _) (qm6 _)]
theorem Ones.kernel {n W:Nat} {M:List (List Int)} (h:Ones n W M):qo5 (qa4 M W).1 (qa4 M W).2 W W=qk0 M:=by
 rw[h.ker W (Nat.le_refl _)]
 unfold qk0 qf0
 rw[h.rdW]
theorem Ones.kerAr {n W:Nat} {M:List (List Int)} (h:Ones n W M):w8s (qa4 M W).1 (qa4 M W).2 W:=by
 have hB:BIG=4000000000000000000:=rfl
 have hst:=h.stP
 have hpl:=hst.pl
 have hn:=h.n6
 have hsm:=λ{k} (hk:k<(qa4 M W).2.length)=>(hst.small h.small (Nat.le_refl _) (i:=k) (by omega)).1
 have hT:=λf=>q40 (f:=f) h.pP
 refine⟨λk hk=>?_,λk hk i hi=>?_,λf hf _ k hk=>?_,λf hf _ k hk=>?_⟩
 ·have:=(h.pP k hk).1; omega
 ·have:=hsm hk i hi
  constructor <;> omega
 ·obtain⟨a,b,_⟩:=hT f k hk
  have:=xs5 (k:=k) (by omega)
  exact⟨by constructor <;> omega,by omega⟩
 ·obtain⟨a,b,_⟩:=hT f _ (Nat.le_refl _)
  have:=xs5 (k:=(qa4 M W).2.length) (by omega)
  have h1:=hsm hk f hf
  have:=q1h (a:=0-nI (nL (qa4 M W).1 k) f) (A:=46656) (by omega) (Nat.le_trans b this)
  constructor <;> omega
def q8b (M:List (List Int)) (W:Nat):List Nat:=(List.range W).filter λc=>q3x (qg7 M W).piv c (qg7 M W).piv.length
theorem wa2 (d:List (List Int)) (P:List Int) (n:Nat):∀f,q7t d P n f=((List.range f).filter λc=>q3x P c P.length).map λc=>qr7 (xy4 d P n c P.length)
 | 0=>rfl
 | f+1=>by
  rw[q7t,wa2 d P n f,List.range_succ,List.filter_append,List.map_append]
  by_cases q:q3x P f P.length=true
  ·rw[if_pos q]
   simp[List.filter,q]
  ·rw[if_neg q]
   have q:q3x P f P.length=false:=by simpa using q
   simp[List.filter,q]
theorem Ones.kernel_map {n W:Nat} {M:List (List Int)} (h:Ones n W M):qk0 M=(q8b M W).map λc=>qr7 (xy4 (qg7 M W).done_ (qg7 M W).piv W c (qg7 M W).piv.length):=by
 unfold qk0 qf0
 rw[h.rdW,wa2]
 rfl
theorem qx8 {M:List (List Int)} {W c:Nat}:c∈q8b M W↔c<W/\¬isP (qg7 M W).piv c:=by
 unfold q8b
 rw[List.mem_filter,List.mem_range,q4y]
theorem Ones.one_free {n W:Nat} {M:List (List Int)} (h:Ones n W M) (h1:(qk0 M).length=1):∃f,f<W/\¬isP (qg7 M W).piv f/\(∀c,c<W->c≠f->isP (qg7 M W).piv c)/\KV n W (rowOf M) (qg7 M W).piv f (nL (qk0 M) 0)/\Prim (nL (qk0 M) 0):=by
 rw[h.kernel_map] at h1 ⊢
 rw[List.length_map] at h1
 obtain⟨f,hf⟩:=List.length_eq_one_iff.1 h1
 have hm:f∈q8b M W:=by rw[hf]; simp
 obtain⟨hfW,hnp⟩:=qx8.1 hm
 refine⟨f,hfW,hnp,λc hc hne=>Classical.byContradiction λq=>?_,?_,?_⟩
 ·have:c∈q8b M W:=qx8.2 ⟨hc,q⟩
  rw[hf] at this
  exact hne (by simpa using this)
 ·rw[hf]
  exact(h.kvR hfW hnp).prim hfW
 ·rw[hf]
  exact qm6 _
theorem Ones.ker_small {n W:Nat} {M:List (List Int)} (h:Ones n W M) {v:List Int} (hv:v∈qk0 M):v.length=W/\∀x∈v,x.natAbs<=160:=by
 rw[h.kernel_map] at hv
 obtain⟨f,hf,rfl⟩:=List.mem_map.1 hv
 obtain⟨hfW,hnp⟩:=qx8.1 hf
 have hk:=(h.kvR hfW hnp).prim hfW
 exact⟨hk.len,hk.small h.stR h.n6 h.one hfW hnp (qm6 _)⟩
theorem Ones.one_mk {n W:Nat} {M:List (List Int)} (h:Ones n W M) {u:Nat->Int} (hu:Sol n W (rowOf M) u) (hu0:∀c,c<W->u c≠0) (hmin:∀z,Sol n W (rowOf M) z->(∃c,c<W/\z c=0)->∀c,c<W->z c=0):(qk0 M).length=1/\∀c,c<W->nI (nL (qk0 M) 0) c≠0:=by
 have hw:=h.w1
 have two:∀f g,f∈q8b M W->g∈q8b M W->f=g:=λf g hf hg=>Classical.byContradiction λhne=>by
  obtain⟨hfW,hfn⟩:=qx8.1 hf
  obtain⟨hgW,hgn⟩:=qx8.1 hg
  have hk:=h.kvR hfW hfn
  have:=hmin _ hk.sol ⟨g,hgW,hk.free g hgW (Ne.symm hne) hgn⟩ f hfW
  have:=hk.pos
  omega
 have ex:∃f,f∈q8b M W:=Classical.byContradiction λhno=>by
  have hall:∀c,c<W->isP (qg7 M W).piv c:=λc hc=>Classical.byContradiction λq=>hno ⟨c,qx8.2 ⟨hc,q⟩⟩
  obtain⟨k,hk,e⟩:=hall 0 hw
  have hst:=h.stR
  have hpl:=hst.pl
  have hp:=hst.pos k hk
  have h1:=(hst.sol u).1 hu k (by omega)
  unfold dt at h1
  rw[e,Int.toNat_natCast] at hp
  rw[qk1 (k:=0) hw λc hc hne=>?_] at h1
  ·exact hu0 0 hw (qc7 h1 (by omega))
  ·try dsimp only
   obtain⟨q,hq,e2⟩:=hall c hc
   have:=(hst.pos q hq).2.2.2.2 k (by omega) λe3=>hne (by rw[e3,e2] at e; omega)
   rw[e2,Int.toNat_natCast] at this
   rw[this,Int.zero_mul]
 obtain⟨f,hf⟩:=ex
 have hnd:(q8b M W).Nodup:=List.nodup_range.filter _
 have h1:(q8b M W).length=1:=by
  match hl:q8b M W,hnd with
  | [],_=>rw[hl] at hf; cases hf
  | [a],_=>rfl
  | a :: b :: t,hnd=>
   have:=two a b (by rw[hl]; simp) (by rw[hl]; simp)
   rw[this] at hnd
   simp at hnd
 have hk1:(qk0 M).length=1:=by rw[h.kernel_map,List.length_map]; exact h1
 refine⟨hk1,λc hc q=>?_⟩
 obtain⟨f,hfW,hfn,_,hv,_⟩:=h.one_free hk1
 have:=hmin _ hv.sol ⟨c,hc,q⟩ f hfW
 have:=hv.pos
 omega
theorem ql1 {m:List (List Int)} {s:List Int} (hM:Mk m) (hs:Named (nL m 0).length s) (h1:0<s.length):Ones m.length s.length (qg3 m s):=by
 have hl:=hs.len
 have h10:=hM.pix10
 refine⟨⟨q1b m s,λi hi=>by rw[qj6 m s i hi,qj0]⟩,hM.rows1,hM.rows6,h1,by omega,λa c ha hc=>?_⟩
 rw[qj6 m s a ha,qn2 _ _ _ hc]
 have:=hs.at_ c hc
 have:=hM.small a ha (nI s c).toNat (by omega)
 omega
theorem qt0 (m:List (List Int)) (s:List Int):qn8 m s=qg3 m s:=by
 unfold qn8 qa8 qg3
 simp
theorem w9q {m:List (List Int)} {s:List Int} (hM:Mk m) (hs:Named (nL m 0).length s) (h1:0<s.length):ql9 m s=qz9 m s:=by
 unfold ql9 qh1 qz9
 rw[qt0]
 exact(ql1 hM hs h1).kernel
theorem q6d {n k:Nat} {s:List Int} (h:s∈qe7 (n:Nat) (k:Nat)):Named n s/\s.length=k:=by
 have hl:=(q75 h).1
 unfold qe7 at h
 split at h
 ·have hc:=wh6 h
  have he:=hc.len
  simp only[Int.toNat_natCast] at hc he
  have step:∀d i,i+d+1<k->nI s i<nI s (i+d+1):=λd=>by
   induction d with
   | zero=>intro i hi; have:=hc.asc (i+1) (by omega) (by omega); simpa using this
   | succ d ih=>
    intro i hi
    have h1:=ih i (by omega)
    have h2:=hc.asc (i+(d+1)+1) (by omega) (by omega)
    rw[show i+(d+1)+1-1=i+d+1 by omega] at h2
    omega
  refine⟨⟨λj hj=>?_,λi j hij hj=>?_⟩,hl⟩
  ·have h1:=hc.lo j (by omega)
   have h2:=hc.hi j (by omega)
   omega
  ·have:=step (j-i-1) i (by omega)
   rwa [show i+(j-i-1)+1=j by omega] at this
 ·cases h
theorem q8c:∀(m k:Nat) (a:Int) (l:List Int),l.length=k->(∀i,i<k->a<=nI l i/\nI l i<a+m)->(∀i j,i<j->j<k->nI l i<nI l j)->l∈qp0 m k a
 | m,0,a,l,hl,_,_=>by
  have:l=[]:=List.eq_nil_of_length_eq_zero hl
  rw[w4j,this]; simp
 | 0,k+1,a,l,hl,hb,_=>by
  have:=hb 0 (by omega)
  omega
 | m+1,k+1,a,l,hl,hb,ha=>by
  match l,hl with
  | x :: t,hl=>
  have hl:t.length=k:=by simpa using hl
  rw[qp0,List.mem_append,List.mem_map]
  by_cases e:x=a
  ·refine .inl ⟨t,q8c m k (a+1) t hl (λi hi=>?_) (λi j hij hj=>ha (i+1) (j+1) (by omega) (by omega)),by rw[e]⟩
   have h1:=hb (i+1) (by omega)
   have h2:=ha 0 (i+1) (by omega) (by omega)
   rw[qr6] at h1
   rw[qt8,qr6] at h2
   omega
  ·refine .inr (q8c m (k+1) (a+1) (x :: t) (by simp[hl]) (λi hi=>?_) ha)
   have h0:=hb 0 (by omega)
   rw[qt8] at h0
   have h1:=hb i hi
   rcases Nat.eq_zero_or_pos i with q | q
   ·rw[q,qt8]; omega
   ·have h2:=ha 0 i q hi
    rw[qt8] at h2
    omega
theorem wq9 {n:Nat} {s:List Int} (h:Named n s):s∈qe7 (n:Nat) (s.length:Nat):=by
 have hl:=h.len
 unfold qe7
 rw[if_pos (by omega)]
 refine q8c _ _ _ _ (by rw[Int.toNat_natCast]) (λi hi=>?_) λi j hij hj=>h.asc i j hij (by simpa using hj)
 rw[Int.toNat_natCast] at hi
 have:=h.at_ i hi
 rw[Int.toNat_natCast]
 omega
theorem x7z {m:List (List Int)} (hv:validB m=true):wp8 m:=by
 have hM:=Mk.of hv
 have h1:=hM.pix1
 have h10:=hM.pix10
 refine⟨⟨?_⟩,λk hk set hset=>?_⟩
 ·have:=(ql1 hM (Named.idx _) (by rw[qk8]; exact h1)).redOk
  rw[qk8] at this
  rw[qt0]
  exact this
 ·obtain⟨hn,hl⟩:=q6d hset
  have hO:=ql1 hM hn (by omega)
  refine⟨ChoOk.of hM hn λ_ _=>⟨trivial,Nat.zero_le _⟩,by rw[qt0]; exact hO.redOk,?_⟩
  unfold qh1
  rw[qt0]
  exact hO.kerAr
theorem q8d {n:Nat} {s v:List Int} (hs:Named n s):∀k,k<=s.length->∀j,j<k->nI (qg5 n s v k) (nI s j).toNat=nI v j
 | 0,_,j,hj=>absurd hj (Nat.not_lt_zero _)
 | k+1,hk,j,hj=>by
  have h1:=hs.at_ k (by omega)
  have h2:=hs.at_ j (by omega)
  rw[qg5,q78 _ (by rw[qm0]; omega)]
  rcases Nat.lt_succ_iff_lt_or_eq.1 hj with e | e
  ·have:=hs.asc j k e (by omega)
   rw[if_neg (by omega)]
   exact q8d hs k (by omega) j e
  ·rw[if_pos (by rw[e]),e]
theorem wi6 {n:Nat} {s v:List Int} (hs:Named n s) {c:Nat} (hc:∀j,j<s.length->nI s j≠(c:Int)):∀k,k<=s.length->nI (qg5 n s v k) c=0
 | 0,_=>xs4 n c
 | k+1,hk=>by
  have h1:=hs.at_ k (by omega)
  have h2:=hc k (by omega)
  rw[qg5,q78 _ (by rw[qm0]; omega),if_neg (by omega)]
  exact wi6 hs hc k (by omega)
theorem q8e {v:List Int}:∀k,k<=v.length->(wh9 v k=true↔∀c,c<k->nI v c≠0)
 | 0,_=>⟨λ_ c hc=>absurd hc (Nat.not_lt_zero _),λ_=>rfl⟩
 | k+1,hk=>by
  rw[wh9,Bool.and_eq_true,q8e k (by omega),bne_iff_ne]
  constructor
  ·rintro⟨h1,h2⟩ c hc
   rcases Nat.lt_succ_iff_lt_or_eq.1 hc with e | e
   ·exact h1 c e
   ·rw[e]; exact h2
  ·exact λh=>⟨λc hc=>h c (by omega),h k (by omega)⟩
theorem xm9 {v:List Int}:(v.any λe=>(0:Int)==e)=false↔∀c,c<v.length->nI v c≠0:=by
 rw[List.any_eq_false]
 constructor
 ·intro h c hc e
  have:=h _ (q5i hc)
  rw[e] at this
  exact this rfl
 ·intro h x hx q
  obtain⟨c,hc,rfl⟩:=q5j hx
  exact h c hc (beq_iff_eq.1 q).symm
structure IsC (m:List (List Int)) (s:List Int):Prop where
 one:(qz9 m s).length=1
 nz:∀c,c<s.length->nI (nL (qz9 m s) 0) c≠0
theorem qx9 {m:List (List Int)} {s:List Int} (hM:Mk m) (hs:Named (nL m 0).length s) (hok:q8u m s=true):wq3 m s=true↔IsC m s:=by
 have h1:0<s.length:=by
  unfold q8u at hok
  rw[Bool.and_eq_true,decide_eq_true_eq] at hok
  omega
 have hO:=ql1 hM hs h1
 unfold wq3
 rw[hok,Bool.true_and,Bool.and_eq_true,decide_eq_true_eq]
 constructor
 ·rintro⟨a,b⟩
  have hl:=(hO.ker_small (qs2 (qk0 (qg3 m s)) 0 (by show 0<(qz9 m s).length; omega))).1
  exact⟨a,(q8e _ (by show s.length<=(nL (qk0 (qg3 m s)) 0).length; omega)).1 b⟩
 ·intro h
  have hl:=(hO.ker_small (qs2 (qk0 (qg3 m s)) 0 (by have:=h.one; show 0<(qz9 m s).length; omega))).1
  exact⟨h.one,(q8e _ (by show s.length<=(nL (qk0 (qg3 m s)) 0).length; omega)).2 h.nz⟩
theorem wr0 {m:List (List Int)} {s:List Int} (hM:Mk m) (hs:Named (nL m 0).length s) (h1:0<s.length):q8s (ql9 m s)=true↔IsC m s:=by
 have hO:=ql1 hM hs h1
 rw[w9q hM hs h1]
 unfold q8s
 rw[Bool.and_eq_true,decide_eq_true_eq,Bool.not_eq_true',xm9]
 constructor
 ·rintro⟨a,b⟩
  have hl:=(hO.ker_small (qs2 (qk0 (qg3 m s)) 0 (by show 0<(qz9 m s).length; omega))).1
  exact⟨a,λc hc=>b c (by show c<(nL (qk0 (qg3 m s)) 0).length; omega)⟩
 ·intro h
  have hl:=(hO.ker_small (qs2 (qk0 (qg3 m s)) 0 (by have:=h.one; show 0<(qz9 m s).length; omega))).1
  exact⟨h.one,λc hc=>h.nz c (by have:c<(nL (qk0 (qg3 m s)) 0).length:=hc; omega)⟩
theorem xz7 {l:List Int} (h:∀d:Nat,(∀c,c<l.length->d∣(nI l c).natAbs)->d=1):qe2 l=l:=by
 have h1:(gcdL l).natAbs=1:=h _ λc hc=>(x4b l 0).2.1 _ (q5i hc)
 unfold qe2
 rw[if_neg (by omega)]
theorem w9r (l:List Int):xk3 l=q7q l (-1):=by
 refine List.ext_getElem (by rw[q55,qo1]) λi h1 h2=>?_
 rw[<- qg1 _ i h1,<- qg1 _ i h2,q98,q2b]
 omega
theorem xz8 {m:List (List Int)} {s:List Int} (hM:Mk m) (hs:Named (nL m 0).length s) (h1:0<s.length) (hc:IsC m s):x5f m (nL m 0).length s=wq1 m (nL m 0).length s:=by
 have hO:=ql1 hM hs h1
 obtain⟨f,hf,hnp,ho,hv,hp⟩:=hO.one_free hc.one
 have hnz:=hc.nz
 unfold x5f wq1 q7z
 rw[w9q hM hs h1]
 change KV _ _ _ _ _ (nL (qz9 m s) 0) at hv
 change Prim (nL (qz9 m s) 0) at hp
 generalize nL (qz9 m s) 0=v at *
 have hat:=λj (hj:j<s.length)=>q8d (v:=v) hs _ (Nat.le_refl _) j hj
 have ho2:∀c:Nat,(∀j,j<s.length->nI s j≠(c:Int))->nI (qg5 (nL m 0).length s v s.length) c=0:=λc hc=>wi6 hs hc _ (Nat.le_refl _)
 have hlen:=qm0 (nL m 0).length s v s.length
 generalize qg5 (nL m 0).length s v s.length=u at *
 have hsh:qe2 u=u:=xz7 λd hd=>hp.gcd hv.len hf hv.pos d λc hc=>by
  have h2:=hs.at_ c hc
  rw[<- hat c hc]
  exact hd _ (by omega)
 have h0:=hs.at_ 0 h1
 have hfst:qw1 u=nI s 0:=by
  have:=wo3 (.int .i64) (λe=>e != 0) u (nI s 0).toNat (by omega) (λi hi=>by
   have:nI u i=0:=ho2 i λj hj e=>by
    rcases Nat.eq_zero_or_pos j with q | q
    ·rw[q] at e; omega
    ·have:=hs.asc 0 j q hj
     omega
   show(nI u i != 0)=false
   rw[this]; rfl) (by
   show(nI u (nI s 0).toNat != 0)=true
   rw[hat 0 h1]
   exact bne_iff_ne.2 (hnz 0 h1))
  unfold qw1
  rw[this]
  omega
 unfold q7o
 rw[hsh,hfst]
 by_cases q:nI u (nI s 0).toNat<0
 ·rw[if_pos ⟨h0.1,q⟩,if_pos q,w9r]
 ·rw[if_neg λk=>q k.2,if_neg q]
theorem q5m {N K:Nat} {A:Nat->Int} {σ:Nat->Nat} {w:Nat->Int} (hσ:∀q,q<K->σ q<N):(sm N λcol=>A col*sm K λq=>if σ q=col then w q else 0)=sm K λq=>A (σ q)*w q:=by
 have e:(sm N λcol=>A col*sm K λq=>if σ q=col then w q else 0)=sm N λcol=>sm K λq=>A col*if σ q=col then w q else 0:=qa7 λc hc=>by
  try dsimp only
  rw[qf7]
 rw[e,qv7]
 refine qa7 λq hq=>?_
 try dsimp only
 rw[qk1 (k:=σ q) (hσ q hq) λi hi hne=>by
  try dsimp only
  rw[if_neg (Ne.symm hne),Int.mul_zero]]
 try dsimp only
 rw[if_pos rfl]
theorem xn0 {m:List (List Int)} {s:List Int} (hM:Mk m) (hs:Named (nL m 0).length s) (h1:0<s.length):(qg7 (qg3 m s) s.length).piv.length<=(qh1 m (q06 (nL m 0).length)).2.length:=Nat.le_of_not_lt λhgt=>by
 have hO:=ql1 hM hs h1
 have hF:=(ql1 hM (Named.idx (nL m 0).length) (by rw[qk8]; exact hM.pix1))
 have hstF:=hF.stP
 unfold qh1 at hgt
 rw[qt0] at hgt
 have hst:=hO.stR
 rw[qk8] at hstF hgt
 generalize qa4 (qg3 m (q06 (nL m 0).length)) (nL m 0).length=F at hstF hgt
 obtain⟨rF,PF⟩:=F
 dsimp only at hstF hgt
 generalize(qg7 (qg3 m s) s.length).piv=P at hst hgt
 generalize(qg7 (qg3 m s) s.length).done_++(qg7 (qg3 m s) s.length).left=rows at hst
 have hpl:=hst.pl
 have hplF:=hstF.pl
 have hPs:∀q,q<P.length->(nI P q).toNat<s.length:=λq hq=>by have:=hst.pos q hq; omega
 have hσ:∀q,q<P.length->(nI s (nI P q).toNat).toNat<(nL m 0).length:=λq hq=>by have:=hs.at_ _ (hPs q hq); omega
 obtain⟨w,w1,q0,hq0,w2⟩:=wy7 (n:=PF.length) (W:=P.length) (λk q=>nI (nL rF k) (nI s (nI P q).toNat).toNat) hgt
 have hF2:Sol m.length (nL m 0).length (rowOf (qg3 m (q06 (nL m 0).length))) λcol=>sm P.length λq=>if(nI s (nI P q).toNat).toNat=col then w q else 0:=(hstF.sol _).2 λi hi=>by
  rcases Nat.lt_or_ge i PF.length with q | q
  ·unfold dt
   rw[q5m hσ]
   exact w1 i q
  ·refine sm_zero λc hc=>?_
   try dsimp only
   rw[hstF.zero i q hi c hc,Int.zero_mul]
 have hsub:Sol m.length s.length (rowOf (qg3 m s)) λc=>sm P.length λq=>if(nI P q).toNat=c then w q else 0:=λa ha=>by
  rw[q5m hPs]
  have e1:=hF2 a ha
  rw[q5m hσ] at e1
  rw[<- e1]
  refine qa7 λq hq=>?_
  have h2:=hs.at_ _ (hPs q hq)
  unfold rowOf
  rw[qj6 m s a ha,qj6 m _ a ha,qn2 _ _ _ (hPs q hq),qn2 _ _ _ (by rw[qk8]; exact hσ q hq),q7k _ _ (hσ q hq),Int.toNat_natCast]
 have e:=(hst.sol _).1 hsub q0 (by omega)
 unfold dt at e
 rw[q5m hPs,qk1 (k:=q0) hq0 λi hi hne=>by
  try dsimp only
  rw[(hst.pos i hi).2.2.2.2 q0 (by omega) (Ne.symm hne),Int.zero_mul]] at e
 exact w2 (qc7 e (by have:=(hst.pos q0 hq0).2.2.1; omega))
theorem w2o {m:List (List Int)} {s:List Int} (hM:Mk m) (hs:Named (nL m 0).length s) (h1:0<s.length) (hc:IsC m s):s.length<=(qh1 m (q06 (nL m 0).length)).2.length+1:=by
 have hO:=ql1 hM hs h1
 have hr:=xn0 hM hs h1
 obtain⟨f,hf,hnp,ho,_,_⟩:=hO.one_free hc.one
 generalize(qg7 (qg3 m s) s.length).piv=P at *
 refine Nat.le_of_not_lt λhgt=>?_
 have hx:∀a,∃q,a<s.length-1->q<P.length/\nI P q=(skp f a:Int):=λa=>by
  by_cases ha:a<s.length-1
  ·obtain⟨q,hq,e⟩:=ho (skp f a) (by have:=q5e (n:=s.length-1) (i:=f) ha; omega) (xq8 f a)
   exact⟨q,λ_=>⟨hq,e⟩⟩
  ·exact⟨0,λq=>absurd q ha⟩
 obtain⟨g,hg⟩:=Classical.axiomOfChoice hx
 obtain⟨i,j,k1,k2,k3⟩:=q7a P.length (s.length-1) g (λi hi=>(hg i hi).1) (by omega)
 have e1:=(hg i (by omega)).2
 have e2:=(hg j k2).2
 rw[k3] at e1
 have:skp f i=skp f j:=by omega
 unfold skp at this
 split at this <;> split at this <;> omega
def x1h (m:List (List Int)) (s:List Int):Option (List Int):=if q8s (ql9 m s) then some (x5f m (nL m 0).length s) else none
def w43 (m:List (List Int)) (s:List Int):Option (List Int):=if wq3 m s then some (wq1 m (nL m 0).length s) else none
theorem wr1 (m:List (List Int)) (L:List (List Int)):∀c,c<=L.length->qr3 m (nL m 0).length L c=(L.take c).filterMap (x1h m)
 | 0,_=>rfl
 | c+1,hc=>by
  rw[qr3,takeL_snoc L c (by omega),List.filterMap_append,wr1 m L c (by omega)]
  unfold x1h
  by_cases q:q8s (ql9 m (nL L c))=true
  ·rw[if_pos q]
   simp[List.filterMap,q]
  ·rw[if_neg q]
   have q:q8s (ql9 m (nL L c))=false:=by simpa using q
   simp[List.filterMap,q]
def wu1 (m:List (List Int)) (k:Nat):List (List Int):=(qe7 (nL m 0).length (k:Nat)).filterMap (w43 m)
theorem w2p (m:List (List Int)):∀K,q3y m (nL m 0).length K=(List.range K).flatMap λ(k:Nat)=>(qe7 (nL m 0).length (k+1:Nat)).filterMap (x1h m)
 | 0=>rfl
 | K+1=>by
  rw[q3y,w2p m K,List.range_succ,List.flatMap_append,wr1 m _ _ (Nat.le_refl _),List.take_length]
  simp
theorem xz9 {m:List (List Int)} {s:List Int} (hM:Mk m) (hs:Named (nL m 0).length s) (h1:0<s.length) (hr:s.length<=m.length+1):x1h m s=w43 m s:=by
 have hok:q8u m s=true:=by
  unfold q8u
  rw[Bool.and_eq_true,decide_eq_true_eq,decide_eq_true_eq]
  omega
 unfold x1h w43
 by_cases q:IsC m s
 ·rw[if_pos ((wr0 hM hs h1).2 q),if_pos ((qx9 hM hs hok).2 q),xz8 hM hs h1 q]
 ·rw[if_neg λk=>q ((wr0 hM hs h1).1 k),if_neg λk=>q ((qx9 hM hs hok).1 k)]
theorem w9s {m:List (List Int)} (hM:Mk m):(qh1 m (q06 (nL m 0).length)).2.length<=m.length:=by
 have hF:=(ql1 hM (Named.idx (nL m 0).length) (by rw[qk8]; exact hM.pix1))
 have:=hF.stP.pl
 unfold qh1
 rw[qt0]
 exact this
theorem w9t {m:List (List Int)} (hM:Mk m) {k:Nat} (hk:q7u m<=k) (hn:k<(nL m 0).length):wu1 m (k+1)=[]:=by
 unfold wu1
 rw[List.filterMap_eq_nil_iff]
 intro s hs
 obtain⟨hN,hl⟩:=q6d hs
 unfold w43
 rw[if_neg]
 intro q
 have hok:q8u m s=true:=by
  unfold wq3 at q
  rw[Bool.and_eq_true,Bool.and_eq_true] at q
  exact q.1.1
 have:=w2o hM hN (by omega) ((qx9 hM hN hok).1 q)
 unfold q7u at hk
 omega
theorem wr5 {f:Nat->List (List Int)} {K:Nat}:∀d,(∀k,K<=k->k<K+d->f k=[])->(List.range (K+d)).flatMap f=(List.range K).flatMap f
 | 0,_=>rfl
 | d+1,h=>by
  rw[<- Nat.add_assoc,List.range_succ,List.flatMap_append,wr5 d λk h1 h2=>h k h1 (by omega)]
  simp[h (K+d) (by omega) (by omega)]
theorem w2q {f g:List Int->Option (List Int)}:∀l:List (List Int),(∀x∈l,f x=g x)->l.filterMap f=l.filterMap g
 | [],_=>rfl
 | x :: l,h=>by rw[List.filterMap_cons,List.filterMap_cons,h x (by simp),w2q l λy hy=>h y (by simp[hy])]
theorem xn1 {m:List (List Int)} (hv:validB m=true) (h7:(nL m 0).length<=7):q3y m (nL m 0).length (q7u m)=(List.range (nL m 0).length).flatMap λk=>wu1 m (k+1):=by
 have hM:=Mk.of hv
 have hcn:q7u m<=(nL m 0).length:=by unfold q7u; omega
 have e:=wr5 (f:=λk=>wu1 m (k+1)) (K:=q7u m) ((nL m 0).length-q7u m) λk h1 h2=>w9t hM h1 (by omega)
 rw[show q7u m+((nL m 0).length-q7u m)=(nL m 0).length by omega] at e
 rw[e,w2p]
 have hr:=w9s hM
 have key:∀K,K<=q7u m->((List.range K).flatMap λ(k:Nat)=>(qe7 (nL m 0).length (k+1:Nat)).filterMap (x1h m))=(List.range K).flatMap λk=>wu1 m (k+1):=λK=>by
  induction K with
  | zero=>exact λ_=>rfl
  | succ K ih=>
   intro hK
   rw[List.range_succ,List.flatMap_append,List.flatMap_append,ih (by omega)]
   congr 1
   simp only[List.flatMap_cons,List.flatMap_nil,List.append_nil]
   unfold wu1
   refine w2q _ λs hs=>?_
   obtain⟨hN,hl⟩:=q6d hs
   exact xz9 hM hN (by omega) (by unfold q7u at hK; omega)
 exact key _ (Nat.le_refl _)
end Go.Proofs.YtmijnbjlhnpokaaGreat
