/- Kernel vectors: how great they are, and that there is one way to write them. Plain mathematics. No condition. -/
import Derived.Test.YtempacilejhbgaaGreatDoorW5
import Derived.Test.YtempacilejhbgaaGreatDoorW10
import Derived.Test.YtempacilejhbgaaGreatDoorV22
set_option linter.unusedVariables false
namespace Go.Proofs.YtempacilejhbgaaGreatDoor
open Go Go.RowKit Eng
theorem exL:∀(k:Nat) (p:Nat->Int),(∀q,q<k->p q≠0)->∃(L:Int) (u:Nat->Int),L≠0/\∀q,q<k->L=p q*u q
 | 0,p,_=>⟨1,λ_=>0,by decide,λq h=>absurd h (Nat.not_lt_zero _)⟩
 | k+1,p,h=>by
  obtain⟨L,u,h1,h2⟩:=exL k p λq hq=>h q (by omega)
  refine⟨L*p k,λq=>if q=k then L else u q*p k,qu4 h1 (h k (by omega)),λq hq=>?_⟩
  try dsimp only
  by_cases e:q=k
  ·rw[if_pos e,e,Int.mul_comm]
  ·rw[if_neg e,<- Int.mul_assoc,<- h2 q (by omega)]
def Sol (n W:Nat) (R:Nat->Nat->Int) (z:Nat->Int):Prop:=∀a,a<n->(sm W λc=>R a c*z c)=0
theorem St.inj {n W:Nat} {R:Nat->Nat->Int} {j:Nat} {rows:List (List Int)} {P:List Int} (h:St n W R j rows P) {q k:Nat} (hq:q<P.length) (hk:k<P.length) (e:nI P q=nI P k):q=k:=by
 rcases Nat.lt_trichotomy q k with q1 | q1 | q1
 ·have:=h.asc q k q1 hk; omega
 ·exact q1
 ·have:=h.asc k q q1 hq; omega
theorem St.free {n W:Nat} {R:Nat->Nat->Int} {j:Nat} {rows:List (List Int)} {P:List Int} (h:St n W R j rows P) (hj:j<=W) {f:Nat} (hf:f<W) (hnp:∀q,q<P.length->nI P q≠(f:Int)) (hz:∀i,P.length<=i->i<n->nI (nL rows i) f=0) :
  ∃z,Sol n W R z/\z f≠0/\∀c,c<W->c≠f->(∀q,q<P.length->nI P q≠(c:Int))->z c=0:=by
 obtain⟨L,u,hL,hu⟩:=exL P.length (λq=>nI (nL rows q) (nI P q).toNat) λq hq=>by have:=(h.pos q hq).2.2.1; (try dsimp only); omega
 have hpl:=h.pl
 have hzf:(if f=f then L else sm P.length λq=>if nI P q=(f:Int) then-u q*nI (nL rows q) f else 0)=L:=if_pos rfl
 obtain⟨z,hzd⟩:∃z:Nat->Int,∀c,z c=if c=f then L else sm P.length λq=>if nI P q=(c:Int) then-u q*nI (nL rows q) f else 0:=⟨_,λ_=>rfl⟩
 have z1:z f=L:=by rw[hzd,if_pos rfl]
 have z2:∀c,c≠f->(∀q,q<P.length->nI P q≠(c:Int))->z c=0:=λc hc hq=>by
  rw[hzd,if_neg hc]
  exact qt1 λq h=>if_neg (hq q h)
 have z3:∀q,q<P.length->z (nI P q).toNat=- u q*nI (nL rows q) f:=λq hq=>by
  have hp:=h.pos q hq
  have e:((nI P q).toNat:Int)=nI P q:=by omega
  rw[hzd,if_neg (λk=>hnp q hq (by omega)),qw0 hq λi hi hne=>by
   try dsimp only
   rw[if_neg λk=>hne (h.inj hi hq (by omega))]]
  try dsimp only
  rw[if_pos e.symm]
 refine⟨z,(h.sol z).2 λi hi=>?_,by rw[z1]; exact hL,λc hc=>z2 c⟩
 unfold dt
 rcases Nat.lt_or_ge i P.length with q | q
 ·have hp:=h.pos i q
  rw[q8q (k:=f) (l:=(nI P i).toNat) hf (by omega) (λk=>hnp i q (by omega)) λc hc h1 h2=>?_]
  ·try dsimp only
   rw[z1,z3 i q]
   have:=hu i q
   try dsimp only at this
   rw[this]
   grind
  ·try dsimp only
   by_cases hx:∃q,q<P.length/\nI P q=(c:Int)
   ·obtain⟨q2,hq2,e⟩:=hx
    have hp2:=h.pos q2 hq2
    have:nI (nL rows i) (nI P q2).toNat=0:=hp2.2.2.2.2 i hi λk=>h2 (by rw[k,e]; rfl)
    rw[e,Int.toNat_natCast] at this
    rw[this,Int.zero_mul]
   ·rw[z2 c h1 λq hq e=>hx ⟨q,hq,e⟩,Int.mul_zero]
 ·refine qt1 λc hc=>?_
  try dsimp only
  by_cases e:c=f
  ·rw[e,hz i q hi,Int.zero_mul]
  ·by_cases hx:∃q,q<P.length/\nI P q=(c:Int)
   ·obtain⟨q2,hq2,e⟩:=hx
    have hp2:=h.pos q2 hq2
    have:nI (nL rows i) (nI P q2).toNat=0:=hp2.2.2.2.2 i hi (by omega)
    rw[e,Int.toNat_natCast] at this
    rw[this,Int.zero_mul]
   ·rw[z2 c e λq hq e=>hx ⟨q,hq,e⟩,Int.mul_zero]
structure Asc (N:Nat) (P:List Int):Prop where
 at_:∀q,q<P.length->0<=nI P q/\nI P q<N
 asc:∀q k,q<k->k<P.length->nI P q<nI P k
theorem Asc.ge {N:Nat} {P:List Int} (h:Asc N P):∀q,q<P.length->(q:Int)<=nI P q
 | 0,hq=>(h.at_ 0 hq).1
 | q+1,hq=>by
  have h1:=h.ge q (by omega)
  have h2:=h.asc q (q+1) (by omega) hq
  omega
theorem Asc.le {N:Nat} {P:List Int} (h:Asc N P):P.length<=N:=by
 rcases Nat.eq_zero_or_pos P.length with q | q
 ·omega
 ·have h1:=h.ge (P.length-1) (by omega)
  have h2:=h.at_ (P.length-1) (by omega)
  omega
theorem Asc.up {N:Nat} {P:List Int} (h:Asc N P):∀d,d<P.length->nI P (P.length-1-d)+d<N
 | 0,hd=>by have:=(h.at_ (P.length-1-0) (by omega)).2; omega
 | d+1,hd=>by
  have h1:=h.up d (by omega)
  have h2:=h.asc (P.length-1-(d+1)) (P.length-1-d) (by omega) (by omega)
  omega
theorem Asc.id {N:Nat} {P:List Int} (h:Asc N P) (hl:P.length=N) {q:Nat} (hq:q<N):nI P q=q:=by
 have h1:=h.ge q (by omega)
 have h2:=h.up (P.length-1-q) (by omega)
 rw[show P.length-1-(P.length-1-q)=q by omega] at h2
 omega
theorem Asc.free {N:Nat} {P:List Int} (hl:P.length<N):∃f,f<N/\∀q,q<P.length->nI P q≠(f:Int):=by
 refine Classical.byContradiction λhno=>?_
 have hx:∀f,∃q,f<N->q<P.length/\nI P q=(f:Int):=λf=>by
  by_cases hf:f<N
  ·refine Classical.byContradiction λh2=>hno ⟨f,hf,λq hq e=>h2 ⟨q,λ_=>⟨hq,e⟩⟩⟩
  ·exact⟨0,λh=>absurd h hf⟩
 obtain⟨g,hg⟩:=Classical.axiomOfChoice hx
 obtain⟨i,k,h1,h2,h3⟩:=q6v P.length N g (λi hi=>(hg i hi).1) hl
 have e1:=(hg i (by omega)).2
 have e2:=(hg k h2).2
 rw[h3] at e1
 omega
structure Good (n N:Nat) (R:Nat->Nat->Int) (rows:List (List Int)) (P:List Int):Prop where
 st:∃j,N<=j/\j<=N+1/\St n (N+1) R j rows P
 lt:∀q,q<P.length->nI P q<N
 no:∀i,P.length<=i->i<n->nI (nL rows i) N=0
theorem Good.asc {n N:Nat} {R:Nat->Nat->Int} {rows:List (List Int)} {P:List Int} (h:Good n N R rows P):Asc N P:=by
 obtain⟨j,_,_,hs⟩:=h.st
 exact⟨λq hq=>⟨(hs.pos q hq).1,h.lt q hq⟩,hs.asc⟩
theorem Good.last {n N:Nat} {R:Nat->Nat->Int} {rows:List (List Int)} {P:List Int} (h:Good n N R rows P):∃z,Sol n (N+1) R z/\z N≠0:=by
 obtain⟨j,_,h2,hs⟩:=h.st
 obtain⟨z,z1,z2,_⟩:=hs.free h2 (f:=N) (by omega) (λq hq=>by have:=h.lt q hq; omega) h.no
 exact⟨z,z1,z2⟩
theorem Good.more {n N:Nat} {R:Nat->Nat->Int} {rows:List (List Int)} {P:List Int} (h:Good n N R rows P) (hl:P.length<N):∃z f,Sol n (N+1) R z/\f<N/\z f≠0/\z N=0:=by
 obtain⟨j,h1,h2,hs⟩:=h.st
 obtain⟨f,hf,hq⟩:=Asc.free hl
 obtain⟨z,z1,z2,z3⟩:=hs.free h2 (f:=f) (by omega) hq λi h3 h4=>hs.zero i h3 h4 f (by omega)
 exact⟨z,f,z1,hf,z2,z3 N (by omega) (by omega) λq hq=>by have:=h.lt q hq; omega⟩
theorem Good.row {n N:Nat} {R:Nat->Nat->Int} {rows:List (List Int)} {P:List Int} (h:Good n N R rows P) (hl:P.length=N) {z:Nat->Int} (hz:Sol n (N+1) R z) {k:Nat} (hk:k<N):0<nI (nL rows k) k/\nI (nL rows k) k*z k+nI (nL rows k) N*z N=0:=by
 obtain⟨j,h1,h2,hs⟩:=h.st
 have hid:=λ{q} (hq:q<N)=>h.asc.id hl hq
 have hp:=hs.pos k (by omega)
 have hpl:=hs.pl
 rw[hid hk,Int.toNat_natCast] at hp
 refine⟨hp.2.2.1,?_⟩
 have:=(hs.sol z).1 hz k (by omega)
 unfold dt at this
 rw[q8q (k:=k) (l:=N) (by omega) (by omega) (by omega) λc hc h1 h2=>?_] at this
 ·exact this
 ·have hp2:=(hs.pos c (by omega)).2.2.2.2 k (by omega) (by omega)
  rw[hid (by omega),Int.toNat_natCast] at hp2
  try dsimp only
  rw[hp2,Int.zero_mul]
theorem Good.len {n N:Nat} {R:Nat->Nat->Int} {rows rows':List (List Int)} {P P':List Int} (h:Good n N R rows P) (h':Good n N R rows' P') (hl:P.length<N):P'.length<N:=by
 rcases Nat.lt_or_ge P'.length N with q | q
 ·exact q
 ·have hl':P'.length=N:=by have:=h'.asc.le; omega
  obtain⟨z,f,z1,z2,z3,z4⟩:=h.more hl
  obtain⟨k1,k2⟩:=h'.row hl' z1 z2
  rw[z4,Int.mul_zero,Int.add_zero] at k2
  exact absurd (qd5 k2 (by omega)) z3
theorem Good.val {n N:Nat} {R:Nat->Nat->Int} {rows rows':List (List Int)} {P P':List Int} (h:Good n N R rows P) (h':Good n N R rows' P') (hl:P.length=N) (hl':P'.length=N) {k:Nat} (hk:k<N):nI (nL rows k) N*nI (nL rows' k) k=nI (nL rows' k) N*nI (nL rows k) k:=by
 obtain⟨z,z1,z2⟩:=h.last
 obtain⟨a1,a2⟩:=h.row hl z1 hk
 obtain⟨b1,b2⟩:=h'.row hl' z1 hk
 have:z N*(nI (nL rows k) N*nI (nL rows' k) k-nI (nL rows' k) N*nI (nL rows k) k)=0:=by grind
 have:=qd5 this z2
 omega
theorem xa2:((List.range 8).all λn=>decide (qd9 n=(List.range (n+1)).flatMap λ(k:Nat)=>qa6 (n:Nat) (k:Nat)))=true:=by decide +kernel
theorem w6r {n:Nat} (h:n<=7):qd9 n=(List.range (n+1)).flatMap λ(k:Nat)=>qa6 (n:Nat) (k:Nat):=by
 have:=List.all_eq_true.1 xa2 n (List.mem_range.2 (by omega))
 exact of_decide_eq_true this
theorem w6s {n k:Nat} {s:List Int} (h:s∈qa6 (n:Nat) (k:Nat)):s.length=k/\k<=n:=by
 unfold qa6 at h
 split at h
 ·have:=q6b h
  exact⟨by omega,by omega⟩
 ·cases h
theorem q66 (l:List Int) {p:Nat} (hp:p<l.length) (x:Int) (q:Nat):nI (l.set p x) q=if q=p then x else nI l q:=by
 by_cases e:q=p
 ·subst e
  rw[if_pos rfl,qg4 _ _ (by rw[List.length_set]; exact hp),List.getElem_set_self]
 ·rw[if_neg e]
  unfold nI qi0
  rw[List.getD_eq_getElem?_getD,List.getD_eq_getElem?_getD,List.getElem?_set_ne (Ne.symm e)]
theorem wa6:∀(N:Nat) {n:Nat} {f:Nat->Int} {τ:Nat->Nat},(∀q,q<N->τ q<n)->(∀q k,q<N->k<N->τ q=τ k->q=k)->(∀b,b<n->(∀q,q<N->τ q≠b)->f b=0)->sm n f=sm N λq=>f (τ q)
 | 0,n,f,τ,_,_,h=>qt1 λb hb=>h b hb λq hq=>absurd hq (Nat.not_lt_zero _)
 | N+1,n,f,τ,h1,h2,h3=>by
  have e:sm n f=sm n (λb=>if b=τ N then 0 else f b)+sm n (λb=>if b=τ N then f b else 0):=by
   rw[<- wz3]
   refine qg3 λb _=>?_
   by_cases q:b=τ N
   ·rw[if_pos q,if_pos q]; omega
   ·rw[if_neg q,if_neg q]; omega
  have ih:=wa6 N (n:=n) (f:=λb=>if b=τ N then 0 else f b) (τ:=τ) (λq hq=>h1 q (by omega)) (λq k hq hk=>h2 q k (by omega) (by omega)) λb hb hq=>by
   try dsimp only
   by_cases q:b=τ N
   ·rw[if_pos q]
   ·rw[if_neg q]
    refine h3 b hb λk hk=>?_
    rcases Nat.lt_succ_iff_lt_or_eq.1 hk with q2 | q2
    ·exact hq k q2
    ·rw[q2]; exact Ne.symm q
  rw[e,ih,qw0 (k:=τ N) (h1 N (by omega)) λb _ hne=>if_neg hne,if_pos rfl,sm]
  congr 1
  refine qg3 λq hq=>?_
  try dsimp only
  rw[if_neg λk=>by have:=h2 q N (by omega) (by omega) k; omega]
def mkM (n W:Nat) (A:Nat->Nat->Int):List (List Int):=(List.range n).map λa=>(List.range W).map λc=>A a c
theorem w6t {n W:Nat} (A:Nat->Nat->Int) {a:Nat} (ha:a<n):nL (mkM n W A) a=(List.range W).map λc=>A a c:=by
 rw[ql4 _ _ (by simp[mkM]; exact ha)]; simp[mkM]
theorem xv3 {n W:Nat} (A:Nat->Nat->Int) {a c:Nat} (ha:a<n) (hc:c<W):nI (nL (mkM n W A) a) c=A a c:=by
 rw[w6t A ha,qg4 _ _ (by simp; exact hc)]; simp
theorem xl7 (n W:Nat) (A:Nat->Nat->Int):Mat n W (mkM n W A):=⟨by simp[mkM],λi hi=>by rw[w6t A hi]; simp⟩
theorem wr1 {n W:Nat} (A:Nat->Nat->Int) (h:n<W):∃z,Sol n W A z/\∃f,f<W/\z f≠0:=by
 have hM:=xl7 n W A
 have hst:=q46 hM W (Nat.le_refl _)
 have hpl:=hst.pl
 obtain⟨f,hf,hq⟩:=Asc.free (N:=W) (P:=(qd2 (mkM n W A) W).2) (by omega)
 obtain⟨z,z1,z2,_⟩:=hst.free (Nat.le_refl _) hf hq λi h1 h2=>hst.zero i h1 h2 f hf
 refine⟨z,λa ha=>?_,f,hf,z2⟩
 rw[<- z1 a ha]
 refine qg3 λc hc=>?_
 unfold rowOf
 rw[xv3 A ha hc]
theorem xl8 {n:Nat} {B:Nat->Nat->Int} {lam:Nat->Int} (h:∀j,j<n->(sm n λi=>lam i*B i j)=0) {r:Nat} (hr:r<n) (hl:lam r≠0):det n B=0:=by
 have h1:=wz5 B hr lam n (Nat.le_refl _)
 rw[if_pos hr] at h1
 have h2:det n (upd B r λj=>sm n λi=>lam i*B i j)=det n (upd B r λ_=>0):=qh8 n λi j hi hj=>by
  unfold upd; split
  ·exact h j hj
  ·rfl
 rw[h2,q0m hr] at h1
 exact qd5 h1.symm hl
theorem xl9 {n:Nat} {B:Nat->Nat->Int} {k l:Nat} (hk:k<n) (hl:l<n) (hne:k≠l) (h:∀i,i<n->B i k=B i l):det n B=0:=by
 obtain⟨z,z1,f,hf,z2⟩:=wr1 (n:=n-1) (W:=n) (λa c=>B c (skp l a)) (by omega)
 have e:∀j,j<n->j≠l->(sm n λi=>z i*B i j)=0:=λj hj hne=>by
  have h1:=z1 (if j<l then j else j-1) (by split <;> omega)
  have h2:skp l (if j<l then j else j-1)=j:=by
   by_cases q:j<l
   ·rw[if_pos q]; unfold skp; rw[if_pos q]
   ·rw[if_neg q]; unfold skp; rw[if_neg (by omega)]; omega
  try dsimp only at h1
  rw[h2] at h1
  rw[<- h1]
  exact qg3 λi hi=>Int.mul_comm _ _
 refine xl8 (lam:=z) (λj hj=>?_) hf z2
 by_cases q:j=l
 ·rw[q,<- e k hk hne]
  refine qg3 λi hi=>?_
  rw[h i hi]
 ·exact e j hj q
theorem xm0 {n:Nat} {A:Nat->Nat->Int} (h:∀lam:Nat->Int,(∀j,j<n->(sm n λi=>lam i*A i j)=0)->∀i,i<n->lam i=0):det n A≠0:=by
 refine xv0 λk hk=>?_
 obtain⟨z,z1,f,hf,z2⟩:=wr1 (n:=n) (W:=n+1) (λj c=>if c<n then A c j else if k=j then 1 else 0) (by omega)
 have e:∀j,j<n->(sm n λi=>z i*A i j)+(if k=j then 1 else 0)*z n=0:=λj hj=>by
  have h1:=z1 j hj
  rw[sm] at h1
  try dsimp only at h1
  rw[if_neg (Nat.lt_irrefl _)] at h1
  have h2:(sm n λi=>z i*A i j)=sm n λc=>(if c<n then A c j else if k=j then 1 else 0)*z c:=qg3 λi hi=>by
   try dsimp only
   rw[if_pos hi,Int.mul_comm]
  rw[h2]
  exact h1
 have hn:z n≠0:=λhz=>by
  have h2:=h z λj hj=>by
   have:=e j hj
   rw[hz,Int.mul_zero,Int.add_zero] at this
   exact this
  rcases Nat.lt_or_ge f n with q | q
  ·exact z2 (h2 f q)
  ·exact z2 (by rw[show f=n by omega]; exact hz)
 refine⟨- z n,z,by omega,λj hj=>?_⟩
 have:=e j hj
 split
 ·rename_i q; rw[if_pos q] at this; omega
 ·rename_i q; rw[if_neg q] at this; omega
def isP (P:List Int) (c:Nat):Prop:=∃q,q<P.length/\nI P q=(c:Int)
theorem wa7 {P:List Int} {c:Nat}:¬isP P c↔∀q,q<P.length->nI P q≠(c:Int):=
 ⟨λh q hq e=>h ⟨q,hq,e⟩,λh ⟨q,hq,e⟩=>h q hq e⟩
theorem St.isP_at {n W j:Nat} {R:Nat->Nat->Int} {rows:List (List Int)} {P:List Int} (h:St n W R j rows P) {k:Nat} (hk:k<P.length):isP P (nI P k).toNat:=⟨k,hk,by have:=(h.pos k hk).1; omega⟩
theorem St.row_eq {n W:Nat} {R:Nat->Nat->Int} {rows:List (List Int)} {P:List Int} (h:St n W R W rows P) {z:Nat->Int} (hz:Sol n W R z) {f:Nat} (hf:f<W) (hnp:¬isP P f) (h0:∀c,c<W->c≠f->¬isP P c->z c=0) {k:Nat} (hk:k<P.length) :
  nI (nL rows k) (nI P k).toNat*z (nI P k).toNat+nI (nL rows k) f*z f=0:=by
 have hpl:=h.pl
 have hp:=h.pos k hk
 have e:=(h.sol z).1 hz k (by omega)
 unfold dt at e
 have hne:(nI P k).toNat≠f:=λq=>hnp (by rw[<- q]; exact h.isP_at hk)
 rw[q8q (k:=(nI P k).toNat) (l:=f) (by omega) hf hne λc hc h1 h2=>?_] at e
 ·exact e
 ·try dsimp only
  by_cases q:isP P c
  ·obtain⟨q2,hq2,e2⟩:=q
   have:=(h.pos q2 hq2).2.2.2.2 k (by omega) λe3=>h1 (by rw[e3,e2]; rfl)
   rw[e2,Int.toNat_natCast] at this
   rw[this,Int.zero_mul]
  ·rw[h0 c hc h2 q,Int.mul_zero]
theorem St.sol_mk {n W:Nat} {R:Nat->Nat->Int} {rows:List (List Int)} {P:List Int} (h:St n W R W rows P) {z:Nat->Int} {f:Nat} (hf:f<W) (hnp:¬isP P f) (h0:∀c,c<W->c≠f->¬isP P c->z c=0)
  (hr:∀k,k<P.length->nI (nL rows k) (nI P k).toNat*z (nI P k).toNat+nI (nL rows k) f*z f=0):Sol n W R z:=by
 refine(h.sol z).2 λi hi=>?_
 unfold dt
 rcases Nat.lt_or_ge i P.length with q | q
 ·have hp:=h.pos i q
  have hne:(nI P i).toNat≠f:=λq2=>hnp (by rw[<- q2]; exact h.isP_at q)
  rw[q8q (k:=(nI P i).toNat) (l:=f) (by omega) hf hne λc hc h1 h2=>?_]
  ·exact hr i q
  ·try dsimp only
   by_cases q1:isP P c
   ·obtain⟨q2,hq2,e2⟩:=q1
    have:=(h.pos q2 hq2).2.2.2.2 i hi λe3=>h1 (by rw[e3,e2]; rfl)
    rw[e2,Int.toNat_natCast] at this
    rw[this,Int.zero_mul]
   ·rw[h0 c hc h2 q1,Int.mul_zero]
 ·exact qt1 λc hc=>by
   try dsimp only
   rw[h.zero i q hi c hc,Int.zero_mul]
theorem St.piv_same {n W:Nat} {R:Nat->Nat->Int} {rows rows':List (List Int)} {P P':List Int} (h:St n W R W rows P) (h':St n W R W rows' P') {f:Nat} (hp:isP P f):isP P' f:=Classical.byContradiction λhn=>by
 obtain⟨k,hk,e⟩:=hp
 have hpk:=h.pos k hk
 rw[e,Int.toNat_natCast] at hpk
 have hf:f<W:=by omega
 have hpl':=h'.pl
 obtain⟨z,z1,z2,z3⟩:=h'.free (Nat.le_refl _) hf (wa7.1 hn) λi h1 h2=>h'.zero i h1 h2 f hf
 have zl:∀c,c<W->f<c->z c=0:=λc hc hfc=>by
  by_cases q:isP P' c
  ·obtain⟨q2,hq2,e2⟩:=q
   have h1:=h'.row_eq z1 hf hn (λc hc h1 h2=>z3 c hc h1 (wa7.1 h2)) hq2
   have h2:=h'.pos q2 hq2
   rw[e2,Int.toNat_natCast] at h1 h2
   rw[h2.2.2.2.1 f hfc,Int.zero_mul,Int.add_zero] at h1
   exact qd5 h1 (by omega)
  ·exact z3 c hc (by omega) (wa7.1 q)
 have hpl:=h.pl
 have h1:=(h.sol z).1 z1 k (by omega)
 unfold dt at h1
 rw[qw0 (k:=f) hf λc hc hne=>?_] at h1
 ·exact absurd (qd5 h1 (by omega)) z2
 ·try dsimp only
  rcases Nat.lt_or_ge c f with q | q
  ·rw[hpk.2.2.2.1 c q,Int.zero_mul]
  ·rw[zl c hc (by omega),Int.mul_zero]
theorem St.basis {n W:Nat} {R:Nat->Nat->Int} {rows:List (List Int)} {P:List Int} (h:St n W R W rows P):∃τ:Nat->Nat,(∀i,i<P.length->τ i<n)/\∀k,k<P.length->∃(c:Int) (lam:Nat->Int),c≠0/\∀col,col<W->(sm P.length λq=>lam q*R (τ q) col)=c*nI (nL rows k) col:=by
 obtain⟨ρ,pv,τ,hE,t1,t2,t3,t4,t5,t6⟩:=h.tag
 have hpl:=h.pl
 refine⟨τ,λi hi=>t1 i (by omega),λk hk=>?_⟩
 obtain⟨c,l,hc,hl,hs,_⟩:=hE.comb (τ k) (t1 k (by omega))
 refine⟨c,λq=>l (τ q),hc,λcol hcol=>?_⟩
 rw[<- t4 k (by omega) col hcol,hl col hcol]
 refine(wa6 P.length (f:=λb=>l b*R b col) (λq hq=>t1 q (by omega)) (λq k hq hk=>t2 q k (by omega) (by omega)) λb hb hq=>?_).symm
 try dsimp only
 obtain⟨i,hi,rfl⟩:=t3 b hb
 have hiN:¬i<P.length:=λq=>hq i q rfl
 have hl0:l (τ i)=0:=Classical.byContradiction λq=>by
  rcases hs (τ i) hb q with q2 | q2
  ·rw[t5 i hi,if_neg hiN] at q2; exact q2 rfl
  ·exact hq k hk q2.symm
 rw[hl0,Int.zero_mul]
theorem St.minors {n W:Nat} {R:Nat->Nat->Int} {rows:List (List Int)} {P:List Int} (h:St n W R W rows P) (hn:n<=6) (h1:∀a c,a<n->c<W->(R a c).natAbs<=1) :
  ∃D:Int,D≠0/\D.natAbs<=160/\∀f,f<W->¬isP P f->∃w:Nat->Int,(∀k,k<P.length->(w k).natAbs<=160)/\∀k,k<P.length->nI (nL rows k) (nI P k).toNat*w k+nI (nL rows k) f*D=0:=by
 obtain⟨τ,t1,hcomb⟩:=h.basis
 have hpl:=h.pl
 have hpW:∀k,k<P.length->(nI P k).toNat<W:=λk hk=>by have:=h.pos k hk; omega
 have hrow:∀k,k<P.length->∀c,c<P.length->nI (nL rows k) (nI P c).toNat=if k=c then nI (nL rows k) (nI P k).toNat else 0:=λk hk c hc=>by
  by_cases q:k=c
  ·rw[if_pos q,<- q]
  ·rw[if_neg q]
   exact(h.pos c hc).2.2.2.2 k (by omega) q
 have hpp:∀k,k<P.length->0<nI (nL rows k) (nI P k).toNat:=λk hk=>(h.pos k hk).2.2.1
 -- what all the first rows say is said by the reduced ones
 have tell:∀(m:Nat) (s:Nat->Nat) (w:Nat->Int),(∀c,c<m->s c<W)->(∀b,b<P.length->(sm m λc=>R (τ b) (s c)*w c)=0)->∀k,k<P.length->(sm m λc=>nI (nL rows k) (s c)*w c)=0:=λm s w hs hw k hk=>by
  obtain⟨c0,lam,hc0,hl⟩:=hcomb k hk
  refine qd5 (a:=c0) ?_ hc0
  rw[<- qt2]
  have e:(sm m λc=>c0*(nI (nL rows k) (s c)*w c))=sm m λc=>sm P.length λq=>lam q*(R (τ q) (s c)*w c):=qg3 λc hc=>by
   try dsimp only
   rw[<- Int.mul_assoc,<- hl (s c) (hs c hc),Int.mul_comm,<- qt2]
   refine qg3 λq hq=>?_
   grind
  rw[e,w58]
  refine qt1 λq hq=>?_
  try dsimp only
  rw[qt2,hw q hq,Int.mul_zero]
 refine⟨det P.length λa b=>R (τ b) (nI P a).toNat,xm0 λlam hlam k hk=>?_,w6g (by omega) λa b ha hb=>h1 _ _ (t1 b hb) (hpW a ha),λf hf hnp=>?_⟩
 ·have e:=tell P.length (λa=>(nI P a).toNat) lam hpW (λb hb=>by
   rw[<- hlam b hb]
   exact qg3 λc hc=>Int.mul_comm _ _) k hk
  rw[qw0 (k:=k) hk λi hi hne=>by
   try dsimp only
   rw[hrow k hk i hi,if_neg (Ne.symm hne),Int.zero_mul]] at e
  exact qd5 e (by have:=hpp k hk; omega)
 ·obtain⟨s,hs0,hsk⟩:∃s:Nat->Nat,s 0=f/\∀c,s (c+1)=(nI P c).toNat:=⟨λc=>match c with | 0=>f | c+1=>(nI P c).toNat,rfl,λ_=>rfl⟩
  have hsW:∀c,c<P.length+1->s c<W:=λc hc=>by
   cases c with
   | zero=>rw[hs0]; exact hf
   | succ c=>rw[hsk]; exact hpW c (by omega)
  obtain⟨w,hw⟩:∃w:Nat->Int,∀c,w c=sgn c*det P.length λa b=>R (τ b) (s (skp c a)):=⟨_,λ_=>rfl⟩
  have e0:w 0=det P.length λa b=>R (τ b) (nI P a).toNat:=by
   rw[hw,show sgn 0=1 from rfl,Int.one_mul]
   refine qh8 _ λa b ha hb=>?_
   have:skp 0 a=a+1:=by unfold skp; rw[if_neg (Nat.not_lt_zero _)]
   rw[this,hsk]
  refine⟨λk=>w (k+1),λk hk=>?_,λk hk=>?_⟩
  ·try dsimp only
   rw[hw,Int.natAbs_mul,wa3,Nat.one_mul]
   exact w6g (by omega) λa b ha hb=>h1 _ _ (t1 b hb) (hsW _ (q6w ha))
  ·have e:=tell (P.length+1) s w hsW (λb hb=>by
    have hd:det (P.length+1) (λc j=>if j=0 then R (τ b) (s c) else R (τ (j-1)) (s c))=0:=xl9 (k:=0) (l:=b+1) (by omega) (by omega) (by omega) λi hi=>by
     try dsimp only
     rw[if_pos rfl,if_neg (by omega),Nat.add_sub_cancel]
    rw[det] at hd
    rw[<- hd]
    refine qg3 λc hc=>?_
    try dsimp only
    rw[if_pos rfl,hw]
    have:det P.length (λa b=>R (τ b) (s (skp c a)))=det P.length λa b_1=>if b_1+1=0 then R (τ b) (s (skp c a)) else R (τ (b_1+1-1)) (s (skp c a)):=qh8 _ λi j hi hj=>by
     rw[if_neg (by omega),Nat.add_sub_cancel]
    rw[<- this]
    grind) k hk
   rw[q8q (k:=k+1) (l:=0) (by omega) (by omega) (by omega) λc hc h2 h3=>?_] at e
   ·try dsimp only at e
    rw[hsk,hs0,e0] at e
    exact e
   ·try dsimp only
    cases c with
    | zero=>exact absurd rfl h3
    | succ c=>rw[hsk,hrow k hk c (by omega),if_neg (by omega),Int.zero_mul]
theorem St.piv_160 {n W:Nat} {R:Nat->Nat->Int} {rows:List (List Int)} {P:List Int} (h:St n W R W rows P) (hn:n<=6) (h1:∀a c,a<n->c<W->(R a c).natAbs<=1) {k:Nat} (hk:k<P.length):(nI (nL rows k) (nI P k).toNat).natAbs<=160:=by
 have hpl:=h.pl
 have hp:=h.pos k hk
 obtain⟨D,hD,hD2,hw⟩:=h.minors hn h1
 obtain⟨ρ,pv,τ,hE,t1,t2,t3,t4,t5,t6⟩:=h.tag
 rcases t6 k (by omega) with⟨s,hs,e⟩ | e | e
 ·have:=h1 (τ k) (nI P k).toNat (t1 k (by omega)) (by omega)
  rw[e _ (by omega),Int.natAbs_mul]
  have:s.natAbs=1:=by rcases hs with rfl | rfl <;> rfl
  rw[this]; omega
 ·have:=e (nI P k).toNat (by omega)
  omega
 ·have hx:∀c,∃x:Int,c<W->D*nI (nL rows k) c=nI (nL rows k) (nI P k).toNat*x/\(c=(nI P k).toNat->x=D):=λc=>by
   by_cases q:c=(nI P k).toNat
   ·exact⟨D,λ_=>⟨by rw[q,Int.mul_comm],λ_=>rfl⟩⟩
   ·by_cases q2:isP P c
    ·obtain⟨q3,hq3,e3⟩:=q2
     refine⟨0,λ_=>⟨?_,λq4=>absurd q4 q⟩⟩
     have:=(h.pos q3 hq3).2.2.2.2 k (by omega) λq4=>q (by rw[q4,e3]; rfl)
     rw[e3,Int.toNat_natCast] at this
     rw[this,Int.mul_zero,Int.mul_zero]
    ·by_cases q4:c<W
     ·obtain⟨w,_,w2⟩:=hw c q4 q2
      have:=w2 k hk
      exact⟨- w k,λ_=>⟨by grind,λq4=>absurd q4 q⟩⟩
     ·exact⟨0,λq5=>absurd q5 q4⟩
  obtain⟨x,hx⟩:=Classical.axiomOfChoice hx
  have:=wk1 (W:=W) (r:=nI (nL rows k)) (s:=x) (α:=D) (β:=nI (nL rows k) (nI P k).toNat) hD (λc hc=>(hx c hc).1) e (nI P k).toNat (by omega)
  rw[(hx _ (by omega)).2 rfl] at this
  omega
structure KV (n W:Nat) (R:Nat->Nat->Int) (P:List Int) (f:Nat) (v:List Int):Prop where
 len:v.length=W
 sol:Sol n W R (nI v)
 free:∀c,c<W->c≠f->¬isP P c->nI v c=0
 pos:0<nI v f
theorem KV.prim {n W:Nat} {R:Nat->Nat->Int} {P:List Int} {f:Nat} {v:List Int} (h:KV n W R P f v) (hf:f<W):KV n W R P f (qj0 v):=by
 have hl:=h.len
 have hg:0<max (gcdL v) 1:=by omega
 have hm:∀c,c<W->max (gcdL v) 1*nI (qj0 v) c=nI v c:=λc hc=>qw2 v (by omega)
 refine⟨by rw[qm3]; exact hl,λa ha=>?_,λc hc h1 h2=>?_,?_⟩
 ·have:=h.sol a ha
  refine qd5 (a:=max (gcdL v) 1) ?_ (by omega)
  rw[<- qt2,<- this]
  refine qg3 λc hc=>?_
  try dsimp only
  rw[<- hm c hc]
  grind
 ·have:=hm c hc
  rw[h.free c hc h1 h2] at this
  exact qd5 this (by omega)
 ·have:=hm f hf
  have:=h.pos
  exact wk5 hg (by omega)
theorem KV.trans {n W:Nat} {R:Nat->Nat->Int} {P P':List Int} {f:Nat} {v:List Int} (h:KV n W R P f v) (hP:∀c,isP P c↔isP P' c):KV n W R P' f v:=
 ⟨h.len,h.sol,λc hc h1 h2=>h.free c hc h1 λq=>h2 ((hP c).1 q),h.pos⟩
theorem KV.cross {n W:Nat} {R:Nat->Nat->Int} {rows:List (List Int)} {P:List Int} (hs:St n W R W rows P) {f:Nat} (hf:f<W) (hnp:¬isP P f) {v u:List Int} (hv:KV n W R P f v) (hu:KV n W R P f u):∀c,c<W->nI u f*nI v c=nI v f*nI u c:=λc hc=>by
 by_cases q:c=f
 ·rw[q,Int.mul_comm]
 ·by_cases q2:isP P c
  ·obtain⟨k,hk,e⟩:=q2
   have a:=hs.row_eq hv.sol hf hnp hv.free hk
   have b:=hs.row_eq hu.sol hf hnp hu.free hk
   have hp:=(hs.pos k hk).2.2.1
   rw[e,Int.toNat_natCast] at a b hp
   have:nI (nL rows k) c*(nI u f*nI v c-nI v f*nI u c)=0:=by grind
   have:=qd5 this (by omega)
   omega
  ·rw[hv.free c hc q q2,hu.free c hc q q2,Int.mul_zero,Int.mul_zero]
theorem Prim.gcd {v:List Int} {W f:Nat} (h:Prim v) (hl:v.length=W) (hf:f<W) (hp:0<nI v f):∀d:Nat,(∀c,c<W->d∣(nI v c).natAbs)->d=1:=by
 subst hl
 rcases h with h | h
 ·have:=h f hf; omega
 ·exact h
theorem KV.uniq {n W:Nat} {R:Nat->Nat->Int} {rows:List (List Int)} {P:List Int} (hs:St n W R W rows P) {f:Nat} (hf:f<W) (hnp:¬isP P f) {v u:List Int} (hv:KV n W R P f v) (hu:KV n W R P f u) (pv:Prim v) (pu:Prim u):v=u:=by
 have hc:=hv.cross hs hf hnp hu
 have a:=wk1 (W:=W) (r:=nI v) (s:=nI u) (α:=nI u f) (β:=nI v f) (by have:=hu.pos; omega) hc (pv.gcd hv.len hf hv.pos)
 have b:=wk1 (W:=W) (r:=nI u) (s:=nI v) (α:=nI v f) (β:=nI u f) (by have:=hv.pos; omega) (λc h=>(hc c h).symm) (pu.gcd hu.len hf hu.pos)
 have hff:nI u f=nI v f:=by
  have:=a f hf; have:=b f hf; have:=hv.pos; have:=hu.pos; omega
 have h1:=hv.len
 have h2:=hu.len
 refine List.ext_getElem (by omega) λi hi hi2=>?_
 rw[<- qg4 v i hi,<- qg4 u i hi2]
 have:=hc i (by omega)
 rw[hff] at this
 exact Int.eq_of_mul_eq_mul_left (by have:=hv.pos; omega) this
theorem KV.small {n W:Nat} {R:Nat->Nat->Int} {rows:List (List Int)} {P:List Int} (hs:St n W R W rows P) (hn:n<=6) (h1:∀a c,a<n->c<W->(R a c).natAbs<=1) {f:Nat} (hf:f<W) (hnp:¬isP P f) {v:List Int} (hv:KV n W R P f v) (pv:Prim v):∀x∈v,x.natAbs<=160:=by
 obtain⟨D,hD,hD2,hw⟩:=hs.minors hn h1
 obtain⟨w,w1,w2⟩:=hw f hf hnp
 have hx:∀c,∃x:Int,c<W->D*nI v c=nI v f*x/\x.natAbs<=160:=λc=>by
  by_cases q:c=f
  ·exact⟨D,λ_=>⟨by rw[q,Int.mul_comm],hD2⟩⟩
  ·by_cases q2:isP P c
   ·obtain⟨k,hk,e⟩:=q2
    refine⟨w k,λ_=>⟨?_,w1 k hk⟩⟩
    have a:=hs.row_eq hv.sol hf hnp hv.free hk
    have b:=w2 k hk
    have hp:=(hs.pos k hk).2.2.1
    rw[e,Int.toNat_natCast] at a b hp
    have:nI (nL rows k) c*(D*nI v c-nI v f*w k)=0:=by grind
    have:=qd5 this (by omega)
    omega
   ·exact⟨0,λhc=>⟨by rw[hv.free c hc q q2,Int.mul_zero,Int.mul_zero],by decide⟩⟩
 obtain⟨x,hx⟩:=Classical.axiomOfChoice hx
 have:=wk1 (W:=W) (r:=nI v) (s:=x) (α:=D) (β:=nI v f) hD (λc hc=>(hx c hc).1) (pv.gcd hv.len hf hv.pos)
 intro y hy
 obtain⟨c,hc,rfl⟩:=q8t hy
 have hl:=hv.len
 exact Nat.le_trans (this c (by omega)) (hx c (by omega)).2
end Go.Proofs.YtempacilejhbgaaGreatDoor
