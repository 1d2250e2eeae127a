/- The program's test of a fit is the reference's: its fractions are small. Plain mathematics. No condition. -/
import Derived.Test.YtempacilejhbgaaW4
import Derived.Test.YtempacilejhbgaaW10
set_option linter.unusedVariables false
namespace Go.Proofs.Ytempacilejhbgaa
open Go Go.RowKit Eng
theorem qu8 (a b:List (List Int)) {i:Nat} (h:i<a.length):nL (a++b) i=nL a i:=by
 rw[qk3 _ i (by rw[List.length_append]; omega),qk3 _ i h,List.getElem_append_left h]
theorem q2j (a b:List (List Int)) (i:Nat):nL (a++b) (a.length+i)=nL b i:=by
 unfold nL qa3
 rw[List.getD_eq_getElem?_getD,List.getD_eq_getElem?_getD,List.getElem?_append_right (by omega)]
 congr 2; omega
theorem w9r {f:List Int->List Int} {l:List (List Int)} {i:Nat} (h:i<l.length):nL (l.map f) i=f (nL l i):=by
 rw[qk3 _ i (by simpa using h),qk3 _ i h,List.getElem_map]
theorem wh5 (left:List (List Int)) (p:List Int) (j a:Nat):∀K,(qo6 left p j a K).length=(if a<K then K-1 else K)/\∀i,i<(qo6 left p j a K).length->nL (qo6 left p j a K) i=qh4 (nL left (if i<a then i else i+1)) p j
 | 0=>⟨by rw[if_neg (Nat.not_lt_zero _)]; rfl,λi hi=>absurd hi (Nat.not_lt_zero _)⟩
 | K+1=>by
  obtain⟨h1,h2⟩:=wh5 left p j a K
  rw[qo6]
  by_cases e:K=a
  ·subst e
   rw[if_neg (λq=>q rfl)]
   rw[if_neg (Nat.lt_irrefl _)] at h1
   exact⟨by rw[h1,if_pos (Nat.lt_succ_self _)]; rfl,h2⟩
  ·rw[if_pos (by omega)]
   refine⟨?_,λi hi=>?_⟩
   ·rw[List.length_append,h1]
    show _+1=_
    split <;> split <;> omega
   ·rw[List.length_append] at hi
    have hi:i<(qo6 left p j a K).length+1:=hi
    rcases Nat.lt_succ_iff_lt_or_eq.1 hi with q | q
    ·rw[qu8 _ _ q]; exact h2 i q
    ·rw[q]
     have:=q2j (qo6 left p j a K) [qh4 (nL left K) p j] 0
     rw[Nat.add_zero] at this
     rw[this,qd0,h1]
     congr 2
     split <;> split <;> omega
theorem q7x {left:List (List Int)} {j:Nat}:∀K,lastTo left j K<0->∀i,i<K->nI (nL left i) j=0
 | 0,_,i,hi=>absurd hi (Nat.not_lt_zero _)
 | K+1,h,i,hi=>by
  rw[lastTo] at h
  split at h
  ·omega
  ·rename_i hz
   rcases Nat.lt_succ_iff_lt_or_eq.1 hi with q | q
   ·exact q7x K h i q
   ·rw[q]; exact Classical.not_not.1 hz
theorem wh6 {left:List (List Int)} {j:Nat}:∀K,0<=lastTo left j K->nI (nL left (lastTo left j K).toNat) j≠0
 | 0,h=>by have:(0:Int)<=-1:=h; omega
 | K+1,h=>by
  rw[lastTo] at h ⊢
  split at h
  ·rename_i hz
   rw[if_pos hz]
   simpa using hz
  ·rename_i hz
   rw[if_neg hz]
   exact wh6 K h
theorem q4d (l:List Int) (n:Int) (c:Nat):nI (q5q l n) c=nI l c*n:=by
 rcases Nat.lt_or_ge c l.length with h | h
 ·unfold q5q; rw[w9p h]
 ·rw[q1h _ h,q1h _ (by rw[qu5]; exact h),Int.zero_mul]
structure Rst (n W:Nat) (R:Nat->Nat->Int) (j:Nat) (s:RS):Prop where
 st:St n W R j (s.done_++s.left) s.piv
 cnt:s.done_.length=s.piv.length
 prim:∀x∈s.left,Prim x
theorem w8k (left:List (List Int)) (j:Nat) (a:Int) (hne:nI (nL left a.toNat) j≠0):∃s:Int,(s=1\/s=-1)/\(∀c,nI (w4a left j a) c=s*nI (nL left a.toNat) c)/\0<nI (w4a left j a) j:=by
 unfold w4a
 by_cases q:nI (nL left a.toNat) j<0
 ·rw[if_pos q]
  exact⟨-1,.inr rfl,λc=>by rw[q4d]; omega,by rw[q4d]; omega⟩
 ·rw[if_neg q]
  exact⟨1,.inl rfl,λc=>by omega,by omega⟩
theorem w8l {n W j:Nat} {R:Nat->Nat->Int} {s:RS} (hj:j<W) (h:Rst n W R j s):Rst n W R (j+1) (w4b s j):=by
 obtain⟨left,dn,P⟩:=s
 obtain⟨hst,hcnt,hprim⟩:=h
 have hst:St n W R j (dn++left) P:=hst
 have hcnt:dn.length=P.length:=hcnt
 have hprim:∀x∈left,Prim x:=hprim
 have hlen:=hst.len
 rw[List.length_append] at hlen
 have hL:∀i,i<left.length->nL (dn++left) (P.length+i)=nL left i:=λi hi=>by rw[<- hcnt]; exact q2j _ _ _
 have hD:∀i,i<P.length->nL (dn++left) i=nL dn i:=λi hi=>qu8 _ _ (by omega)
 unfold w4b
 dsimp only
 split
 ·rename_i hn
  refine⟨hst.skip λi h1 h2=>?_,hcnt,hprim⟩
  have:=hL (i-P.length) (by omega)
  rw[show P.length+(i-P.length)=i by omega] at this
  rw[this]
  exact q7x _ hn _ (by omega)
 ·rename_i hn
  have hn:0<=lastTo left j left.length:=Int.not_lt.1 hn
  have hlt:=(q5r left j left.length).1
  have hne:=wh6 _ hn
  obtain⟨sg,hs,hsx,hpos⟩:=w8k left j (lastTo left j left.length) hne
  have hplen:(w4a left j (lastTo left j left.length)).length=(nL left (lastTo left j left.length).toNat).length:=by
   unfold w4a; split
   ·exact qu5 _ _
   ·rfl
  generalize hA:w4a left j (lastTo left j left.length)=p at hsx hpos hplen ⊢
  obtain⟨a,ha⟩:∃a:Nat,lastTo left j left.length=(a:Int):=⟨(lastTo left j left.length).toNat,by omega⟩
  rw[ha] at hlt hne hsx hplen ⊢
  rw[Int.toNat_natCast] at hne hsx hplen
  have halt:a<left.length:=by omega
  obtain⟨r1,r2⟩:=wh5 left p j a left.length
  rw[if_pos halt] at r1
  have hW:∀i,i<left.length->(nL left i).length=W:=λi hi=>by rw[<- hL i hi]; exact hst.each _ (by omega)
  have hWd:∀i,i<P.length->(nL dn i).length=W:=λi hi=>by rw[<- hD i hi]; exact hst.each _ (by omega)
  have hdl:(dn.map λr=>qh4 r p j).length=P.length:=by simp[hcnt]
  have hA1:∀i,i<P.length->nL (((dn.map λr=>qh4 r p j)++[p])++qo6 left p j a left.length) i=qh4 (nL dn i) p j:=λi hi=>by
   rw[qu8 _ _ (by rw[List.length_append]; omega),qu8 _ _ (by omega),w9r (by omega)]
  have hA2:nL (((dn.map λr=>qh4 r p j)++[p])++qo6 left p j a left.length) P.length=p:=by
   rw[qu8 _ _ (by rw[List.length_append,hdl]; exact Nat.lt_succ_self _)]
   have:=q2j (dn.map λr=>qh4 r p j) [p] 0
   rw[hdl,Nat.add_zero] at this
   rw[this,qd0]
  have hA3:∀i,i<left.length-1->nL (((dn.map λr=>qh4 r p j)++[p])++qo6 left p j a left.length) (P.length+1+i)=qh4 (nL left (if i<a then i else i+1)) p j:=λi hi=>by
   have e:((dn.map λr=>qh4 r p j)++[p]).length=P.length+1:=by rw[List.length_append,hdl]; rfl
   have:=q2j ((dn.map λr=>qh4 r p j)++[p]) (qo6 left p j a left.length) i
   rw[e] at this
   rw[this,r2 i (by omega)]
  refine⟨?_,by rw[List.length_append,List.length_append,hdl]; rfl,λx hx=>?_⟩
  ·refine hst.step hj (by omega) ?_ (λi hi=>?_) (λi=>if i<P.length then i else if i=P.length then P.length+a else if i-P.length-1<a then i-1 else i) (λi hi=>?_) (λi k hi hk e=>?_) (λi hi=>?_) (λi hi=>?_) ⟨sg,hs,λc hc=>?_⟩ ?_ λi hi hne2=>?_
   ·rw[List.length_append,List.length_append,hdl,r1]
    show P.length+1+_=n
    omega
   ·rcases Nat.lt_trichotomy i P.length with q | q | q
    ·rw[hA1 i q,qs6]; exact hWd i q
    ·rw[q,hA2,hplen]; exact hW a halt
    ·have:=hA3 (i-P.length-1) (by omega)
     rw[show P.length+1+(i-P.length-1)=i by omega] at this
     rw[this,qs6]
     exact hW _ (by split <;> omega)
   ·(try dsimp only); split
    ·omega
    ·split
     ·omega
     ·split <;> omega
   ·try dsimp only at e
    split at e <;> split at e <;> (try split at e) <;> (try split at e) <;> (try split at e) <;> (try split at e) <;> omega
   ·rcases Nat.lt_or_ge i P.length with q | q
    ·exact⟨i,hi,by(try dsimp only); rw[if_pos q]⟩
    ·rcases Nat.lt_trichotomy i (P.length+a) with k | k | k
     ·exact⟨i+1,by omega,by(try dsimp only); rw[if_neg (by omega),if_neg (by omega),if_pos (by omega)]; omega⟩
     ·exact⟨P.length,by omega,by(try dsimp only); rw[if_neg (by omega),if_pos rfl]; omega⟩
     ·exact⟨i,hi,by(try dsimp only); rw[if_neg (by omega),if_neg (by omega),if_neg (by omega)]⟩
   ·(try dsimp only); rw[if_pos hi]
   ·rw[hA2,if_neg (Nat.lt_irrefl _),if_pos rfl,hL a halt]; exact hsx c
   ·rw[hA2]; exact hpos
   ·rw[hA2]
    try dsimp only
    rcases Nat.lt_or_ge i P.length with q | q
    ·rw[hA1 i q,if_pos q,hD i q]
     exact q6c hj (hWd i q) hpos
    ·have:=hA3 (i-P.length-1) (by omega)
     rw[show P.length+1+(i-P.length-1)=i by omega] at this
     have hπi:(if i<P.length then i else if i=P.length then P.length+a else if i-P.length-1<a then i-1 else i)=(if i-P.length-1<a then i-1 else i):=by rw[if_neg (by omega),if_neg hne2]
     rw[this,hπi]
     have e:nL (dn++left) (if i-P.length-1<a then i-1 else i)=nL left (if i-P.length-1<a then i-P.length-1 else i-P.length-1+1):=by
      have:=hL (if i-P.length-1<a then i-P.length-1 else i-P.length-1+1) (by split <;> omega)
      rw[<- this]
      congr 1
      split <;> omega
     rw[e]
     exact q6c hj (hW _ (by split <;> omega)) hpos
  ·obtain⟨i,_,_,rfl⟩:=q0p _ _ _ _ _ x hx
   exact ql7 _
theorem q9n {n W:Nat} {M:List (List Int)} (h:Mat n W M):∀j,j<=W->Rst n W (rowOf M) j (qk4 M j)
 | 0,_=>by
  have hl:(M.map qr5).length=n:=by rw[List.length_map]; exact h.len
  have ha:∀i,i<n->nL (M.map qr5) i=qr5 (nL M i):=λi hi=>w9r (by rw[h.len]; exact hi)
  have hm:∀i,i<n->∀c,c<W->max (gcdL (nL M i)) 1*nI (qr5 (nL M i)) c=nI (nL M i) c:=λi hi c hc=>qu7 _ (by rw[h.each i hi]; exact hc)
  refine⟨?_,rfl,λx hx=>?_⟩
  ·show St n W (rowOf M) 0 (M.map qr5) []
   refine⟨hl,λi hi=>by rw[ha i hi,qu4]; exact h.each i hi,⟨rowOf (M.map qr5),λ_=>none,id,El.start λa ha'=>⟨max (gcdL (nL M a)) 1,by omega,λj hj=>?_⟩,λi hi=>hi,λi k _ _ e=>e,λa ha=>⟨a,ha,rfl⟩,λi _ c _=>rfl,λq _=>by simp,λi hi=>?_⟩,λz=>?_,Nat.zero_le _,λi _ _ c hc=>absurd hc (Nat.not_lt_zero _),λq hq=>absurd hq (Nat.not_lt_zero _),λq k _ hk=>absurd hk (Nat.not_lt_zero _)⟩
   ·unfold rowOf
    rw[ha a ha']; exact hm a ha' j hj
   ·rw[ha i hi]
    exact(ql7 _).nice (by rw[qu4]; exact h.each i hi) _
   ·have hd:∀i,i<n->max (gcdL (nL M i)) 1*dt W (nL (M.map qr5) i) z=dt W (nL M i) z:=λi hi=>by
     have:=wu0 (W:=W) (r':=nL (M.map qr5) i) (r:=nL M i) (p:=[]) (z:=z) (α:=max (gcdL (nL M i)) 1) (β:=1) (γ:=0) λc hc=>by rw[ha i hi,hm i hi c hc]; omega
     omega
    constructor
    ·intro hz i hi
     have h1:=hd i hi
     have h2:dt W (nL M i) z=0:=hz i hi
     rw[h2] at h1
     exact qd1 h1 (by omega)
    ·intro hz i hi
     have h1:=hd i hi
     rw[hz i hi,Int.mul_zero] at h1
     exact h1.symm
  ·obtain⟨u,_,rfl⟩:=List.mem_map.1 hx
   exact ql7 u
 | j+1,hj=>w8l (by omega) (q9n h j (by omega))
theorem Prim.last {l:List Int} {N:Nat} (h:Prim l) (hl:l.length=N+1) (hz:∀c,c<N->nI l c=0):(nI l N).natAbs<=1:=by
 rcases h with h | h
 ·rw[h N (by omega)]; decide
 ·have:=h (nI l N).natAbs λc hc=>by
   rcases Nat.lt_or_ge c N with q | q
   ·rw[hz c q]; exact Nat.dvd_zero _
   ·rw[show c=N by omega]; exact Nat.dvd_refl _
  omega
theorem exL:∀(k:Nat) (p:Nat->Int),(∀q,q<k->p q≠0)->∃(L:Int) (u:Nat->Int),L≠0/\∀q,q<k->L=p q*u q
 | 0,p,_=>⟨1,λ_=>0,by decide,λq h=>absurd h (Nat.not_lt_zero _)⟩
 | k+1,p,h=>by
  obtain⟨L,u,h1,h2⟩:=exL k p λq hq=>h q (by omega)
  refine⟨L*p k,λq=>if q=k then L else u q*p k,qs9 h1 (h k (by omega)),λq hq=>?_⟩
  try dsimp only
  by_cases e:q=k
  ·rw[if_pos e,e,Int.mul_comm]
  ·rw[if_neg e,<- Int.mul_assoc,<- h2 q (by omega)]
def Sol (n W:Nat) (R:Nat->Nat->Int) (z:Nat->Int):Prop:=∀a,a<n->(sm W λc=>R a c*z c)=0
theorem St.inj {n W:Nat} {R:Nat->Nat->Int} {j:Nat} {rows:List (List Int)} {P:List Int} (h:St n W R j rows P) {q k:Nat} (hq:q<P.length) (hk:k<P.length) (e:nI P q=nI P k):q=k:=by
 rcases Nat.lt_trichotomy q k with q1 | q1 | q1
 ·have:=h.asc q k q1 hk; omega
 ·exact q1
 ·have:=h.asc k q q1 hq; omega
theorem St.free {n W:Nat} {R:Nat->Nat->Int} {j:Nat} {rows:List (List Int)} {P:List Int} (h:St n W R j rows P) (hj:j<=W) {f:Nat} (hf:f<W) (hnp:∀q,q<P.length->nI P q≠(f:Int)) (hz:∀i,P.length<=i->i<n->nI (nL rows i) f=0) :
  ∃z,Sol n W R z/\z f≠0/\∀c,c<W->c≠f->(∀q,q<P.length->nI P q≠(c:Int))->z c=0:=by
 obtain⟨L,u,hL,hu⟩:=exL P.length (λq=>nI (nL rows q) (nI P q).toNat) λq hq=>by have:=(h.pos q hq).2.2.1; (try dsimp only); omega
 have hpl:=h.pl
 have hzf:(if f=f then L else sm P.length λq=>if nI P q=(f:Int) then-u q*nI (nL rows q) f else 0)=L:=if_pos rfl
 obtain⟨z,hzd⟩:∃z:Nat->Int,∀c,z c=if c=f then L else sm P.length λq=>if nI P q=(c:Int) then-u q*nI (nL rows q) f else 0:=⟨_,λ_=>rfl⟩
 have z1:z f=L:=by rw[hzd,if_pos rfl]
 have z2:∀c,c≠f->(∀q,q<P.length->nI P q≠(c:Int))->z c=0:=λc hc hq=>by
  rw[hzd,if_neg hc]
  exact qp2 λq h=>if_neg (hq q h)
 have z3:∀q,q<P.length->z (nI P q).toNat=- u q*nI (nL rows q) f:=λq hq=>by
  have hp:=h.pos q hq
  have e:((nI P q).toNat:Int)=nI P q:=by omega
  rw[hzd,if_neg (λk=>hnp q hq (by omega)),qr7 hq λi hi hne=>by
   try dsimp only
   rw[if_neg λk=>hne (h.inj hi hq (by omega))]]
  try dsimp only
  rw[if_pos e.symm]
 refine⟨z,(h.sol z).2 λi hi=>?_,by rw[z1]; exact hL,λc hc=>z2 c⟩
 unfold dt
 rcases Nat.lt_or_ge i P.length with q | q
 ·have hp:=h.pos i q
  rw[q7u (k:=f) (l:=(nI P i).toNat) hf (by omega) (λk=>hnp i q (by omega)) λc hc h1 h2=>?_]
  ·try dsimp only
   rw[z1,z3 i q]
   have:=hu i q
   try dsimp only at this
   rw[this]
   grind
  ·try dsimp only
   by_cases hx:∃q,q<P.length/\nI P q=(c:Int)
   ·obtain⟨q2,hq2,e⟩:=hx
    have hp2:=h.pos q2 hq2
    have:nI (nL rows i) (nI P q2).toNat=0:=hp2.2.2.2.2 i hi λk=>h2 (by rw[k,e]; rfl)
    rw[e,Int.toNat_natCast] at this
    rw[this,Int.zero_mul]
   ·rw[z2 c h1 λq hq e=>hx ⟨q,hq,e⟩,Int.mul_zero]
 ·refine qp2 λc hc=>?_
  try dsimp only
  by_cases e:c=f
  ·rw[e,hz i q hi,Int.zero_mul]
  ·by_cases hx:∃q,q<P.length/\nI P q=(c:Int)
   ·obtain⟨q2,hq2,e⟩:=hx
    have hp2:=h.pos q2 hq2
    have:nI (nL rows i) (nI P q2).toNat=0:=hp2.2.2.2.2 i hi (by omega)
    rw[e,Int.toNat_natCast] at this
    rw[this,Int.zero_mul]
   ·rw[z2 c e λq hq e=>hx ⟨q,hq,e⟩,Int.mul_zero]
structure Asc (N:Nat) (P:List Int):Prop where
 at_:∀q,q<P.length->0<=nI P q/\nI P q<N
 asc:∀q k,q<k->k<P.length->nI P q<nI P k
theorem Asc.ge {N:Nat} {P:List Int} (h:Asc N P):∀q,q<P.length->(q:Int)<=nI P q
 | 0,hq=>(h.at_ 0 hq).1
 | q+1,hq=>by
  have h1:=h.ge q (by omega)
  have h2:=h.asc q (q+1) (by omega) hq
  omega
theorem Asc.le {N:Nat} {P:List Int} (h:Asc N P):P.length<=N:=by
 rcases Nat.eq_zero_or_pos P.length with q | q
 ·omega
 ·have h1:=h.ge (P.length-1) (by omega)
  have h2:=h.at_ (P.length-1) (by omega)
  omega
theorem Asc.up {N:Nat} {P:List Int} (h:Asc N P):∀d,d<P.length->nI P (P.length-1-d)+d<N
 | 0,hd=>by have:=(h.at_ (P.length-1-0) (by omega)).2; omega
 | d+1,hd=>by
  have h1:=h.up d (by omega)
  have h2:=h.asc (P.length-1-(d+1)) (P.length-1-d) (by omega) (by omega)
  omega
theorem Asc.id {N:Nat} {P:List Int} (h:Asc N P) (hl:P.length=N) {q:Nat} (hq:q<N):nI P q=q:=by
 have h1:=h.ge q (by omega)
 have h2:=h.up (P.length-1-q) (by omega)
 rw[show P.length-1-(P.length-1-q)=q by omega] at h2
 omega
theorem Asc.free {N:Nat} {P:List Int} (hl:P.length<N):∃f,f<N/\∀q,q<P.length->nI P q≠(f:Int):=by
 refine Classical.byContradiction λhno=>?_
 have hx:∀f,∃q,f<N->q<P.length/\nI P q=(f:Int):=λf=>by
  by_cases hf:f<N
  ·refine Classical.byContradiction λh2=>hno ⟨f,hf,λq hq e=>h2 ⟨q,λ_=>⟨hq,e⟩⟩⟩
  ·exact⟨0,λh=>absurd h hf⟩
 obtain⟨g,hg⟩:=Classical.axiomOfChoice hx
 obtain⟨i,k,h1,h2,h3⟩:=q3o P.length N g (λi hi=>(hg i hi).1) hl
 have e1:=(hg i (by omega)).2
 have e2:=(hg k h2).2
 rw[h3] at e1
 omega
structure Good (n N:Nat) (R:Nat->Nat->Int) (rows:List (List Int)) (P:List Int):Prop where
 st:∃j,N<=j/\j<=N+1/\St n (N+1) R j rows P
 lt:∀q,q<P.length->nI P q<N
 no:∀i,P.length<=i->i<n->nI (nL rows i) N=0
theorem Good.asc {n N:Nat} {R:Nat->Nat->Int} {rows:List (List Int)} {P:List Int} (h:Good n N R rows P):Asc N P:=by
 obtain⟨j,_,_,hs⟩:=h.st
 exact⟨λq hq=>⟨(hs.pos q hq).1,h.lt q hq⟩,hs.asc⟩
theorem Good.last {n N:Nat} {R:Nat->Nat->Int} {rows:List (List Int)} {P:List Int} (h:Good n N R rows P):∃z,Sol n (N+1) R z/\z N≠0:=by
 obtain⟨j,_,h2,hs⟩:=h.st
 obtain⟨z,z1,z2,_⟩:=hs.free h2 (f:=N) (by omega) (λq hq=>by have:=h.lt q hq; omega) h.no
 exact⟨z,z1,z2⟩
theorem Good.more {n N:Nat} {R:Nat->Nat->Int} {rows:List (List Int)} {P:List Int} (h:Good n N R rows P) (hl:P.length<N):∃z f,Sol n (N+1) R z/\f<N/\z f≠0/\z N=0:=by
 obtain⟨j,h1,h2,hs⟩:=h.st
 obtain⟨f,hf,hq⟩:=Asc.free hl
 obtain⟨z,z1,z2,z3⟩:=hs.free h2 (f:=f) (by omega) hq λi h3 h4=>hs.zero i h3 h4 f (by omega)
 exact⟨z,f,z1,hf,z2,z3 N (by omega) (by omega) λq hq=>by have:=h.lt q hq; omega⟩
theorem Good.row {n N:Nat} {R:Nat->Nat->Int} {rows:List (List Int)} {P:List Int} (h:Good n N R rows P) (hl:P.length=N) {z:Nat->Int} (hz:Sol n (N+1) R z) {k:Nat} (hk:k<N):0<nI (nL rows k) k/\nI (nL rows k) k*z k+nI (nL rows k) N*z N=0:=by
 obtain⟨j,h1,h2,hs⟩:=h.st
 have hid:=λ{q} (hq:q<N)=>h.asc.id hl hq
 have hp:=hs.pos k (by omega)
 have hpl:=hs.pl
 rw[hid hk,Int.toNat_natCast] at hp
 refine⟨hp.2.2.1,?_⟩
 have:=(hs.sol z).1 hz k (by omega)
 unfold dt at this
 rw[q7u (k:=k) (l:=N) (by omega) (by omega) (by omega) λc hc h1 h2=>?_] at this
 ·exact this
 ·have hp2:=(hs.pos c (by omega)).2.2.2.2 k (by omega) (by omega)
  rw[hid (by omega),Int.toNat_natCast] at hp2
  try dsimp only
  rw[hp2,Int.zero_mul]
theorem Good.len {n N:Nat} {R:Nat->Nat->Int} {rows rows':List (List Int)} {P P':List Int} (h:Good n N R rows P) (h':Good n N R rows' P') (hl:P.length<N):P'.length<N:=by
 rcases Nat.lt_or_ge P'.length N with q | q
 ·exact q
 ·have hl':P'.length=N:=by have:=h'.asc.le; omega
  obtain⟨z,f,z1,z2,z3,z4⟩:=h.more hl
  obtain⟨k1,k2⟩:=h'.row hl' z1 z2
  rw[z4,Int.mul_zero,Int.add_zero] at k2
  exact absurd (qd1 k2 (by omega)) z3
theorem Good.val {n N:Nat} {R:Nat->Nat->Int} {rows rows':List (List Int)} {P P':List Int} (h:Good n N R rows P) (h':Good n N R rows' P') (hl:P.length=N) (hl':P'.length=N) {k:Nat} (hk:k<N):nI (nL rows k) N*nI (nL rows' k) k=nI (nL rows' k) N*nI (nL rows k) k:=by
 obtain⟨z,z1,z2⟩:=h.last
 obtain⟨a1,a2⟩:=h.row hl z1 hk
 obtain⟨b1,b2⟩:=h'.row hl' z1 hk
 have:z N*(nI (nL rows k) N*nI (nL rows' k) k-nI (nL rows' k) N*nI (nL rows k) k)=0:=by grind
 have:=qd1 this z2
 omega
theorem w44 {n k:Nat} {s:List Int} (h:s∈qg1 (n:Nat) (k:Nat)):s.length=k/\k<=n:=by
 unfold qg1 at h
 split at h
 ·have:=we3 h
  exact⟨by omega,by omega⟩
 ·cases h
theorem q6d (l:List Int) {p:Nat} (hp:p<l.length) (x:Int) (q:Nat):nI (l.set p x) q=if q=p then x else nI l q:=by
 by_cases e:q=p
 ·subst e
  rw[if_pos rfl,qf9 _ _ (by rw[List.length_set]; exact hp),List.getElem_set_self]
 ·rw[if_neg e]
  unfold nI qa3
  rw[List.getD_eq_getElem?_getD,List.getD_eq_getElem?_getD,List.getElem?_set_ne (Ne.symm e)]
theorem q2k:∀(N:Nat) {n:Nat} {f:Nat->Int} {τ:Nat->Nat},(∀q,q<N->τ q<n)->(∀q k,q<N->k<N->τ q=τ k->q=k)->(∀b,b<n->(∀q,q<N->τ q≠b)->f b=0)->sm n f=sm N λq=>f (τ q)
 | 0,n,f,τ,_,_,h=>qp2 λb hb=>h b hb λq hq=>absurd hq (Nat.not_lt_zero _)
 | N+1,n,f,τ,h1,h2,h3=>by
  have e:sm n f=sm n (λb=>if b=τ N then 0 else f b)+sm n (λb=>if b=τ N then f b else 0):=by
   rw[<- wg6]
   refine qe0 λb _=>?_
   by_cases q:b=τ N
   ·rw[if_pos q,if_pos q]; omega
   ·rw[if_neg q,if_neg q]; omega
  have ih:=q2k N (n:=n) (f:=λb=>if b=τ N then 0 else f b) (τ:=τ) (λq hq=>h1 q (by omega)) (λq k hq hk=>h2 q k (by omega) (by omega)) λb hb hq=>by
   try dsimp only
   by_cases q:b=τ N
   ·rw[if_pos q]
   ·rw[if_neg q]
    refine h3 b hb λk hk=>?_
    rcases Nat.lt_succ_iff_lt_or_eq.1 hk with q2 | q2
    ·exact hq k q2
    ·rw[q2]; exact Ne.symm q
  rw[e,ih,qr7 (k:=τ N) (h1 N (by omega)) λb _ hne=>if_neg hne,if_pos rfl,sm]
  congr 1
  refine qe0 λq hq=>?_
  try dsimp only
  rw[if_neg λk=>by have:=h2 q N (by omega) (by omega) k; omega]
end Go.Proofs.Ytempacilejhbgaa
