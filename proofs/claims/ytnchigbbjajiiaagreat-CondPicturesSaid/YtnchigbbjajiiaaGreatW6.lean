/- Two eliminations of the same rows say the same: plain mathematics. No condition. -/
import Derived.Test.YtnchigbbjajiiaaGreatW4
set_option linter.unusedSimpArgs false
set_option linter.unusedVariables false
namespace Go.Proofs.YtnchigbbjajiiaaGreat
open Go Go.RowKit Eng
theorem qo0 (a b:List (List Int)) {i:Nat} (h:i<a.length):nL (a++b) i=nL a i:=by
 grind [qm3,List.length_append,List.getElem_append_left]
theorem qz4 (a b:List (List Int)) (i:Nat):nL (a++b) (a.length+i)=nL b i:=by
 grind [nL,qe0,List.getElem?_append_right]
theorem xi9 {f:List Int->List Int} {l:List (List Int)} {i:Nat} (h:i<l.length):nL (l.map f) i=f (nL l i):=by
 grind [qm3]
theorem wx2 (left:List (List Int)) (p:List Int) (j a:Nat):∀K,(qg0 left p j a K).length=(if a<K then K-1 else K)/\∀i,i<(qg0 left p j a K).length->nL (qg0 left p j a K) i=qe3 (nL left (if i<a then i else i+1)) p j
 | 0=>⟨by rfl,λi hi=>absurd hi (zav _)⟩
 | K+1=>by
  obtain⟨h1,h2⟩:=wx2 left p j a K
  rw[qg0]
  by_cases e:K=a
  ·grind
  ·rw[zao ow]
   refine⟨?_,λi hi=>?_⟩
   ·grind
   ·rw[zay] at hi
    have hi:i<(qg0 left p j a K).length+1:=hi
    rcases zat.1 hi with q | q
    ·grind [qo0]
    ·rw[q]
     have:=qz4 (qg0 left p j a K) [qe3 (nL left K) p j] 0
     rw[zb9] at this
     grind [wc7]
theorem we9 {left:List (List Int)} {j:Nat}:∀K,lastTo left j K<0->∀i,i<K->nI (nL left i) j=0
 | 0,_,i,hi=>absurd hi (zav _)
 | K+1,h,i,hi=>by
  rw[lastTo] at h
  split at h
  ·omega
  ·rename_i hz
   rcases zat.1 hi with q | q
   ·exact we9 K h i q
   grind
theorem q82 {left:List (List Int)} {j:Nat}:∀K,0<=lastTo left j K->nI (nL left (lastTo left j K).toNat) j≠0
 | 0,h=>by have:(0:Int)<=-1:=h; omega
 | K+1,h=>by
  rw[lastTo] at h ⊢
  split at h
  ·grind
  ·rename_i hz
   rw[zak hz]
   exact q82 K h
theorem q64 (l:List Int) (n:Int) (c:Nat):nI (qk3 l n) c=nI l c*n:=by
 rcases zap c l.length with h | h
 all_goals simp_all [qk3,xi2,wm6,qu9,Int.zero_mul]
structure Rst (n W:Nat) (R:Nat->Nat->Int) (j:Nat) (s:RS):Prop where
 st:St n W R j (s.done_++s.left) s.piv
 cnt:s.done_.length=s.piv.length
 prim:∀x∈s.left,Prim x
theorem w4q (left:List (List Int)) (j:Nat) (a:Int) (hne:nI (nL left a.toNat) j≠0):∃s:Int,(s=1\/s=-1)/\(∀c,nI (qw3 left j a) c=s*nI (nL left a.toNat) c)/\0<nI (qw3 left j a) j:=by
 unfold qw3
 by_cases q:nI (nL left a.toNat) j<0
 ·rw[zao q]
  exact⟨-1,.inr rfl,λc=>by grind [q64],by grind [q64]⟩
 ·rw[zak q]
  exact⟨1,.inl rfl,λc=>by omega,ow⟩
theorem x0p {n W j:Nat} {R:Nat->Nat->Int} {s:RS} (hj:j<W) (h:Rst n W R j s):Rst n W R (j+1) (q8g s j):=by
 obtain⟨left,dn,P⟩:=s
 obtain⟨hst,hcnt,hprim⟩:=h
 have hst:St n W R j (dn++left) P:=hst
 have hcnt:dn.length=P.length:=hcnt
 have hprim:∀x∈left,Prim x:=hprim
 have hlen:=hst.len
 rw[zay] at hlen
 have hL:∀i,i<left.length->nL (dn++left) (P.length+i)=nL left i:=λi hi=>by grind [qz4]
 have hD:∀i,i<P.length->nL (dn++left) i=nL dn i:=λi hi=>qo0 _ _ ow
 unfold q8g
 dsimp only
 split
 ·rename_i hn
  refine⟨hst.skip λi h1 h2=>?_,hcnt,hprim⟩
  have:=hL (i-P.length) ow
  grind [we9]
 ·rename_i hn
  have hn:0<=lastTo left j left.length:=zbd.1 hn
  have hlt:=(q1p left j left.length).1
  have hne:=q82 _ hn
  obtain⟨sg,hs,hsx,hpos⟩:=w4q left j (lastTo left j left.length) hne
  have hplen:(qw3 left j (lastTo left j left.length)).length=(nL left (lastTo left j left.length).toNat).length:=by
   grind [qw3,qu9]
  generalize hA:qw3 left j (lastTo left j left.length)=p at hsx hpos hplen ⊢
  obtain⟨a,ha⟩:∃a:Nat,lastTo left j left.length=(a:Int):=⟨(lastTo left j left.length).toNat,ow⟩
  rw[ha] at hlt hne hsx hplen ⊢
  rw[zaq] at hne hsx hplen
  have halt:a<left.length:=ow
  obtain⟨r1,r2⟩:=wx2 left p j a left.length
  rw[zao halt] at r1
  have hW:∀i,i<left.length->(nL left i).length=W:=λi hi=>by rw[<- hL i hi]; exact hst.each _ ow
  have hWd:∀i,i<P.length->(nL dn i).length=W:=λi hi=>by rw[<- hD i hi]; exact hst.each _ ow
  have hdl:(dn.map λr=>qe3 r p j).length=P.length:=by grind
  have hA1:∀i,i<P.length->nL (((dn.map λr=>qe3 r p j)++[p])++qg0 left p j a left.length) i=qe3 (nL dn i) p j:=λi hi=>by
   grind [qo0,List.length_append,xi9]
  have hA2:nL (((dn.map λr=>qe3 r p j)++[p])++qg0 left p j a left.length) P.length=p:=by
   rw[qo0 _ _ (by grind)]
   have:=qz4 (dn.map λr=>qe3 r p j) [p] 0
   simp_all [Nat.add_zero,wc7]
  have hA3:∀i,i<left.length-1->nL (((dn.map λr=>qe3 r p j)++[p])++qg0 left p j a left.length) (P.length+1+i)=qe3 (nL left (if i<a then i else i+1)) p j:=λi hi=>by
   have e:((dn.map λr=>qe3 r p j)++[p]).length=P.length+1:=by grind
   have:=qz4 ((dn.map λr=>qe3 r p j)++[p]) (qg0 left p j a left.length) i
   grind
  refine⟨?_,by grind,λx hx=>?_⟩
  ·refine hst.step hj ow ?_ (λi hi=>?_) (λi=>if i<P.length then i else if i=P.length then P.length+a else if i-P.length-1<a then i-1 else i) (λi hi=>?_) (λi k hi hk e=>?_) (λi hi=>?_) (λi hi=>?_) ⟨sg,hs,λc hc=>?_⟩ ?_ λi hi hne2=>?_
   ·grind
   ·rcases zcs i P.length with q | q | q
    ·grind [qx1]
    ·grind
    ·have:=hA3 (i-P.length-1) ow
     grind [qx1]
   ·grind
   ·grind
   ·rcases zap i P.length with q | q
    ·grind
    ·rcases zcs i (P.length+a) with k | k | k
     ·exact⟨i+1,ow,by grind⟩
     ·exact⟨P.length,ow,by grind⟩
     ·exact⟨i,hi,by grind⟩
   ·grind
   ·grind
   ·grind
   ·rw[hA2]
    try dsimp only
    rcases zap i P.length with q | q
    ·simp_all [if_pos,q81]
    ·have:=hA3 (i-P.length-1) ow
     rw[show P.length+1+(i-P.length-1)=i by omega] at this
     have hπi:(if i<P.length then i else if i=P.length then P.length+a else if i-P.length-1<a then i-1 else i)=(if i-P.length-1<a then i-1 else i):=by grind
     grind [nL,q81]
  ·obtain⟨i,_,_,rfl⟩:=q2j _ _ _ _ _ x hx
   exact qp3 _
theorem qx3 {n W:Nat} {M:List (List Int)} (h:Mat n W M):∀j,j<=W->Rst n W (rowOf M) j (qf9 M j)
 | 0,_=>by
  have hl:(M.map qk1).length=n:=by rw[za8]; exact h.len
  have ha:∀i,i<n->nL (M.map qk1) i=qk1 (nL M i):=λi hi=>xi9 (by grind)
  have hm:∀i,i<n->∀c,c<W->max (gcdL (nL M i)) 1*nI (qk1 (nL M i)) c=nI (nL M i) c:=λi hi c hc=>qz3 _ (by rw[h.each i hi]; omega)
  refine⟨?_,rfl,λx hx=>?_⟩
  ·show St n W (rowOf M) 0 (M.map qk1) []
   refine⟨hl,λi hi=>by rw[ha i hi,qn6]; exact h.each i hi,⟨rowOf (M.map qk1),λ_=>none,id,El.start λa ha'=>⟨max (gcdL (nL M a)) 1,ow,λj hj=>?_⟩,λi hi=>hi,λi k _ _ e=>e,λa ha=>⟨a,ha,rfl⟩,λi _ c _=>rfl,λq _=>by simp,λi hi=>?_⟩,λz=>?_,zae _,λi _ _ c hc=>absurd hc (zav _),λq hq=>absurd hq (zav _),λq k _ hk=>absurd hk (zav _)⟩
   ·grind [rowOf]
   ·rw[ha i hi]
    exact(qp3 _).nice (by rw[qn6]; exact h.each i hi) _
   ·have hd:∀i,i<n->max (gcdL (nL M i)) 1*dt W (nL (M.map qk1) i) z=dt W (nL M i) z:=λi hi=>by
     have:=w4n (W:=W) (r':=nL (M.map qk1) i) (r:=nL M i) (p:=[]) (z:=z) (α:=max (gcdL (nL M i)) 1) (β:=1) (γ:=0) λc hc=>by grind
     omega
    constructor
    ·intro hz i hi
     have h1:=hd i hi
     have h2:dt W (nL M i) z=0:=hz i hi
     grind [qc9]
    ·intro hz i hi
     have h1:=hd i hi
     rw[hz i hi,zbl] at h1
     exact h1.symm
  ·obtain⟨u,_,rfl⟩:=zba.1 hx
   exact qp3 u
 | j+1,hj=>x0p ow (qx3 h j ow)
theorem Prim.last {l:List Int} {N:Nat} (h:Prim l) (hl:l.length=N+1) (hz:∀c,c<N->nI l c=0):(nI l N).natAbs<=1:=by
 rcases h with h | h
 ·grind
 ·have:=h (nI l N).natAbs λc hc=>by
   rcases zap c N with q | q
   ·simp_all
   grind [Nat.dvd_refl]
  omega
theorem x9y {n N K B:Nat} {M:List (List Int)} (hM:Sml n N (N+1) K B M) (h0:0<n):xe5 M/\∀k,k<(qf9 M (N+1)).done_.length->∀c,c<N+1->(nI (nL (qf9 M (N+1)).done_ k) c).natAbs<=B:=by
 have hB:BIG=4000000000000000000:=rfl
 have hk1:=hM.k1
 have hkk:=hM.kk
 have hkB:=hM.kB
 have hbB:=hM.bB
 have hBK:B*K<=700000000000*691200:=zbj hbB hkB
 have hn:=hM.n6
 have hl:=hM.len
 have hw:=hM.w
 have hW:rdW M=N+1:=hM.each 0 h0
 -- the numbers at a step
 have key:∀j,j<N+1->0<=lastTo (qf9 M j).left j (qf9 M j).left.length->x4s (qf9 M j) j/\((∀c,c<N+1->(nI (qw3 (qf9 M j).left j (lastTo (qf9 M j).left j (qf9 M j).left.length)) c).natAbs<=B)/\∀i,i<(qf9 M j).done_.length->j=N->∀c,c<N+1->(nI (q5i (nL (qf9 M j).done_ i) (qw3 (qf9 M j).left j (lastTo (qf9 M j).left j (qf9 M j).left.length)) j) c).natAbs<=B):=by
  intro j hj hp
  have hst:=qx3 hM.toMat j ow
  generalize qf9 M j=s at hp hst ⊢
  obtain⟨left,dn,P⟩:=s
  obtain⟨hst,hcnt,hprim⟩:=hst
  have hst:St n (N+1) (rowOf M) j (dn++left) P:=hst
  have hcnt:dn.length=P.length:=hcnt
  have hprim:∀x∈left,Prim x:=hprim
  simp only[] at hp ⊢
  have hlen:=hst.len
  rw[zay] at hlen
  have hL:∀i,i<left.length->nL (dn++left) (P.length+i)=nL left i:=λi hi=>by rw[<- hcnt]; exact qz4 _ _ _
  have hD:∀i,i<P.length->nL (dn++left) i=nL dn i:=λi hi=>qo0 _ _ ow
  have hlt:=(q1p left j left.length).1
  have hne:=q82 _ hp
  obtain⟨sg,hs,hsx,hpos⟩:=w4q left j (lastTo left j left.length) hne
  have hsm:=λ{i} (hi:i<n)=>hM.small _ _ _ (show j<=N by omega) hst i hi
  obtain⟨a,ha⟩:∃a:Nat,lastTo left j left.length=(a:Int):=⟨(lastTo left j left.length).toNat,ow⟩
  have hplen:(qw3 left j (lastTo left j left.length)).length=(nL left a).length:=by
   unfold qw3; rw[ha]; split
   ·exact qu9 _ _
   ·rfl
  have ea:(lastTo left j left.length).toNat=a:=ow
  rw[ea] at hne hsx
  have halt:a<left.length:=ow
  have hWl:∀i,i<left.length->(nL left i).length=N+1:=λi hi=>by rw[<- hL i hi]; exact hst.each _ ow
  have hWd:∀i,i<P.length->(nL dn i).length=N+1:=λi hi=>by rw[<- hD i hi]; exact hst.each _ ow
  have bl:∀i,i<left.length->(∀c,c<N->(nI (nL left i) c).natAbs<=K)/\∀c,c<N+1->(nI (nL left i) c).natAbs<=B:=λi hi=>by rw[<- hL i hi]; exact hsm ow
  have bd:∀i,i<P.length->(∀c,c<N->(nI (nL dn i) c).natAbs<=K)/\∀c,c<N+1->(nI (nL dn i) c).natAbs<=B:=λi hi=>by rw[<- hD i hi]; exact hsm ow
  have hab:∀c,(nI (qw3 left j (lastTo left j left.length)) c).natAbs=(nI (nL left a) c).natAbs:=λc=>by
   rw[hsx c,zbp]
   rcases hs with rfl | rfl <;> simp
  -- the numbers in the column,and in a row
  have zl:∀i,i<left.length->j=N->∀c,c<N->nI (nL left i) c=0:=λi hi e c hc=>by
   rw[<- hL i hi]
   exact hst.zero _ ow ow c ow
  have cl:∀i,i<left.length->(nI (nL left i) j).natAbs<=K:=λi hi=>by
   rcases zap j N with q | q
   ·exact(bl i hi).1 j q
   ·have e:j=N:=ow
    have:=(hprim _ (qn7 left i hi)).last (hWl i hi) (zl i hi e)
    rw[e]; omega
  have hpj:(nI (qw3 left j (lastTo left j left.length)) j).natAbs<=K:=by rw[hab]; exact cl a halt
  have hpc:∀c,c<N+1->(nI (qw3 left j (lastTo left j left.length)) c).natAbs<=B:=λc hc=>by rw[hab]; exact(bl a halt).2 c hc
  have rowB:∀r:List Int,r.length=N+1->(∀c,c<N+1->(nI r c).natAbs<=B)->((nI r j).natAbs<=K\/j=N)->xy3 r (qw3 left j (lastTo left j left.length)) j:=λr hr hb hc0=>by
   have b1:∀k,k<N+1->(nI r k*nI (qw3 left j (lastTo left j left.length)) j).natAbs<=B*K:=λk hk=>q0v (hb k hk) hpj
   have b2:∀k,k<N+1->(nI (qw3 left j (lastTo left j left.length)) k*nI r j).natAbs<=B*K:=λk hk=>by
    rcases hc0 with q | q
    ·exact q0v (hpc k hk) q
    ·rcases zap k N with q2 | q2
     ·have e0:nI (qw3 left j (lastTo left j left.length)) k=0:=by
       have:=hab k
       rw[zl a halt q k q2] at this
       omega
      rw[e0,zb6]; exact zae _
     ·have e1:k=j:=ow
      rw[e1,ze6]
      exact q0v (hb j ow) hpj
   refine⟨ow,by rw[hplen,hWl a halt,hr],ow,λk hk=>?_,λk hk=>?_,λk hk=>?_⟩
   ·have:=b1 k ow; constructor <;> omega
   ·have:=b2 k ow; constructor <;> omega
   ·have h1:=b1 k ow
    have h2:=b2 k ow
    constructor <;> omega
  refine⟨⟨λ_=>⟨by rw[ha,zaq,hWl a halt]; exact hw,λc hc=>?_⟩,λi hi _=>rowB _ (hWl i hi) (bl i hi).2 (.inl (cl i hi)),λi hi=>?_⟩,hpc,λi hi e c hc=>?_⟩
  ·rw[ha,zaq] at hc ⊢
   have hc:c<(nL left a).length:=hc
   rw[hWl a halt] at hc
   have:=(bl a halt).2 c hc
   show qc0 BIG (nI (nL left a) c*(-1))
   constructor <;> omega
  ·have hi:i<dn.length:=hi
   have hi2:i<P.length:=ow
   refine rowB _ (hWd i hi2) (bd i hi2).2 ?_
   rcases zap j N with q | q
   ·exact .inl ((bd i hi2).1 j q)
   ·exact .inr ow
  ·have hi2:i<P.length:=ow
   rw[w4o _ _ _ (by rw[hWd i hi2]; exact hc)]
   rcases zap c N with q | q
   ·have e0:nI (qw3 left j (lastTo left j left.length)) c=0:=by
     have:=hab c
     rw[zl a halt e c q] at this
     omega
    have e1:(nI (qw3 left j (lastTo left j left.length)) j).natAbs<=K:=hpj
    have:=q0v ((bd i hi2).1 c q) e1
    rw[e0,zb6,Int.sub_zero]
    omega
   ·have e1:c=j:=ow
    rw[e1,ze6,Int.sub_self]; exact zae _
 refine⟨⟨ow,ow,λi hi=>by rw[hW]; exact hM.each i ow,λi hi=>⟨by rw[hM.each i ow]; exact hw,λx hx=>?_⟩,λj hj hp=>(key j ow hp).1⟩,λk hk c hc=>?_⟩
 ·obtain⟨c,hc,rfl⟩:=q8z hx
  have:=hM.read i c ow (by rw[hM.each i ow] at hc; exact hc)
  constructor <;> omega
 ·have hst:=qx3 hM.toMat N ow
  have hk2:k<(q8g (qf9 M N) N).done_.length:=hk
  show(nI (nL (q8g (qf9 M N) N).done_ k) c).natAbs<=B
  have key:=key N ow
  unfold q8g at hk2 ⊢
  split at hk2
  ·rename_i hn
   rw[zao hn]
   have hlen:=hst.st.len
   rw[zay] at hlen
   rw[<- qo0 _ (qf9 M N).left hk2]
   exact(hM.small _ _ _ (zab _) hst.st _ ow).2 c hc
  ·rename_i hn
   rw[zak hn]
   obtain⟨_,k1,k2⟩:=key (zbd.1 hn)
   rw[zay,za8] at hk2
   have hk2:k<(qf9 M N).done_.length+1:=hk2
   try dsimp only
   rcases zat.1 hk2 with q | q
   ·rw[qo0 _ _ (by rw[za8]; exact q),xi9 q]
    exact zaj (x0n _ _) (k2 k q rfl c hc)
   ·rw[q]
    have:=qz4 ((qf9 M N).done_.map λr=>qe3 r (qw3 (qf9 M N).left N (lastTo (qf9 M N).left N (qf9 M N).left.length)) N) [qw3 (qf9 M N).left N (lastTo (qf9 M N).left N (qf9 M N).left.length)] 0
    rw[za8,zb9] at this
    rw[this,wc7]
    exact k1 c hc
theorem w4r {n N:Nat} {M:List (List Int)} (hM:Small n N (N+1) M) (h0:0<n):xe5 M/\∀k,k<(qf9 M (N+1)).done_.length->∀c,c<N+1->(nI (nL (qf9 M (N+1)).done_ k) c).natAbs<=46656000000:=x9y hM.sml h0
theorem exL:∀(k:Nat) (p:Nat->Int),(∀q,q<k->p q≠0)->∃(L:Int) (u:Nat->Int),L≠0/\∀q,q<k->L=p q*u q
 | 0,p,_=>⟨1,λ_=>0,dc,λq h=>absurd h (zav _)⟩
 | k+1,p,h=>by
  obtain⟨L,u,h1,h2⟩:=exL k p λq hq=>h q ow
  refine⟨L*p k,λq=>if q=k then L else u q*p k,q02 h1 (h k ow),λq hq=>?_⟩
  grind
def Sol (n W:Nat) (R:Nat->Nat->Int) (z:Nat->Int):Prop:=∀a,a<n->(sm W λc=>R a c*z c)=0
theorem St.inj {n W:Nat} {R:Nat->Nat->Int} {j:Nat} {rows:List (List Int)} {P:List Int} (h:St n W R j rows P) {q k:Nat} (hq:q<P.length) (hk:k<P.length) (e:nI P q=nI P k):q=k:=by
 rcases zcs q k with q1 | q1 | q1
 ·have:=h.asc q k q1 hk; omega
 ·omega
 ·have:=h.asc k q q1 hq; omega
theorem St.free {n W:Nat} {R:Nat->Nat->Int} {j:Nat} {rows:List (List Int)} {P:List Int} (h:St n W R j rows P) (hj:j<=W) {f:Nat} (hf:f<W) (hnp:∀q,q<P.length->nI P q≠(f:Int)) (hz:∀i,P.length<=i->i<n->nI (nL rows i) f=0) :
  ∃z,Sol n W R z/\z f≠0/\∀c,c<W->c≠f->(∀q,q<P.length->nI P q≠(c:Int))->z c=0:=by
 obtain⟨L,u,hL,hu⟩:=exL P.length (λq=>nI (nL rows q) (nI P q).toNat) λq hq=>by have:=(h.pos q hq).2.2.1; omega
 have hpl:=h.pl
 have hzf:(if f=f then L else sm P.length λq=>if nI P q=(f:Int) then-u q*nI (nL rows q) f else 0)=L:=zao rfl
 obtain⟨z,hzd⟩:∃z:Nat->Int,∀c,z c=if c=f then L else sm P.length λq=>if nI P q=(c:Int) then-u q*nI (nL rows q) f else 0:=⟨_,λ_=>rfl⟩
 have z1:z f=L:=by grind
 have z2:∀c,c≠f->(∀q,q<P.length->nI P q≠(c:Int))->z c=0:=λc hc hq=>by
  simp_all [if_neg,qm5]
 have z3:∀q,q<P.length->z (nI P q).toNat=- u q*nI (nL rows q) f:=λq hq=>by
  have hp:=h.pos q hq
  have e:((nI P q).toNat:Int)=nI P q:=ow
  rw[hzd,zak (λk=>hnp q hq ow),qr0 hq λi hi hne=>by
   grind]
  omega
 refine⟨z,(h.sol z).2 λi hi=>?_,ow,λc hc=>z2 c⟩
 unfold dt
 rcases zap i P.length with q | q
 ·have hp:=h.pos i q
  rw[q58 (k:=f) (l:=(nI P i).toNat) hf ow (λk=>hnp i q ow) λc hc h1 h2=>?_]
  ·grind
  ·try dsimp only
   by_cases hx:∃q,q<P.length/\nI P q=(c:Int)
   ·obtain⟨q2,hq2,e⟩:=hx
    have hp2:=h.pos q2 hq2
    have:nI (nL rows i) (nI P q2).toNat=0:=hp2.2.2.2.2 i hi λk=>h2 (by grind)
    simp_all
   grind
 ·refine qm5 λc hc=>?_
  try dsimp only
  by_cases e:c=f
  ·grind
  ·by_cases hx:∃q,q<P.length/\nI P q=(c:Int)
   ·obtain⟨q2,hq2,e⟩:=hx
    have hp2:=h.pos q2 hq2
    have:nI (nL rows i) (nI P q2).toNat=0:=hp2.2.2.2.2 i hi ow
    simp_all
   grind
structure Asc (N:Nat) (P:List Int):Prop where
 at_:∀q,q<P.length->0<=nI P q/\nI P q<N
 asc:∀q k,q<k->k<P.length->nI P q<nI P k
theorem Asc.ge {N:Nat} {P:List Int} (h:Asc N P):∀q,q<P.length->(q:Int)<=nI P q
 | 0,hq=>(h.at_ 0 hq).1
 | q+1,hq=>by
  have h1:=h.ge q ow
  have h2:=h.asc q (q+1) ow hq
  omega
theorem Asc.le {N:Nat} {P:List Int} (h:Asc N P):P.length<=N:=by
 rcases zb7 P.length with q | q
 ·omega
 ·have h1:=h.ge (P.length-1) ow
  have h2:=h.at_ (P.length-1) ow
  omega
theorem Asc.up {N:Nat} {P:List Int} (h:Asc N P):∀d,d<P.length->nI P (P.length-1-d)+d<N
 | 0,hd=>by have:=(h.at_ (P.length-1-0) ow).2; omega
 | d+1,hd=>by
  have h1:=h.up d ow
  have h2:=h.asc (P.length-1-(d+1)) (P.length-1-d) ow ow
  omega
theorem Asc.id {N:Nat} {P:List Int} (h:Asc N P) (hl:P.length=N) {q:Nat} (hq:q<N):nI P q=q:=by
 have h1:=h.ge q ow
 have h2:=h.up (P.length-1-q) ow
 grind
theorem Asc.free {N:Nat} {P:List Int} (hl:P.length<N):∃f,f<N/\∀q,q<P.length->nI P q≠(f:Int):=by
 refine zaf λhno=>?_
 have hx:∀f,∃q,f<N->q<P.length/\nI P q=(f:Int):=λf=>by
  by_cases hf:f<N
  ·simp_all
  ·exact⟨0,λh=>absurd h hf⟩
 obtain⟨g,hg⟩:=zbq hx
 obtain⟨i,k,h1,h2,h3⟩:=q8q P.length N g (λi hi=>(hg i hi).1) hl
 grind
structure Good (n N:Nat) (R:Nat->Nat->Int) (rows:List (List Int)) (P:List Int):Prop where
 st:∃j,N<=j/\j<=N+1/\St n (N+1) R j rows P
 lt:∀q,q<P.length->nI P q<N
 no:∀i,P.length<=i->i<n->nI (nL rows i) N=0
theorem Good.asc {n N:Nat} {R:Nat->Nat->Int} {rows:List (List Int)} {P:List Int} (h:Good n N R rows P):Asc N P:=by
 obtain⟨j,_,_,hs⟩:=h.st
 exact⟨λq hq=>⟨(hs.pos q hq).1,h.lt q hq⟩,hs.asc⟩
theorem Good.last {n N:Nat} {R:Nat->Nat->Int} {rows:List (List Int)} {P:List Int} (h:Good n N R rows P):∃z,Sol n (N+1) R z/\z N≠0:=by
 obtain⟨j,_,h2,hs⟩:=h.st
 obtain⟨z,z1,z2,_⟩:=hs.free h2 (f:=N) ow (λq hq=>by have:=h.lt q hq; omega) h.no
 grind
theorem Good.more {n N:Nat} {R:Nat->Nat->Int} {rows:List (List Int)} {P:List Int} (h:Good n N R rows P) (hl:P.length<N):∃z f,Sol n (N+1) R z/\f<N/\z f≠0/\z N=0:=by
 obtain⟨j,h1,h2,hs⟩:=h.st
 obtain⟨f,hf,hq⟩:=Asc.free hl
 obtain⟨z,z1,z2,z3⟩:=hs.free h2 (f:=f) ow hq λi h3 h4=>hs.zero i h3 h4 f ow
 exact⟨z,f,z1,hf,z2,z3 N ow ow λq hq=>by have:=h.lt q hq; omega⟩
theorem Good.row {n N:Nat} {R:Nat->Nat->Int} {rows:List (List Int)} {P:List Int} (h:Good n N R rows P) (hl:P.length=N) {z:Nat->Int} (hz:Sol n (N+1) R z) {k:Nat} (hk:k<N):0<nI (nL rows k) k/\nI (nL rows k) k*z k+nI (nL rows k) N*z N=0:=by
 obtain⟨j,h1,h2,hs⟩:=h.st
 have hid:=λ{q} (hq:q<N)=>h.asc.id hl hq
 have hp:=hs.pos k ow
 have hpl:=hs.pl
 rw[hid hk,zaq] at hp
 refine⟨hp.2.2.1,?_⟩
 have:=(hs.sol z).1 hz k ow
 unfold dt at this
 rw[q58 (k:=k) (l:=N) ow ow ow λc hc h1 h2=>?_] at this
 ·omega
 ·have hp2:=(hs.pos c ow).2.2.2.2 k ow ow
  grind
theorem Good.len {n N:Nat} {R:Nat->Nat->Int} {rows rows':List (List Int)} {P P':List Int} (h:Good n N R rows P) (h':Good n N R rows' P') (hl:P.length<N):P'.length<N:=by
 rcases zap P'.length N with q | q
 ·exact q
 ·have hl':P'.length=N:=by have:=h'.asc.le; omega
  obtain⟨z,f,z1,z2,z3,z4⟩:=h.more hl
  obtain⟨k1,k2⟩:=h'.row hl' z1 z2
  rw[z4,zbl,ze7] at k2
  grind [absurd,qc9]
theorem Good.val {n N:Nat} {R:Nat->Nat->Int} {rows rows':List (List Int)} {P P':List Int} (h:Good n N R rows P) (h':Good n N R rows' P') (hl:P.length=N) (hl':P'.length=N) {k:Nat} (hk:k<N):nI (nL rows k) N*nI (nL rows' k) k=nI (nL rows' k) N*nI (nL rows k) k:=by
 obtain⟨z,z1,z2⟩:=h.last
 obtain⟨a1,a2⟩:=h.row hl z1 hk
 obtain⟨b1,b2⟩:=h'.row hl' z1 hk
 have:z N*(nI (nL rows k) N*nI (nL rows' k) k-nI (nL rows' k) N*nI (nL rows k) k)=0:=by grind
 grind [qc9]
theorem xj0 {a b c d:Int} (hb:0<b) (hd:0<d) (h:a*d=c*b):q4n a b=q4n c d:=by
 have hg:0<gcdI a b:=ql9 (.inr ow)
 have hk:0<gcdI c d:=ql9 (.inr ow)
 have a1:gcdI a b*a.tdiv (gcdI a b)=a:=za9 (za5.1 (zb0 _ _))
 have b1:gcdI a b*b.tdiv (gcdI a b)=b:=za9 (za5.1 (zb3 _ _))
 have c1:gcdI c d*c.tdiv (gcdI c d)=c:=za9 (za5.1 (zb0 _ _))
 have d1:gcdI c d*d.tdiv (gcdI c d)=d:=za9 (za5.1 (zb3 _ _))
 have cop:∀x y:Int,0<gcdI x y->Nat.Coprime (x.tdiv (gcdI x y)).natAbs (y.tdiv (gcdI x y)).natAbs:=λx y h=>by
  have e1:(x.tdiv (gcdI x y)).natAbs=x.natAbs / Nat.gcd x.natAbs y.natAbs:=zck _ _
  have e2:(y.tdiv (gcdI x y)).natAbs=y.natAbs / Nat.gcd x.natAbs y.natAbs:=zck _ _
  rw[e1,e2]
  exact zdt (by have:(0:Int)<(Nat.gcd x.natAbs y.natAbs:Nat):=h; omega)
 have h1:=cop a b hg
 have h2:=cop c d hk
 unfold q4n
 generalize gcdI a b=g at *
 generalize gcdI c d=k at *
 generalize a.tdiv g=x at *
 generalize b.tdiv g=y at *
 generalize c.tdiv k=u at *
 generalize d.tdiv k=v at *
 have hy:0<y:=q4q hg ow
 have hv:0<v:=q4q hk ow
 have e:x*v=u*y:=by
  have:(g*k)*(x*v-u*y)=0:=by grind
  grind [qc9,q02]
 have en:x.natAbs*v.natAbs=u.natAbs*y.natAbs:=by rw[<- zbp,<- zbp,e]
 have q1:y.natAbs∣v.natAbs:=h1.symm.dvd_of_dvd_mul_left ⟨u.natAbs,by grind⟩
 have q2:v.natAbs∣y.natAbs:=h2.symm.dvd_of_dvd_mul_left ⟨x.natAbs,by grind⟩
 have q3:y.natAbs=v.natAbs:=Nat.dvd_antisymm q1 q2
 have q4:y=v:=ow
 subst q4
 have:y*(x-u)=0:=by grind
 have:=qc9 this ow
 grind
theorem q83 {a b:Int} (hb:0<b):ofR a b=q4n a b:=by
 unfold ofR q4n
 grind
theorem w4s (N:Nat) (d:List (List Int)) (P:List Int) (hP:∀q,q<N->nI P q=q):∀i,i<=N->∀k (hk:k<(qw4 N d P i).length),(qw4 N d P i)[k]=if k<i then q4n (nI (nL d k) N) (nI (nL d k) k) else(0,1)
 | 0,_,k,hk=>by simp[qw4]
 | i+1,hi,k,hk=>by
  have h1:=hP i ow
  simp only[qw4,h1,Int.toNat_natCast,List.getElem_set]
  by_cases e:i=k
  ·grind
  ·rw[zak e,w4s N d P hP i ow k (by grind [qz2])]
   grind
theorem x9z {n N:Nat} {M:List (List Int)} (hM:Mat n (N+1) M):xe1 (qb7 M N).1 (qb7 M N).2 N=(if(if qt7 (qf9 M (N+1)).piv N=true then(([],0,false):List (Int × Int) × Int × Bool) else(qw4 N (qf9 M (N+1)).done_ (qf9 M (N+1)).piv (qf9 M (N+1)).piv.length,(N:Int)-(qf9 M (N+1)).piv.length,true)).2.2=false then([],8) else if 0<(if qt7 (qf9 M (N+1)).piv N=true then(([],0,false):List (Int × Int) × Int × Bool) else(qw4 N (qf9 M (N+1)).done_ (qf9 M (N+1)).piv (qf9 M (N+1)).piv.length,(N:Int)-(qf9 M (N+1)).piv.length,true)).2.1 then([],11) else((if qt7 (qf9 M (N+1)).piv N=true then(([],0,false):List (Int × Int) × Int × Bool) else(qw4 N (qf9 M (N+1)).done_ (qf9 M (N+1)).piv (qf9 M (N+1)).piv.length,(N:Int)-(qf9 M (N+1)).piv.length,true)).1,0)):=by
 have hst:=qt2 hM N ow
 obtain⟨hrs,hcnt,_⟩:=qx3 hM (N+1) ow
 generalize qb7 M N=r at *
 generalize qf9 M (N+1)=s at *
 obtain⟨rows,P⟩:=r
 obtain⟨left,dn,P3⟩:=s
 have hst:St n (N+1) (rowOf M) N rows P:=hst
 have hrs:St n (N+1) (rowOf M) (N+1) (dn++left) P3:=hrs
 have hcnt:dn.length=P3.length:=hcnt
 simp only[]
 have hD:∀i,i<P3.length->nL (dn++left) i=nL dn i:=λi hi=>qo0 _ _ ow
 have hlen:=hst.len
 have hplt:∀q,q<P.length->nI P q<N:=λq hq=>(hst.pos q hq).2.1
 -- the third list's pivots
 have g1:q8f rows P N=true->∀z,Sol n (N+1) (rowOf M) z->z N=0:=λh z hz=>by
  unfold q8f at h
  rw[zbm] at h
  obtain⟨i,hi,hb⟩:=h
  have hi:=za2.1 hi
  simp only[Bool.and_eq_true,decide_eq_true_eq,bne_iff_ne,ne_eq] at hb
  have:=(hst.sol z).1 hz i ow
  unfold dt at this
  rw[qr0 (k:=N) ow λc hc hne=>by
   try dsimp only
   rw[hst.zero i hb.1 ow c ow,zb6]] at this
  grind [qc9]
 have g2:q8f rows P N=false->Good n N (rowOf M) rows P:=λh=>by
  refine⟨⟨N,zab _,ow,hst⟩,hplt,λi h1 h2=>?_⟩
  grind [q8f,List.any_eq_false]
 have g3:qt7 P3 N=true->∀z,Sol n (N+1) (rowOf M) z->z N=0:=λh z hz=>by
  unfold qt7 at h
  rw[zbm] at h
  obtain⟨x,hx,hb⟩:=h
  obtain⟨q,hq,rfl⟩:=q8z hx
  have e:nI P3 q=(N:Int):=by grind
  obtain⟨p1,p2,p3,p4,p5⟩:=hrs.pos q hq
  rw[e,zaq] at p3 p4
  have hpl:=hrs.pl
  have:=(hrs.sol z).1 hz q ow
  unfold dt at this
  rw[qr0 (k:=N) ow λc hc hne=>by
   grind] at this
  grind [qc9]
 have g4:qt7 P3 N=false->Good n N (rowOf M) (dn++left) P3:=λh=>by
  refine⟨⟨N+1,ow,zab _,hrs⟩,λq hq=>?_,λi h1 h2=>hrs.zero i h1 h2 N ow⟩
  unfold qt7 at h
  have:=zbr.1 h _ (q8y hq)
  have p:=hrs.pos q hq
  grind
 unfold xe1
 cases hn:q8f rows P N with
 | true=>
  have:qt7 P3 N=true:=by
   cases e:qt7 P3 N with
   | true=>rfl
   | false=>
    obtain⟨z,z1,z2⟩:=(g4 e).last
    grind
  grind
 | false=>
  have hg:=g2 hn
  have e3:qt7 P3 N=false:=by
   cases e:qt7 P3 N with
   | false=>rfl
   | true=>
    obtain⟨z,z1,z2⟩:=hg.last
    grind
  have hg3:=g4 e3
  have hle:=hg.asc.le
  have hle3:=hg3.asc.le
  simp only[e3,Bool.false_eq_true,if_false,Bool.true_eq_false]
  by_cases hl:P.length<N
  ·have:=hg.len hg3 hl
   grind
  ·have hl3:¬P3.length<N:=λh=>hl (hg3.len hg h)
   rw[zak hl,zak ow]
   have eP:P.length=N:=ow
   have eP3:P3.length=N:=ow
   have i1:=λq (hq:q<N)=>hg.asc.id eP hq
   have i3:=λq (hq:q<N)=>hg3.asc.id eP3 hq
   congr 1
   apply zbb
   ·grind [qz2,List.length_map,List.length_range]
   intro k h1 h2
   rw[qz2] at h2
   rw[w4s N dn P3 i3 _ ow k ow,zao ow,zej,List.getElem_range]
   unfold wo5
   rw[i1 k h2,zaq]
   obtain⟨z,z1,_⟩:=hg.last
   have p1:=(hg.row eP z1 h2).1
   have p3:=(hg3.row eP3 z1 h2).1
   have hv:=hg.val hg3 eP eP3 h2
   grind [q83,xj0]
end Go.Proofs.YtnchigbbjajiiaaGreat
