/- The reference's elimination: plain mathematics. No condition. -/
import Derived.Test.YtmijnbjlhnpokaaGreatW4
set_option linter.unusedVariables false
namespace Go.Proofs.YtmijnbjlhnpokaaGreat
open Go Go.RowKit Eng
theorem ql3 (a b:List (List Int)) {i:Nat} (h:i<a.length):nL (a++b) i=nL a i:=by
 rw[qm1 _ i (by rw[List.length_append]; omega),qm1 _ i h,List.getElem_append_left h]
theorem qx2 (a b:List (List Int)) (i:Nat):nL (a++b) (a.length+i)=nL b i:=by
 unfold nL qe6
 rw[List.getD_eq_getElem?_getD,List.getD_eq_getElem?_getD,List.getElem?_append_right (by omega)]
 congr 2; omega
theorem xa4 {f:List Int->List Int} {l:List (List Int)} {i:Nat} (h:i<l.length):nL (l.map f) i=f (nL l i):=by
 rw[qm1 _ i (by simpa using h),qm1 _ i h,List.getElem_map]
theorem ws1 (left:List (List Int)) (p:List Int) (j a:Nat):∀K,(qq6 left p j a K).length=(if a<K then K-1 else K)/\∀i,i<(qq6 left p j a K).length->nL (qq6 left p j a K) i=qi1 (nL left (if i<a then i else i+1)) p j
 | 0=>⟨by rw[if_neg (Nat.not_lt_zero _)]; rfl,λi hi=>absurd hi (Nat.not_lt_zero _)⟩
 | K+1=>by
  obtain⟨h1,h2⟩:=ws1 left p j a K
  rw[qq6]
  by_cases e:K=a
  ·subst e
   rw[if_neg (λq=>q rfl)]
   rw[if_neg (Nat.lt_irrefl _)] at h1
   exact⟨by rw[h1,if_pos (Nat.lt_succ_self _)]; rfl,h2⟩
  ·rw[if_pos (by omega)]
   refine⟨?_,λi hi=>?_⟩
   ·rw[List.length_append,h1]
    show _+1=_
    split <;> split <;> omega
   ·rw[List.length_append] at hi
    have hi:i<(qq6 left p j a K).length+1:=hi
    rcases Nat.lt_succ_iff_lt_or_eq.1 hi with q | q
    ·rw[ql3 _ _ q]; exact h2 i q
    ·rw[q]
     have:=qx2 (qq6 left p j a K) [qi1 (nL left K) p j] 0
     rw[Nat.add_zero] at this
     rw[this,qb5,h1]
     congr 2
     split <;> split <;> omega
theorem q9z {left:List (List Int)} {j:Nat}:∀K,lastTo left j K<0->∀i,i<K->nI (nL left i) j=0
 | 0,_,i,hi=>absurd hi (Nat.not_lt_zero _)
 | K+1,h,i,hi=>by
  rw[lastTo] at h
  split at h
  ·omega
  ·rename_i hz
   rcases Nat.lt_succ_iff_lt_or_eq.1 hi with q | q
   ·exact q9z K h i q
   ·rw[q]; exact Classical.not_not.1 hz
theorem q75 {left:List (List Int)} {j:Nat}:∀K,0<=lastTo left j K->nI (nL left (lastTo left j K).toNat) j≠0
 | 0,h=>by have:(0:Int)<=-1:=h; omega
 | K+1,h=>by
  rw[lastTo] at h ⊢
  split at h
  ·rename_i hz
   rw[if_pos hz]
   simpa using hz
  ·rename_i hz
   rw[if_neg hz]
   exact q75 K h
theorem q53 (l:List Int) (n:Int) (c:Nat):nI (q7c l n) c=nI l c*n:=by
 rcases Nat.lt_or_ge c l.length with h | h
 ·unfold q7c; rw[w97 h]
 ·rw[q4t _ h,q4t _ (by rw[qs8]; exact h),Int.zero_mul]
structure Rst (n W:Nat) (R:Nat->Nat->Int) (j:Nat) (s:RS):Prop where
 st:St n W R j (s.done_++s.left) s.piv
 cnt:s.done_.length=s.piv.length
 prim:∀x∈s.left,Prim x
theorem w2n (left:List (List Int)) (j:Nat) (a:Int) (hne:nI (nL left a.toNat) j≠0):∃s:Int,(s=1\/s=-1)/\(∀c,nI (q3y left j a) c=s*nI (nL left a.toNat) c)/\0<nI (q3y left j a) j:=by
 unfold q3y
 by_cases q:nI (nL left a.toNat) j<0
 ·rw[if_pos q]
  exact⟨-1,.inr rfl,λc=>by rw[q53]; omega,by rw[q53]; omega⟩
 ·rw[if_neg q]
  exact⟨1,.inl rfl,λc=>by omega,by omega⟩
theorem xn8 {n W j:Nat} {R:Nat->Nat->Int} {s:RS} (hj:j<W) (h:Rst n W R j s):Rst n W R (j+1) (wn4 s j):=by
 obtain⟨left,dn,P⟩:=s
 obtain⟨hst,hcnt,hprim⟩:=h
 have hst:St n W R j (dn++left) P:=hst
 have hcnt:dn.length=P.length:=hcnt
 have hprim:∀x∈left,Prim x:=hprim
 have hlen:=hst.len
 rw[List.length_append] at hlen
 have hL:∀i,i<left.length->nL (dn++left) (P.length+i)=nL left i:=λi hi=>by rw[<- hcnt]; exact qx2 _ _ _
 have hD:∀i,i<P.length->nL (dn++left) i=nL dn i:=λi hi=>ql3 _ _ (by omega)
 unfold wn4
 dsimp only
 split
 ·rename_i hn
  refine⟨hst.skip λi h1 h2=>?_,hcnt,hprim⟩
  have:=hL (i-P.length) (by omega)
  rw[show P.length+(i-P.length)=i by omega] at this
  rw[this]
  exact q9z _ hn _ (by omega)
 ·rename_i hn
  have hn:0<=lastTo left j left.length:=Int.not_lt.1 hn
  have hlt:=(q3s left j left.length).1
  have hne:=q75 _ hn
  obtain⟨sg,hs,hsx,hpos⟩:=w2n left j (lastTo left j left.length) hne
  have hplen:(q3y left j (lastTo left j left.length)).length=(nL left (lastTo left j left.length).toNat).length:=by
   unfold q3y; split
   ·exact qs8 _ _
   ·rfl
  generalize hA:q3y left j (lastTo left j left.length)=p at hsx hpos hplen ⊢
  obtain⟨a,ha⟩:∃a:Nat,lastTo left j left.length=(a:Int):=⟨(lastTo left j left.length).toNat,by omega⟩
  rw[ha] at hlt hne hsx hplen ⊢
  rw[Int.toNat_natCast] at hne hsx hplen
  have halt:a<left.length:=by omega
  obtain⟨r1,r2⟩:=ws1 left p j a left.length
  rw[if_pos halt] at r1
  have hW:∀i,i<left.length->(nL left i).length=W:=λi hi=>by rw[<- hL i hi]; exact hst.each _ (by omega)
  have hWd:∀i,i<P.length->(nL dn i).length=W:=λi hi=>by rw[<- hD i hi]; exact hst.each _ (by omega)
  have hdl:(dn.map λr=>qi1 r p j).length=P.length:=by simp[hcnt]
  have hA1:∀i,i<P.length->nL (((dn.map λr=>qi1 r p j)++[p])++qq6 left p j a left.length) i=qi1 (nL dn i) p j:=λi hi=>by
   rw[ql3 _ _ (by rw[List.length_append]; omega),ql3 _ _ (by omega),xa4 (by omega)]
  have hA2:nL (((dn.map λr=>qi1 r p j)++[p])++qq6 left p j a left.length) P.length=p:=by
   rw[ql3 _ _ (by rw[List.length_append,hdl]; exact Nat.lt_succ_self _)]
   have:=qx2 (dn.map λr=>qi1 r p j) [p] 0
   rw[hdl,Nat.add_zero] at this
   rw[this,qb5]
  have hA3:∀i,i<left.length-1->nL (((dn.map λr=>qi1 r p j)++[p])++qq6 left p j a left.length) (P.length+1+i)=qi1 (nL left (if i<a then i else i+1)) p j:=λi hi=>by
   have e:((dn.map λr=>qi1 r p j)++[p]).length=P.length+1:=by rw[List.length_append,hdl]; rfl
   have:=qx2 ((dn.map λr=>qi1 r p j)++[p]) (qq6 left p j a left.length) i
   rw[e] at this
   rw[this,r2 i (by omega)]
  refine⟨?_,by rw[List.length_append,List.length_append,hdl]; rfl,λx hx=>?_⟩
  ·refine hst.step hj (by omega) ?_ (λi hi=>?_) (λi=>if i<P.length then i else if i=P.length then P.length+a else if i-P.length-1<a then i-1 else i) (λi hi=>?_) (λi k hi hk e=>?_) (λi hi=>?_) (λi hi=>?_) ⟨sg,hs,λc hc=>?_⟩ ?_ λi hi hne2=>?_
   ·rw[List.length_append,List.length_append,hdl,r1]
    show P.length+1+_=n
    omega
   ·rcases Nat.lt_trichotomy i P.length with q | q | q
    ·rw[hA1 i q,qu8]; exact hWd i q
    ·rw[q,hA2,hplen]; exact hW a halt
    ·have:=hA3 (i-P.length-1) (by omega)
     rw[show P.length+1+(i-P.length-1)=i by omega] at this
     rw[this,qu8]
     exact hW _ (by split <;> omega)
   ·(try dsimp only); split
    ·omega
    ·split
     ·omega
     ·split <;> omega
   ·try dsimp only at e
    split at e <;> split at e <;> (try split at e) <;> (try split at e) <;> (try split at e) <;> (try split at e) <;> omega
   ·rcases Nat.lt_or_ge i P.length with q | q
    ·exact⟨i,hi,by(try dsimp only); rw[if_pos q]⟩
    ·rcases Nat.lt_trichotomy i (P.length+a) with k | k | k
     ·exact⟨i+1,by omega,by(try dsimp only); rw[if_neg (by omega),if_neg (by omega),if_pos (by omega)]; omega⟩
     ·exact⟨P.length,by omega,by(try dsimp only); rw[if_neg (by omega),if_pos rfl]; omega⟩
     ·exact⟨i,hi,by(try dsimp only); rw[if_neg (by omega),if_neg (by omega),if_neg (by omega)]⟩
   ·(try dsimp only); rw[if_pos hi]
   ·rw[hA2,if_neg (Nat.lt_irrefl _),if_pos rfl,hL a halt]; exact hsx c
   ·rw[hA2]; exact hpos
   ·rw[hA2]
    try dsimp only
    rcases Nat.lt_or_ge i P.length with q | q
    ·rw[hA1 i q,if_pos q,hD i q]
     exact q74 hj (hWd i q) hpos
    ·have:=hA3 (i-P.length-1) (by omega)
     rw[show P.length+1+(i-P.length-1)=i by omega] at this
     have hπi:(if i<P.length then i else if i=P.length then P.length+a else if i-P.length-1<a then i-1 else i)=(if i-P.length-1<a then i-1 else i):=by rw[if_neg (by omega),if_neg hne2]
     rw[this,hπi]
     have e:nL (dn++left) (if i-P.length-1<a then i-1 else i)=nL left (if i-P.length-1<a then i-P.length-1 else i-P.length-1+1):=by
      have:=hL (if i-P.length-1<a then i-P.length-1 else i-P.length-1+1) (by split <;> omega)
      rw[<- this]
      congr 1
      split <;> omega
     rw[e]
     exact q74 hj (hW _ (by split <;> omega)) hpos
  ·obtain⟨i,_,_,rfl⟩:=q1p _ _ _ _ _ x hx
   exact qn7 _
theorem qz4 {n W:Nat} {M:List (List Int)} (h:Mat n W M):∀j,j<=W->Rst n W (rowOf M) j (qg9 M j)
 | 0,_=>by
  have hl:(M.map qr3).length=n:=by rw[List.length_map]; exact h.len
  have ha:∀i,i<n->nL (M.map qr3) i=qr3 (nL M i):=λi hi=>xa4 (by rw[h.len]; exact hi)
  have hm:∀i,i<n->∀c,c<W->max (gcdL (nL M i)) 1*nI (qr3 (nL M i)) c=nI (nL M i) c:=λi hi c hc=>qx1 _ (by rw[h.each i hi]; exact hc)
  refine⟨?_,rfl,λx hx=>?_⟩
  ·show St n W (rowOf M) 0 (M.map qr3) []
   refine⟨hl,λi hi=>by rw[ha i hi,qt8]; exact h.each i hi,⟨rowOf (M.map qr3),λ_=>none,id,El.start λa ha'=>⟨max (gcdL (nL M a)) 1,by omega,λj hj=>?_⟩,λi hi=>hi,λi k _ _ e=>e,λa ha=>⟨a,ha,rfl⟩,λi _ c _=>rfl,λq _=>by simp,λi hi=>?_⟩,λz=>?_,Nat.zero_le _,λi _ _ c hc=>absurd hc (Nat.not_lt_zero _),λq hq=>absurd hq (Nat.not_lt_zero _),λq k _ hk=>absurd hk (Nat.not_lt_zero _)⟩
   ·unfold rowOf
    rw[ha a ha']; exact hm a ha' j hj
   ·rw[ha i hi]
    exact(qn7 _).nice (by rw[qt8]; exact h.each i hi) _
   ·have hd:∀i,i<n->max (gcdL (nL M i)) 1*dt W (nL (M.map qr3) i) z=dt W (nL M i) z:=λi hi=>by
     have:=w2l (W:=W) (r':=nL (M.map qr3) i) (r:=nL M i) (p:=[]) (z:=z) (α:=max (gcdL (nL M i)) 1) (β:=1) (γ:=0) λc hc=>by rw[ha i hi,hm i hi c hc]; omega
     omega
    constructor
    ·intro hz i hi
     have h1:=hd i hi
     have h2:dt W (nL M i) z=0:=hz i hi
     rw[h2] at h1
     exact qd2 h1 (by omega)
    ·intro hz i hi
     have h1:=hd i hi
     rw[hz i hi,Int.mul_zero] at h1
     exact h1.symm
  ·obtain⟨u,_,rfl⟩:=List.mem_map.1 hx
   exact qn7 u
 | j+1,hj=>xn8 (by omega) (qz4 h j (by omega))
theorem Prim.last {l:List Int} {N:Nat} (h:Prim l) (hl:l.length=N+1) (hz:∀c,c<N->nI l c=0):(nI l N).natAbs<=1:=by
 rcases h with h | h
 ·rw[h N (by omega)]; decide
 ·have:=h (nI l N).natAbs λc hc=>by
   rcases Nat.lt_or_ge c N with q | q
   ·rw[hz c q]; exact Nat.dvd_zero _
   ·rw[show c=N by omega]; exact Nat.dvd_refl _
  omega
theorem x5f {n N K B:Nat} {M:List (List Int)} (hM:Sml n N (N+1) K B M) (h0:0<n):x8q M/\∀k,k<(qg9 M (N+1)).done_.length->∀c,c<N+1->(nI (nL (qg9 M (N+1)).done_ k) c).natAbs<=B:=by
 have hB:BIG=4000000000000000000:=rfl
 have hk1:=hM.k1
 have hkk:=hM.kk
 have hkB:=hM.kB
 have hbB:=hM.bB
 have hBK:B*K<=700000000000*691200:=Nat.mul_le_mul hbB hkB
 have hn:=hM.n6
 have hl:=hM.len
 have hw:=hM.w
 have hW:rdW M=N+1:=hM.each 0 h0
 -- the numbers at a step
 have key:∀j,j<N+1->0<=lastTo (qg9 M j).left j (qg9 M j).left.length->x3y (qg9 M j) j/\((∀c,c<N+1->(nI (q3y (qg9 M j).left j (lastTo (qg9 M j).left j (qg9 M j).left.length)) c).natAbs<=B)/\∀i,i<(qg9 M j).done_.length->j=N->∀c,c<N+1->(nI (wn1 (nL (qg9 M j).done_ i) (q3y (qg9 M j).left j (lastTo (qg9 M j).left j (qg9 M j).left.length)) j) c).natAbs<=B):=by
  intro j hj hp
  have hst:=qz4 hM.toMat j (by omega)
  generalize qg9 M j=s at hp hst ⊢
  obtain⟨left,dn,P⟩:=s
  obtain⟨hst,hcnt,hprim⟩:=hst
  have hst:St n (N+1) (rowOf M) j (dn++left) P:=hst
  have hcnt:dn.length=P.length:=hcnt
  have hprim:∀x∈left,Prim x:=hprim
  simp only[] at hp ⊢
  have hlen:=hst.len
  rw[List.length_append] at hlen
  have hL:∀i,i<left.length->nL (dn++left) (P.length+i)=nL left i:=λi hi=>by rw[<- hcnt]; exact qx2 _ _ _
  have hD:∀i,i<P.length->nL (dn++left) i=nL dn i:=λi hi=>ql3 _ _ (by omega)
  have hlt:=(q3s left j left.length).1
  have hne:=q75 _ hp
  obtain⟨sg,hs,hsx,hpos⟩:=w2n left j (lastTo left j left.length) hne
  have hsm:=λ{i} (hi:i<n)=>hM.small _ _ _ (show j<=N by omega) hst i hi
  obtain⟨a,ha⟩:∃a:Nat,lastTo left j left.length=(a:Int):=⟨(lastTo left j left.length).toNat,by omega⟩
  have hplen:(q3y left j (lastTo left j left.length)).length=(nL left a).length:=by
   unfold q3y; rw[ha]; split
   ·exact qs8 _ _
   ·rfl
  have ea:(lastTo left j left.length).toNat=a:=by omega
  rw[ea] at hne hsx
  have halt:a<left.length:=by omega
  have hWl:∀i,i<left.length->(nL left i).length=N+1:=λi hi=>by rw[<- hL i hi]; exact hst.each _ (by omega)
  have hWd:∀i,i<P.length->(nL dn i).length=N+1:=λi hi=>by rw[<- hD i hi]; exact hst.each _ (by omega)
  have bl:∀i,i<left.length->(∀c,c<N->(nI (nL left i) c).natAbs<=K)/\∀c,c<N+1->(nI (nL left i) c).natAbs<=B:=λi hi=>by rw[<- hL i hi]; exact hsm (by omega)
  have bd:∀i,i<P.length->(∀c,c<N->(nI (nL dn i) c).natAbs<=K)/\∀c,c<N+1->(nI (nL dn i) c).natAbs<=B:=λi hi=>by rw[<- hD i hi]; exact hsm (by omega)
  have hab:∀c,(nI (q3y left j (lastTo left j left.length)) c).natAbs=(nI (nL left a) c).natAbs:=λc=>by
   rw[hsx c,Int.natAbs_mul]
   rcases hs with rfl | rfl <;> simp
  -- the numbers in the column,and in a row
  have zl:∀i,i<left.length->j=N->∀c,c<N->nI (nL left i) c=0:=λi hi e c hc=>by
   rw[<- hL i hi]
   exact hst.zero _ (by omega) (by omega) c (by omega)
  have cl:∀i,i<left.length->(nI (nL left i) j).natAbs<=K:=λi hi=>by
   rcases Nat.lt_or_ge j N with q | q
   ·exact(bl i hi).1 j q
   ·have e:j=N:=by omega
    have:=(hprim _ (qu9 left i hi)).last (hWl i hi) (zl i hi e)
    rw[e]; omega
  have hpj:(nI (q3y left j (lastTo left j left.length)) j).natAbs<=K:=by rw[hab]; exact cl a halt
  have hpc:∀c,c<N+1->(nI (q3y left j (lastTo left j left.length)) c).natAbs<=B:=λc hc=>by rw[hab]; exact(bl a halt).2 c hc
  have rowB:∀r:List Int,r.length=N+1->(∀c,c<N+1->(nI r c).natAbs<=B)->((nI r j).natAbs<=K\/j=N)->x8o r (q3y left j (lastTo left j left.length)) j:=λr hr hb hc0=>by
   have b1:∀k,k<N+1->(nI r k*nI (q3y left j (lastTo left j left.length)) j).natAbs<=B*K:=λk hk=>q2v (hb k hk) hpj
   have b2:∀k,k<N+1->(nI (q3y left j (lastTo left j left.length)) k*nI r j).natAbs<=B*K:=λk hk=>by
    rcases hc0 with q | q
    ·exact q2v (hpc k hk) q
    ·rcases Nat.lt_or_ge k N with q2 | q2
     ·have e0:nI (q3y left j (lastTo left j left.length)) k=0:=by
       have:=hab k
       rw[zl a halt q k q2] at this
       omega
      rw[e0,Int.zero_mul]; exact Nat.zero_le _
     ·have e1:k=j:=by omega
      rw[e1,Int.mul_comm]
      exact q2v (hb j (by omega)) hpj
   refine⟨by omega,by rw[hplen,hWl a halt,hr],by omega,λk hk=>?_,λk hk=>?_,λk hk=>?_⟩
   ·have:=b1 k (by omega); constructor <;> omega
   ·have:=b2 k (by omega); constructor <;> omega
   ·have h1:=b1 k (by omega)
    have h2:=b2 k (by omega)
    constructor <;> omega
  refine⟨⟨λ_=>⟨by rw[ha,Int.toNat_natCast,hWl a halt]; exact hw,λc hc=>?_⟩,λi hi _=>rowB _ (hWl i hi) (bl i hi).2 (.inl (cl i hi)),λi hi=>?_⟩,hpc,λi hi e c hc=>?_⟩
  ·rw[ha,Int.toNat_natCast] at hc ⊢
   have hc:c<(nL left a).length:=hc
   rw[hWl a halt] at hc
   have:=(bl a halt).2 c hc
   show qf0 BIG (nI (nL left a) c*(-1))
   constructor <;> omega
  ·have hi:i<dn.length:=hi
   have hi2:i<P.length:=by omega
   refine rowB _ (hWd i hi2) (bd i hi2).2 ?_
   rcases Nat.lt_or_ge j N with q | q
   ·exact .inl ((bd i hi2).1 j q)
   ·exact .inr (by omega)
  ·have hi2:i<P.length:=by omega
   rw[wg6 _ _ _ (by rw[hWd i hi2]; exact hc)]
   rcases Nat.lt_or_ge c N with q | q
   ·have e0:nI (q3y left j (lastTo left j left.length)) c=0:=by
     have:=hab c
     rw[zl a halt e c q] at this
     omega
    have e1:(nI (q3y left j (lastTo left j left.length)) j).natAbs<=K:=hpj
    have:=q2v ((bd i hi2).1 c q) e1
    rw[e0,Int.zero_mul,Int.sub_zero]
    omega
   ·have e1:c=j:=by omega
    rw[e1,Int.mul_comm,Int.sub_self]; exact Nat.zero_le _
 refine⟨⟨by omega,by omega,λi hi=>by rw[hW]; exact hM.each i (by omega),λi hi=>⟨by rw[hM.each i (by omega)]; exact hw,λx hx=>?_⟩,λj hj hp=>(key j (by omega) hp).1⟩,λk hk c hc=>?_⟩
 ·obtain⟨c,hc,rfl⟩:=q72 hx
  have:=hM.read i c (by omega) (by rw[hM.each i (by omega)] at hc; exact hc)
  constructor <;> omega
 ·have hst:=qz4 hM.toMat N (by omega)
  have hk2:k<(wn4 (qg9 M N) N).done_.length:=hk
  show(nI (nL (wn4 (qg9 M N) N).done_ k) c).natAbs<=B
  have key:=key N (by omega)
  unfold wn4 at hk2 ⊢
  split at hk2
  ·rename_i hn
   rw[if_pos hn]
   have hlen:=hst.st.len
   rw[List.length_append] at hlen
   rw[<- ql3 _ (qg9 M N).left hk2]
   exact(hM.small _ _ _ (Nat.le_refl _) hst.st _ (by omega)).2 c hc
  ·rename_i hn
   rw[if_neg hn]
   obtain⟨_,k1,k2⟩:=key (Int.not_lt.1 hn)
   rw[List.length_append,List.length_map] at hk2
   have hk2:k<(qg9 M N).done_.length+1:=hk2
   try dsimp only
   rcases Nat.lt_succ_iff_lt_or_eq.1 hk2 with q | q
   ·rw[ql3 _ _ (by rw[List.length_map]; exact q),xa4 q]
    exact Nat.le_trans (xn6 _ _) (k2 k q rfl c hc)
   ·rw[q]
    have:=qx2 ((qg9 M N).done_.map λr=>qi1 r (q3y (qg9 M N).left N (lastTo (qg9 M N).left N (qg9 M N).left.length)) N) [q3y (qg9 M N).left N (lastTo (qg9 M N).left N (qg9 M N).left.length)] 0
    rw[List.length_map,Nat.add_zero] at this
    rw[this,qb5]
    exact k1 c hc
theorem xn9 {n N:Nat} {M:List (List Int)} (hM:Small n N (N+1) M) (h0:0<n):x8q M/\∀k,k<(qg9 M (N+1)).done_.length->∀c,c<N+1->(nI (nL (qg9 M (N+1)).done_ k) c).natAbs<=46656000000:=x5f hM.sml h0
end Go.Proofs.YtmijnbjlhnpokaaGreat
