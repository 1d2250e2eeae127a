/- The rest of a reading: the program's is the reference's, and how great its numbers are. Plain mathematics. No condition. -/
import Derived.Test.YtmijnbjlhnpokaaGreatW16
import Derived.Test.YtmijnbjlhnpokaaGreatV26
set_option linter.unusedVariables false
namespace Go.Proofs.YtmijnbjlhnpokaaGreat
open Go Go.RowKit Eng
def cntN:Nat->(Nat->Int)->Nat
 | 0,_=>0
 | k+1,d=>if d k≠0 then cntN k d+1 else cntN k d
theorem wi7 (l:List Int):∀k,nzTo l k=cntN k (nI l)
 | 0=>rfl
 | k+1=>by rw[nzTo,cntN,wi7 l k]
theorem cnt_le {d e:Nat->Int}:∀k,(∀c,c<k->d c≠0->e c≠0)->cntN k d<=cntN k e
 | 0,_=>Nat.le_refl _
 | k+1,h=>by
  have ih:=cnt_le k λc hc=>h c (by omega)
  rw[cntN,cntN]
  by_cases q:d k≠0
  ·rw[if_pos q,if_pos (h k (by omega) q)]; omega
  ·rw[if_neg q]; split <;> omega
theorem cnt_lt {d e:Nat->Int} {c0:Nat} (h1:d c0=0) (h2:e c0≠0):∀k,c0<k->(∀c,c<k->d c≠0->e c≠0)->cntN k d<cntN k e
 | k+1,hk,h=>by
  rw[cntN,cntN]
  by_cases q:c0=k
  ·have ih:=cnt_le (d:=d) (e:=e) k λc hc=>h c (by omega)
   rw[<- q,if_neg (by rw[h1]; exact λk=>k rfl),if_pos h2,q]
   omega
  ·have ih:=cnt_lt h1 h2 k (by omega) λc hc=>h c (by omega)
   by_cases q2:d k≠0
   ·rw[if_pos q2,if_pos (h k (by omega) q2)]; omega
   ·rw[if_neg q2]; split <;> omega
theorem w9u {d e f:Nat->Int}:∀k,(∀c,c<k->d c≠0->e c≠0\/f c≠0)->cntN k d<=cntN k e+cntN k f
 | 0,_=>Nat.le_refl _
 | k+1,h=>by
  have ih:=w9u k λc hc=>h c (by omega)
  rw[cntN,cntN,cntN]
  by_cases q:d k≠0
  ·rw[if_pos q]
   rcases h k (by omega) q with q2 | q2
   ·rw[if_pos q2]; split <;> omega
   ·rw[if_pos q2]; split <;> omega
  ·rw[if_neg q]; split <;> split <;> omega
def wa3:Nat->(Nat->Int)->List Int
 | 0,_=>[]
 | k+1,d=>if d k≠0 then wa3 k d++[(k:Int)] else wa3 k d
theorem q34 (d:Nat->Int):∀k,(wa3 k d).length=cntN k d
 | 0=>rfl
 | k+1=>by
  rw[wa3,cntN]
  split
  ·rw[List.length_append,q34 d k]; rfl
  ·exact q34 d k
theorem qq1 (d:Nat->Int):∀k,Named k (wa3 k d)/\∀j,j<(wa3 k d).length->d (nI (wa3 k d) j).toNat≠0
 | 0=>⟨⟨λj hj=>absurd hj (Nat.not_lt_zero _),λi j _ hj=>absurd hj (Nat.not_lt_zero _)⟩,λj hj=>absurd hj (Nat.not_lt_zero _)⟩
 | k+1=>by
  obtain⟨h1,h2⟩:=qq1 d k
  rw[wa3]
  by_cases q:d k≠0
  ·rw[if_pos q]
   have hl:(wa3 k d++[(k:Int)]).length=(wa3 k d).length+1:=by simp
   refine⟨⟨λj hj=>?_,λi j hij hj=>?_⟩,λj hj=>?_⟩
   ·rw[hl] at hj
    rcases Nat.lt_succ_iff_lt_or_eq.1 hj with e | e
    ·rw[qi0 _ _ e]; have:=h1.at_ j e; omega
    ·rw[e,qj7]; omega
   ·rw[hl] at hj
    rw[qi0 _ _ (show i<(wa3 k d).length by omega)]
    rcases Nat.lt_succ_iff_lt_or_eq.1 hj with e | e
    ·rw[qi0 _ _ e]; exact h1.asc i j hij e
    ·rw[e,qj7]; exact(h1.at_ i (by omega)).2
   ·rw[hl] at hj
    rcases Nat.lt_succ_iff_lt_or_eq.1 hj with e | e
    ·rw[qi0 _ _ e]; exact h2 j e
    ·rw[e,qj7,Int.toNat_natCast]; exact q
  ·rw[if_neg q]
   exact⟨⟨λj hj=>by have:=h1.at_ j hj; omega,h1.asc⟩,h2⟩
theorem q6e (d:Nat->Int):∀k c,c<k->d c≠0->∃j,j<(wa3 k d).length/\nI (wa3 k d) j=(c:Int)
 | k+1,c,hc,hd=>by
  rw[wa3]
  by_cases q:c=k
  ·rw[if_pos (by rw[<- q]; exact hd)]
   exact⟨(wa3 k d).length,by simp,by rw[qj7,q]⟩
  ·obtain⟨j,h1,h2⟩:=q6e d k c (by omega) hd
   split
   ·exact⟨j,by rw[List.length_append]; omega,by rw[qi0 _ _ h1]; exact h2⟩
   ·exact⟨j,h1,h2⟩
theorem Named.inj {n:Nat} {s:List Int} (h:Named n s) {i j:Nat} (hi:i<s.length) (hj:j<s.length) (e:(nI s i).toNat=(nI s j).toNat):i=j:=by
 have h1:=h.at_ i hi
 have h2:=h.at_ j hj
 rcases Nat.lt_trichotomy i j with q | q | q
 ·have:=h.asc i j q hj; omega
 ·exact q
 ·have:=h.asc j i q hi; omega
theorem q8f {m:List (List Int)} (hM:Mk m):∀(K:Nat) (d:Nat->Int),cntN (nL m 0).length d<=K->Sol m.length (nL m 0).length (rowOf m) d->(∃c,c<(nL m 0).length/\d c≠0)->∃s,Named (nL m 0).length s/\0<s.length/\IsC m s/\s.length<=cntN (nL m 0).length d
 | 0,d,hK,_,⟨c,hc,hd⟩=>by
  have:=cnt_lt (d:=λ_=>0) (e:=d) (c0:=c) rfl hd _ hc λc _ q=>absurd rfl q
  omega
 | K+1,d,hK,hs,⟨c1,hc1,hd1⟩=>by
  have hN:=(qq1 d (nL m 0).length).1
  have hnz:=(qq1 d (nL m 0).length).2
  have hin:=q6e d (nL m 0).length
  have hl:=q34 d (nL m 0).length
  generalize wa3 (nL m 0).length d=s at hN hnz hin hl
  have h1:0<s.length:=by obtain⟨j,hj,_⟩:=hin c1 hc1 hd1; omega
  have hO:=ql1 hM hN h1
  by_cases hC:IsC m s
  ·exact⟨s,hN,h1,hC,by omega⟩
  ·have hsW:∀c,c<s.length->(nI s c).toNat<(nL m 0).length:=λc hc=>by have:=hN.at_ c hc; omega
   have hu:Sol m.length s.length (rowOf (qg3 m s)) λc=>d (nI s c).toNat:=λa ha=>by
    have e:=hs a ha
    rw[qv4 s.length (f:=λc=>rowOf m a c*d c) (τ:=λc=>(nI s c).toNat) hsW (λq k hq hk e=>hN.inj hq hk e) λb hb hq=>by
     try dsimp only
     rw[Classical.byContradiction λq:¬d b=0=>by
      obtain⟨j,hj,e⟩:=hin b hb q
      exact hq j hj (by(try dsimp only); rw[e,Int.toNat_natCast]),Int.mul_zero]] at e
    rw[<- e]
    refine qa7 λc hc=>?_
    unfold rowOf
    rw[qj6 m s a ha,qn2 _ _ _ hc]
   have hx:∃z,Sol m.length s.length (rowOf (qg3 m s)) z/\(∃c,c<s.length/\z c=0)/\∃c,c<s.length/\z c≠0:=Classical.byContradiction λhno=>by
    have:=hO.one_mk hu hnz λz hz h0 c hc=>Classical.byContradiction λq=>hno ⟨z,hz,h0,c,hc,q⟩
    exact hC ⟨this.1,this.2⟩
   obtain⟨z,hz,⟨c0,hc0,hz0⟩,c2,hc2,hz2⟩:=hx
   have hat:∀c,c<s.length->(sm s.length λq=>if(nI s q).toNat=(nI s c).toNat then z q else 0)=z c:=λc hc=>by
    rw[qk1 (k:=c) hc λi hi hne=>by
     try dsimp only
     rw[if_neg λe=>hne (hN.inj hi hc e)]]
    try dsimp only
    rw[if_pos rfl]
   have hoff:∀c,c<(nL m 0).length->(sm s.length λq=>if(nI s q).toNat=c then z q else 0)≠0->d c≠0:=λc hc hne q=>hne (sm_zero λi hi=>by
    try dsimp only
    rw[if_neg λe=>hnz i hi (by rw[e]; exact q)])
   have hlt:=cnt_lt (d:=λcol=>sm s.length λq=>if(nI s q).toNat=col then z q else 0) (e:=d) (c0:=(nI s c0).toNat) (by(try dsimp only); rw[hat c0 hc0]; exact hz0) (hnz c0 hc0) _ (hsW c0 hc0) hoff
   obtain⟨s',k1,k2,k3,k4⟩:=q8f hM K (λcol=>sm s.length λq=>if(nI s q).toNat=col then z q else 0) (by omega) (λa ha=>by
    rw[q5m hsW]
    rw[<- hz a ha]
    refine qa7 λc hc=>?_
    unfold rowOf
    rw[qj6 m s a ha,qn2 _ _ _ hc]) ⟨(nI s c2).toNat,hsW c2 hc2,by(try dsimp only); rw[hat c2 hc2]; exact hz2⟩
   exact⟨s',k1,k2,k3,by omega⟩
structure x1i (m:List (List Int)) (s h:List Int):Prop where
 nam:Named (nL m 0).length s
 pos:0<s.length
 isc:IsC m s
 len:h.length=(nL m 0).length
 nz:cntN (nL m 0).length (nI h)=s.length
 sol:Sol m.length (nL m 0).length (rowOf m) (nI h)
 on:∀j,j<s.length->nI h (nI s j).toNat≠0
 off:∀c,c<(nL m 0).length->(∀j,j<s.length->nI s j≠(c:Int))->nI h c=0
 small:∀c,(nI h c).natAbs<=160
theorem xs6 {N:Nat} {s:List Int} (hs:Named N s) {d:Nat->Int} (hon:∀j,j<s.length->d (nI s j).toNat≠0) (hoff:∀c,c<N->(∀j,j<s.length->nI s j≠(c:Int))->d c=0):cntN N d=s.length:=by
 have h1:=(qq1 d N).1
 have h2:=(qq1 d N).2
 have h3:=q6e d N
 rw[<- q34]
 have sub:∀(s t:List Int),Named N s->Named N t->(∀j,j<s.length->∃i,i<t.length/\nI t i=nI s j)->s.length<=t.length:=λs t hs ht h=>Nat.le_of_not_lt λhgt=>by
  have hx:∀j,∃i,j<s.length->i<t.length/\nI t i=nI s j:=λj=>by
   by_cases hj:j<s.length
   ·obtain⟨i,hi⟩:=h j hj; exact⟨i,λ_=>hi⟩
   ·exact⟨0,λq=>absurd q hj⟩
  obtain⟨g,hg⟩:=Classical.axiomOfChoice hx
  obtain⟨i,j,k1,k2,k3⟩:=q7a t.length s.length g (λi hi=>(hg i hi).1) hgt
  have e1:=(hg i (by omega)).2
  have e2:=(hg j k2).2
  rw[k3] at e1
  have:=hs.asc i j k1 k2
  omega
 refine Nat.le_antisymm (sub _ _ h1 hs λj hj=>?_) (sub _ _ hs h1 λj hj=>?_)
 ·have hb:=h1.at_ j hj
  refine Classical.byContradiction λq=>h2 j hj (hoff _ (by omega) λi hi e=>q ⟨i,hi,by omega⟩)
 ·have hb:=hs.at_ j hj
  obtain⟨i,hi,e⟩:=h3 _ (by omega) (hon j hj)
  exact⟨i,hi,by omega⟩
theorem w9v {m:List (List Int)} {s:List Int} (hM:Mk m) (hs:Named (nL m 0).length s) (h1:0<s.length) (hc:IsC m s):x1i m s (wq1 m (nL m 0).length s):=by
 have hO:=ql1 hM hs h1
 obtain⟨f,hf,hnp,ho,hv,hp⟩:=hO.one_free hc.one
 have hsm:=(hO.ker_small (qs2 (qk0 (qg3 m s)) 0 (by have:=hc.one; show 0<(qz9 m s).length; omega))).2
 have hnz:=hc.nz
 unfold wq1 q7z
 change KV _ _ _ _ _ (nL (qz9 m s) 0) at hv
 change Prim (nL (qz9 m s) 0) at hp
 change ∀x∈nL (qz9 m s) 0,_ at hsm
 generalize nL (qz9 m s) 0=v at *
 have hat:=λj (hj:j<s.length)=>q8d (v:=v) hs _ (Nat.le_refl _) j hj
 have ho2:∀c:Nat,(∀j,j<s.length->nI s j≠(c:Int))->nI (qg5 (nL m 0).length s v s.length) c=0:=λc hc=>wi6 hs hc _ (Nat.le_refl _)
 have hlen:=qm0 (nL m 0).length s v s.length
 generalize qg5 (nL m 0).length s v s.length=u at *
 have hsW:∀c,c<s.length->(nI s c).toNat<(nL m 0).length:=λc hc=>by have:=hs.at_ c hc; omega
 have hsol:Sol m.length (nL m 0).length (rowOf m) (nI u):=λa ha=>by
  rw[qv4 s.length (f:=λc=>rowOf m a c*nI u c) (τ:=λc=>(nI s c).toNat) hsW (λq k hq hk e=>hs.inj hq hk e) λb hb hq=>by
   try dsimp only
   rw[ho2 b λj hj e=>hq j hj (by(try dsimp only); rw[e,Int.toNat_natCast]),Int.mul_zero]]
  rw[<- hv.sol a ha]
  refine qa7 λc hc=>?_
  try dsimp only
  unfold rowOf
  rw[hat c hc,qj6 m s a ha,qn2 _ _ _ hc]
 have hsmall:∀c,(nI u c).natAbs<=160:=λc=>by
  by_cases q:∃j,j<s.length/\nI s j=(c:Int)
  ·obtain⟨j,hj,e⟩:=q
   have:=hat j hj
   rw[e,Int.toNat_natCast] at this
   rw[this]
   exact hsm _ (q5i (by rw[hv.len]; exact hj))
  ·rw[ho2 c λj hj e=>q ⟨j,hj,e⟩]; decide
 have both:∀h:List Int,h.length=u.length->∀sg:Int,(sg=1\/sg=-1)->(∀c,nI h c=nI u c*sg)->x1i m s h:=λh hl sg hsg he=>by
  have hsg0:sg≠0:=by rcases hsg with rfl | rfl <;> decide
  have hon:∀j,j<s.length->nI h (nI s j).toNat≠0:=λj hj=>by
   rw[he,hat j hj]; exact ql7 (hnz j hj) hsg0
  have hoff:∀c,c<(nL m 0).length->(∀j,j<s.length->nI s j≠(c:Int))->nI h c=0:=λc hc hj=>by
   rw[he,ho2 c hj,Int.zero_mul]
  refine⟨hs,h1,hc,by omega,xs6 hs hon hoff,λa ha=>?_,hon,hoff,λc=>?_⟩
  ·have e:=hsol a ha
   have e2:(sm (nL m 0).length λc=>rowOf m a c*nI h c)=sg*sm (nL m 0).length λc=>rowOf m a c*nI u c:=by
    rw[<- qf7]
    refine qa7 λc hc=>?_
    try dsimp only
    rw[he]; grind
   rw[e2,e,Int.mul_zero]
  ·rw[he,Int.natAbs_mul]
   have:=hsmall c
   rcases hsg with rfl | rfl
   ·simpa using this
   ·simpa using this
 split
 ·exact both _ (qo1 _ _) (-1) (.inr rfl) λc=>q2b u (-1) c
 ·exact both _ rfl 1 (.inl rfl) λc=>by omega
theorem w2r {m:List (List Int)} (hM:Mk m) {k:Nat} {h:List Int} (hh:h∈wu1 m k):∃s,x1i m s h/\s.length=k:=by
 unfold wu1 at hh
 rw[List.mem_filterMap] at hh
 obtain⟨s,hs,e⟩:=hh
 obtain⟨hN,hl⟩:=q6d hs
 unfold w43 at e
 split at e
 ·rename_i q
  obtain rfl:=Option.some.inj e
  have hok:q8u m s=true:=by
   have q:=q
   unfold wq3 at q
   rw[Bool.and_eq_true,Bool.and_eq_true] at q
   exact q.1.1
  have h1:0<s.length:=by
   unfold q8u at hok
   rw[Bool.and_eq_true,decide_eq_true_eq] at hok
   omega
  exact⟨s,w9v hM hN h1 ((qx9 hM hN hok).1 q),hl⟩
 ·cases e
theorem xn2 {m:List (List Int)} (hM:Mk m) {s:List Int} (hs:Named (nL m 0).length s) (h1:0<s.length) (hc:IsC m s):wq1 m (nL m 0).length s∈wu1 m s.length:=by
 have hr:=w2o hM hs h1 hc
 have hr2:=w9s hM
 have hok:q8u m s=true:=by
  unfold q8u
  rw[Bool.and_eq_true,decide_eq_true_eq,decide_eq_true_eq]
  omega
 unfold wu1
 rw[List.mem_filterMap]
 refine⟨s,wq9 hs,?_⟩
 unfold w43
 rw[if_pos ((qx9 hM hs hok).2 hc)]
theorem q41 {m:List (List Int)} (hl:qp1 m=true) (hv:validB m=true):((qh7 m).2=0/\∃s,x1i m s (qh7 m).1/\∀t,Named (nL m 0).length t->0<t.length->IsC m t->s.length<=t.length)\/((qh7 m).2=8/\(qh7 m).1=[]/\∀t,Named (nL m 0).length t->0<t.length->¬IsC m t):=by
 have hM:=Mk.of hv
 have h7:=wi2 hl hM
 have e1:q4v m=(q3y m (nL m 0).length (q7u m),0):=by simp[q4v,hv]
 rw[xn1 hv h7] at e1
 have hmem:∀t,Named (nL m 0).length t->0<t.length->IsC m t->wq1 m (nL m 0).length t∈((List.range (nL m 0).length).flatMap λk=>wu1 m (k+1)):=λt ht h1 hc=>by
  rw[List.mem_flatMap]
  have:=ht.len
  refine⟨t.length-1,List.mem_range.2 (by omega),?_⟩
  rw[show t.length-1+1=t.length by omega]
  exact xn2 hM ht h1 hc
 have hpw:∀K,((List.range K).flatMap λk=>wu1 m (k+1)).Pairwise (λa b=>cntN (nL m 0).length (nI a)<=cntN (nL m 0).length (nI b))/\∀h∈((List.range K).flatMap λk=>wu1 m (k+1)),cntN (nL m 0).length (nI h)<=K:=λK=>by
  induction K with
  | zero=>exact⟨List.Pairwise.nil,λh hh=>by cases hh⟩
  | succ K ih=>
   rw[List.range_succ,List.flatMap_append]
   simp only[List.flatMap_cons,List.flatMap_nil,List.append_nil]
   have hk:∀h∈wu1 m (K+1),cntN (nL m 0).length (nI h)=K+1:=λh hh=>by
    obtain⟨s,hs,hsl⟩:=w2r hM hh
    rw[hs.nz,hsl]
   refine⟨?_,λh hh=>?_⟩
   ·rw[List.pairwise_append]
    refine⟨ih.1,?_,λa ha b hb=>by have:=ih.2 a ha; have:=hk b hb; omega⟩
    rw[List.pairwise_iff_getElem]
    intro i j hi hj _
    have:=hk _ (List.getElem_mem hi)
    have:=hk _ (List.getElem_mem hj)
    omega
   ·rcases List.mem_append.1 hh with hh | hh
    ·have:=ih.2 h hh; omega
    ·have:=hk h hh; omega
 have hpw:=(hpw (nL m 0).length).1
 have hall:∀h∈((List.range (nL m 0).length).flatMap λk=>wu1 m (k+1)),∃s,x1i m s h:=λh hh=>by
  rw[List.mem_flatMap] at hh
  obtain⟨k,_,hk⟩:=hh
  obtain⟨s,hs,_⟩:=w2r hM hk
  exact⟨s,hs⟩
 unfold qh7
 rw[e1]
 generalize((List.range (nL m 0).length).flatMap λk=>wu1 m (k+1))=L at *
 rw[if_neg λq=>q rfl]
 cases L with
 | nil=>
  rw[if_pos rfl]
  refine .inr ⟨rfl,rfl,λt ht h1 hc=>?_⟩
  have:=hmem t ht h1 hc
  cases this
 | cons h L=>
  rw[if_neg (λq=>by cases q)]
  refine .inl ⟨rfl,?_⟩
  have e0:nL (h :: L) 0=h:=rfl
  obtain⟨s,hs⟩:=hall h (by simp)
  show ∃s,x1i m s (nL (h :: L) 0)/\_
  rw[e0]
  refine⟨s,hs,λt ht h1 hc=>?_⟩
  have hq:=w9v hM ht h1 hc
  have hm:=hmem t ht h1 hc
  have:cntN (nL m 0).length (nI h)<=cntN (nL m 0).length (nI (wq1 m (nL m 0).length t)):=by
   rcases List.mem_cons.1 hm with e | e
   ·rw[e]; exact Nat.le_refl _
   ·exact(List.pairwise_cons.1 hpw).1 _ e
  rw[hs.nz,hq.nz] at this
  exact this
theorem xn3 {m:List (List Int)} (hv:validB m=false):qh7 m=([],1):=by
 have e1:q4v m=([],1):=by simp[q4v,hv]
 unfold qh7
 rw[e1,if_pos (by show(1:Int)≠0; decide)]
theorem xn4 {m:List (List Int)} (hl:qp1 m=true):(qh7 m).1.length<=10/\∀c,(nI (qh7 m).1 c).natAbs<=160:=by
 by_cases hv:validB m=true
 ·have h10:=(Mk.of hv).pix10
  rcases q41 hl hv with⟨_,s,hs,_⟩ | ⟨_,e,_⟩
  ·have:=hs.len
   exact⟨by omega,hs.small⟩
  ·rw[e]
   exact⟨Nat.zero_le _,λc=>by rw[q1g _ (Nat.zero_le _)]; decide⟩
 ·rw[xn3 (by simpa using hv)]
  exact⟨Nat.zero_le _,λc=>by rw[q1g _ (Nat.zero_le _)]; decide⟩
theorem x70 {m:List (List Int)} (hl:qp1 m=true):q8t m:=⟨x7z,by have:=(xn4 hl).1; omega⟩
theorem dot_sm (a b:List Int):∀k,qh0 a b k=sm k λi=>nI a i*nI b i
 | 0=>rfl
 | k+1=>by rw[qh0,sm,dot_sm a b k]
def colL (m:List (List Int)) (j:Nat):List Int:=(List.range m.length).map λi=>nI (nL m i) j
theorem colL_len (m:List (List Int)) (j:Nat):(colL m j).length=m.length:=by simp[colL]
theorem qu1 (m:List (List Int)) (j i:Nat) (hi:i<m.length):nI (colL m j) i=nI (nL m i) j:=by
 rw[qg1 _ _ (by rw[colL_len]; exact hi)]; simp[colL]
def qe8 (m:List (List Int)) (C:List Int):List Int:=(qh1 m C).2.map λk=>nI C k.toNat
def gRow (m:List (List Int)) (y l:List Int) (x:Nat):List Int:=((List.range l.length).map λc=>qh0 (colL m (nI l x).toNat) (colL m (nI l c).toNat) m.length)++[qh0 (colL m (nI l x).toNat) y m.length]
def qc0 (m:List (List Int)) (y l:List Int):List (List Int):=(List.range l.length).map (gRow m y l)
def q0g (r:List (List Int)) (n k:Nat):Int:=(nI (nL r k) k).tdiv (qd8 (nI (nL r k) k) (nI (nL r k) n))
def q8v (r:List (List Int)) (n k:Nat):Int:=(nI (nL r k) n).tdiv (qd8 (nI (nL r k) k) (nI (nL r k) n))
def qh3 (r:List (List Int)) (n:Nat):Nat->Int
 | 0=>1
 | k+1=>qh3 r n k*(q0g r n k).tdiv (qd8 (qh3 r n k) (q0g r n k))
def x4h (d:List (List Int)):Nat->Int
 | 0=>1
 | k+1=>(x4h d k).tdiv (qd8 (x4h d k) (nI (nL d k) k))*nI (nL d k) k
def rsE (m:List (List Int)) (y l:List Int) (r:List (List Int)) (T:Int):Nat->Nat->Int
 | 0,i=>nI y i*T
 | k+1,i=>rsE m y l r T k i-nI (colL m (nI l k).toNat) i*((T.tdiv (q0g r l.length k))*q8v r l.length k)
def rsL (m:List (List Int)) (y l:List Int) (r:List (List Int)) (T:Int) (k:Nat):List Int:=(List.range y.length).map (rsE m y l r T k)
def gP (m:List (List Int)) (y C:List Int):List (List Int):=(qa4 (qc0 m y (qe8 m C)) (qe8 m C).length).1
def qk9 (m:List (List Int)) (y C:List Int):Int:=qh3 (gP m y C) (qe8 m C).length (qe8 m C).length
def qg9 (m:List (List Int)) (y C:List Int):List Int:=rsL m y (qe8 m C) (gP m y C) (qk9 m y C) (qe8 m C).length
theorem q1j (m:List (List Int)) (y C:List Int):(qg9 m y C).length=y.length:=by simp[qg9,rsL]
structure InW (w:Nat) (C:List Int):Prop where
 at_:∀j,j<C.length->0<=nI C j/\nI C j<w
 len:C.length<=100
def Ind (m:List (List Int)) (l:List Int):Prop:=∀z:Nat->Int,(∀i,i<m.length->(sm l.length λc=>nI (nL m i) (nI l c).toNat*z c)=0)->∀c,c<l.length->z c=0
theorem qv5 (m:List (List Int)) (C:List Int):qn8 m C=qg3 m C:=by simp[qn8,qa8,qg3]
theorem q20 (m:List (List Int)) (C:List Int) {a c:Nat} (ha:a<m.length) (hc:c<C.length):rowOf (qg3 m C) a c=nI (nL m a) (nI C c).toNat:=by
 unfold rowOf; rw[qj6 _ _ _ ha,qn2 _ _ _ hc]
theorem wr6 {m:List (List Int)} {C:List Int} (hM:Mk m) (hC:InW (nL m 0).length C) (h1:1<=C.length):Ones m.length C.length (qg3 m C):=by
 have hl:=hC.len
 refine⟨⟨q1b _ _,λi hi=>by rw[qj6 _ _ _ hi,qj0]⟩,hM.rows1,hM.rows6,h1,by omega,λa c ha hc=>?_⟩
 have h2:=q20 m C ha hc
 unfold rowOf at h2
 rw[h2]
 have h3:=hC.at_ c hc
 have:=hM.small a ha (nI C c).toNat (by omega)
 omega
theorem St.piv_ind {n W j:Nat} {R:Nat->Nat->Int} {rows:List (List Int)} {P:List Int} (h:St n W R j rows P) (hj:j<=W) {z':Nat->Int} (hz:∀a,a<n->(sm P.length λq=>R a (nI P q).toNat*z' q)=0):∀q,q<P.length->z' q=0:=by
 have hpl:=h.pl
 obtain⟨z,hzd⟩:∃z:Nat->Int,∀c,z c=sm P.length λq=>if nI P q=(c:Int) then z' q else 0:=⟨_,λ_=>rfl⟩
 have zq:∀q,q<P.length->z (nI P q).toNat=z' q:=λq hq=>by
  have hp:=h.pos q hq
  rw[hzd,qk1 hq λi hi hne=>if_neg λk=>hne (h.inj hi hq (by omega)),if_pos (by omega)]
 have z0:∀c,(∀q,q<P.length->(nI P q).toNat≠c)->z c=0:=λc hc=>by
  rw[hzd]
  refine sm_zero λq hq=>if_neg λk=>hc q hq (by omega)
 have him:∀f:Nat->Int,(sm W λc=>f c*z c)=sm P.length λq=>f (nI P q).toNat*z' q:=λf=>by
  rw[qv4 P.length (n:=W) (f:=λc=>f c*z c) (τ:=λq=>(nI P q).toNat) (λq hq=>by have:=h.pos q hq; (try dsimp only); omega) (λq k hq hk e=>h.inj hq hk (by have:=h.pos q hq; have:=h.pos k hk; (try dsimp only at e); omega)) λb hb hq=>by
   try dsimp only
   rw[z0 b hq,Int.mul_zero]]
  refine qa7 λq hq=>?_
  try dsimp only
  rw[zq q hq]
 have hsol:=(h.sol z).1 λa ha=>by rw[him]; exact hz a ha
 intro q hq
 have h1:=hsol q (by omega)
 unfold dt at h1
 rw[him,qk1 hq λi hi hne=>by
  try dsimp only
  rw[(h.pos i hi).2.2.2.2 q (by omega) (Ne.symm hne),Int.zero_mul]] at h1
 exact qc7 h1 (by have:=(h.pos q hq).2.2.1; omega)
theorem St.ind_iff {n W:Nat} {R:Nat->Nat->Int} {rows:List (List Int)} {P:List Int} (h:St n W R W rows P):P.length=W↔∀z,Sol n W R z->∀c,c<W->z c=0:=by
 have hA:Asc W P:=⟨λq hq=>⟨(h.pos q hq).1,(h.pos q hq).2.1⟩,h.asc⟩
 refine⟨λhl z hz c hc=>?_,λhz=>?_⟩
 ·refine h.piv_ind (Nat.le_refl _) (z':=z) (λa ha=>?_) c (by omega)
  rw[<- hz a ha,hl]
  refine qa7 λq hq=>?_
  rw[hA.id hl hq,Int.toNat_natCast]
 ·rcases Nat.lt_or_ge P.length W with q | q
  ·obtain⟨f,hf,hnp⟩:=Asc.free q
   obtain⟨z,z1,z2,_⟩:=h.free (Nat.le_refl _) hf hnp λi h1 h2=>h.zero i h1 h2 f hf
   exact absurd (hz z z1 f hf) z2
  ·have:=hA.le; omega
theorem St.ind_map {m:List (List Int)} {C:List Int} {j:Nat} {rows:List (List Int)} {P:List Int} (h:St m.length C.length (rowOf (qg3 m C)) j rows P) (hj:j<=C.length):Ind m (P.map λk=>nI C k.toNat):=by
 intro z hz c hc
 rw[List.length_map] at hc
 refine h.piv_ind hj (z':=z) (λa ha=>?_) c hc
 have h1:=hz a ha
 rw[List.length_map] at h1
 rw[<- h1]
 refine qa7 λq hq=>?_
 have hp:=h.pos q hq
 rw[q20 m C ha (by omega),q71 (f:=λk=>nI C k.toNat) hq]
theorem w9w {m:List (List Int)} {C:List Int} (hM:Mk m) (hC:InW (nL m 0).length C):InW (nL m 0).length (qe8 m C)/\Ind m (qe8 m C)/\(qe8 m C).length<=m.length/\(qe8 m C).length<=C.length/\∀q,q<(qe8 m C).length->∃k,k<C.length/\nI (qe8 m C) q=nI C k:=by
 have hCl:=hC.len
 have hMat:Mat m.length C.length (qg3 m C):=⟨q1b _ _,λi hi=>by rw[qj6 _ _ _ hi,qj0]⟩
 have hst:=qn3 hMat C.length (Nat.le_refl _)
 have e:qe8 m C=(qa4 (qg3 m C) C.length).2.map λk=>nI C k.toNat:=by unfold qe8 qh1; rw[qv5]
 have hl:=(⟨λq hq=>⟨(hst.pos q hq).1,(hst.pos q hq).2.1⟩,hst.asc⟩:Asc C.length _).le
 have hpl:=hst.pl
 rw[e,List.length_map]
 have hq:∀q,q<(qa4 (qg3 m C) C.length).2.length->∃k,k<C.length/\nI ((qa4 (qg3 m C) C.length).2.map λk=>nI C k.toNat) q=nI C k:=λq hq=>by
  have:=hst.pos q hq
  exact⟨_,by omega,q71 (f:=λk=>nI C k.toNat) hq⟩
 refine⟨⟨λq h=>?_,by rw[List.length_map]; omega⟩,hst.ind_map (Nat.le_refl _),hpl,hl,hq⟩
 rw[List.length_map] at h
 obtain⟨k,h1,h2⟩:=hq q h
 rw[h2]; exact hC.at_ k h1
theorem q1k (x:Int):0<=x*x:=by
 rcases Int.le_total 0 x with h | h
 ·exact Int.mul_nonneg h h
 ·have:=Int.mul_nonneg (show 0<=-x by omega) (show 0<=-x by omega)
  rwa [Int.neg_mul_neg] at this
theorem x0b:∀(n:Nat) {f:Nat->Int},(sm n λi=>f i*f i)=0->∀i,i<n->f i=0
 | 0,_,_,i,hi=>absurd hi (Nat.not_lt_zero _)
 | n+1,f,h,i,hi=>by
  have h0:∀k,0<=sm k λi=>f i*f i:=λk=>by
   induction k with
   | zero=>exact Int.le_refl _
   | succ k ih=>rw[sm]; have:=q1k (f k); omega
  rw[sm] at h
  have h1:=h0 n
  have h2:=q1k (f n)
  rcases Nat.lt_succ_iff_lt_or_eq.1 hi with q | q
  ·exact x0b n (by omega) i q
  ·rw[q]
   have:f n*f n=0:=by omega
   exact(Int.mul_eq_zero.1 this).elim id id
theorem w2s (m:List (List Int)) (y l:List Int) (x:Nat):(gRow m y l x).length=l.length+1:=by simp[gRow]
theorem q8g (m:List (List Int)) (y l:List Int):(qc0 m y l).length=l.length:=by simp[qc0]
theorem wi8 (m:List (List Int)) (y l:List Int) {x:Nat} (hx:x<l.length):nL (qc0 m y l) x=gRow m y l x:=by
 rw[qp9 _ _ (by rw[q8g]; exact hx)]; simp[qc0]
theorem x0c (m:List (List Int)) (y l:List Int) (x:Nat) {c:Nat} (hc:c<l.length):nI (gRow m y l x) c=qh0 (colL m (nI l x).toNat) (colL m (nI l c).toNat) m.length:=by
 unfold gRow
 rw[qi0 _ _ (by simp; exact hc),qg1 _ _ (by simp; exact hc)]; simp
theorem w9x (m:List (List Int)) (y l:List Int) (x:Nat):nI (gRow m y l x) l.length=qh0 (colL m (nI l x).toNat) y m.length:=by
 have:=qj7 ((List.range l.length).map λc=>qh0 (colL m (nI l x).toNat) (colL m (nI l c).toNat) m.length) (qh0 (colL m (nI l x).toNat) y m.length)
 simp only[List.length_map,List.length_range] at this
 exact this
def aN (m:List (List Int)) (l:List Int) (i x:Nat):Int:=nI (nL m i) (nI l x).toNat
def bN (m:List (List Int)) (y l:List Int) (i c:Nat):Int:=if c<l.length then aN m l i c else nI y i
theorem qy0 (m:List (List Int)) (y l:List Int) {x c:Nat} (hx:x<l.length) (hc:c<l.length+1):rowOf (qc0 m y l) x c=sm m.length λi=>aN m l i x*bN m y l i c:=by
 unfold rowOf
 rw[wi8 m y l hx]
 rcases Nat.lt_succ_iff_lt_or_eq.1 hc with q | q
 ·rw[x0c m y l x q,dot_sm]
  refine qa7 λi hi=>?_
  unfold bN aN
  rw[if_pos q,qu1 _ _ _ hi,qu1 _ _ _ hi]
 ·rw[q,w9x,dot_sm]
  refine qa7 λi hi=>?_
  unfold bN aN
  rw[if_neg (Nat.lt_irrefl _),qu1 _ _ _ hi]
structure GrOk (m:List (List Int)) (y l:List Int):Prop where
 msk:Mk m
 ylen:y.length=m.length
 ybd:∀i,i<m.length->(nI y i).natAbs<=1000000
 inw:InW (nL m 0).length l
 ind:Ind m l
 n6:l.length<=6
theorem GrOk.one {m:List (List Int)} {y l:List Int} (h:GrOk m y l):∀i x,i<m.length->x<l.length->(aN m l i x).natAbs<=1:=λi x hi hx=>by
 have h3:=h.inw.at_ x hx
 have:=h.msk.small i hi (nI l x).toNat (by omega)
 unfold aN; omega
theorem GrOk.gram {m:List (List Int)} {y l:List Int} (h:GrOk m y l):Gram l.length m.length (l.length+1) (rowOf (qc0 m y l)) (aN m l) (bN m y l) (· < l.length):=
 ⟨h.n6,h.msk.rows6,λx c hx hc=>qy0 m y l hx hc,h.one,λi c hi hc ho=>by unfold bN; rw[if_pos ho]; exact h.one i c hi ho⟩
theorem St.gram {n m W j C:Nat} {R a b:Nat->Nat->Int} {rows:List (List Int)} {P:List Int} (h:St n W R j rows P) (hG:Gram n m W R a b (· < C)) (hj:j<=C) {i c B:Nat} (hi:i<n) (hc:c<W) (hB1:1<=B) (hB:∀i,i<m->(b i c).natAbs<=B):(nI (nL rows i) c).natAbs<=691200*B:=by
 obtain⟨ρ,pv,τ,hE,t1,t2,t3,t4,t5,t6⟩:=h.tag
 rw[<- t4 i hi c hc]
 refine hG.bound hE (λt p ht hp=>?_) (t1 i hi) ?_ hc hB1 hB
 ·obtain⟨q,hq,rfl⟩:=t3 t ht
  rw[t5 q hq] at hp
  split at hp
  ·rename_i hqP
   obtain rfl:=Option.some.inj hp
   have:=h.pos q hqP
   (try dsimp only); omega
  ·cases hp
 ·rcases t6 i hi with⟨s,hs,hr⟩ | hr | hr
  ·exact .inl ⟨s,hs,λc hc=>by rw[t4 i hi c hc]; exact hr c hc⟩
  ·exact .inr (.inl λc hc=>by rw[t4 i hi c hc]; exact hr c hc)
  ·exact .inr (.inr λd hd=>hr d λc hc=>by rw[<- t4 i hi c hc]; exact hd c hc)
theorem GrOk.bB {m:List (List Int)} {y l:List Int} (h:GrOk m y l):∀i c,i<m.length->(bN m y l i c).natAbs<=1000000:=λi c hi=>by
 unfold bN; split
 ·rename_i q; have:=h.one i c hi q; omega
 ·exact h.ybd i hi
theorem GrOk.mat {m:List (List Int)} {y l:List Int}:Mat l.length (l.length+1) (qc0 m y l):=⟨q8g _ _ _,λi hi=>by rw[wi8 _ _ _ hi,w2s]⟩
theorem GrOk.sml {m:List (List Int)} {y l:List Int} (h:GrOk m y l):Sml l.length l.length (l.length+1) 691200 691200000000 (qc0 m y l):=by
 have h6:=h.n6
 have hr6:=h.msk.rows6
 refine⟨GrOk.mat,h6,by omega,by omega,by decide,by decide,by decide,by decide,λa c ha hc=>?_,λj rows P hj hs i hi=>⟨λc hc=>?_,λc hc=>?_⟩⟩
 ·have e:=qy0 m y l ha hc
  unfold rowOf at e
  rw[e]
  have:=wf6 (n:=m.length) (f:=λi=>aN m l i a*bN m y l i c) (B:=1000000) λi hi=>by
   rw[Int.natAbs_mul]
   have:=Nat.mul_le_mul (h.one i a hi ha) (h.bB i c hi)
   omega
  have h2:m.length*1000000<=6*1000000:=Nat.mul_le_mul_right _ hr6
  omega
 ·have:=hs.gram h.gram hj hi (show c<l.length+1 by omega) (B:=1) (Nat.le_refl _) λi hi=>by
   unfold bN; rw[if_pos hc]; exact h.one i c hi hc
  omega
 ·have:=hs.gram h.gram hj hi hc (B:=1000000) (by decide) λi hi=>h.bB i c hi
  omega
theorem GrOk.nons {m:List (List Int)} {y l:List Int} (h:GrOk m y l) {z:Nat->Int} (hz:Sol l.length (l.length+1) (rowOf (qc0 m y l)) z) (h0:z l.length=0):∀c,c<l.length->z c=0:=by
 obtain⟨u,hu⟩:∃u:Nat->Int,∀i,u i=sm l.length λc=>aN m l i c*z c:=⟨_,λ_=>rfl⟩
 have h1:∀x,x<l.length->(sm m.length λi=>aN m l i x*u i)=0:=λx hx=>by
  have e:=hz x hx
  rw[sm,h0,Int.mul_zero,Int.add_zero] at e
  rw[<- e]
  have e2:(sm l.length λc=>rowOf (qc0 m y l) x c*z c)=sm l.length λc=>sm m.length λi=>(aN m l i x*aN m l i c)*z c:=qa7 λc hc=>by
   rw[qy0 m y l hx (by omega),Int.mul_comm,<- qf7]
   refine qa7 λi hi=>?_
   unfold bN; rw[if_pos hc,Int.mul_comm]
  rw[e2,qv7]
  refine qa7 λi hi=>?_
  rw[hu,<- qf7]
  exact qa7 λc hc=>by rw[Int.mul_assoc]
 have h2:(sm m.length λi=>u i*u i)=0:=by
  have e:(sm m.length λi=>u i*u i)=sm m.length λi=>sm l.length λx=>z x*(aN m l i x*u i):=qa7 λi hi=>by
   have:u i*u i=u i*sm l.length λc=>aN m l i c*z c:=by rw[<- hu]
   rw[this,<- qf7]
   refine qa7 λx _=>?_
   grind
  rw[e,qv7]
  refine sm_zero λx hx=>?_
  rw[qf7,h1 x hx,Int.mul_zero]
 have h3:=x0b _ h2
 exact h.ind z λi hi=>by
  have:=h3 i hi
  rw[hu] at this
  exact this
theorem GrOk.full {m:List (List Int)} {y l:List Int} (h:GrOk m y l) {rows:List (List Int)} {P:List Int} (hst:St l.length (l.length+1) (rowOf (qc0 m y l)) l.length rows P):P.length=l.length:=by
 rcases Nat.lt_or_ge P.length l.length with q | q
 ·obtain⟨f,hf,hnp⟩:=Asc.free q
  obtain⟨z,z1,z2,z3⟩:=hst.free (by omega) (f:=f) (by omega) hnp λi h1 h2=>hst.zero i h1 h2 f hf
  exact absurd (h.nons z1 (z3 l.length (by omega) (by omega) λq hq=>by have:=(hst.pos q hq).2.1; omega) f hf) z2
 ·have:=hst.pl; omega
theorem GrOk.good {m:List (List Int)} {y l:List Int} (h:GrOk m y l) {rows:List (List Int)} {P:List Int} (hst:St l.length (l.length+1) (rowOf (qc0 m y l)) l.length rows P):Good l.length l.length (rowOf (qc0 m y l)) rows P:=
 ⟨⟨l.length,Nat.le_refl _,by omega,hst⟩,λq hq=>(hst.pos q hq).2.1,λi h1 h2=>absurd h1 (by rw[h.full hst]; omega)⟩
theorem w9y {left:List (List Int)} {j:Nat} {a:Int} (h:Prim (nL left a.toNat)):Prim (q26 left j a):=by
 unfold q26
 split
 ·rcases h with h | h
  ·exact .inl λc hc=>by rw[qo1] at hc; rw[q2b,h c hc,Int.zero_mul]
  ·refine .inr λd hd=>h d λc hc=>?_
   have:=hd c (by rw[qo1]; exact hc)
   rw[q2b,Int.natAbs_mul] at this
   simpa using this
 ·exact h
theorem wr7 {n W:Nat} {M:List (List Int)} (h:Mat n W M):∀j,j<=W->∀x∈(qg7 M j).done_,Prim x
 | 0,_,x,hx=>by cases hx
 | j+1,hj,x,hx=>by
  have ih:=wr7 h j (by omega)
  obtain⟨hst,hcnt,hprim⟩:=qs9 h j (by omega)
  rw[qg7,q8r] at hx
  split at hx
  ·exact ih x hx
  ·rename_i hne
   have hlt:=(q1c (qg7 M j).left j (qg7 M j).left.length).1
   rcases List.mem_append.1 hx with hx | hx
   ·obtain⟨r,_,rfl⟩:=List.mem_map.1 hx
    exact qm6 _
   ·rw[List.mem_singleton.1 hx]
    exact w9y (hprim _ (qs2 _ _ (by omega)))
theorem xn5 {a d D:Int} (ha:a∣D) (hd:d∣D):a*d.tdiv (qd8 a d)∣D:=by
 refine Int.natAbs_dvd_natAbs.1 ?_
 have h1:=Nat.lcm_dvd (Int.natAbs_dvd_natAbs.2 ha) (Int.natAbs_dvd_natAbs.2 hd)
 have h2:(a*d.tdiv (qd8 a d)).natAbs=Nat.lcm a.natAbs d.natAbs:=by
  rw[Int.natAbs_mul,Int.natAbs_tdiv,wq5,Nat.lcm,Nat.mul_div_assoc _ (Nat.gcd_dvd_right _ _)]; rfl
 rw[h2]; exact h1
theorem w9z (a b:Int):qd8 a b=qd8 b a:=by unfold qd8; rw[Int.gcd_comm]
structure x1j (m:List (List Int)) (y l:List Int):Prop where
 len:((qf0 (qc0 m y l)).1).length=l.length
 pos:∀k,k<l.length->0<nI (nL (qa4 (qc0 m y l) l.length).1 k) k
 row:∀k,k<l.length->∀c,c<l.length+1->(nI (nL (qa4 (qc0 m y l) l.length).1 k) c).natAbs<=691200000000
 tms:∀k,k<=l.length->0<qh3 (qa4 (qc0 m y l) l.length).1 l.length k/\qh3 (qa4 (qc0 m y l) l.length).1 l.length k<=691200/\qh3 (qa4 (qc0 m y l) l.length).1 l.length k=x4h (qf0 (qc0 m y l)).1 k
 den:∀k,k<l.length->q0g (qa4 (qc0 m y l) l.length).1 l.length k=nI (nL (qf0 (qc0 m y l)).1 k) k/\0<q0g (qa4 (qc0 m y l) l.length).1 l.length k/\q0g (qa4 (qc0 m y l) l.length).1 l.length k∣qh3 (qa4 (qc0 m y l) l.length).1 l.length l.length
 num:∀k,k<l.length->q8v (qa4 (qc0 m y l) l.length).1 l.length k=nI (nL (qf0 (qc0 m y l)).1 k) l.length/\(q8v (qa4 (qc0 m y l) l.length).1 l.length k).natAbs<=691200000000
 mul:∀k,k<l.length->((qh3 (qa4 (qc0 m y l) l.length).1 l.length l.length).tdiv (q0g (qa4 (qc0 m y l) l.length).1 l.length k)*q8v (qa4 (qc0 m y l) l.length).1 l.length k).natAbs<=691200000000
 each:∀k,k<l.length->(nL (qf0 (qc0 m y l)).1 k).length=l.length+1
 dvd:qh3 (qa4 (qc0 m y l) l.length).1 l.length l.length∣det l.length (rowOf (qc0 m y l))
 sol:∃z,Sol l.length (l.length+1) (rowOf (qc0 m y l)) z/\z l.length≠0/\∀k,k<l.length->q0g (qa4 (qc0 m y l) l.length).1 l.length k*z k+q8v (qa4 (qc0 m y l) l.length).1 l.length k*z l.length=0
theorem GrOk.rs {m:List (List Int)} {y l:List Int} (h:GrOk m y l):x1j m y l:=by
 have hG:=h.gram
 have hs:=h.sml
 have hst:=qn3 (GrOk.mat (m:=m) (y:=y) (l:=l)) l.length (by omega)
 obtain⟨hrs,hcnt,hprim⟩:=qs9 (GrOk.mat (m:=m) (y:=y) (l:=l)) l.length (by omega)
 have hpr:=wr7 (GrOk.mat (m:=m) (y:=y) (l:=l)) l.length (by omega)
 have hP:=h.full hst
 have hP3:=h.full hrs
 have hlen:=hrs.len
 rw[List.length_append] at hlen
 have hleft:(qg7 (qc0 m y l) l.length).left=[]:=List.length_eq_zero_iff.1 (by omega)
 rw[hleft,List.append_nil] at hrs
 have hg:=h.good hst
 have hg3:=h.good hrs
 have hred:(qf0 (qc0 m y l)).1=(qg7 (qc0 m y l) l.length).done_:=by
  unfold qf0
  rcases Nat.eq_zero_or_pos l.length with q | q
  ·have e0:qc0 m y l=[]:=List.length_eq_zero_iff.1 (by rw[q8g]; exact q)
   have e1:rdW (qc0 m y l)=0:=by rw[e0]; rfl
   rw[e1,q]
  ·have e1:rdW (qc0 m y l)=l.length+1:=by unfold rdW; rw[wi8 _ _ _ q,w2s]
   rw[e1,wp6 rfl hleft 1]
 rw[show x1j m y l↔x1j m y l from Iff.rfl]
 have i1:=λq (hq:q<l.length)=>hg.asc.id hP hq
 have i3:=λq (hq:q<l.length)=>hg3.asc.id hP3 hq
 obtain⟨z,z1,z2⟩:=hg.last
 have hdl:(qg7 (qc0 m y l) l.length).done_.length=l.length:=by omega
 have key:∀k,k<l.length->0<nI (nL (qa4 (qc0 m y l) l.length).1 k) k/\q0g (qa4 (qc0 m y l) l.length).1 l.length k=nI (nL (qf0 (qc0 m y l)).1 k) k/\0<q0g (qa4 (qc0 m y l) l.length).1 l.length k/\q8v (qa4 (qc0 m y l) l.length).1 l.length k=nI (nL (qf0 (qc0 m y l)).1 k) l.length/\qd8 (nI (nL (qf0 (qc0 m y l)).1 k) l.length) (nI (nL (qf0 (qc0 m y l)).1 k) k)=1/\nI (nL (qf0 (qc0 m y l)).1 k) k*z k+nI (nL (qf0 (qc0 m y l)).1 k) l.length*z l.length=0:=λk hk=>by
  rw[hred]
  have p1:=(hg.row hP z1 hk).1
  obtain⟨p3,p4⟩:=hg3.row hP3 z1 hk
  have hv:=hg.val hg3 hP hP3 hk
  have hgc:qd8 (nI (nL (qg7 (qc0 m y l) l.length).done_ k) l.length) (nI (nL (qg7 (qc0 m y l) l.length).done_ k) k)=1:=by
   have hp:=hpr _ (qs2 _ k (by omega))
   have h1:=hp.gcd (W:=l.length+1) (f:=k) (hrs.each k hk) (by omega) p3 (Nat.gcd (nI (nL (qg7 (qc0 m y l) l.length).done_ k) l.length).natAbs (nI (nL (qg7 (qc0 m y l) l.length).done_ k) k).natAbs) λc hc=>by
    by_cases q1:c=l.length
    ·rw[q1]; exact Nat.gcd_dvd_left _ _
    ·by_cases q2:c=k
     ·rw[q2]; exact Nat.gcd_dvd_right _ _
     ·have hp2:=(hrs.pos c (by omega)).2.2.2.2 k hk (Ne.symm q2)
      rw[i3 c (by omega),Int.toNat_natCast] at hp2
      rw[hp2]; exact Nat.dvd_zero _
   show((Int.gcd _ _:Nat):Int)=1
   unfold Int.gcd
   rw[h1]; rfl
  have he:=wy0 p1 p3 hv
  unfold q91 at he
  rw[hgc,Int.tdiv_one,Int.tdiv_one,w9z] at he
  obtain⟨e1,e2⟩:=Prod.mk.inj he
  refine⟨p1,e2,by rw[show q0g (qa4 (qc0 m y l) l.length).1 l.length k=_ from e2]; exact p3,e1,hgc,p4⟩
 have dl:∀x b,lfm (rowOf (qc0 m y l)) (λb=>some b) x b=rowOf (qc0 m y l) x b:=λx b=>rfl
 have hsym:∀x c,x<l.length->c<l.length->rowOf (qc0 m y l) x c=rowOf (qc0 m y l) c x:=λx c hx hc=>by
  rw[qy0 m y l hx (by omega),qy0 m y l hc (by omega)]
  refine qa7 λi _=>?_
  unfold bN; rw[if_pos hx,if_pos hc,Int.mul_comm]
 obtain⟨D,hD⟩:∃D,D=det l.length (rowOf (qc0 m y l)):=⟨_,rfl⟩
 have hD0:D≠0:=by
  rw[hD]
  refine wy9 λlam hl i hi=>?_
  have:=h.nons (z:=λc=>if c<l.length then lam c else 0) (λa ha=>?_) (if_neg (Nat.lt_irrefl _)) i hi
  ·(try dsimp only at this); rw[if_pos hi] at this; exact this
  ·rw[sm]
   refine Eq.trans ?_ (hl a ha)
   try dsimp only
   rw[if_neg (Nat.lt_irrefl _),Int.mul_zero,Int.add_zero]
   refine qa7 λc hc=>?_
   rw[if_pos hc,hsym a c ha hc,Int.mul_comm]
 have hcr:∀k,k<l.length->z l.length*det l.length (qu3 (rowOf (qc0 m y l)) k λx=>rowOf (qc0 m y l) x l.length)=- z k*D:=λk hk=>by
  have e1:=q6c (rowOf (qc0 m y l)) hk (λc=>- z c) (λc x=>rowOf (qc0 m y l) x c) l.length
  rw[qk1 hk λc hc hne=>by
   have:det l.length (qu3 (rowOf (qc0 m y l)) k λx=>rowOf (qc0 m y l) x c)=0:=wy8 hk hc (Ne.symm hne) λi hi=>by
    unfold qu3; rw[if_pos rfl,if_neg hne]
   (try dsimp only); rw[this,Int.mul_zero]] at e1
  have e2:det l.length (qu3 (rowOf (qc0 m y l)) k λx=>rowOf (qc0 m y l) x k)=D:=by
   rw[hD]
   refine qf2 _ λi j hi hj=>?_
   unfold qu3; split
   ·rename_i q; rw[q]
   ·rfl
  rw[e2] at e1
  rw[<- e1]
  have e3:=q6b l.length (rowOf (qc0 m y l)) k hk (z l.length) 0 (λx=>rowOf (qc0 m y l) x l.length) (λ_=>0)
  rw[Int.zero_mul (det _ _),Int.add_zero] at e3
  rw[<- e3]
  refine qf2 _ λi j hi hj=>?_
  unfold qu3; split
  ·have:=z1 i hi
   rw[sm] at this
   have e4:(sm l.length λc=>- z c*rowOf (qc0 m y l) i c)=- sm l.length λc=>rowOf (qc0 m y l) i c*z c:=by
    have:=qf7 l.length (-1) λc=>rowOf (qc0 m y l) i c*z c
    rw[show(-1:Int)*sm l.length (λc=>rowOf (qc0 m y l) i c*z c)=- sm l.length λc=>rowOf (qc0 m y l) i c*z c by omega] at this
    rw[<- this]
    exact qa7 λc _=>by grind
   try dsimp only
   rw[e4,Int.zero_mul,Int.add_zero,Int.mul_comm]
   omega
  ·rfl
 have hAD:∀k,k<l.length->nI (nL (qf0 (qc0 m y l)).1 k) k*det l.length (qu3 (rowOf (qc0 m y l)) k λx=>rowOf (qc0 m y l) x l.length)=nI (nL (qf0 (qc0 m y l)).1 k) l.length*D:=λk hk=>by
  obtain⟨_,_,_,_,_,hz⟩:=key k hk
  have hc:=hcr k hk
  generalize det l.length (qu3 (rowOf (qc0 m y l)) k λx=>rowOf (qc0 m y l) x l.length)=Dk at hc ⊢
  generalize nI (nL (qf0 (qc0 m y l)).1 k) k=A at hz ⊢
  generalize nI (nL (qf0 (qc0 m y l)).1 k) l.length=C at hz ⊢
  have:z l.length*(A*Dk-C*D)=0:=by grind
  have:=qc7 this z2
  omega
 have hdv:∀k,k<l.length->nI (nL (qf0 (qc0 m y l)).1 k) k∣D:=λk hk=>by
  obtain⟨_,_,_,_,hgc,_⟩:=key k hk
  have h1:nI (nL (qf0 (qc0 m y l)).1 k) k∣nI (nL (qf0 (qc0 m y l)).1 k) l.length*D:=⟨_,(hAD k hk).symm⟩
  have h2:Nat.Coprime (nI (nL (qf0 (qc0 m y l)).1 k) k).natAbs (nI (nL (qf0 (qc0 m y l)).1 k) l.length).natAbs:=by
   have:((Int.gcd (nI (nL (qf0 (qc0 m y l)).1 k) l.length) (nI (nL (qf0 (qc0 m y l)).1 k) k):Nat):Int)=1:=hgc
   rw[Int.gcd_comm] at this
   exact Int.ofNat.inj this
  have h3:=Int.natAbs_dvd_natAbs.2 h1
  rw[Int.natAbs_mul] at h3
  exact Int.natAbs_dvd_natAbs.1 (h2.dvd_of_dvd_mul_left h3)
 have hall:∀k,k<=l.length->0<qh3 (qa4 (qc0 m y l) l.length).1 l.length k/\qh3 (qa4 (qc0 m y l) l.length).1 l.length k=x4h (qf0 (qc0 m y l)).1 k/\qh3 (qa4 (qc0 m y l) l.length).1 l.length k∣D/\∀q,q<k->q0g (qa4 (qc0 m y l) l.length).1 l.length q∣qh3 (qa4 (qc0 m y l) l.length).1 l.length k:=λk=>by
  induction k with
  | zero=>exact λ_=>⟨by show(0:Int)<1; decide,rfl,Int.one_dvd _,λq hq=>absurd hq (Nat.not_lt_zero _)⟩
  | succ k ih=>
   intro hk
   obtain⟨a1,a2,a3,a4⟩:=ih (by omega)
   obtain⟨_,k1,k2,_⟩:=key k (by omega)
   have hdk:=hdv k (by omega)
   rw[<- k1] at hdk
   obtain⟨d1,d2,d3,_,d5⟩:=w9p a1 k2
   rw[qh3,x4h,<- a2,<- k1,d5]
   refine⟨d1,rfl,xn5 a3 hdk,λq hq=>?_⟩
   rcases Nat.lt_succ_iff_lt_or_eq.1 hq with e | e
   ·exact Int.dvd_trans (a4 q e) d2
   ·rw[e]; exact d3
 have hDb:l.length≠0->D.natAbs<=691200:=λhn=>by
  have:=hG.detB (pv:=λb=>some b) (t:=0) (c:=0) (B:=1) (λt p ht hp=>by obtain rfl:=Option.some.inj hp; omega) (λt p ht hp=>by obtain rfl:=Option.some.inj hp; exact ht) (by omega) (by omega) (Nat.le_refl _) λi hi=>by
   unfold bN; rw[if_pos (by omega)]; exact h.one i 0 hi (by omega)
  have e2:det l.length (qu3 (lfm (rowOf (qc0 m y l)) λb=>some b) 0 λx=>rowOf (qc0 m y l) x 0)=D:=by
   rw[hD]
   refine qf2 _ λi j hi hj=>?_
   unfold qu3; split
   ·rename_i q; rw[q]
   ·rfl
  rw[e2] at this
  omega
 have hDkb:∀k,k<l.length->(det l.length (qu3 (rowOf (qc0 m y l)) k λx=>rowOf (qc0 m y l) x l.length)).natAbs<=691200000000:=λk hk=>by
  have:=hG.detB (pv:=λb=>some b) (t:=k) (c:=l.length) (B:=1000000) (λt p ht hp=>by obtain rfl:=Option.some.inj hp; omega) (λt p ht hp=>by obtain rfl:=Option.some.inj hp; exact ht) hk (by omega) (by decide) λi hi=>h.bB i _ hi
  have e2:det l.length (qu3 (lfm (rowOf (qc0 m y l)) λb=>some b) k λx=>rowOf (qc0 m y l) x l.length)=det l.length (qu3 (rowOf (qc0 m y l)) k λx=>rowOf (qc0 m y l) x l.length):=rfl
  rw[e2] at this
  omega
 have hT:∀k,k<=l.length->qh3 (qa4 (qc0 m y l) l.length).1 l.length k<=691200:=λk hk=>by
  obtain⟨a1,a2,a3,a4⟩:=hall k hk
  rcases Nat.eq_zero_or_pos l.length with q | q
  ·rw[show k=0 by omega]; show(1:Int)<=_; decide
  ·have:=hDb (by omega)
   have h2:=Nat.le_of_dvd (by omega) (Int.natAbs_dvd_natAbs.2 a3)
   omega
 have hmul:∀k,k<l.length->((qh3 (qa4 (qc0 m y l) l.length).1 l.length l.length).tdiv (q0g (qa4 (qc0 m y l) l.length).1 l.length k)*q8v (qa4 (qc0 m y l) l.length).1 l.length k).natAbs<=691200000000/\(q8v (qa4 (qc0 m y l) l.length).1 l.length k).natAbs<=691200000000:=λk hk=>by
  obtain⟨_,k1,k2,k3,_⟩:=key k hk
  obtain⟨a1,a2,⟨e,he⟩,a4⟩:=hall l.length (Nat.le_refl _)
  obtain⟨t,ht⟩:=a4 k hk
  have hb:=hDkb k hk
  have hA:=hAD k hk
  rw[<- k1,<- k3] at hA
  generalize q0g (qa4 (qc0 m y l) l.length).1 l.length k=A at k2 hA ht ⊢
  generalize q8v (qa4 (qc0 m y l) l.length).1 l.length k=C at hA ⊢
  generalize det l.length (qu3 (rowOf (qc0 m y l)) k λx=>rowOf (qc0 m y l) x l.length)=Dk at hb hA
  generalize qh3 (qa4 (qc0 m y l) l.length).1 l.length l.length=T at a1 he ht ⊢
  have ht0:0<t:=q33 k2 (by omega)
  have e1:T.tdiv A=t:=by rw[ht]; exact Int.mul_tdiv_cancel_left _ (by omega)
  have e2:A*(Dk-(t*C)*e)=0:=by rw[he,ht] at hA; grind
  have e3:=qc7 e2 (by omega)
  have he0:e≠0:=λq=>hD0 (by rw[he,q,Int.mul_zero])
  have e4:Dk.natAbs=(t*C).natAbs*e.natAbs:=by rw[<- Int.natAbs_mul,show Dk=t*C*e by omega]
  have e5:(t*C).natAbs<=Dk.natAbs:=by rw[e4]; exact Nat.le_mul_of_pos_right _ (by omega)
  rw[e1]
  refine⟨by omega,?_⟩
  have e6:C.natAbs<=(t*C).natAbs:=by rw[Int.natAbs_mul]; exact Nat.le_mul_of_pos_left _ (by omega)
  omega
 refine⟨by rw[hred]; exact hdl,λk hk=>(key k hk).1,λk hk c hc=>?_,λk hk=>⟨(hall k hk).1,hT k hk,(hall k hk).2.1⟩,λk hk=>⟨(key k hk).2.1,(key k hk).2.2.1,(hall _ (Nat.le_refl _)).2.2.2 k hk⟩,λk hk=>⟨(key k hk).2.2.2.1,(hmul k hk).2⟩,λk hk=>(hmul k hk).1,λk hk=>by rw[hred]; exact hrs.each k hk,by rw[<- hD]; exact(hall _ (Nat.le_refl _)).2.2.1,z,z1,z2,λk hk=>?_⟩
 ·exact(hs.small _ _ _ (Nat.le_refl _) hst k hk).2 c hc
 ·obtain⟨_,k1,_,k3,_,k5⟩:=key k hk
  rw[k1,k3]; exact k5
end Go.Proofs.YtmijnbjlhnpokaaGreat
