/- Circuits are the least solutions; twins. Plain mathematics. No condition. -/
import Derived.Test.YtdibdlelmkcccaaW16
set_option linter.unusedVariables false
namespace Go.Proofs.Ytdibdlelmkcccaa
open Go Go.RowKit Eng
def qx7:Nat->(Nat->Int)->Nat
 | 0,_=>0
 | k+1,d=>if d k≠0 then qx7 k d+1 else qx7 k d
theorem qz8 (l:List Int):∀k,nzTo l k=qx7 k (nI l)
 | 0=>rfl
 | k+1=>by rw[nzTo,qx7,qz8 l k]
theorem cnt_le {d e:Nat->Int}:∀k,(∀c,c<k->d c≠0->e c≠0)->qx7 k d<=qx7 k e
 | 0,_=>Nat.le_refl _
 | k+1,h=>by
  have ih:=cnt_le k λc hc=>h c (by omega)
  rw[qx7,qx7]
  by_cases q:d k≠0
  ·rw[if_pos q,if_pos (h k (by omega) q)]; omega
  ·rw[if_neg q]; split <;> omega
theorem cnt_lt {d e:Nat->Int} {c0:Nat} (h1:d c0=0) (h2:e c0≠0):∀k,c0<k->(∀c,c<k->d c≠0->e c≠0)->qx7 k d<qx7 k e
 | k+1,hk,h=>by
  rw[qx7,qx7]
  by_cases q:c0=k
  ·have ih:=cnt_le (d:=d) (e:=e) k λc hc=>h c (by omega)
   rw[<- q,if_neg (by rw[h1]; exact λk=>k rfl),if_pos h2,q]
   omega
  ·have ih:=cnt_lt h1 h2 k (by omega) λc hc=>h c (by omega)
   by_cases q2:d k≠0
   ·rw[if_pos q2,if_pos (h k (by omega) q2)]; omega
   ·rw[if_neg q2]; split <;> omega
theorem w65 {d e f:Nat->Int}:∀k,(∀c,c<k->d c≠0->e c≠0\/f c≠0)->qx7 k d<=qx7 k e+qx7 k f
 | 0,_=>Nat.le_refl _
 | k+1,h=>by
  have ih:=w65 k λc hc=>h c (by omega)
  rw[qx7,qx7,qx7]
  by_cases q:d k≠0
  ·rw[if_pos q]
   rcases h k (by omega) q with q2 | q2
   ·rw[if_pos q2]; split <;> omega
   ·rw[if_pos q2]; split <;> omega
  ·rw[if_neg q]; split <;> split <;> omega
def wm8:Nat->(Nat->Int)->List Int
 | 0,_=>[]
 | k+1,d=>if d k≠0 then wm8 k d++[(k:Int)] else wm8 k d
theorem q5r (d:Nat->Int):∀k,(wm8 k d).length=qx7 k d
 | 0=>rfl
 | k+1=>by
  rw[wm8,qx7]
  split
  ·rw[List.length_append,q5r d k]; rfl
  ·exact q5r d k
theorem qx8 (d:Nat->Int):∀k,Named k (wm8 k d)/\∀j,j<(wm8 k d).length->d (nI (wm8 k d) j).toNat≠0
 | 0=>⟨⟨λj hj=>absurd hj (Nat.not_lt_zero _),λi j _ hj=>absurd hj (Nat.not_lt_zero _)⟩,λj hj=>absurd hj (Nat.not_lt_zero _)⟩
 | k+1=>by
  obtain⟨h1,h2⟩:=qx8 d k
  rw[wm8]
  by_cases q:d k≠0
  ·rw[if_pos q]
   have hl:(wm8 k d++[(k:Int)]).length=(wm8 k d).length+1:=by simp
   refine⟨⟨λj hj=>?_,λi j hij hj=>?_⟩,λj hj=>?_⟩
   ·rw[hl] at hj
    rcases Nat.lt_succ_iff_lt_or_eq.1 hj with e | e
    ·rw[ql9 _ _ e]; have:=h1.at_ j e; omega
    ·rw[e,qs3]; omega
   ·rw[hl] at hj
    rw[ql9 _ _ (show i<(wm8 k d).length by omega)]
    rcases Nat.lt_succ_iff_lt_or_eq.1 hj with e | e
    ·rw[ql9 _ _ e]; exact h1.asc i j hij e
    ·rw[e,qs3]; exact(h1.at_ i (by omega)).2
   ·rw[hl] at hj
    rcases Nat.lt_succ_iff_lt_or_eq.1 hj with e | e
    ·rw[ql9 _ _ e]; exact h2 j e
    ·rw[e,qs3,Int.toNat_natCast]; exact q
  ·rw[if_neg q]
   exact⟨⟨λj hj=>by have:=h1.at_ j hj; omega,h1.asc⟩,h2⟩
theorem wd0 (d:Nat->Int):∀k c,c<k->d c≠0->∃j,j<(wm8 k d).length/\nI (wm8 k d) j=(c:Int)
 | k+1,c,hc,hd=>by
  rw[wm8]
  by_cases q:c=k
  ·rw[if_pos (by rw[<- q]; exact hd)]
   exact⟨(wm8 k d).length,by simp,by rw[qs3,q]⟩
  ·obtain⟨j,h1,h2⟩:=wd0 d k c (by omega) hd
   split
   ·exact⟨j,by rw[List.length_append]; omega,by rw[ql9 _ _ h1]; exact h2⟩
   ·exact⟨j,h1,h2⟩
theorem Named.inj {n:Nat} {s:List Int} (h:Named n s) {i j:Nat} (hi:i<s.length) (hj:j<s.length) (e:(nI s i).toNat=(nI s j).toNat):i=j:=by
 have h1:=h.at_ i hi
 have h2:=h.at_ j hj
 rcases Nat.lt_trichotomy i j with q | q | q
 ·have:=h.asc i j q hj; omega
 ·exact q
 ·have:=h.asc j i q hi; omega
theorem q7w {m:List (List Int)} (hM:Mk m):∀(K:Nat) (d:Nat->Int),qx7 (nL m 0).length d<=K->Sol m.length (nL m 0).length (rowOf m) d->(∃c,c<(nL m 0).length/\d c≠0)->∃s,Named (nL m 0).length s/\0<s.length/\IsC m s/\s.length<=qx7 (nL m 0).length d
 | 0,d,hK,_,⟨c,hc,hd⟩=>by
  have:=cnt_lt (d:=λ_=>0) (e:=d) (c0:=c) rfl hd _ hc λc _ q=>absurd rfl q
  omega
 | K+1,d,hK,hs,⟨c1,hc1,hd1⟩=>by
  have hN:=(qx8 d (nL m 0).length).1
  have hnz:=(qx8 d (nL m 0).length).2
  have hin:=wd0 d (nL m 0).length
  have hl:=q5r d (nL m 0).length
  generalize wm8 (nL m 0).length d=s at hN hnz hin hl
  have h1:0<s.length:=by obtain⟨j,hj,_⟩:=hin c1 hc1 hd1; omega
  have hO:=qk9 hM hN h1
  by_cases hC:IsC m s
  ·exact⟨s,hN,h1,hC,by omega⟩
  ·have hsW:∀c,c<s.length->(nI s c).toNat<(nL m 0).length:=λc hc=>by have:=hN.at_ c hc; omega
   have hu:Sol m.length s.length (rowOf (qi5 m s)) λc=>d (nI s c).toNat:=λa ha=>by
    have e:=hs a ha
    rw[q5q s.length (f:=λc=>rowOf m a c*d c) (τ:=λc=>(nI s c).toNat) hsW (λq k hq hk e=>hN.inj hq hk e) λb hb hq=>by
     try dsimp only
     rw[Classical.byContradiction λq:¬d b=0=>by
      obtain⟨j,hj,e⟩:=hin b hb q
      exact hq j hj (by(try dsimp only); rw[e,Int.toNat_natCast]),Int.mul_zero]] at e
    rw[<- e]
    refine qg3 λc hc=>?_
    unfold rowOf
    rw[qp7 m s a ha,qr5 _ _ _ hc]
   have hx:∃z,Sol m.length s.length (rowOf (qi5 m s)) z/\(∃c,c<s.length/\z c=0)/\∃c,c<s.length/\z c≠0:=Classical.byContradiction λhno=>by
    have:=hO.one_mk hu hnz λz hz h0 c hc=>Classical.byContradiction λq=>hno ⟨z,hz,h0,c,hc,q⟩
    exact hC ⟨this.1,this.2⟩
   obtain⟨z,hz,⟨c0,hc0,hz0⟩,c2,hc2,hz2⟩:=hx
   have hat:∀c,c<s.length->(sm s.length λq=>if(nI s q).toNat=(nI s c).toNat then z q else 0)=z c:=λc hc=>by
    rw[qs2 (k:=c) hc λi hi hne=>by
     try dsimp only
     rw[if_neg λe=>hne (hN.inj hi hc e)]]
    try dsimp only
    rw[if_pos rfl]
   have hoff:∀c,c<(nL m 0).length->(sm s.length λq=>if(nI s q).toNat=c then z q else 0)≠0->d c≠0:=λc hc hne q=>hne (qs7 λi hi=>by
    try dsimp only
    rw[if_neg λe=>hnz i hi (by rw[e]; exact q)])
   have hlt:=cnt_lt (d:=λcol=>sm s.length λq=>if(nI s q).toNat=col then z q else 0) (e:=d) (c0:=(nI s c0).toNat) (by(try dsimp only); rw[hat c0 hc0]; exact hz0) (hnz c0 hc0) _ (hsW c0 hc0) hoff
   obtain⟨s',k1,k2,k3,k4⟩:=q7w hM K (λcol=>sm s.length λq=>if(nI s q).toNat=col then z q else 0) (by omega) (λa ha=>by
    rw[wm0 hsW]
    rw[<- hz a ha]
    refine qg3 λc hc=>?_
    unfold rowOf
    rw[qp7 m s a ha,qr5 _ _ _ hc]) ⟨(nI s c2).toNat,hsW c2 hc2,by(try dsimp only); rw[hat c2 hc2]; exact hz2⟩
   exact⟨s',k1,k2,k3,by omega⟩
structure xm0 (m:List (List Int)) (s h:List Int):Prop where
 nam:Named (nL m 0).length s
 pos:0<s.length
 isc:IsC m s
 len:h.length=(nL m 0).length
 nz:qx7 (nL m 0).length (nI h)=s.length
 sol:Sol m.length (nL m 0).length (rowOf m) (nI h)
 on:∀j,j<s.length->nI h (nI s j).toNat≠0
 off:∀c,c<(nL m 0).length->(∀j,j<s.length->nI s j≠(c:Int))->nI h c=0
 small:∀c,(nI h c).natAbs<=160
theorem xu4 {N:Nat} {s:List Int} (hs:Named N s) {d:Nat->Int} (hon:∀j,j<s.length->d (nI s j).toNat≠0) (hoff:∀c,c<N->(∀j,j<s.length->nI s j≠(c:Int))->d c=0):qx7 N d=s.length:=by
 have h1:=(qx8 d N).1
 have h2:=(qx8 d N).2
 have h3:=wd0 d N
 rw[<- q5r]
 have sub:∀(s t:List Int),Named N s->Named N t->(∀j,j<s.length->∃i,i<t.length/\nI t i=nI s j)->s.length<=t.length:=λs t hs ht h=>Nat.le_of_not_lt λhgt=>by
  have hx:∀j,∃i,j<s.length->i<t.length/\nI t i=nI s j:=λj=>by
   by_cases hj:j<s.length
   ·obtain⟨i,hi⟩:=h j hj; exact⟨i,λ_=>hi⟩
   ·exact⟨0,λq=>absurd q hj⟩
  obtain⟨g,hg⟩:=Classical.axiomOfChoice hx
  obtain⟨i,j,k1,k2,k3⟩:=q7d t.length s.length g (λi hi=>(hg i hi).1) hgt
  have e1:=(hg i (by omega)).2
  have e2:=(hg j k2).2
  rw[k3] at e1
  have:=hs.asc i j k1 k2
  omega
 refine Nat.le_antisymm (sub _ _ h1 hs λj hj=>?_) (sub _ _ hs h1 λj hj=>?_)
 ·have hb:=h1.at_ j hj
  refine Classical.byContradiction λq=>h2 j hj (hoff _ (by omega) λi hi e=>q ⟨i,hi,by omega⟩)
 ·have hb:=hs.at_ j hj
  obtain⟨i,hi,e⟩:=h3 _ (by omega) (hon j hj)
  exact⟨i,hi,by omega⟩
theorem w66 {m:List (List Int)} {s:List Int} (hM:Mk m) (hs:Named (nL m 0).length s) (h1:0<s.length) (hc:IsC m s):xm0 m s (q7a m (nL m 0).length s):=by
 have hO:=qk9 hM hs h1
 obtain⟨f,hf,hnp,ho,hv,hp⟩:=hO.one_free hc.one
 have hsm:=(hO.ker_small (qo5 (qg5 (qi5 m s)) 0 (by have:=hc.one; show 0<(qi7 m s).length; omega))).2
 have hnz:=hc.nz
 unfold q7a q2l
 change KV _ _ _ _ _ (nL (qi7 m s) 0) at hv
 change Prim (nL (qi7 m s) 0) at hp
 change ∀x∈nL (qi7 m s) 0,_ at hsm
 generalize nL (qi7 m s) 0=v at *
 have hat:=λj (hj:j<s.length)=>q7u (v:=v) hs _ (Nat.le_refl _) j hj
 have ho2:∀c:Nat,(∀j,j<s.length->nI s j≠(c:Int))->nI (qd7 (nL m 0).length s v s.length) c=0:=λc hc=>wc9 hs hc _ (Nat.le_refl _)
 have hlen:=qk1 (nL m 0).length s v s.length
 generalize qd7 (nL m 0).length s v s.length=u at *
 have hsW:∀c,c<s.length->(nI s c).toNat<(nL m 0).length:=λc hc=>by have:=hs.at_ c hc; omega
 have hsol:Sol m.length (nL m 0).length (rowOf m) (nI u):=λa ha=>by
  rw[q5q s.length (f:=λc=>rowOf m a c*nI u c) (τ:=λc=>(nI s c).toNat) hsW (λq k hq hk e=>hs.inj hq hk e) λb hb hq=>by
   try dsimp only
   rw[ho2 b λj hj e=>hq j hj (by(try dsimp only); rw[e,Int.toNat_natCast]),Int.mul_zero]]
  rw[<- hv.sol a ha]
  refine qg3 λc hc=>?_
  try dsimp only
  unfold rowOf
  rw[hat c hc,qp7 m s a ha,qr5 _ _ _ hc]
 have hsmall:∀c,(nI u c).natAbs<=160:=λc=>by
  by_cases q:∃j,j<s.length/\nI s j=(c:Int)
  ·obtain⟨j,hj,e⟩:=q
   have:=hat j hj
   rw[e,Int.toNat_natCast] at this
   rw[this]
   exact hsm _ (q7f (by rw[hv.len]; exact hj))
  ·rw[ho2 c λj hj e=>q ⟨j,hj,e⟩]; decide
 have both:∀h:List Int,h.length=u.length->∀sg:Int,(sg=1\/sg=-1)->(∀c,nI h c=nI u c*sg)->xm0 m s h:=λh hl sg hsg he=>by
  have hsg0:sg≠0:=by rcases hsg with rfl | rfl <;> decide
  have hon:∀j,j<s.length->nI h (nI s j).toNat≠0:=λj hj=>by
   rw[he,hat j hj]; exact qu9 (hnz j hj) hsg0
  have hoff:∀c,c<(nL m 0).length->(∀j,j<s.length->nI s j≠(c:Int))->nI h c=0:=λc hc hj=>by
   rw[he,ho2 c hj,Int.zero_mul]
  refine⟨hs,h1,hc,by omega,xu4 hs hon hoff,λa ha=>?_,hon,hoff,λc=>?_⟩
  ·have e:=hsol a ha
   have e2:(sm (nL m 0).length λc=>rowOf m a c*nI h c)=sg*sm (nL m 0).length λc=>rowOf m a c*nI u c:=by
    rw[<- qu8]
    refine qg3 λc hc=>?_
    try dsimp only
    rw[he]; grind
   rw[e2,e,Int.mul_zero]
  ·rw[he,Int.natAbs_mul]
   have:=hsmall c
   rcases hsg with rfl | rfl
   ·simpa using this
   ·simpa using this
 split
 ·exact both _ (qt8 _ _) (-1) (.inr rfl) λc=>q5p u (-1) c
 ·exact both _ rfl 1 (.inl rfl) λc=>by omega
theorem w0o {m:List (List Int)} (hM:Mk m) {k:Nat} {h:List Int} (hh:h∈wm2 m k):∃s,xm0 m s h/\s.length=k:=by
 unfold wm2 at hh
 rw[List.mem_filterMap] at hh
 obtain⟨s,hs,e⟩:=hh
 obtain⟨hN,hl⟩:=q1t hs
 unfold q76 at e
 split at e
 ·rename_i q
  obtain rfl:=Option.some.inj e
  have hok:q0e m s=true:=by
   have q:=q
   unfold qt0 at q
   rw[Bool.and_eq_true,Bool.and_eq_true] at q
   exact q.1.1
  have h1:0<s.length:=by
   unfold q0e at hok
   rw[Bool.and_eq_true,decide_eq_true_eq] at hok
   omega
  exact⟨s,w66 hM hN h1 ((qx6 hM hN hok).1 q),hl⟩
 ·cases e
theorem w91 {m:List (List Int)} (hM:Mk m) {s:List Int} (hs:Named (nL m 0).length s) (h1:0<s.length) (hc:IsC m s):q7a m (nL m 0).length s∈wm2 m s.length:=by
 have hr:=w0j hM hs h1 hc
 have hr2:=w62 hM
 have hok:q0e m s=true:=by
  unfold q0e
  rw[Bool.and_eq_true,decide_eq_true_eq,decide_eq_true_eq]
  omega
 unfold wm2
 rw[List.mem_filterMap]
 refine⟨s,w60 hs,?_⟩
 unfold q76
 rw[if_pos ((qx6 hM hs hok).2 hc)]
theorem qx9 {m:List (List Int)} (hl:qk7 m=true) (hv:qd3 m=true):((qb4 m).2=0/\∃s,xm0 m s (qb4 m).1/\∀t,Named (nL m 0).length t->0<t.length->IsC m t->s.length<=t.length)\/((qb4 m).2=8/\(qb4 m).1=[]/\∀t,Named (nL m 0).length t->0<t.length->¬IsC m t):=by
 have hM:=Mk.of hv
 have h7:=q5n hl hM
 have e1:q1x m=(q2n m (nL m 0).length (q5m m),0):=by simp[q1x,hv]
 rw[w0m hv h7] at e1
 have hmem:∀t,Named (nL m 0).length t->0<t.length->IsC m t->q7a m (nL m 0).length t∈((List.range (nL m 0).length).flatMap λk=>wm2 m (k+1)):=λt ht h1 hc=>by
  rw[List.mem_flatMap]
  have:=ht.len
  refine⟨t.length-1,List.mem_range.2 (by omega),?_⟩
  rw[show t.length-1+1=t.length by omega]
  exact w91 hM ht h1 hc
 have hpw:∀K,((List.range K).flatMap λk=>wm2 m (k+1)).Pairwise (λa b=>qx7 (nL m 0).length (nI a)<=qx7 (nL m 0).length (nI b))/\∀h∈((List.range K).flatMap λk=>wm2 m (k+1)),qx7 (nL m 0).length (nI h)<=K:=λK=>by
  induction K with
  | zero=>exact⟨List.Pairwise.nil,λh hh=>by cases hh⟩
  | succ K ih=>
   rw[List.range_succ,List.flatMap_append]
   simp only[List.flatMap_cons,List.flatMap_nil,List.append_nil]
   have hk:∀h∈wm2 m (K+1),qx7 (nL m 0).length (nI h)=K+1:=λh hh=>by
    obtain⟨s,hs,hsl⟩:=w0o hM hh
    rw[hs.nz,hsl]
   refine⟨?_,λh hh=>?_⟩
   ·rw[List.pairwise_append]
    refine⟨ih.1,?_,λa ha b hb=>by have:=ih.2 a ha; have:=hk b hb; omega⟩
    rw[List.pairwise_iff_getElem]
    intro i j hi hj _
    have:=hk _ (List.getElem_mem hi)
    have:=hk _ (List.getElem_mem hj)
    omega
   ·rcases List.mem_append.1 hh with hh | hh
    ·have:=ih.2 h hh; omega
    ·have:=hk h hh; omega
 have hpw:=(hpw (nL m 0).length).1
 have hall:∀h∈((List.range (nL m 0).length).flatMap λk=>wm2 m (k+1)),∃s,xm0 m s h:=λh hh=>by
  rw[List.mem_flatMap] at hh
  obtain⟨k,_,hk⟩:=hh
  obtain⟨s,hs,_⟩:=w0o hM hk
  exact⟨s,hs⟩
 unfold qb4
 rw[e1]
 generalize((List.range (nL m 0).length).flatMap λk=>wm2 m (k+1))=L at *
 rw[if_neg λq=>q rfl]
 cases L with
 | nil=>
  rw[if_pos rfl]
  refine .inr ⟨rfl,rfl,λt ht h1 hc=>?_⟩
  have:=hmem t ht h1 hc
  cases this
 | cons h L=>
  rw[if_neg (λq=>by cases q)]
  refine .inl ⟨rfl,?_⟩
  have e0:nL (h :: L) 0=h:=rfl
  obtain⟨s,hs⟩:=hall h (by simp)
  show ∃s,xm0 m s (nL (h :: L) 0)/\_
  rw[e0]
  refine⟨s,hs,λt ht h1 hc=>?_⟩
  have hq:=w66 hM ht h1 hc
  have hm:=hmem t ht h1 hc
  have:qx7 (nL m 0).length (nI h)<=qx7 (nL m 0).length (nI (q7a m (nL m 0).length t)):=by
   rcases List.mem_cons.1 hm with e | e
   ·rw[e]; exact Nat.le_refl _
   ·exact(List.pairwise_cons.1 hpw).1 _ e
  rw[hs.nz,hq.nz] at this
  exact this
theorem q3t {m:List (List Int)} (hv:qd3 m=false):qb4 m=([],1):=by
 have e1:q1x m=([],1):=by simp[q1x,hv]
 unfold qb4
 rw[e1,if_pos (by show(1:Int)≠0; decide)]
theorem q3u {m:List (List Int)} (hl:qk7 m=true):(qb4 m).1.length<=10/\∀c,(nI (qb4 m).1 c).natAbs<=160:=by
 by_cases hv:qd3 m=true
 ·have h10:=(Mk.of hv).pix10
  rcases qx9 hl hv with⟨_,s,hs,_⟩ | ⟨_,e,_⟩
  ·have:=hs.len
   exact⟨by omega,hs.small⟩
  ·rw[e]
   exact⟨Nat.zero_le _,λc=>by rw[qw2 _ (Nat.zero_le _)]; decide⟩
 ·rw[q3t (by simpa using hv)]
  exact⟨Nat.zero_le _,λc=>by rw[qw2 _ (Nat.zero_le _)]; decide⟩
theorem xu5 {m:List (List Int)} (hl:qk7 m=true):q45 m:=⟨x1a,by have:=(q3u hl).1; omega⟩
theorem x4z {m:List (List Int)} (hl:qk7 m=true):xh7 m:=by
 have h:=q3u hl
 refine⟨xu5 hl,by omega,λx hx=>?_⟩
 obtain⟨c,hc,rfl⟩:=q3p hx
 have:=h.2 c
 have hB:BIG=4000000000000000000:=rfl
 constructor <;> omega
theorem x42 {m:List (List Int)} (hf:q6o m) (hl:qk7 m=true):w7e m:=⟨x1b hf hl,by rw[<- w64 hl]; have:=(q3u hl).1; omega⟩
theorem w67 (a b:List Int):∀k,qo9 a b k=sm k λi=>nI a i*nI b i
 | 0=>rfl
 | k+1=>by rw[qo9,sm,w67 a b k]
theorem w0p {m:List (List Int)} (hM:Mk m) {a b:List Int}:qo2 m a=qo2 m b↔Sol m.length (nL m 0).length (rowOf m) λc=>nI a c-nI b c:=by
 have e:∀i,i<m.length->(sm (nL m 0).length λc=>rowOf m i c*(nI a c-nI b c))=qo9 (nL m i) a (nL m i).length-qo9 (nL m i) b (nL m i).length:=λi hi=>by
  rw[w67,w67,hM.each i hi,<- w6a]
  refine qg3 λc hc=>?_
  unfold rowOf
  grind
 unfold qo2
 rw[List.map_inj_left]
 constructor
 ·intro h i hi
  have:=h i (List.mem_range.2 hi)
  have h2:=e i hi
  rw[this,Int.sub_self] at h2
  exact h2
 ·intro h i hi
  have hi:=List.mem_range.1 hi
  have h1:=h i hi
  rw[e i hi] at h1
  omega
theorem xk7 {m:List (List Int)} {k:Int} {a b:List Int} (hl:qk7 m=true) (h:qj0 m k a b=true) (hs:(qi3 m).2=0):(qi3 m).1<k:=by
 unfold qj0 at h
 simp only[Bool.and_eq_true,decide_eq_true_eq,Bool.not_eq_true',decide_eq_false_iff_not] at h
 obtain⟨⟨⟨⟨⟨⟨h1,h2⟩,h3⟩,h4⟩,h5⟩,h6⟩,h7⟩:=h
 have hA:=Shw.of h1
 have hB:=Shw.of h2
 have hM:=hA.msk
 have hv:=hA.val
 have hk:=qp5.1 h3
 unfold w2g at h4 h5
 rw[decide_eq_true_eq] at h4 h5
 rw[qz8,hA.len] at h4
 rw[qz8,hB.len] at h5
 have hsol:=(w0p hM).1 h6
 have hne:∃c,c<(nL m 0).length/\nI a c-nI b c≠0:=Classical.byContradiction λhno=>h7 (by
  have ha:=hA.len
  have hb:=hB.len
  refine List.ext_getElem (by omega) λi h8 h9=>?_
  rw[<- qh9 a i h8,<- qh9 b i h9]
  have:nI a i-nI b i=0:=Classical.byContradiction λq=>hno ⟨i,by omega,q⟩
  omega)
 have hsub:=w65 (d:=λc=>nI a c-nI b c) (e:=nI a) (f:=nI b) (nL m 0).length λc hc q=>by
  try dsimp only at q
  omega
 obtain⟨s,s1,s2,s3,s4⟩:=q7w hM _ _ (Nat.le_refl _) hsol hne
 rcases qx9 hl hv with⟨c1,t,t1,t2⟩ | ⟨_,_,c3⟩
 ·have h10:=t2 s s1 s2 s3
  have hn:=t1.nz
  have hp:=t1.pos
  have e:(qi3 m).1=((qh5 m).1-1).tdiv 2:=by
   have:(qh5 m).2=0:=c1
   simp[qi3,this]
  have e2:(qh5 m).1=(qx7 (nL m 0).length (nI (qb4 m).1):Int):=by
   unfold qh5
   rw[qz8,t1.len]
  rw[e,e2,hn,Int.tdiv_eq_ediv_of_nonneg (by omega)]
  omega
 ·exact absurd s3 (c3 s s1 s2)
theorem xk8 {m:List (List Int)} (hl:qk7 m=true) (k:Int):q0d m k=qu7 m k:=by
 unfold q0d qu7
 rw[<- w0n hl]
 by_cases hv:qd3 m=true
 ·have h1:¬(qb4 m).2=1:=by
   rcases qx9 hl hv with⟨e,_⟩ | ⟨e,_⟩ <;> rw[e] <;> decide
  have h2:¬qd3 m=false:=by rw[hv]; decide
  rw[if_neg h1,if_neg h2]
  rfl
 ·have hv:qd3 m=false:=by simpa using hv
  rw[if_pos (by rw[q3t hv]),if_pos hv]
theorem w68 (h:List Int) {k:Int} (hk:0<=k):∀i,(fstTo h k i:Int)=min (nzTo h i:Int) k
 | 0=>by show((0:Nat):Int)=min ((0:Nat):Int) k; omega
 | i+1=>by
  have ih:=w68 h hk i
  rw[fstTo,nzTo]
  by_cases q:nI h i≠0
  ·by_cases q2:(fstTo h k i:Int)<k
   ·rw[if_pos ⟨q,q2⟩,if_pos q]; omega
   ·rw[if_neg λq3=>q2 q3.2,if_pos q]; omega
  ·rw[if_neg λq3=>q q3.1,if_neg q]; exact ih
theorem ws3 {l:List Int} {i:Nat} (hi:i<l.length) {x:Int} (h0:nI l i=0) (hx:x≠0):∀k,qx7 k (nI (l.set i x))=qx7 k (nI l)+if i<k then 1 else 0
 | 0=>by rw[if_neg (Nat.not_lt_zero _)]; rfl
 | k+1=>by
  have ih:=ws3 hi h0 hx k
  rw[qx7,qx7,ih,q1y l hi]
  by_cases q:k=i
  ·rw[if_pos q,if_pos hx,q,if_neg (Nat.lt_irrefl _),if_neg λq2=>q2 h0,if_pos (Nat.lt_succ_self _)]
  ·rw[if_neg q]
   split <;> split <;> split <;> omega
theorem ws4 (n:Nat):∀k,qx7 k (nI (List.replicate n 0))=0
 | 0=>rfl
 | k+1=>by rw[qx7,q41,if_neg λq=>q rfl,ws4 n k]
structure x44 (h:List Int) (k:Int) (i:Nat):Prop where
 dif:∀c,nI (twA h k i) c-nI (twB h k i) c=if c<i then nI h c else 0
 za:∀c,i<=c->nI (twA h k i) c=0
 zb:∀c,i<=c->nI (twB h k i) c=0
 sa:∀c,(nI (twA h k i) c).natAbs<=160
 sb:∀c,(nI (twB h k i) c).natAbs<=160
 ca:qx7 h.length (nI (twA h k i))=fstTo h k i
 cb:qx7 h.length (nI (twB h k i))+fstTo h k i=nzTo h i
theorem xk9 {h:List Int} (hs:∀c,(nI h c).natAbs<=160) {k:Int}:∀i,i<=h.length->x44 h k i
 | 0,_=>by
  refine⟨λc=>?_,λc _=>q41 _ _,λc _=>q41 _ _,λc=>?_,λc=>?_,ws4 _ _,?_⟩
  ·rw[twA,twB,q41,if_neg (Nat.not_lt_zero _)]; rfl
  ·rw[twA,q41]; decide
  ·rw[twB,q41]; decide
  ·rw[twB,ws4]; rfl
 | i+1,hi=>by
  have ih:=xk9 hs (k:=k) i (by omega)
  have la:=q67 h k i
  have lb:=q68 h k i
  have hsi:=hs i
  have za:=ih.za i (Nat.le_refl _)
  have zb:=ih.zb i (Nat.le_refl _)
  by_cases q:nI h i≠0/\(fstTo h k i:Int)<k
  ·have ea:twA h k (i+1)=(twA h k i).set i (nI h i):=by rw[twA,if_pos q]
   have eb:twB h k (i+1)=twB h k i:=by rw[twB,if_pos q]
   have ef:fstTo h k (i+1)=fstTo h k i+1:=by rw[fstTo,if_pos q]
   have en:nzTo h (i+1)=nzTo h i+1:=by rw[nzTo,if_pos q.1]
   have hat:∀c,nI (twA h k (i+1)) c=if c=i then nI h i else nI (twA h k i) c:=λc=>by rw[ea,q1y _ (by omega)]
   refine⟨λc=>?_,λc hc=>?_,λc hc=>?_,λc=>?_,λc=>?_,?_,?_⟩
   ·rw[hat,eb]
    have:=ih.dif c
    by_cases e:c=i
    ·rw[if_pos e,if_pos (by omega),e,zb]; omega
    ·rw[if_neg e,this]
     by_cases e2:c<i
     ·rw[if_pos e2,if_pos (by omega)]
     ·rw[if_neg e2,if_neg (by omega)]
   ·rw[hat,if_neg (by omega)]; exact ih.za c (by omega)
   ·rw[eb]; exact ih.zb c (by omega)
   ·rw[hat]; split
    ·exact hsi
    ·exact ih.sa c
   ·rw[eb]; exact ih.sb c
   ·rw[ea,ws3 (by omega) za q.1,ih.ca,ef,if_pos (by omega)]
   ·rw[eb,ef,en]; have:=ih.cb; omega
  ·have ea:twA h k (i+1)=twA h k i:=by rw[twA,if_neg q]
   have eb:twB h k (i+1)=(twB h k i).set i (0-nI h i):=by rw[twB,if_neg q]
   have ef:fstTo h k (i+1)=fstTo h k i:=by rw[fstTo,if_neg q]
   have hat:∀c,nI (twB h k (i+1)) c=if c=i then 0-nI h i else nI (twB h k i) c:=λc=>by rw[eb,q1y _ (by omega)]
   refine⟨λc=>?_,λc hc=>?_,λc hc=>?_,λc=>?_,λc=>?_,?_,?_⟩
   ·rw[hat,ea]
    have:=ih.dif c
    by_cases e:c=i
    ·rw[if_pos e,if_pos (by omega),e,za]; omega
    ·rw[if_neg e,this]
     by_cases e2:c<i
     ·rw[if_pos e2,if_pos (by omega)]
     ·rw[if_neg e2,if_neg (by omega)]
   ·rw[ea]; exact ih.za c (by omega)
   ·rw[hat,if_neg (by omega)]; exact ih.zb c (by omega)
   ·rw[ea]; exact ih.sa c
   ·rw[hat]; split
    ·omega
    ·exact ih.sb c
   ·rw[ea,ef]; exact ih.ca
   ·rw[ef]
    have hcb:=ih.cb
    by_cases q2:nI h i≠0
    ·rw[eb,ws3 (by omega) zb (show 0-nI h i≠0 by omega),if_pos (by omega),nzTo,if_pos q2]; omega
    ·have:qx7 h.length (nI (twB h k (i+1)))=qx7 h.length (nI (twB h k i)):=by
      have e3:nI (twB h k (i+1))=nI (twB h k i):=by
       funext c
       rw[hat]
       split
       ·rename_i e; rw[e,zb]; omega
       ·rfl
      rw[e3]
     rw[this,nzTo,if_neg q2]; exact hcb
theorem w92 {m:List (List Int)} {k:Int} (hl:qk7 m=true) (h:q0d m k=0):qj0 m k (twA (qb4 m).1 k (qb4 m).1.length) (twB (qb4 m).1 k (qb4 m).1.length)=true:=by
 unfold q0d at h
 split at h
 ·cases h
 ·rename_i h1
  split at h
  ·cases h
  ·rename_i h2
   split at h
   ·cases h
   ·rename_i h3
    have hv:qd3 m=true:=by
     cases e:qd3 m with
     | true=>rfl
     | false=>rw[q3t e] at h1; exact absurd rfl h1
    have hM:=Mk.of hv
    have h2:inB k 1 10=true:=by simpa using h2
    have hk:=qp5.1 h2
    have h0:(qb4 m).2=0:=Classical.byContradiction λq=>h3 (.inl q)
    have h4:¬2*k<(nzTo (qb4 m).1 (qb4 m).1.length:Int):=λq=>h3 (.inr q)
    rcases qx9 hl hv with⟨_,s,hs,_⟩ | ⟨e,_⟩
    ·generalize(qb4 m).1=c at hs h4 ⊢
     have hlen:=hs.len
     have T:=xk9 (h:=c) hs.small (k:=k) c.length (Nat.le_refl _)
     have la:=q67 c k c.length
     have lb:=q68 c k c.length
     have hf:=w68 c (show 0<=k by omega) c.length
     have hsh:∀l:List Int,l.length=c.length->(∀i,(nI l i).natAbs<=160)->q4x m l=0:=λl hl2 hb=>by
      unfold q4x wm7
      rw[if_neg (by rw[hv]; decide),if_neg (by omega),if_neg]
      have:(l.all λe=>inB e (0-1000000) 1000000)=true:=by
       rw[List.all_eq_true]
       intro x hx
       obtain⟨i,hi,rfl⟩:=q3p hx
       have:=hb i
       exact qp5.2 (by omega)
      rw[this]; decide
     have hsol:Sol m.length (nL m 0).length (rowOf m) λi=>nI (twA c k c.length) i-nI (twB c k c.length) i:=λa ha=>by
      rw[<- hs.sol a ha]
      refine qg3 λi hi=>?_
      try dsimp only
      rw[T.dif,if_pos (by omega)]
     unfold qj0
     simp only[Bool.and_eq_true,decide_eq_true_eq,Bool.not_eq_true',decide_eq_false_iff_not]
     refine⟨⟨⟨⟨⟨⟨hsh _ la T.sa,hsh _ lb T.sb⟩,h2⟩,?_⟩,?_⟩,(w0p hM).2 hsol⟩,λe=>?_⟩
     ·unfold w2g
      rw[decide_eq_true_eq,qz8,la,T.ca]
      omega
     ·unfold w2g
      rw[decide_eq_true_eq,qz8,lb]
      have:=T.cb
      omega
     ·have h5:=hs.on 0 hs.pos
      have h6:=hs.nam.at_ 0 hs.pos
      have h7:=T.dif (nI s 0).toNat
      rw[e,Int.sub_self,if_pos (by omega)] at h7
      exact h5 h7.symm
    ·rw[h0] at e; cases e
theorem wm4 {m:List (List Int)} (hl:qk7 m=true) (h:(qi0 m).2=0) (h2:(qi3 m).1<10):q0d m ((qi3 m).1+1)=0:=by
 rw[<- w0n hl] at h
 have hc:(qb4 m).2=0:=h
 have e:(qi3 m).1=((qh5 m).1-1).tdiv 2:=by simp[qi3,h]
 have hv:qd3 m=true:=by
  cases e:qd3 m with
  | true=>rfl
  | false=>rw[q3t e] at hc; cases hc
 rcases qx9 hl hv with⟨_,s,hs,_⟩ | ⟨e,_⟩
 ·have hn:=hs.nz
  have hp:=hs.pos
  have e2:(qh5 m).1=(s.length:Int):=by
   unfold qh5
   rw[qz8,hs.len,hn]
  have e3:(nzTo (qb4 m).1 (qb4 m).1.length:Int)=s.length:=e2
  rw[e2,Int.tdiv_eq_ediv_of_nonneg (by omega)] at e
  unfold q0d
  rw[if_neg (by rw[hc]; decide),if_neg,if_neg]
  ·rintro(q | q)
   ·exact q hc
   ·omega
  ·rw[Bool.not_eq_false]
   exact qp5.2 (by omega)
 ·rw[hc] at e; cases e
end Go.Proofs.Ytdibdlelmkcccaa
