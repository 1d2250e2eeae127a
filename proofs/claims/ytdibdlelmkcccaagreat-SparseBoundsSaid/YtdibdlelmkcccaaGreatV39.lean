/- What makes a reading: contract by the engine. No condition. -/
import Derived.Test.YtdibdlelmkcccaaGreatW16
import Derived.Test.YtdibdlelmkcccaaGreatV37
import Derived.Test.YtdibdlelmkcccaaGreatW1
set_option linter.unusedVariables false
namespace Go.Proofs.YtdibdlelmkcccaaGreat
open Go Go.RowKit Eng
def cntN:Nat->(Nat->Int)->Nat
 | 0,_=>0
 | k+1,d=>if d k≠0 then cntN k d+1 else cntN k d
theorem w2a (l:List Int):∀k,q1p l k=cntN k (nI l)
 | 0=>rfl
 | k+1=>by rw[q1p,cntN,w2a l k]
theorem cnt_le {d e:Nat->Int}:∀k,(∀c,c<k->d c≠0->e c≠0)->cntN k d<=cntN k e
 | 0,_=>Nat.le_refl _
 | k+1,h=>by
  have ih:=cnt_le k λc hc=>h c (by omega)
  rw[cntN,cntN]
  by_cases q:d k≠0
  ·rw[if_pos q,if_pos (h k (by omega) q)]; omega
  ·rw[if_neg q]; split <;> omega
theorem cnt_lt {d e:Nat->Int} {c0:Nat} (h1:d c0=0) (h2:e c0≠0):∀k,c0<k->(∀c,c<k->d c≠0->e c≠0)->cntN k d<cntN k e
 | k+1,hk,h=>by
  rw[cntN,cntN]
  by_cases q:c0=k
  ·have ih:=cnt_le (d:=d) (e:=e) k λc hc=>h c (by omega)
   rw[<- q,if_neg (by rw[h1]; exact λk=>k rfl),if_pos h2,q]
   omega
  ·have ih:=cnt_lt h1 h2 k (by omega) λc hc=>h c (by omega)
   by_cases q2:d k≠0
   ·rw[if_pos q2,if_pos (h k (by omega) q2)]; omega
   ·rw[if_neg q2]; split <;> omega
def ww5:Nat->(Nat->Int)->List Int
 | 0,_=>[]
 | k+1,d=>if d k≠0 then ww5 k d++[(k:Int)] else ww5 k d
theorem wf4 (d:Nat->Int):∀k,(ww5 k d).length=cntN k d
 | 0=>rfl
 | k+1=>by
  rw[ww5,cntN]
  split
  ·rw[List.length_append,wf4 d k]; rfl
  ·exact wf4 d k
theorem q4j (d:Nat->Int):∀k,Named k (ww5 k d)/\∀j,j<(ww5 k d).length->d (nI (ww5 k d) j).toNat≠0
 | 0=>⟨⟨λj hj=>absurd hj (Nat.not_lt_zero _),λi j _ hj=>absurd hj (Nat.not_lt_zero _)⟩,λj hj=>absurd hj (Nat.not_lt_zero _)⟩
 | k+1=>by
  obtain⟨h1,h2⟩:=q4j d k
  rw[ww5]
  by_cases q:d k≠0
  ·rw[if_pos q]
   have hl:(ww5 k d++[(k:Int)]).length=(ww5 k d).length+1:=by simp
   refine⟨⟨λj hj=>?_,λi j hij hj=>?_⟩,λj hj=>?_⟩
   ·rw[hl] at hj
    rcases Nat.lt_succ_iff_lt_or_eq.1 hj with e | e
    ·rw[ql1 _ _ e]; have:=h1.at_ j e; omega
    ·rw[e,qr4]; omega
   ·rw[hl] at hj
    rw[ql1 _ _ (show i<(ww5 k d).length by omega)]
    rcases Nat.lt_succ_iff_lt_or_eq.1 hj with e | e
    ·rw[ql1 _ _ e]; exact h1.asc i j hij e
    ·rw[e,qr4]; exact(h1.at_ i (by omega)).2
   ·rw[hl] at hj
    rcases Nat.lt_succ_iff_lt_or_eq.1 hj with e | e
    ·rw[ql1 _ _ e]; exact h2 j e
    ·rw[e,qr4,Int.toNat_natCast]; exact q
  ·rw[if_neg q]
   exact⟨⟨λj hj=>by have:=h1.at_ j hj; omega,h1.asc⟩,h2⟩
theorem w2b (d:Nat->Int):∀k c,c<k->d c≠0->∃j,j<(ww5 k d).length/\nI (ww5 k d) j=(c:Int)
 | k+1,c,hc,hd=>by
  rw[ww5]
  by_cases q:c=k
  ·rw[if_pos (by rw[<- q]; exact hd)]
   exact⟨(ww5 k d).length,by simp,by rw[qr4,q]⟩
  ·obtain⟨j,h1,h2⟩:=w2b d k c (by omega) hd
   split
   ·exact⟨j,by rw[List.length_append]; omega,by rw[ql1 _ _ h1]; exact h2⟩
   ·exact⟨j,h1,h2⟩
theorem Named.inj {n:Nat} {s:List Int} (h:Named n s) {i j:Nat} (hi:i<s.length) (hj:j<s.length) (e:(nI s i).toNat=(nI s j).toNat):i=j:=by
 have h1:=h.at_ i hi
 have h2:=h.at_ j hj
 rcases Nat.lt_trichotomy i j with q | q | q
 ·have:=h.asc i j q hj; omega
 ·exact q
 ·have:=h.asc j i q hi; omega
structure xy2 (m:List (List Int)) (s h:List Int):Prop where
 nam:Named (nL m 0).length s
 pos:0<s.length
 isc:IsC m s
 len:h.length=(nL m 0).length
 nz:cntN (nL m 0).length (nI h)=s.length
 sol:Sol m.length (nL m 0).length (rowOf m) (nI h)
 on:∀j,j<s.length->nI h (nI s j).toNat≠0
 off:∀c,c<(nL m 0).length->(∀j,j<s.length->nI s j≠(c:Int))->nI h c=0
 small:∀c,(nI h c).natAbs<=160
theorem x2c {N:Nat} {s:List Int} (hs:Named N s) {d:Nat->Int} (hon:∀j,j<s.length->d (nI s j).toNat≠0) (hoff:∀c,c<N->(∀j,j<s.length->nI s j≠(c:Int))->d c=0):cntN N d=s.length:=by
 have h1:=(q4j d N).1
 have h2:=(q4j d N).2
 have h3:=w2b d N
 rw[<- wf4]
 have sub:∀(s t:List Int),Named N s->Named N t->(∀j,j<s.length->∃i,i<t.length/\nI t i=nI s j)->s.length<=t.length:=λs t hs ht h=>Nat.le_of_not_lt λhgt=>by
  have hx:∀j,∃i,j<s.length->i<t.length/\nI t i=nI s j:=λj=>by
   by_cases hj:j<s.length
   ·obtain⟨i,hi⟩:=h j hj; exact⟨i,λ_=>hi⟩
   ·exact⟨0,λq=>absurd q hj⟩
  obtain⟨g,hg⟩:=Classical.axiomOfChoice hx
  obtain⟨i,j,k1,k2,k3⟩:=q69 t.length s.length g (λi hi=>(hg i hi).1) hgt
  have e1:=(hg i (by omega)).2
  have e2:=(hg j k2).2
  rw[k3] at e1
  have:=hs.asc i j k1 k2
  omega
 refine Nat.le_antisymm (sub _ _ h1 hs λj hj=>?_) (sub _ _ hs h1 λj hj=>?_)
 ·have hb:=h1.at_ j hj
  refine Classical.byContradiction λq=>h2 j hj (hoff _ (by omega) λi hi e=>q ⟨i,hi,by omega⟩)
 ·have hb:=hs.at_ j hj
  obtain⟨i,hi,e⟩:=h3 _ (by omega) (hon j hj)
  exact⟨i,hi,by omega⟩
theorem w80 {m:List (List Int)} {s:List Int} (hM:Mk m) (hs:Named (nL m 0).length s) (h1:0<s.length) (hc:IsC m s):xy2 m s (q66 m (nL m 0).length s):=by
 have hO:=qk4 hM hs h1
 obtain⟨f,hf,hnp,ho,hv,hp⟩:=hO.one_free hc.one
 have hsm:=(hO.ker_small (qn8 (qg6 (qj1 m s)) 0 (by have:=hc.one; show 0<(qh5 m s).length; omega))).2
 have hnz:=hc.nz
 unfold q66 q19
 change KV _ _ _ _ _ (nL (qh5 m s) 0) at hv
 change Prim (nL (qh5 m s) 0) at hp
 change ∀x∈nL (qh5 m s) 0,_ at hsm
 generalize nL (qh5 m s) 0=v at *
 have hat:=λj (hj:j<s.length)=>q7s (v:=v) hs _ (Nat.le_refl _) j hj
 have ho2:∀c:Nat,(∀j,j<s.length->nI s j≠(c:Int))->nI (qd2 (nL m 0).length s v s.length) c=0:=λc hc=>we9 hs hc _ (Nat.le_refl _)
 have hlen:=qj2 (nL m 0).length s v s.length
 generalize qd2 (nL m 0).length s v s.length=u at *
 have hsW:∀c,c<s.length->(nI s c).toNat<(nL m 0).length:=λc hc=>by have:=hs.at_ c hc; omega
 have hsol:Sol m.length (nL m 0).length (rowOf m) (nI u):=λa ha=>by
  rw[we6 s.length (f:=λc=>rowOf m a c*nI u c) (τ:=λc=>(nI s c).toNat) hsW (λq k hq hk e=>hs.inj hq hk e) λb hb hq=>by
   try dsimp only
   rw[ho2 b λj hj e=>hq j hj (by(try dsimp only); rw[e,Int.toNat_natCast]),Int.mul_zero]]
  rw[<- hv.sol a ha]
  refine qf5 λc hc=>?_
  try dsimp only
  unfold rowOf
  rw[hat c hc,qs8 m s a ha,qv2 _ _ _ hc]
 have hsmall:∀c,(nI u c).natAbs<=160:=λc=>by
  by_cases q:∃j,j<s.length/\nI s j=(c:Int)
  ·obtain⟨j,hj,e⟩:=q
   have:=hat j hj
   rw[e,Int.toNat_natCast] at this
   rw[this]
   exact hsm _ (q7b (by rw[hv.len]; exact hj))
  ·rw[ho2 c λj hj e=>q ⟨j,hj,e⟩]; decide
 have both:∀h:List Int,h.length=u.length->∀sg:Int,(sg=1\/sg=-1)->(∀c,nI h c=nI u c*sg)->xy2 m s h:=λh hl sg hsg he=>by
  have hsg0:sg≠0:=by rcases hsg with rfl | rfl <;> decide
  have hon:∀j,j<s.length->nI h (nI s j).toNat≠0:=λj hj=>by
   rw[he,hat j hj]; exact qu2 (hnz j hj) hsg0
  have hoff:∀c,c<(nL m 0).length->(∀j,j<s.length->nI s j≠(c:Int))->nI h c=0:=λc hc hj=>by
   rw[he,ho2 c hj,Int.zero_mul]
  refine⟨hs,h1,hc,by omega,x2c hs hon hoff,λa ha=>?_,hon,hoff,λc=>?_⟩
  ·have e:=hsol a ha
   have e2:(sm (nL m 0).length λc=>rowOf m a c*nI h c)=sg*sm (nL m 0).length λc=>rowOf m a c*nI u c:=by
    rw[<- qp2]
    refine qf5 λc hc=>?_
    try dsimp only
    rw[he]; grind
   rw[e2,e,Int.mul_zero]
  ·rw[he,Int.natAbs_mul]
   have:=hsmall c
   rcases hsg with rfl | rfl
   ·simpa using this
   ·simpa using this
 split
 ·exact both _ (qt1 _ _) (-1) (.inr rfl) λc=>q5l u (-1) c
 ·exact both _ rfl 1 (.inl rfl) λc=>by omega
theorem w2c {m:List (List Int)} (hM:Mk m) {k:Nat} {h:List Int} (hh:h∈wp3 m k):∃s,xy2 m s h/\s.length=k:=by
 unfold wp3 at hh
 rw[List.mem_filterMap] at hh
 obtain⟨s,hs,e⟩:=hh
 obtain⟨hN,hl⟩:=q1g hs
 unfold q8a at e
 split at e
 ·rename_i q
  obtain rfl:=Option.some.inj e
  have hok:qy9 m s=true:=by
   have q:=q
   unfold qs2 at q
   rw[Bool.and_eq_true,Bool.and_eq_true] at q
   exact q.1.1
  have h1:0<s.length:=by
   unfold qy9 at hok
   rw[Bool.and_eq_true,decide_eq_true_eq] at hok
   omega
  exact⟨s,w80 hM hN h1 ((qx0 hM hN hok).1 q),hl⟩
 ·cases e
theorem xi1 {m:List (List Int)} (hM:Mk m) {s:List Int} (hs:Named (nL m 0).length s) (h1:0<s.length) (hc:IsC m s):q66 m (nL m 0).length s∈wp3 m s.length:=by
 have hr:=w15 hM hs h1 hc
 have hr2:=w8x hM
 have hok:qy9 m s=true:=by
  unfold qy9
  rw[Bool.and_eq_true,decide_eq_true_eq,decide_eq_true_eq]
  omega
 unfold wp3
 rw[List.mem_filterMap]
 refine⟨s,w8v hs,?_⟩
 unfold q8a
 rw[if_pos ((qx0 hM hs hok).2 hc)]
theorem q9l {m:List (List Int)} (hl:ql0 m=true) (hv:validB m=true):((qi8 m).2=0/\∃s,xy2 m s (qi8 m).1/\∀t,Named (nL m 0).length t->0<t.length->IsC m t->s.length<=t.length)\/((qi8 m).2=8/\(qi8 m).1=[]/\∀t,Named (nL m 0).length t->0<t.length->¬IsC m t):=by
 have hM:=Mk.of hv
 have h7:=q5j hl hM
 have e1:q2d m=(q2c m (nL m 0).length (q5i m),0):=by simp[q2d,hv]
 rw[w19 hv h7] at e1
 have hmem:∀t,Named (nL m 0).length t->0<t.length->IsC m t->q66 m (nL m 0).length t∈((List.range (nL m 0).length).flatMap λk=>wp3 m (k+1)):=λt ht h1 hc=>by
  rw[List.mem_flatMap]
  have:=ht.len
  refine⟨t.length-1,List.mem_range.2 (by omega),?_⟩
  rw[show t.length-1+1=t.length by omega]
  exact xi1 hM ht h1 hc
 have hpw:∀K,((List.range K).flatMap λk=>wp3 m (k+1)).Pairwise (λa b=>cntN (nL m 0).length (nI a)<=cntN (nL m 0).length (nI b))/\∀h∈((List.range K).flatMap λk=>wp3 m (k+1)),cntN (nL m 0).length (nI h)<=K:=λK=>by
  induction K with
  | zero=>exact⟨List.Pairwise.nil,λh hh=>by cases hh⟩
  | succ K ih=>
   rw[List.range_succ,List.flatMap_append]
   simp only[List.flatMap_cons,List.flatMap_nil,List.append_nil]
   have hk:∀h∈wp3 m (K+1),cntN (nL m 0).length (nI h)=K+1:=λh hh=>by
    obtain⟨s,hs,hsl⟩:=w2c hM hh
    rw[hs.nz,hsl]
   refine⟨?_,λh hh=>?_⟩
   ·rw[List.pairwise_append]
    refine⟨ih.1,?_,λa ha b hb=>by have:=ih.2 a ha; have:=hk b hb; omega⟩
    rw[List.pairwise_iff_getElem]
    intro i j hi hj _
    have:=hk _ (List.getElem_mem hi)
    have:=hk _ (List.getElem_mem hj)
    omega
   ·rcases List.mem_append.1 hh with hh | hh
    ·have:=ih.2 h hh; omega
    ·have:=hk h hh; omega
 have hpw:=(hpw (nL m 0).length).1
 have hall:∀h∈((List.range (nL m 0).length).flatMap λk=>wp3 m (k+1)),∃s,xy2 m s h:=λh hh=>by
  rw[List.mem_flatMap] at hh
  obtain⟨k,_,hk⟩:=hh
  obtain⟨s,hs,_⟩:=w2c hM hk
  exact⟨s,hs⟩
 unfold qi8
 rw[e1]
 generalize((List.range (nL m 0).length).flatMap λk=>wp3 m (k+1))=L at *
 rw[if_neg λq=>q rfl]
 cases L with
 | nil=>
  rw[if_pos rfl]
  refine .inr ⟨rfl,rfl,λt ht h1 hc=>?_⟩
  have:=hmem t ht h1 hc
  cases this
 | cons h L=>
  rw[if_neg (λq=>by cases q)]
  refine .inl ⟨rfl,?_⟩
  have e0:nL (h :: L) 0=h:=rfl
  obtain⟨s,hs⟩:=hall h (by simp)
  show ∃s,xy2 m s (nL (h :: L) 0)/\_
  rw[e0]
  refine⟨s,hs,λt ht h1 hc=>?_⟩
  have hq:=w80 hM ht h1 hc
  have hm:=hmem t ht h1 hc
  have:cntN (nL m 0).length (nI h)<=cntN (nL m 0).length (nI (q66 m (nL m 0).length t)):=by
   rcases List.mem_cons.1 hm with e | e
   ·rw[e]; exact Nat.le_refl _
   ·exact(List.pairwise_cons.1 hpw).1 _ e
  rw[hs.nz,hq.nz] at this
  exact this
theorem w2d {m:List (List Int)} (hv:validB m=false):qi8 m=([],1):=by
 have e1:q2d m=([],1):=by simp[q2d,hv]
 unfold qi8
 rw[e1,if_pos (by show(1:Int)≠0; decide)]
theorem wf5 {m:List (List Int)} (hl:ql0 m=true):(qi8 m).1.length<=10/\∀c,(nI (qi8 m).1 c).natAbs<=160:=by
 by_cases hv:validB m=true
 ·have h10:=(Mk.of hv).pix10
  rcases q9l hl hv with⟨_,s,hs,_⟩ | ⟨_,e,_⟩
  ·have:=hs.len
   exact⟨by omega,hs.small⟩
  ·rw[e]
   exact⟨Nat.zero_le _,λc=>by rw[q0r _ (Nat.zero_le _)]; decide⟩
 ·rw[w2d (by simpa using hv)]
  exact⟨Nat.zero_le _,λc=>by rw[q0r _ (Nat.zero_le _)]; decide⟩
theorem x51 {m:List (List Int)} (hl:ql0 m=true):wd0 m:=⟨x5z,by have:=(wf5 hl).1; omega⟩
theorem x7j {m:List (List Int)} (hf:q77 m) (hl:ql0 m=true):xx9 m:=⟨x50 hf hl,by rw[<- w8z hl]; have:=(wf5 hl).1; omega⟩
theorem dot_sm (a b:List Int):∀k,xs6 a b k=sm k λi=>nI a i*nI b i
 | 0=>rfl
 | k+1=>by rw[xs6,sm,dot_sm a b k]
end Go.Proofs.YtdibdlelmkcccaaGreat
set_option linter.unusedSimpArgs false
namespace Go.Proofs.YtdibdlelmkcccaaGreat
open Go Go.RowKit Eng
abbrev x22:=Bool × List Int × List Int
def nR (x:List (Int × Int)) (i:Nat):Int × Int:=qa1 (.prod (.int .i64) (.int .i64)) x i
def q4y (n:Nat) (pix:List Int) (v:List (Int × Int)):Nat->List (Int × Int)
 | 0=>List.replicate n (0,1)
 | k+1=>(q4y n pix v k).set (nI pix k).toNat (nR v k)
theorem q5n (n:Nat) (pix:List Int) (v:List (Int × Int)):∀k,(q4y n pix v k).length=n
 | 0=>by simp[q4y]
 | k+1=>by rw[q4y,List.length_set]; exact q5n n pix v k
structure RxOk (K:Nat) (a:x22):Prop where
 n:a.2.1=dgs (valL a.2.1)
 d:a.2.2=dgs (valL a.2.2)
 ln:a.2.1.length<=K
 ld:a.2.2.length<=K
theorem RxOk.dn {K:Nat} {a:x22} (h:RxOk K a) (hK:K<=1000:=by omega):DigOk a.2.1:=⟨Nat.le_trans h.ln hK,h.n⟩
theorem RxOk.dd {K:Nat} {a:x22} (h:RxOk K a) (hK:K<=1000:=by omega):DigOk a.2.2:=⟨Nat.le_trans h.ld hK,h.d⟩
theorem RxOk.up {K L:Nat} {a:x22} (h:RxOk K a) (hK:K<=L:=by omega):RxOk L a:=⟨h.n,h.d,Nat.le_trans h.ln hK,Nat.le_trans h.ld hK⟩
def qs9 (r:Int × Int):Bool:=inB r.2 1 400 && inB r.1 (0-10000000000) 10000000000 && (qf2 r.1 r.2==1)
theorem w2e {l:List (Int × Int)} {i:Nat} (hi:i<l.length):nR l i=l[i]:=by
 show l.getD i _=_
 rw[List.getD_eq_getElem?_getD,List.getElem?_eq_getElem hi]
 rfl
end Go.Proofs.YtdibdlelmkcccaaGreat
