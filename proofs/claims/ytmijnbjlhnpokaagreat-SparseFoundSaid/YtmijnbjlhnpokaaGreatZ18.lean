/- A shown picture as a fit, and how many of its numbers are not 0: contracts by the engine. No condition. -/
import Derived.Test.YtmijnbjlhnpokaaGreatQ7
import Derived.Test.YtmijnbjlhnpokaaGreatEngT2
import Derived.Test.YtmijnbjlhnpokaaGreatW11
import Derived.Test.YtmijnbjlhnpokaaGreatZ8
import Derived.Test.YtmijnbjlhnpokaaGreatW10
import Derived.Test.YtmijnbjlhnpokaaGreatW23
import Derived.Test.YtmijnbjlhnpokaaGreatW16
import Derived.Test.YtmijnbjlhnpokaaGreatV26
set_option linter.unusedVariables false
set_option linter.unusedSimpArgs false
namespace Go.Proofs.YtmijnbjlhnpokaaGreat
open Go Go.RowKit Eng
def x1k (m:List (List Int)) (j:Nat):Int:=qh0 (colL m j) (colL m j) m.length
def x4s (m:List (List Int)) (r:List Int) (j:Nat):Int:=qh0 (colL m j) r m.length
theorem AskC.of {m:List (List Int)} {y C:List Int} (h:qr5 m y C=0):AskC m y C:=by
 have hA:=Asked.of h
 have hl:=hA.nam.len
 have h10:=hA.msk.pix10
 refine⟨hA.msk,hA.val,hA.len,λi hi=>?_,hA.nam.at_,by omega⟩
 have:=hA.at_ i hi
 omega
theorem InW.small {m:List (List Int)} {C:List Int} (hM:Mk m) (hC:InW (nL m 0).length C):Small m.length C.length C.length (qg3 m C):=by
 have hl:=hC.len
 have hlo:∀a c,a<m.length->c<C.length->(nI (nL (qg3 m C) a) c).natAbs<=1:=λa c ha hc=>by
  have h2:=q20 m C ha hc
  unfold rowOf at h2
  rw[h2]
  have h3:=hC.at_ c hc
  have:=hM.small a ha (nI C c).toNat (by omega)
  omega
 exact⟨⟨q1b _ _,λi hi=>by rw[qj6 _ _ _ hi,qj0]⟩,hM.rows6,Nat.le_refl _,by omega,hlo,λa c ha hc=>by have:=hlo a c ha hc; omega⟩
theorem x4t {m:List (List Int)} {C:List Int} (hM:Mk m) (hC:InW (nL m 0).length C):ws0 m C:=by
 have hl:=hC.len
 have h6:=hM.rows6
 refine⟨⟨by omega,by omega,λi hi j hj=>?_,λi hi=>⟨trivial,by simp⟩⟩,by rw[qv5]; exact q1i (hC.small hM)⟩
 rw[hM.each i hi]
 have:=hC.at_ j hj
 omega
theorem xs7 {m:List (List Int)} (hM:Mk m) {j:Int} (h:0<=j/\j<(nL m 0).length):q2i m j:=by
 have h6:=hM.rows6
 exact⟨by omega,λi hi=>by rw[hM.each i hi]; omega⟩
theorem ws6 {m:List (List Int)} (hM:Mk m) {j:Int} (h:0<=j/\j<(nL m 0).length) {i:Nat} (hi:i<m.length):-1<=nI (colL m j.toNat) i/\nI (colL m j.toNat) i<=1:=by
 rw[qu1 _ _ _ hi]
 exact hM.small i hi j.toNat (by omega)
theorem q8h {m:List (List Int)} (hM:Mk m) {j:Int} (h:0<=j/\j<(nL m 0).length) {b:List Int} (hl:m.length<=b.length) (hb:∀i,i<m.length->(nI b i).natAbs<=10000000000000000):qv6 (colL m j.toNat) b:=by
 have h6:=hM.rows6
 refine⟨by rw[colL_len]; omega,by rw[colL_len]; exact hl,λi hi=>?_,λi hi=>?_⟩
 ·rw[colL_len] at hi; exact ws6 hM h hi
 ·rw[colL_len] at hi
  have:=hb i hi
  unfold qd6; omega
theorem xs8 {m:List (List Int)} (hM:Mk m) {i j:Int} (h:0<=i/\i<(nL m 0).length) (hj:0<=j/\j<(nL m 0).length):qv6 (colL m i.toNat) (colL m j.toNat):=
 q8h hM h (by rw[colL_len]; exact Nat.le_refl _) λk hk=>by have:=ws6 hM hj hk; omega
theorem AskC.term {m:List (List Int)} {y C:List Int} (h:AskC m y C) {k i:Nat} (hk:k<(qe8 m C).length) (hi:i<m.length):(nI (colL m (nI (qe8 m C) k).toNat) i*((qk9 m y C).tdiv (q0g (gP m y C) (qe8 m C).length k)*q8v (gP m y C) (qe8 m C).length k)).natAbs<=691200000000:=by
 have h1:=ws6 h.msk (h.gr.inw.at_ k hk) hi
 have h2:=h.rs.mul k hk
 rw[Int.natAbs_mul]
 have h3:(nI (colL m (nI (qe8 m C) k).toNat) i).natAbs<=1:=by omega
 exact Nat.le_trans (Nat.mul_le_mul h3 h2) (by omega)
theorem AskC.t1 {m:List (List Int)} {y C:List Int} (h:AskC m y C):0<qk9 m y C/\qk9 m y C<=691200:=⟨(h.rs.tms _ (Nat.le_refl _)).1,(h.rs.tms _ (Nat.le_refl _)).2.1⟩
theorem AskC.yT {m:List (List Int)} {y C:List Int} (h:AskC m y C) {i:Nat} (hi:i<m.length):(nI y i*qk9 m y C).natAbs<=691200000000:=by
 have h1:=h.ybd i hi
 have h2:=h.t1
 rw[Int.natAbs_mul]
 exact Nat.le_trans (Nat.mul_le_mul h1 (show(qk9 m y C).natAbs<=691200 by omega)) (by decide)
theorem AskC.rsB {m:List (List Int)} {y C:List Int} (h:AskC m y C) {i:Nat} (hi:i<m.length) {K:Nat} (hK:K<=(qe8 m C).length):(rsE m y (qe8 m C) (gP m y C) (qk9 m y C) K i).natAbs<=4838400000000:=by
 have h6:=h.gr.n6
 have h1:=h.yT hi
 rw[wi9]
 have h2:=wf6 (n:=K) (f:=λk=>nI (colL m (nI (qe8 m C) k).toNat) i*((qk9 m y C).tdiv (q0g (gP m y C) (qe8 m C).length k)*q8v (gP m y C) (qe8 m C).length k)) (B:=691200000000) λk hk=>h.term (by omega) hi
 have h3:K*691200000000<=6*691200000000:=Nat.mul_le_mul_right _ (by omega)
 omega
theorem AskC.rsPre {m:List (List Int)} {y C:List Int} (h:AskC m y C):w95 m y C:=by
 have hM:=h.msk
 have hG:=h.gr
 have hR:=h.rs
 have hn6:=hG.n6
 have hm6:=hM.rows6
 have hyl:=h.ylen
 have hB:BIG=4000000000000000000:=rfl
 have ht:=h.t1
 refine⟨x4t hM h.inw,hn6,hm6,hyl,λq hq=>xs7 hM (hG.inw.at_ q hq),λa b ha hb=>xs8 hM (hG.inw.at_ a ha) (hG.inw.at_ b hb),λa ha=>q8h hM (hG.inw.at_ a ha) (by omega) λi hi=>by have:=h.ybd i hi; omega,w9g hG.sml,λk hk=>by have:=hR.pos k hk; show nI (nL (qa4 (qc0 m y (qe8 m C)) (qe8 m C).length).1 k) k≠0; omega,λk hk c hc=>?_,λk hk=>?_,λk hk=>?_,λk hk=>?_,λi hi=>?_,λk hk i hi=>⟨?_,?_⟩⟩
 ·have:=hR.row k hk c hc
  show qd6 BIG (nI (nL (qa4 (qc0 m y (qe8 m C)) (qe8 m C).length).1 k) c)
  unfold qd6; omega
 ·have:=hR.tms k hk
  show qd6 BIG (qh3 (qa4 (qc0 m y (qe8 m C)) (qe8 m C).length).1 (qe8 m C).length k)/\qh3 (qa4 (qc0 m y (qe8 m C)) (qe8 m C).length).1 (qe8 m C).length k≠0
  unfold qd6; omega
 ·have:=(hR.den k hk).2.1
  show q0g (qa4 (qc0 m y (qe8 m C)) (qe8 m C).length).1 (qe8 m C).length k≠0
  omega
 ·have:=hR.mul k hk
  show qd6 BIG ((qh3 (qa4 (qc0 m y (qe8 m C)) (qe8 m C).length).1 (qe8 m C).length (qe8 m C).length).tdiv (q0g (qa4 (qc0 m y (qe8 m C)) (qe8 m C).length).1 (qe8 m C).length k)*q8v (qa4 (qc0 m y (qe8 m C)) (qe8 m C).length).1 (qe8 m C).length k)
  unfold qd6; omega
 ·have:=h.yT (i:=i) (by omega)
  unfold qd6; omega
 ·have:=h.term (k:=k) (i:=i) hk (by omega)
  unfold qd6; omega
 ·have:=h.rsB (i:=i) (by omega) (K:=k+1) (by omega)
  unfold qd6; omega
theorem AskC.restB {m:List (List Int)} {y C:List Int} (h:AskC m y C):∀i,i<m.length->(nI (qg9 m y C) i).natAbs<=4838400000000:=λi hi=>by
 rw[wj0 m y C (by rw[h.ylen]; exact hi)]
 exact h.rsB hi (Nat.le_refl _)
theorem AskC.seeB {m:List (List Int)} {y C:List Int} (h:AskC m y C) {j:Nat} (hj:j<(nL m 0).length):(x4s m (qg9 m y C) j).natAbs<=1000000000000000:=by
 have h6:=h.msk.rows6
 unfold x4s
 rw[dot_sm]
 have:=wf6 (n:=m.length) (f:=λi=>nI (colL m j) i*nI (qg9 m y C) i) (B:=4838400000000) λi hi=>by
  have h1:=ws6 h.msk (j:=(j:Int)) (by omega) hi
  rw[Int.toNat_natCast] at h1
  rw[Int.natAbs_mul]
  have h3:(nI (colL m j) i).natAbs<=1:=by omega
  exact Nat.le_trans (Nat.mul_le_mul h3 (h.restB i hi)) (by omega)
 have h3:m.length*4838400000000<=6*4838400000000:=Nat.mul_le_mul_right _ h6
 omega
theorem ownB {m:List (List Int)} (hM:Mk m) {j:Nat} (hj:j<(nL m 0).length):0<=x1k m j/\x1k m j<=6/\(x1k m j=0↔q0j (colL m j)=true):=by
 have h6:=hM.rows6
 have h1:∀i,i<m.length->-1<=nI (colL m j) i/\nI (colL m j) i<=1:=λi hi=>by
  have:=ws6 hM (j:=(j:Int)) (by omega) hi
  rwa [Int.toNat_natCast] at this
 have e:x1k m j=sm m.length λi=>nI (colL m j) i*nI (colL m j) i:=by unfold x1k; rw[dot_sm]
 rw[e]
 refine⟨?_,?_,λh0=>?_,λh0=>?_⟩
 ·have:∀k,0<=sm k λi=>nI (colL m j) i*nI (colL m j) i:=λk=>by
   induction k with
   | zero=>exact Int.le_refl _
   | succ k ih=>rw[sm]; have:=q1k (nI (colL m j) k); omega
  exact this _
 ·have:=wf6 (n:=m.length) (f:=λi=>nI (colL m j) i*nI (colL m j) i) (B:=1) λi hi=>by
   rw[Int.natAbs_mul]
   have:=h1 i hi
   have h3:(nI (colL m j) i).natAbs<=1:=by omega
   exact Nat.le_trans (Nat.mul_le_mul h3 h3) (Nat.le_refl _)
  omega
 ·have hz:=x0b _ h0
  unfold q0j
  rw[Bool.not_eq_true',List.any_eq_false]
  intro x hx
  obtain⟨i,hi,rfl⟩:=q5j hx
  rw[colL_len] at hi
  rw[hz i hi]; decide
 ·refine sm_zero λi hi=>?_
  unfold q0j at h0
  rw[Bool.not_eq_true',List.any_eq_false] at h0
  have:=h0 _ (q5i (l:=colL m j) (c:=i) (by rw[colL_len]; exact hi))
  have hz:nI (colL m j) i=0:=by simpa using this
  rw[hz]; rfl
theorem AskC.nxPre {m:List (List Int)} {y C:List Int} (h:AskC m y C):xo0 m y C:=by
 have hM:=h.msk
 have h1:=hM.rows1
 have h10:=hM.pix10
 have hyl:=h.ylen
 refine⟨h.rsPre,by omega,by omega,λj hj=>xs7 hM (by omega),λj hj=>?_,λj hj=>?_⟩
 ·have d1:=q8h hM (j:=(j:Int)) (by omega) (b:=qg9 m y C) (by rw[q1j]; omega) λi hi=>by have:=h.restB i hi; omega
  have d2:=xs8 hM (i:=(j:Int)) (j:=(j:Int)) (by omega) (by omega)
  rw[Int.toNat_natCast] at d1 d2
  exact⟨d1,d2⟩
 ·have s:=h.seeB hj
  have o:=ownB hM hj
  refine⟨?_,o.1,?_⟩
  ·show qd6 1000000000000000 (x4s m (qg9 m y C) j)
   unfold qd6; omega
  ·show x1k m j<=1000
   omega
theorem x4u {l:List (Int × Int × Int)} {i:Nat} (h:i<l.length):nC l i∈l:=by
 have:nC l i=l[i]:=qj8 (t:=qu5) l i h
 rw[this]; exact List.getElem_mem h
theorem xa3 (l:List (Int × Int × Int)) (c:Int × Int × Int) {i:Nat} (h:i<l.length):nC (l++[c]) i=nC l i:=by
 have e1:nC (l++[c]) i=(l++[c])[i]'(by rw[List.length_append]; omega):=qj8 (t:=qu5) _ _ _
 have e2:nC l i=l[i]:=qj8 (t:=qu5) l i h
 rw[e1,e2,List.getElem_append_left h]
theorem xa4 (l:List (Int × Int × Int)) (c:Int × Int × Int):nC (l++[c]) l.length=c:=by
 have e1:nC (l++[c]) l.length=(l++[c])[l.length]'(by rw[List.length_append]; exact Nat.lt_succ_self _):=qj8 (t:=qu5) _ _ _
 rw[e1,List.getElem_append_right (Nat.le_refl _)]; simp
theorem q43 (l:List (Int × Int × Int)):∀i,0<i->i<=l.length->qd5 l i∈l
 | 0,h,_=>absurd h (Nat.lt_irrefl _)
 | i+1,_,hi=>by
  rw[qd5]
  split
  ·exact x4u (by omega)
  ·rename_i hn
   exact q43 l i (by omega) (by omega)
theorem x0n {m:List (List Int)} {y C:List Int} (h:AskC m y C):(qk4 m y C).2=8\/(qk4 m y C).2=10\/((qk4 m y C).2=0/\∃j:Nat,(qk4 m y C).1=(j:Int)/\j<(nL m 0).length/\x4s m (qg9 m y C) j≠0):=by
 unfold qk4 wb0
 split
 ·exact .inl rfl
 ·split
  ·exact .inr (.inl rfl)
  ·rename_i hn
   refine .inr (.inr ⟨rfl,?_⟩)
   have hl:0<(qr8 m (qg9 m y C)).length:=Nat.pos_of_ne_zero λq=>hn (.inl q)
   obtain⟨j,h1,h2⟩:=q6f (q43 (qr8 m (qg9 m y C)) _ hl (Nat.le_refl _))
   refine⟨j,by rw[h2],h1,λq=>hn (.inr ?_)⟩
   rw[h2]; exact q
theorem AskC.snoc {m:List (List Int)} {y C:List Int} (h:AskC m y C) {j:Nat} (hj:j<(nL m 0).length) (hl:C.length+1<=100):AskC m y (C++[(j:Int)]):=by
 refine⟨h.msk,h.val,h.ylen,h.ybd,λq hq=>?_,by rw[List.length_append]; exact hl⟩
 rw[List.length_append,List.length_singleton] at hq
 rcases Nat.lt_succ_iff_lt_or_eq.1 hq with k | k
 ·rw[qi0 _ _ k]; exact h.inw.at_ q k
 ·rw[k,qj7]; omega
def wj8 (m:List (List Int)) (y:List Int):Nat->List Int->List Int × Int
 | 0,C=>([],10)
 | f+1,C=>if(qk4 m y C).2=8 then(C,0) else if(qk4 m y C).2=10 then([],10) else wj8 m y f (C++[(qk4 m y C).1])
def q21 (m:List (List Int)) (y:List Int):List Int × Int:=if qr5 m y []=0 then wj8 m y 8 [] else([],qr5 m y [])
structure PurI (m:List (List Int)) (y C:List Int):Prop where
 ask:AskC m y C
 ind:Ind m C
 eq:wj8 m y 8 []=wj8 m y (8-C.length) C
theorem PurI.start {m:List (List Int)} {y:List Int} (h:qr5 m y []=0):PurI m y []:=⟨AskC.of h,λz _ c hc=>absurd hc (Nat.not_lt_zero _),rfl⟩
theorem PurI.len {m:List (List Int)} {y C:List Int} (h:PurI m y C):C.length<=6:=by
 have:=x0e h.ask.msk h.ask.inw h.ind
 have:=h.ask.msk.rows6
 omega
theorem PurI.unf {m:List (List Int)} {y C:List Int} (h:PurI m y C):wj8 m y 8 []=if(qk4 m y C).2=8 then(C,0) else if(qk4 m y C).2=10 then([],10) else wj8 m y (7-C.length) (C++[(qk4 m y C).1]):=by
 have hl:=h.len
 rw[h.eq,show 8-C.length=(7-C.length)+1 by omega,wj8]
theorem PurI.step {m:List (List Int)} {y C:List Int} (h:PurI m y C) (h1:(qk4 m y C).2≠8) (h2:(qk4 m y C).2≠10):PurI m y (C++[(qk4 m y C).1]):=by
 have hl:=h.len
 rcases x0n h.ask with q | q | ⟨q,j,e,hj,hs⟩
 ·exact absurd q h1
 ·exact absurd q h2
 ·have hs2:(sm m.length λi=>nI (nL m i) j*nI (qg9 m y C) i)≠0:=by
   unfold x4s at hs
   rw[dot_sm] at hs
   rw[<- qa7 (f:=λi=>nI (colL m j) i*nI (qg9 m y C) i) λi hi=>by rw[qu1 _ _ _ hi]]
   exact hs
  have hn:=h.ask.new h.ind hs2
  rw[e]
  refine⟨h.ask.snoc hj (by omega),hn,?_⟩
  rw[h.unf,if_neg h1,if_neg h2,e,List.length_append,List.length_singleton]
  congr 1
  omega
theorem PurI.all {m:List (List Int)} {y:List Int}:∀d C,PurI m y C->C.length+d=7->((wj8 m y 8 []).2=0/\PurI m y (wj8 m y 8 []).1/\(qk4 m y (wj8 m y 8 []).1).2=8)\/wj8 m y 8 []=([],10)
 | 0,C,h,hd=>by have:=h.len; omega
 | d+1,C,h,hd=>by
  by_cases h1:(qk4 m y C).2=8
  ·have e:=h.unf
   rw[if_pos h1] at e
   left
   rw[e]
   exact⟨rfl,h,h1⟩
  ·by_cases h2:(qk4 m y C).2=10
   ·have e:=h.unf
    rw[if_neg h1,if_pos h2] at e
    exact .inr e
   ·exact PurI.all d _ (h.step h1 h2) (by rw[List.length_append,List.length_singleton]; omega)
def InjL (l:List Int):Prop:=∀a b,a<l.length->b<l.length->nI l a=nI l b->a=b
def xs9 (A B:List Int):Prop:=∀k,k<A.length->∃q,q<B.length/\nI B q=nI A k
theorem x4v {A B:List Int} (hin:xs9 A B) (hB:InjL B) (g:Int->Int) (t:Nat->Int):(sm A.length λk=>g (nI A k)*t k)=sm B.length λq=>g (nI B q)*sm A.length λk=>if nI A k=nI B q then t k else 0:=by
 have e:(sm B.length λq=>g (nI B q)*sm A.length λk=>if nI A k=nI B q then t k else 0)=sm B.length λq=>sm A.length λk=>g (nI B q)*(if nI A k=nI B q then t k else 0):=qa7 λq _=>by rw[<- qf7]
 rw[e,qv7]
 refine qa7 λk hk=>?_
 obtain⟨q,hq,hqe⟩:=hin k hk
 rw[qk1 hq λi hi hne=>by
  try dsimp only
  rw[if_neg λh=>hne (hB i q hi hq (by rw[hqe,h])),Int.mul_zero]]
 try dsimp only
 rw[if_pos hqe.symm,hqe]
theorem Ind.inj {m:List (List Int)} {C:List Int} (h:Ind m C):InjL C:=by
 intro a b ha hb e
 refine Classical.byContradiction λhne=>?_
 have h1:=h (λc=>if c=a then 1 else if c=b then -1 else 0) (λi hi=>by
  rw[q3o (k:=a) (l:=b) ha hb (λq=>hne q) λc hc h1 h2=>by(try dsimp only); rw[if_neg h1,if_neg h2,Int.mul_zero]]
  try dsimp only
  rw[if_pos rfl,if_neg (λq=>hne q.symm),if_pos rfl,e]
  omega) a ha
 try dsimp only at h1
 rw[if_pos rfl] at h1
 exact absurd h1 (by decide)
theorem Ind.sub {m:List (List Int)} {C S:List Int} (h:Ind m C) (hin:xs9 S C) (hS:InjL S):Ind m S:=by
 intro z hz c hc
 obtain⟨k,hk,e⟩:=hin c hc
 have h1:=h (λk=>sm S.length λq=>if nI S q=nI C k then z q else 0) (λi hi=>((x4v hin h.inj (λv=>nI (nL m i) v.toNat) z).symm.trans (hz i hi))) k hk
 try dsimp only at h1
 rw[qk1 hc λq hq hne=>if_neg λh2=>hne (hS q c hq hc (by rw[h2,e])),if_pos e.symm] at h1
 exact h1
def q36 (l:List Int):List Int:=l.mergeSort λx y=>decide (x<=y)
theorem xo1 (l:List Int):(q36 l).length=l.length:=by simp[q36]
theorem q25 {l:List Int} {x:Int}:x∈l↔∃q,q<l.length/\nI l q=x:=by
 refine⟨λh=>?_,λ⟨q,hq,e⟩=>by rw[<- e,qg1 _ _ hq]; exact List.getElem_mem hq⟩
 obtain⟨q,hq,e⟩:=List.mem_iff_getElem.1 h
 exact⟨q,hq,by rw[qg1 _ _ hq,e]⟩
theorem q38 {l:List Int} {x:Int}:x∈q36 l↔x∈l:=(List.mergeSort_perm l _).mem_iff
theorem InjL.nodup {l:List Int} (h:InjL l):l.Nodup:=by
 rw[List.Nodup,List.pairwise_iff_getElem]
 intro i j hi hj hij e
 have:=h i j hi hj (by rw[qg1 _ _ hi,qg1 _ _ hj,e])
 omega
theorem x0o (l:List Int):(q36 l).Pairwise λx y=>x<=y:=(List.pairwise_mergeSort (le:=λx y:Int=>decide (x<=y)) (λa b c h1 h2=>by simp only[decide_eq_true_eq] at *; omega) (λa b=>by simp; omega) l).imp λq=>by simpa using q
theorem xo2 {l:List Int} (h:InjL l):∀i j,i<j->j<(q36 l).length->nI (q36 l) i<nI (q36 l) j:=by
 intro i j hij hj
 have hn:(q36 l).Nodup:=(List.mergeSort_perm l _).nodup_iff.2 h.nodup
 rw[List.Nodup,List.pairwise_iff_getElem] at hn
 have h1:=hn i j (by omega) hj hij
 have h2:=List.pairwise_iff_getElem.1 (x0o l) i j (by omega) hj hij
 rw[qg1 _ _ (by omega),qg1 _ _ hj]
 omega
theorem x0p {l:List Int} (h:∀i j,i<j->j<l.length->nI l i<nI l j):InjL l:=by
 intro a b ha hb e
 rcases Nat.lt_trichotomy a b with q | q | q
 ·have:=h a b q hb; omega
 ·exact q
 ·have:=h b a q ha; omega
theorem ws7 {r:List Int} (h:q0j r=true) (i:Nat) (hi:i<r.length):nI r i=0:=by
 unfold q0j at h
 rw[Bool.not_eq_true',List.any_eq_false] at h
 have:=h (nI r i) (by rw[qg1 _ _ hi]; exact List.getElem_mem hi)
 simpa using this
structure GrdOk (m:List (List Int)) (y S:List Int):Prop where
 chk:qr5 m y S=0
 nam:Named (nL m 0).length S
 pivs:(q0c m S y).2.length=S.length
 id:∀k,k<S.length->nI (q0c m S y).2 k=k
 no:q2x (q0c m S y).1 (q0c m S y).2 S.length=false
 sol:q1a m S y=((List.range S.length).map (w5n (q0c m S y).1 (q0c m S y).2 S.length),0)
 ok:x3i m S y
theorem xa5 {m:List (List Int)} {y S:List Int} (h:qr5 m y []=0) (hS:Named (nL m 0).length S):qr5 m y S=0:=by
 have hA:=Asked.of h
 have ha:xj9 S=true:=q3s.2 λi h0 hi=>hS.asc (i-1) i (by omega) hi
 have hb:(S.any λp=>!(inB p 0 ((nL m 0).length-1)))=false:=by
  rw[List.any_eq_false]
  intro x hx
  obtain⟨q,hq,e⟩:=q25.1 hx
  have:=hS.at_ q hq
  rw[e] at this
  have:inB x 0 ((nL m 0).length-1)=true:=inB_iff.2 ⟨this.1,by omega⟩
  simp[this]
 simp[qr5,hA.val,hA.len,hA.out,w5l,w15,ha,hb]
theorem PurI.named {m:List (List Int)} {y C:List Int} (h:PurI m y C):Named (nL m 0).length (q36 C):=
 ⟨λj hj=>by
  obtain⟨k,hk,e⟩:=q25.1 (q38.1 (q25.2 ⟨j,hj,rfl⟩))
  rw[<- e]; exact h.ask.inw.at_ k hk,xo2 h.ind.inj⟩
theorem GrdOk.of {m:List (List Int)} {y S:List Int} (h0:qr5 m y []=0) (hN:Named (nL m 0).length S) (hI:Ind m S) (hz:∃z:Nat->Int,(∀a,a<m.length->(sm S.length λc=>nI (nL m a) (nI S c).toNat*z c)+nI y a*z S.length=0)/\z S.length≠0):GrdOk m y S/\∀z:Nat->Int,(∀a,a<m.length->(sm S.length λc=>nI (nL m a) (nI S c).toNat*z c)+nI y a*z S.length=0)->∀k,k<S.length->0<nI (nL (q0c m S y).1 k) k/\nI (nL (q0c m S y).1 k) k*z k+nI (nL (q0c m S y).1 k) S.length*z S.length=0:=by
 have hc:=xa5 h0 hN
 have hA:=Asked.of hc
 have hSm:=qu0 hA
 have hst:=qn3 hSm.toMat S.length (by omega)
 have hat:∀a,a<m.length->∀c,c<S.length->rowOf (qc8 m S y) a c=nI (nL m a) (nI S c).toNat:=λa ha c hc=>by
  unfold rowOf
  rw[qx4 m S y a ha,qj6 m S a ha,qi0 _ _ (by rw[qj0]; exact hc),qn2 _ _ _ hc]
 have hlast:∀a,a<m.length->rowOf (qc8 m S y) a S.length=nI y a:=λa ha=>by
  unfold rowOf
  rw[qx4 m S y a ha,qj6 m S a ha,show S.length=(qu4 (nL m a) S).length by rw[qj0],qj7]
 have hsl:∀z:Nat->Int,(∀a,a<m.length->(sm S.length λc=>nI (nL m a) (nI S c).toNat*z c)+nI y a*z S.length=0)->Sol m.length (S.length+1) (rowOf (qc8 m S y)) z:=λz h a ha=>by
  rw[sm,hlast a ha,<- h a ha]
  congr 1
  exact qa7 λc hc=>by rw[hat a ha c hc]
 have hAs:Asc S.length (qa4 (qc8 m S y) S.length).2:=⟨λq hq=>⟨(hst.pos q hq).1,(hst.pos q hq).2.1⟩,hst.asc⟩
 have hP:(qa4 (qc8 m S y) S.length).2.length=S.length:=by
  rcases Nat.lt_or_ge (qa4 (qc8 m S y) S.length).2.length S.length with q | q
  ·exfalso
   obtain⟨f,hf,hnp⟩:=Asc.free q
   obtain⟨z,z1,z2,z3⟩:=hst.free (by omega) (f:=f) (by omega) hnp λi h1 h2=>hst.zero i h1 h2 f hf
   have zN:z S.length=0:=z3 _ (by omega) (by omega) λq hq=>by have:=(hst.pos q hq).2.1; omega
   refine z2 (hI z (λi hi=>?_) f hf)
   have:=z1 i hi
   rw[sm,zN,Int.mul_zero,Int.add_zero] at this
   rw[<- this]
   exact qa7 λc hc=>by rw[hat i hi c hc]
  ·have:=hAs.le; omega
 obtain⟨z,z1,z2⟩:=hz
 have hno:q2x (qa4 (qc8 m S y) S.length).1 (qa4 (qc8 m S y) S.length).2 S.length=false:=by
  unfold q2x
  rw[List.any_eq_false]
  intro k hk
  have hk:k<m.length:=by have:=List.mem_range.1 hk; have:=hst.len; omega
  intro hb
  simp only[Bool.and_eq_true,decide_eq_true_eq,bne_iff_ne] at hb
  have:=(hst.sol z).1 (hsl z z1) k hk
  unfold dt at this
  rw[sm,sm_zero λc hc=>by rw[hst.zero k hb.1 hk c hc,Int.zero_mul],Int.zero_add] at this
  rcases Int.mul_eq_zero.1 this with q | q
  ·exact hb.2 q
  ·exact z2 q
 have hsol:q1a m S y=((List.range S.length).map (w5n (q0c m S y).1 (q0c m S y).2 S.length),0):=by
  rw[q1a,if_pos hc,wu0]
  show(if q2x (qa4 (qc8 m S y) S.length).1 (qa4 (qc8 m S y) S.length).2 S.length=true then _ else _)=_
  rw[if_neg (by rw[hno]; decide)]
  show(if(qa4 (qc8 m S y) S.length).2.length<S.length then _ else _)=_
  rw[if_neg (by omega)]
  show((List.range (qa4 (qc8 m S y) S.length).2.length).map _,_)=_
  rw[hP]
 have h10:=hA.msk.pix10
 have hpl:=hA.nam.len
 refine⟨⟨hc,hN,hP,λk hk=>hAs.id hP hk,hno,hsol,(xs1 (y:=y) (m:=m) (pix:=S) (by omega)).ok hc⟩,λz hz k hk=>?_⟩
 have hp:=hst.pos k (by omega)
 rw[hAs.id hP hk,Int.toNat_natCast] at hp
 refine⟨hp.2.2.1,?_⟩
 have hpl2:=hst.pl
 have h1:=(hst.sol z).1 (hsl z hz) k (by omega)
 unfold dt at h1
 rw[q3o (k:=k) (l:=S.length) (by omega) (by omega) (by omega) λc hc h1 h2=>by
  try dsimp only
  have hp2:=(hst.pos c (by omega)).2.2.2.2 k (by omega) (by omega)
  rw[hAs.id hP (by omega),Int.toNat_natCast] at hp2
  rw[hp2,Int.zero_mul]] at h1
 exact h1
theorem PurI.rest0 {m:List (List Int)} {y C:List Int} (h:PurI m y C) (h8:(qk4 m y C).2=8):∀i,i<m.length->nI (qg9 m y C) i=0:=λi hi=>by
 refine ws7 ?_ i (by rw[q1j,h.ask.ylen]; exact hi)
 unfold qk4 wb0 at h8
 split at h8
 ·assumption
 ·split at h8
  ·exact absurd (show(10:Int)=8 from h8) (by decide)
  ·exact absurd (show(0:Int)=8 from h8) (by decide)
theorem PurI.rsum {m:List (List Int)} {y C:List Int} (h:PurI m y C):0<qk9 m y C/\∃t:Nat->Int,∀i,i<m.length->nI (qg9 m y C) i=nI y i*qk9 m y C-sm C.length λk=>nI (nL m i) (nI C k).toNat*t k:=by
 have hid:=w90 h.ask.msk h.ask.inw h.ind
 have ht:=h.ask.rs.tms (qe8 m C).length (Nat.le_refl _)
 have h1:0<qk9 m y C:=ht.1
 refine⟨h1,λk=>(qk9 m y C).tdiv (q0g (gP m y C) C.length k)*q8v (gP m y C) C.length k,λi hi=>?_⟩
 rw[wj0 m y C (by rw[h.ask.ylen]; exact hi),wi9,hid]
 congr 1
 exact qa7 λk hk=>by rw[qu1 _ _ _ hi]
theorem PurI.grd {m:List (List Int)} {y C:List Int} (h:PurI m y C) (h0:qr5 m y []=0) (h8:(qk4 m y C).2=8):GrdOk m y (q36 C):=by
 have hN:=h.named
 have hinj:=x0p hN.asc
 have hSC:xs9 (q36 C) C:=λk hk=>q25.1 (q38.1 (q25.2 ⟨k,hk,rfl⟩))
 have hCS:xs9 C (q36 C):=λk hk=>q25.1 (q38.2 (q25.2 ⟨k,hk,rfl⟩))
 refine(GrdOk.of h0 hN (h.ind.sub hSC hinj) ?_).1
 have hrest:=h.rest0 h8
 obtain⟨hT,t,ht⟩:=h.rsum
 generalize q36 C=S at *
 generalize qk9 m y C=T at *
 refine⟨λc=>if c<S.length then sm C.length λk=>if nI C k=nI S c then t k else 0 else-T,λa ha=>?_,by(try dsimp only); rw[if_neg (Nat.lt_irrefl _)]; omega⟩
 try dsimp only
 have hy:=ht a ha
 rw[hrest a ha] at hy
 rw[if_neg (Nat.lt_irrefl _),show nI y a * -T=-(nI y a*T) by rw[Int.mul_neg]]
 have e:=x4v hCS hinj (λv=>nI (nL m a) v.toNat) t
 try dsimp only at e
 rw[e] at hy
 have:(sm S.length λc=>nI (nL m a) (nI S c).toNat*(if c<S.length then sm C.length λk=>if nI C k=nI S c then t k else 0 else-T))=sm S.length λq=>nI (nL m a) (nI S q).toNat*sm C.length λk=>if nI C k=nI S q then t k else 0:=qa7 λc hc=>by rw[if_pos hc]
 rw[this]
 omega
def BS:Nat:=1000000000
def x1l (S:Nat):Nat->List Int
 | 0=>[]
 | k+1=>x1l S k++[((S / BS ^ k % BS:Nat):Int)]
theorem wj1 (S:Nat):∀k,(x1l S k).length=k
 | 0=>rfl
 | k+1=>by rw[x1l,List.length_append,wj1 S k]; rfl
theorem xa6 (S:Nat):∀k i,i<k->nI (x1l S k) i=((S / BS ^ i % BS:Nat):Int)
 | k+1,i,h=>by
  have hl:=wj1 S k
  rw[x1l]
  rcases Nat.lt_succ_iff_lt_or_eq.1 h with e | e
  ·rw[qg1 _ i (by rw[List.length_append]; omega),List.getElem_append_left (by omega),<- qg1 _ i (by omega)]
   exact xa6 S k i e
  ·rw[qg1 _ i (by rw[List.length_append]; simp; omega),List.getElem_append_right (by omega)]
   simp[e,hl]
def x0q:Nat->Nat->Nat
 | 0,_=>0
 | f+1,N=>if N=0 then 0 else x0q f (N / BS)+1
def lenD (N:Nat):Nat:=x0q N N
theorem wz6:∀f N,N<=f->N<BS ^ x0q f N/\(x0q f N=0\/BS ^ (x0q f N-1)<=N)
 | 0,N,h=>by
  rw[show N=0 by omega]
  exact⟨by show 0<BS ^ 0; decide,.inl rfl⟩
 | f+1,N,h=>by
  rw[x0q]
  by_cases q:N=0
  ·rw[if_pos q,q]
   exact⟨by decide,.inl rfl⟩
  ·rw[if_neg q]
   have hd:N / BS<N:=Nat.div_lt_self (by omega) (by decide)
   obtain⟨h1,h2⟩:=wz6 f (N / BS) (by omega)
   generalize x0q f (N / BS)=k at h1 h2
   refine⟨?_,.inr ?_⟩
   ·rw[Nat.pow_succ]
    exact(Nat.div_lt_iff_lt_mul (by decide)).1 h1
   ·rw[Nat.add_sub_cancel]
    rcases h2 with h2 | h2
    ·rw[h2,Nat.pow_zero]; omega
    ·cases k with
     | zero=>rw[Nat.pow_zero]; omega
     | succ k=>
      rw[Nat.add_sub_cancel] at h2
      rw[Nat.pow_succ]
      exact(Nat.le_div_iff_mul_le (by decide)).1 h2
theorem x0r (N:Nat):N<BS ^ lenD N:=(wz6 N N (Nat.le_refl _)).1
theorem x0s (N:Nat):lenD N=0\/BS ^ (lenD N-1)<=N:=(wz6 N N (Nat.le_refl _)).2
theorem xa7 {a b:Nat} (h:a<=b):BS ^ a<=BS ^ b:=Nat.pow_le_pow_right (by decide) h
theorem xo3 {N i:Nat}:i<lenD N↔BS ^ i<=N:=by
 constructor
 ·intro h
  rcases x0s N with e | e
  ·omega
  ·exact Nat.le_trans (xa7 (by omega)) e
 ·intro h
  refine Nat.lt_of_not_le λq=>?_
  have:=xa7 q
  have:=x0r N
  omega
def dgs (N:Nat):List Int:=x1l N (lenD N)
theorem x0t (N:Nat):(dgs N).length=lenD N:=wj1 _ _
theorem x4w (N i:Nat):(if i<lenD N then nI (dgs N) i else 0)=((N / BS ^ i % BS:Nat):Int):=by
 by_cases h:i<lenD N
 ·rw[if_pos h]; exact xa6 _ _ _ h
 ·rw[if_neg h]
  have:N<BS ^ i:=Nat.lt_of_not_le λq=>h (xo3.2 q)
  rw[Nat.div_eq_of_lt this]; rfl
def x4x (l:List Int):Nat->Nat
 | 0=>0
 | k+1=>x4x l k+BS ^ k*(nI l k).toNat
def valL (l:List Int):Nat:=x4x l l.length
end Go.Proofs.YtmijnbjlhnpokaaGreat
set_option linter.unusedSimpArgs false
namespace Go.Proofs.YtmijnbjlhnpokaaGreat
open Go Go.RowKit Eng
abbrev x5g:=Bool × List Int × List Int
def nR (x:List (Int × Int)) (i:Nat):Int × Int:=qd4 (.prod (.int .i64) (.int .i64)) x i
theorem x0u (x:List (Int × Int)) (i:Nat) (h:i<x.length):nR x i=x[i]:=qj8 (t:=.prod (.int .i64) (.int .i64)) x i h
theorem xo4 {m:List (List Int)} {y pix:List Int} (h:(qp2 m y pix).2=true):∃(L:Int) (u:Nat->Int),L≠0/\(∀j,j<pix.length->0<(nR (qp2 m y pix).1.2 j).2/\L=(nR (qp2 m y pix).1.2 j).2*u j) /\
  ∀a,a<m.length->(sm pix.length λj=>nI (nL m a) (nI pix j).toNat*((nR (qp2 m y pix).1.2 j).1*u j))=nI y a*L:=by
 have hI:=q0f h
 have hA:=Asked.of hI.chk
 have hS:=qu0 hA
 have hst:=qn3 hS.toMat pix.length (by omega)
 have hpl:=hst.pl
 have hvo:=wy6 h
 have hvl:=hI.len
 unfold qp2 at h hvo hvl ⊢
 split at h
 ·cases h
 ·rename_i hno
  rw[if_neg hno] at hvo hvl ⊢
  have h0:(q1a m pix y).2=0:=Classical.byContradiction λq=>hno (.inl q)
  have es:q1a m pix y=wu0 (qa4 (qc8 m pix y) pix.length).1 (qa4 (qc8 m pix y) pix.length).2 pix.length:=by unfold q1a; rw[if_pos hI.chk]; rfl
  have hasc:Asc pix.length (qa4 (qc8 m pix y) pix.length).2:=⟨λq hq=>⟨(hst.pos q hq).1,(hst.pos q hq).2.1⟩,hst.asc⟩
  have hle:=hasc.le
  dsimp only at hvo hvl ⊢
  rw[es] at h0 hvo hvl ⊢
  unfold wu0 at h0 hvo hvl ⊢
  split at h0
  ·cases h0
  ·rename_i hn
   rw[if_neg hn] at hvo hvl ⊢
   split at h0
   ·cases h0
   ·rename_i hl
    rw[if_neg hl] at hvo hvl ⊢
    have hlen:(qa4 (qc8 m pix y) pix.length).2.length=pix.length:=by omega
    dsimp only at hvo hvl ⊢
    have hid:=λq (hq:q<pix.length)=>hasc.id hlen hq
    have hat:∀j,j<pix.length->nR (List.map (w5n (qa4 (qc8 m pix y) pix.length).1 (qa4 (qc8 m pix y) pix.length).2 pix.length) (List.range (qa4 (qc8 m pix y) pix.length).2.length)) j=q91 (nI (nL (qa4 (qc8 m pix y) pix.length).1 j) pix.length) (nI (nL (qa4 (qc8 m pix y) pix.length).1 j) j)/\0<nI (nL (qa4 (qc8 m pix y) pix.length).1 j) j:=λj hj=>by
     have hp:=(hst.pos j (by omega)).2.2.1
     rw[hid j hj,Int.toNat_natCast] at hp
     refine⟨?_,hp⟩
     rw[x0u _ j (by simp; omega)]
     simp only[List.getElem_map,List.getElem_range]
     unfold w5n
     rw[hid j hj,Int.toNat_natCast,wi5 hp]
    generalize(List.map (w5n (qa4 (qc8 m pix y) pix.length).1 (qa4 (qc8 m pix y) pix.length).2 pix.length) (List.range (qa4 (qc8 m pix y) pix.length).2.length))=V at *
    have hpos:∀j,j<pix.length->0<(nR V j).2:=λj hj=>by
     obtain⟨q1,_⟩:=hvo (nR V j) (by rw[x0u V j (by omega)]; exact List.getElem_mem _)
     unfold x3k at q1
     simp only[Bool.and_eq_true,decide_eq_true_eq] at q1
     omega
    obtain⟨L,u,hL,hu⟩:=exL pix.length (λj=>(nR V j).2) λj hj=>by have:=hpos j hj; (try dsimp only); omega
    refine⟨L,u,hL,λj hj=>⟨hpos j hj,hu j hj⟩,λa ha=>?_⟩
    obtain⟨z,hz1,hz2⟩:∃z:Nat->Int,(∀j,j<pix.length->z j=(nR V j).1*u j)/\z pix.length=- L:=⟨λj=>if j<pix.length then(nR V j).1*u j else-L,λj hj=>if_pos hj,if_neg (Nat.lt_irrefl _)⟩
    have hsol:Sol m.length (pix.length+1) (rowOf (qc8 m pix y)) z:=(hst.sol z).2 λi hi=>by
     unfold dt
     rcases Nat.lt_or_ge i pix.length with q | q
     ·rw[q3o (k:=i) (l:=pix.length) (by omega) (by omega) (by omega) λc hc h1 h2=>by
       try dsimp only
       have:=(hst.pos c (by omega)).2.2.2.2 i (by omega) (Ne.symm h1)
       rw[hid c (by omega),Int.toNat_natCast] at this
       rw[this,Int.zero_mul]]
      try dsimp only
      rw[hz1 i q,hz2]
      obtain⟨e1,e2⟩:=hat i q
      have huq:=hu i q
      try dsimp only at huq
      rw[huq,e1]
      generalize nI (nL (qa4 (qc8 m pix y) pix.length).1 i) pix.length=x at *
      generalize nI (nL (qa4 (qc8 m pix y) pix.length).1 i) i=p at *
      have g1:qd8 x p*(q91 x p).1=x:=Int.mul_tdiv_cancel' (Int.natAbs_dvd_natAbs.1 (Nat.gcd_dvd_left _ _))
      have g2:qd8 x p*(q91 x p).2=p:=Int.mul_tdiv_cancel' (Int.natAbs_dvd_natAbs.1 (Nat.gcd_dvd_right _ _))
      generalize qd8 x p=g at *
      generalize(q91 x p).1=n at *
      generalize(q91 x p).2=d at *
      rw[<- g1,<- g2]
      grind
     ·refine sm_zero λc hc=>?_
      try dsimp only
      rcases Nat.lt_or_ge c pix.length with q2 | q2
      ·rw[hst.zero i (by omega) hi c q2,Int.zero_mul]
      ·have hz0:nI (nL (qa4 (qc8 m pix y) pix.length).1 i) pix.length=0:=Classical.byContradiction λq3=>hn (by
        unfold q2x
        rw[List.any_eq_true]
        exact⟨i,List.mem_range.2 (by have:=hst.len; omega),by rw[Bool.and_eq_true,decide_eq_true_eq,bne_iff_ne]; exact⟨by omega,q3⟩⟩)
       rw[show c=pix.length by omega,hz0,Int.zero_mul]
    have e:=hsol a ha
    rw[sm,hz2] at e
    have hrow:∀c,c<pix.length->rowOf (qc8 m pix y) a c=nI (nL m a) (nI pix c).toNat:=λc hc=>by
     unfold rowOf
     rw[qx4 m pix y a ha,qj6 m pix a ha,qi0 _ _ (by rw[qj0]; exact hc),qn2 _ _ _ hc]
    have hlast:rowOf (qc8 m pix y) a pix.length=nI y a:=by
     unfold rowOf
     rw[qx4 m pix y a ha,qj6 m pix a ha]
     have:=qj7 (qu4 (nL m a) pix) (nI y a)
     rwa [qj0] at this
    rw[hlast] at e
    have e2:(sm pix.length λc=>rowOf (qc8 m pix y) a c*z c)=sm pix.length λj=>nI (nL m a) (nI pix j).toNat*((nR V j).1*u j):=qa7 λc hc=>by
     try dsimp only
     rw[hrow c hc,hz1 c hc]
    rw[e2] at e
    rw[Int.mul_neg] at e
    omega
theorem ws8 {m:List (List Int)} {y:List Int}:∀K,∀f∈qh9 m y K,∃pix,(qp2 m y pix).2=true/\f=(qp2 m y pix).1
 | 0,f,h=>by cases h
 | K+1,f,h=>by
  rcases List.mem_append.1 h with h | h
  ·exact ws8 K f h
  ·unfold qg0 at h
   rw[List.mem_filterMap] at h
   obtain⟨pix,_,h⟩:=h
   split at h
   ·rename_i h1
    exact⟨pix,h1,(Option.some.inj h).symm⟩
   ·cases h
theorem wb1 {m:List (List Int)} {y pix:List Int} (h:(qp2 m y pix).2=true):∀K,pix.length<K->(qp2 m y pix).1∈qh9 m y K
 | 0,hk=>absurd hk (Nat.not_lt_zero _)
 | K+1,hk=>by
  rw[qh9]
  by_cases e:pix.length=K
  ·refine List.mem_append.2 (.inr ?_)
   unfold qg0
   rw[List.mem_filterMap]
   have:=wq9 (Asked.of (q0f h).chk).nam
   rw[e] at this
   exact⟨pix,this,if_pos h⟩
  ·exact List.mem_append.2 (.inl (wb1 h K (by omega)))
theorem xo5 {m:List (List Int)} {y:List Int} {f:Fit} (h:q90 m y f=true):(qp2 m y f.1).2=true/\f=(qp2 m y f.1).1:=by
 unfold q90 at h
 simp only[Bool.and_eq_true,decide_eq_true_eq] at h
 obtain⟨⟨⟨_,_⟩,h1⟩,h2⟩:=h
 exact⟨h1,Prod.ext (q0f h1).fst.symm h2.symm⟩
theorem xa8 {m:List (List Int)} {y pix:List Int} (h:(qp2 m y pix).2=true):q90 m y (qp2 m y pix).1=true:=by
 have hI:=q0f h
 rw[xm7]
 unfold w88 q1d
 rw[wy1,hI.fst]
 simp only[Bool.and_eq_true,decide_eq_true_eq]
 exact⟨⟨hI.chk,h⟩,hI.fst.symm,trivial⟩
theorem xa9 {m:List (List Int)} {y pix:List Int} {k:Int} (h:(qp2 m y pix).2=true):pix.length<fitsN m k↔(pix.length:Int)<=k:=by
 have hI:=q0f h
 have hA:=Asked.of hI.chk
 have h1:=hI.rows
 have h2:=hA.nam.len
 unfold fitsN
 omega
theorem xb0 {m:List (List Int)} {y:List Int} {f:Fit} {k:Int} (h:q90 m y f=true):f∈qi8 m y k↔(f.1.length:Int)<=k:=by
 obtain⟨h1,h2⟩:=xo5 h
 unfold qi8
 rw[<- xa9 h1]
 constructor
 ·exact λhf=>q77 _ _ hf
 ·intro hl
  rw[h2]
  exact wb1 h1 _ hl
theorem wz7 (f:Nat->Int):∀n,0<n->∃j,j<n/\∀i,i<n->f i<=f j
 | 0,h=>absurd h (Nat.lt_irrefl 0)
 | 1,_=>⟨0,by omega,λi hi=>by rw[show i=0 by omega]; exact Int.le_refl _⟩
 | n+2,_=>by
  obtain⟨j,hj,h⟩:=wz7 f (n+1) (by omega)
  rcases Int.le_total (f j) (f (n+1)) with q | q
  ·refine⟨n+1,by omega,λi hi=>?_⟩
   rcases Nat.lt_or_ge i (n+1) with e | e
   ·exact Int.le_trans (h i e) q
   ·rw[show i=n+1 by omega]; exact Int.le_refl _
  ·refine⟨j,by omega,λi hi=>?_⟩
   rcases Nat.lt_or_ge i (n+1) with e | e
   ·exact h i e
   ·rw[show i=n+1 by omega]; exact q
theorem isq (x:Int):0<=x*x:=by
 rcases Int.le_total 0 x with h | h
 ·exact Int.mul_nonneg h h
 ·exact Int.mul_nonneg_of_nonpos_of_nonpos h h
theorem xo6 {e x:Nat->Int}:∀k,(∀c,c<k->e c=0->x c=0)->sm k x*sm k x<=(cntN k e:Int)*sm k (λc=>x c*x c)/\0<=sm k (λc=>x c*x c)/\(cntN k e=0->sm k x=0)
 | 0,_=>⟨by simp[sm],by simp[sm],λ_=>rfl⟩
 | k+1,h=>by
  obtain⟨h1,h2,h3⟩:=xo6 k λc hc=>h c (by omega)
  have hx:=isq (x k)
  rw[sm,sm,cntN]
  by_cases q:e k=0
  ·rw[if_neg (λp=>p q),h k (by omega) q]
   simp only[Int.add_zero,Int.mul_zero]
   exact⟨h1,h2,h3⟩
  ·rw[if_pos q]
   refine⟨?_,by omega,λp=>by omega⟩
   generalize sm k x=S at *
   generalize sm k (λc=>x c*x c)=Q at *
   generalize cntN k e=m at *
   generalize x k=z at *
   rw[Int.natCast_add]
   show(S+z)*(S+z)<=((m:Int)+1)*(Q+z*z)
   have key:2*(S*z)<=Q+m*(z*z):=by
    rcases Nat.eq_zero_or_pos m with hm | hm
    ·rw[h3 hm,hm]; simp; omega
    ·have hs:=isq (S-m*z)
     have e1:(S-m*z)*(S-m*z)=S*S-2*(m*(S*z))+m*(m*(z*z)):=by grind
     have e2:(m:Int)*(2*(S*z))<=m*(Q+m*(z*z)):=by
      have e3:(m:Int)*(Q+m*(z*z))=m*Q+m*(m*(z*z)):=Int.mul_add _ _ _
      have e4:(m:Int)*(2*(S*z))=2*(m*(S*z)):=by grind
      omega
     exact Int.le_of_mul_le_mul_left e2 (by omega)
   have e5:(S+z)*(S+z)=S*S+2*(S*z)+z*z:=by grind
   have e6:((m:Int)+1)*(Q+z*z)=m*Q+m*(z*z)+Q+z*z:=by grind
   omega
theorem w2v {e g:Nat->Int} {B:Int}:∀k,(∀c,c<k->e c=0->g c=0)->(∀c,c<k->g c<=B)->sm k g<=(cntN k e:Int)*B
 | 0,_,_=>by simp[sm,cntN]
 | k+1,h,hb=>by
  have h1:=w2v k (λc hc=>h c (by omega)) λc hc=>hb c (by omega)
  rw[sm,cntN]
  by_cases q:e k=0
  ·rw[if_neg (λp=>p q),h k (by omega) q,Int.add_zero]; exact h1
  ·rw[if_pos q,Int.natCast_add]
   have h2:=hb k (by omega)
   have e1:((cntN k e:Int)+1)*B=(cntN k e:Int)*B+B:=by grind
   show sm k g+g k<=((cntN k e:Int)+1)*B
   omega
theorem xo7 {n:Nat} {q:Nat->Nat->Int} {d:Nat->Int} {N D:Int} (hN:0<=N) (hD:0<D) (hp:∀c,c<n->0<q c c)
  (hq:∀i j,i<n->j<n->i≠j->q i j*q i j*D<=N*(q i i*q j j)) (hs:∀j,j<n->(sm n λc=>d c*q c j)=0) {c0:Nat} (hc:c0<n) (h0:d c0≠0) :
  ∃M:Nat,M+1<=cntN n d/\D<=(M:Int)*M*N:=by
 obtain⟨j,hj,hmax⟩:=wz7 (λc=>d c*d c*q c c) n (by omega)
 have hdj:d j≠0:=λe=>by
  have h1:=hmax c0 hc
  simp only[e,Int.zero_mul] at h1
  have h2:0<d c0*d c0:=by
   rcases Int.lt_or_gt_of_ne h0 with p | p
   ·exact Int.mul_pos_of_neg_of_neg p p
   ·exact Int.mul_pos p p
  have:=Int.mul_pos h2 (hp c0 hc)
  omega
 let e:Nat->Int:=λc=>if c=j then 0 else d c
 let x:Nat->Int:=λc=>if c=j then 0 else d c*q c j
 have he:cntN n e<cntN n d:=cnt_lt (c0:=j) (show e j=0 from if_pos rfl) hdj n hj λc _ p=>by
  show d c≠0
  intro z
  apply p
  show(if c=j then 0 else d c)=0
  split
  ·rfl
  ·exact z
 have hz:∀c,c<n->e c=0->x c=0:=λc _ p=>by
  show(if c=j then 0 else d c*q c j)=0
  split
  ·rfl
  ·rename_i w
   have p:(if c=j then 0 else d c)=0:=p
   rw[if_neg w] at p
   rw[p,Int.zero_mul]
 have hS:sm n x=- (d j*q j j):=by
  have e1:=hs j hj
  have e2:(sm n λc=>d c*q c j)=sm n (λc=>x c+if c=j then d j*q j j else 0):=qa7 λc hc=>by
   show d c*q c j=(if c=j then 0 else d c*q c j)+if c=j then d j*q j j else 0
   split
   ·rename_i w; rw[w]; omega
   ·omega
  rw[e2,q3n,qk1 (k:=j) hj λi _ w=>if_neg w,if_pos rfl] at e1
  omega
 obtain⟨h1,h2,_⟩:=xo6 n hz
 rw[hS] at h1
 refine⟨cntN n e,he,?_⟩
 generalize hM:cntN n e=M at *
 have hT:0<d j*q j j*(d j*q j j):=by
  have hw:d j*q j j≠0:=Int.mul_ne_zero hdj (Int.ne_of_gt (hp j hj))
  rcases Int.lt_or_gt_of_ne hw with p | p
  ·exact Int.mul_pos_of_neg_of_neg p p
  ·exact Int.mul_pos p p
 have hg:sm n (λc=>x c*x c)*D<=(M:Int)*(N*(d j*q j j*(d j*q j j))):=by
  have e1:sm n (λc=>x c*x c)*D=sm n (λc=>D*(x c*x c)):=by rw[qf7,Int.mul_comm]
  rw[e1,<- hM]
  refine w2v n (λc hc p=>by rw[hz c hc p]; simp) λc hc=>?_
  by_cases w:c=j
  ·have:x c=0:=if_pos w
   rw[this]
   have:=Int.mul_nonneg hN (Int.le_of_lt hT)
   omega
  ·have ex:x c=d c*q c j:=if_neg w
   rw[ex]
   have a1:=hq c j hc hj w
   have a2:=Int.mul_le_mul_of_nonneg_left a1 (isq (d c))
   have a3:=Int.mul_le_mul_of_nonneg_right (hmax c hc) (Int.mul_nonneg hN (Int.le_of_lt (hp j hj)))
   have b1:D*(d c*q c j*(d c*q c j))=d c*d c*(q c j*q c j*D):=by grind
   have b2:d c*d c*(N*(q c c*q j j))=d c*d c*q c c*(N*q j j):=by grind
   have b3:d j*d j*q j j*(N*q j j)=N*(d j*q j j*(d j*q j j)):=by grind
   rw[b1,<- b3]
   rw[b2] at a2
   exact Int.le_trans a2 a3
 generalize hTd:d j*q j j*(d j*q j j)=T at *
 have hneg:-(d j*q j j) * -(d j*q j j)=T:=by rw[Int.neg_mul_neg,hTd]
 rw[hneg] at h1
 have c1:T*D<=(M:Int)*sm n (λc=>x c*x c)*D:=Int.mul_le_mul_of_nonneg_right h1 (Int.le_of_lt hD)
 have c2:(M:Int)*sm n (λc=>x c*x c)*D=M*(sm n (λc=>x c*x c)*D):=Int.mul_assoc _ _ _
 have c3:=Int.mul_le_mul_of_nonneg_left hg (Int.natCast_nonneg M)
 have c4:(M:Int)*(M*(N*T))=T*(M*M*N):=by grind
 have c5:T*D<=T*(M*M*N):=by omega
 exact Int.le_of_mul_le_mul_left c5 hT
def bndTo (N D:Int):Nat->Nat->Nat
 | 0,k=>k
 | f+1,k=>if(2*(k:Int)+1)*(2*(k:Int)+1)*N<D then bndTo N D f (k+1) else k
theorem w2w (N D:Int):∀f k:Nat,(k=0\/(2*((k:Int)-1)+1)*(2*((k:Int)-1)+1)*N<D)->bndTo N D f k<=k+f/\(bndTo N D f k=0\/(2*((bndTo N D f k:Int)-1)+1)*(2*((bndTo N D f k:Int)-1)+1)*N<D)
 | 0,k,h=>⟨Nat.le_refl _,h⟩
 | f+1,k,h=>by
  rw[bndTo]
  split
  ·rename_i h1
   have e:(((k+1:Nat):Int)-1)=k:=by omega
   obtain⟨h2,h3⟩:=w2w N D f (k+1) (.inr (by rw[e]; exact h1))
   exact⟨by omega,h3⟩
  ·exact⟨by omega,h⟩
end Go.Proofs.YtmijnbjlhnpokaaGreat
set_option linter.unusedSimpArgs false
namespace Go.Proofs.YtmijnbjlhnpokaaGreat
open Go Go.RowKit Eng
theorem wz8:Meets Tryz.prog 48 x7t:=by
 refine meets (snd (SpecsOk.nil _)) Tryz.func48 rfl rfl (λx=>x3w x.1) (λ_=>by kernel_rfl) (by decide) ?_
 rintro⟨l,⟨⟩⟩ h
 revert l
 intro(l:List Int) (h:l.length<=1000000)
 refine @qe1 _ (∃(v0:Unit),∃(v1:Nat),Nat.le v1 l.length/\(((0:Int)=(↑(nzTo l v1):Int)/\(0:Int)=(↑v1:Int)/\True)/\True)/\∀(v2:Nat),Nat.le v2 l.length->(decide ((↑v2:Int)<(↑l.length:Int))=true->((0:Int)<=(↑v2:Int)/\(↑v2:Int)<(↑l.length:Int))/\((nI l v2 != (0:Int))=true->fits .i64 ((↑(nzTo l v2):Int)+(1:Int))/\fits .i64 ((↑v2:Int)+(1:Int))/\∃(v6:Nat),Nat.le v6 l.length/\l.length-v6<l.length-v2/\((↑(nzTo l v2):Int)+(1:Int)=(↑(nzTo l v6):Int)/\(↑v2:Int)+(1:Int)=(↑v6:Int)/\True)/\True)/\((nI l v2 != (0:Int))=false->fits .i64 ((↑v2:Int)+(1:Int))/\∃(v6:Nat),Nat.le v6 l.length/\l.length-v6<l.length-v2/\((↑(nzTo l v2):Int)=(↑(nzTo l v6):Int)/\(↑v2:Int)+(1:Int)=(↑v6:Int)/\True)/\True))/\(decide ((↑v2:Int)<(↑l.length:Int))=false->(↑(nzTo l v2):Int)=(↑(nzTo l l.length):Int))) (by kernel_rfl) ?_
 try simp only[z0,z1,z2,z3,z4,z5,z6,z7,z8,z9,z10,Int.reduceEq,z11,z12,z13,z14,z15,z16,z17,z18,z19,z20,z21,z22,z23,z24,z25,z26,z27,z28,z29,z30,Int.reduceLE,Int.reduceLT,z31,z32,z33,z34,qa3]
 try simp only[qb5,qb6,qd0,z31,z32,z2,z1]
 refine⟨(),0,Nat.zero_le _,⟨rfl,rfl⟩,λi hi=>⟨λhlt=>?_,λhge=>?_⟩⟩
 ·have:=wh8 l i
  exact⟨hlt,λhz=>⟨qa9 (by omega) (by omega),qa9 (by omega) (by omega),i+1,hlt,by omega,by rw[nzTo,if_pos hz]; omega,by omega⟩,λhz=>⟨qa9 (by omega) (by omega),i+1,hlt,by omega,by rw[nzTo,if_neg (λq=>q hz)],by omega⟩⟩
 ·obtain rfl:i=l.length:=by omega
  rfl
def q2c (x:List Int):Nat->List Int × List (Int × Int)
 | 0=>([],[])
 | k+1=>if nI x k=0 then q2c x k else((q2c x k).1++[(k:Int)],(q2c x k).2++[(nI x k,1)])
def shF (x:List Int):List Int × List (Int × Int):=q2c x x.length
theorem wj2 (x:List Int):∀k,(q2c x k).1.length<=k/\(q2c x k).2.length<=k
 | 0=>⟨Nat.le_refl _,Nat.le_refl _⟩
 | k+1=>by
  have ih:=wj2 x k
  rw[q2c]
  split
  ·omega
  ·simp only[List.length_append,List.length_singleton]; omega
def x8g (x:List Int):Nat->Option Inv
 | 0=>some (Inv.of [8] 4 (λk:Nat=>[(8,.lit (.int .i64 k))]) (λk=>[.box 72 (.cons (.lit (.slice none 0 0)) (.cons (.lit (.slice none 0 0)) .nil)),.box 72 (.cons (.own 2) (.cons (.own 3) .nil)),.vec 3 (.int .i64) (q2c x k).1,.vec 60 (.prod (.int .i64) (.int .i64)) (q2c x k).2]) (λk=>k<=x.length) (λk=>x.length-k))
 | _=>none
abbrev x8h:qb9:=qg2 true none [tInts] [wf5] (λx=>x.1.length<=100000) (λx=>(shF x.1,()))
theorem w49:Meets Tryz.prog 49 x8h:=by
 refine meets (snd (SpecsOk.nil _)) Tryz.func49 rfl rfl (λx=>x8g x.1) (λ_=>by kernel_rfl) (by decide) ?_
 rintro⟨x,⟨⟩⟩ h
 revert x
 intro(x:List Int) (h:x.length<=100000)
 refine @qe1 _ (∃(v0:Unit),∃(v1:Nat),Nat.le v1 x.length/\(((0:Int)=(↑v1:Int)/\True)/\(Value.slice none (0:Nat) (0:Nat)=Value.slice none (0:Nat) (0:Nat)/\Value.slice none (0:Nat) (0:Nat)=Value.slice none (0:Nat) (0:Nat)/\True)/\(True/\True/\True)/\(q2c x v1).1=[]/\(q2c x v1).2=[]/\True)/\∀(v2:Nat),Nat.le v2 x.length->(decide ((↑v2:Int)<(↑x.length:Int))=true->((0:Int)<=(↑v2:Int)/\(↑v2:Int)<(↑x.length:Int))/\((nI x v2 != (0:Int))=true->((0:Nat)<List.length [(↑v2:Int)]/\Nat.le ((q2c x v2).1.length+List.length [(↑v2:Int)]) (1000000:Nat))/\((0:Nat)<List.length [(nI x v2,(1:Int))]/\Nat.le ((q2c x v2).2.length+List.length [(nI x v2,(1:Int))]) (1000000:Nat))/\fits .i64 ((↑v2:Int)+(1:Int))/\∃(v6:Nat),Nat.le v6 x.length/\x.length-v6<x.length-v2/\((↑v2:Int)+(1:Int)=(↑v6:Int)/\True)/\(Value.slice none (0:Nat) (0:Nat)=Value.slice none (0:Nat) (0:Nat)/\Value.slice none (0:Nat) (0:Nat)=Value.slice none (0:Nat) (0:Nat)/\True)/\(True/\True/\True)/\(q2c x v2).1++[(↑v2:Int)]=(q2c x v6).1/\(q2c x v2).2++[(nI x v2,(1:Int))]=(q2c x v6).2/\True)/\((nI x v2 != (0:Int))=false->fits .i64 ((↑v2:Int)+(1:Int))/\∃(v6:Nat),Nat.le v6 x.length/\x.length-v6<x.length-v2/\((↑v2:Int)+(1:Int)=(↑v6:Int)/\True)/\(Value.slice none (0:Nat) (0:Nat)=Value.slice none (0:Nat) (0:Nat)/\Value.slice none (0:Nat) (0:Nat)=Value.slice none (0:Nat) (0:Nat)/\True)/\(True/\True/\True)/\(q2c x v2).1=(q2c x v6).1/\(q2c x v2).2=(q2c x v6).2/\True))/\(decide ((↑v2:Int)<(↑x.length:Int))=false->(q2c x v2).1=(shF x).1/\(q2c x v2).2=(shF x).2/\True)) (by kernel_rfl) ?_
 try simp only[z0,z1,z2,z3,z4,z5,z6,z7,z8,z9,z10,Int.reduceEq,z11,z12,z13,z14,z15,z16,z17,z18,z19,z20,z21,z22,z23,z24,z25,z26,z27,z28,z29,z30,Int.reduceLE,Int.reduceLT,z31,z32,z33,z34,qa3]
 try simp only[qb5,qb6,qd0,z31,z32,z2,z1]
 refine⟨(),0,Nat.zero_le _,⟨rfl,rfl,rfl⟩,λk hk=>⟨λhlt=>⟨hlt,λhz=>?_,λhz=>?_⟩,λhge=>?_⟩⟩
 ·have hl:=wj2 x k
  have e:q2c x (k+1)=((q2c x k).1++[(k:Int)],(q2c x k).2++[(nI x k,1)]):=by rw[q2c,if_neg hz]
  refine⟨by omega,by omega,qa9 (by omega) (by omega),k+1,by omega,by omega,by omega,?_⟩
  rw[e]; exact⟨rfl,rfl⟩
 ·have e:q2c x (k+1)=q2c x k:=by rw[q2c,if_pos hz]
  refine⟨qa9 (by omega) (by omega),k+1,by omega,by omega,by omega,?_⟩
  rw[e]; exact⟨rfl,rfl⟩
 ·obtain rfl:k=x.length:=by omega
  exact⟨rfl,rfl⟩
end Go.Proofs.YtmijnbjlhnpokaaGreat
