/- Lengths of a slice of slices. No condition. -/
import Derived.Test.YtmijnbjlhnpokaaGreatZ4
import Derived.Test.YtmijnbjlhnpokaaGreatZ10
import Derived.Test.YtmijnbjlhnpokaaGreatRows
import Derived.Test.YtmijnbjlhnpokaaGreatCore
import Derived.ProofKit
import Derived.OpenShut
import Derived.ShutString
import Derived.ChangeOld
import Derived.Below
import Derived.Deep.Matrix
set_option linter.unusedVariables false
namespace Go.Proofs.YtmijnbjlhnpokaaGreat
open Go Go.RowKit Eng
theorem AskC.of {m:List (List Int)} {y C:List Int} (h:qp2 m y C=0):AskC m y C:=by
 have hA:=Asked.of h
 have hl:=hA.nam.len
 have h10:=hA.msk.pix10
 refine⟨hA.msk,hA.val,hA.len,λi hi=>?_,hA.nam.at_,by omega⟩
 have:=hA.at_ i hi
 omega
theorem InW.small {m:List (List Int)} {C:List Int} (hM:Mk m) (hC:InW (nL m 0).length C):Small m.length C.length C.length (qg7 m C):=by
 have hl:=hC.len
 have hlo:∀a c,a<m.length->c<C.length->(nI (nL (qg7 m C) a) c).natAbs<=1:=λa c ha hc=>by
  have h2:=qv7 m C ha hc
  unfold rowOf at h2
  rw[h2]
  have h3:=hC.at_ c hc
  have:=hM.small a ha (nI C c).toNat (by omega)
  omega
 exact⟨⟨q00 _ _,λi hi=>by rw[qz2 _ _ _ hi,ql0]⟩,hM.rows6,Nat.le_refl _,by omega,hlo,λa c ha hc=>by have:=hlo a c ha hc; omega⟩
theorem xz2 {m:List (List Int)} {C:List Int} (hM:Mk m) (hC:InW (nL m 0).length C):wm9 m C:=by
 have hl:=hC.len
 have h6:=hM.rows6
 refine⟨⟨by omega,by omega,λi hi j hj=>?_,λi hi=>⟨trivial,by simp⟩⟩,by rw[qv2]; exact q3n (hC.small hM)⟩
 rw[hM.each i hi]
 have:=hC.at_ j hj
 omega
theorem w77 {m:List (List Int)} (hM:Mk m) {j:Int} (h:0<=j/\j<(nL m 0).length):qs4 m j:=by
 have h6:=hM.rows6
 exact⟨by omega,λi hi=>by rw[hM.each i hi]; omega⟩
theorem q9l {m:List (List Int)} (hM:Mk m) {j:Int} (h:0<=j/\j<(nL m 0).length) {i:Nat} (hi:i<m.length):-1<=nI (qg2 m j.toNat) i/\nI (qg2 m j.toNat) i<=1:=by
 rw[q4n _ _ _ hi]
 exact hM.small i hi j.toNat (by omega)
theorem q3s {m:List (List Int)} (hM:Mk m) {j:Int} (h:0<=j/\j<(nL m 0).length) {b:List Int} (hl:m.length<=b.length) (hb:∀i,i<m.length->(nI b i).natAbs<=10000000000000000):ql5 (qg2 m j.toNat) b:=by
 have h6:=hM.rows6
 refine⟨by rw[qi6]; omega,by rw[qi6]; exact hl,λi hi=>?_,λi hi=>?_⟩
 ·rw[qi6] at hi; exact q9l hM h hi
 ·rw[qi6] at hi
  have:=hb i hi
  unfold qd0; omega
theorem w78 {m:List (List Int)} (hM:Mk m) {i j:Int} (h:0<=i/\i<(nL m 0).length) (hj:0<=j/\j<(nL m 0).length):ql5 (qg2 m i.toNat) (qg2 m j.toNat):=
 q3s hM h (by rw[qi6]; exact Nat.le_refl _) λk hk=>by have:=q9l hM hj hk; omega
theorem AskC.term {m:List (List Int)} {y C:List Int} (h:AskC m y C) {k i:Nat} (hk:k<(qe4 m C).length) (hi:i<m.length):(nI (qg2 m (nI (qe4 m C) k).toNat) i*((qj5 m y C).tdiv (qx5 (gP m y C) (qe4 m C).length k)*q7m (gP m y C) (qe4 m C).length k)).natAbs<=691200000000:=by
 have h1:=q9l h.msk (h.gr.inw.at_ k hk) hi
 have h2:=h.rs.mul k hk
 rw[Int.natAbs_mul]
 have h3:(nI (qg2 m (nI (qe4 m C) k).toNat) i).natAbs<=1:=by omega
 exact Nat.le_trans (Nat.mul_le_mul h3 h2) (by omega)
theorem AskC.t1 {m:List (List Int)} {y C:List Int} (h:AskC m y C):0<qj5 m y C/\qj5 m y C<=691200:=⟨(h.rs.tms _ (Nat.le_refl _)).1,(h.rs.tms _ (Nat.le_refl _)).2.1⟩
theorem AskC.yT {m:List (List Int)} {y C:List Int} (h:AskC m y C) {i:Nat} (hi:i<m.length):(nI y i*qj5 m y C).natAbs<=691200000000:=by
 have h1:=h.ybd i hi
 have h2:=h.t1
 rw[Int.natAbs_mul]
 exact Nat.le_trans (Nat.mul_le_mul h1 (show(qj5 m y C).natAbs<=691200 by omega)) (by decide)
theorem AskC.rsB {m:List (List Int)} {y C:List Int} (h:AskC m y C) {i:Nat} (hi:i<m.length) {K:Nat} (hK:K<=(qe4 m C).length):(rsE m y (qe4 m C) (gP m y C) (qj5 m y C) K i).natAbs<=4838400000000:=by
 have h6:=h.gr.n6
 have h1:=h.yT hi
 rw[wt4]
 have h2:=wj1 (n:=K) (f:=λk=>nI (qg2 m (nI (qe4 m C) k).toNat) i*((qj5 m y C).tdiv (qx5 (gP m y C) (qe4 m C).length k)*q7m (gP m y C) (qe4 m C).length k)) (B:=691200000000) λk hk=>h.term (by omega) hi
 have h3:K*691200000000<=6*691200000000:=Nat.mul_le_mul_right _ (by omega)
 omega
theorem AskC.rsPre {m:List (List Int)} {y C:List Int} (h:AskC m y C):wt5 m y C:=by
 have hM:=h.msk
 have hG:=h.gr
 have hR:=h.rs
 have hn6:=hG.n6
 have hm6:=hM.rows6
 have hyl:=h.ylen
 have hB:BIG=4000000000000000000:=rfl
 have ht:=h.t1
 refine⟨xz2 hM h.inw,hn6,hm6,hyl,λq hq=>w77 hM (hG.inw.at_ q hq),λa b ha hb=>w78 hM (hG.inw.at_ a ha) (hG.inw.at_ b hb),λa ha=>q3s hM (hG.inw.at_ a ha) (by omega) λi hi=>by have:=h.ybd i hi; omega,w68 hG.sml,λk hk=>by have:=hR.pos k hk; show nI (nL (qa6 (qb9 m y (qe4 m C)) (qe4 m C).length).1 k) k≠0; omega,λk hk c hc=>?_,λk hk=>?_,λk hk=>?_,λk hk=>?_,λi hi=>?_,λk hk i hi=>⟨?_,?_⟩⟩
 ·have:=hR.row k hk c hc
  show qd0 BIG (nI (nL (qa6 (qb9 m y (qe4 m C)) (qe4 m C).length).1 k) c)
  unfold qd0; omega
 ·have:=hR.tms k hk
  show qd0 BIG (qh5 (qa6 (qb9 m y (qe4 m C)) (qe4 m C).length).1 (qe4 m C).length k)/\qh5 (qa6 (qb9 m y (qe4 m C)) (qe4 m C).length).1 (qe4 m C).length k≠0
  unfold qd0; omega
 ·have:=(hR.den k hk).2.1
  show qx5 (qa6 (qb9 m y (qe4 m C)) (qe4 m C).length).1 (qe4 m C).length k≠0
  omega
 ·have:=hR.mul k hk
  show qd0 BIG ((qh5 (qa6 (qb9 m y (qe4 m C)) (qe4 m C).length).1 (qe4 m C).length (qe4 m C).length).tdiv (qx5 (qa6 (qb9 m y (qe4 m C)) (qe4 m C).length).1 (qe4 m C).length k)*q7m (qa6 (qb9 m y (qe4 m C)) (qe4 m C).length).1 (qe4 m C).length k)
  unfold qd0; omega
 ·have:=h.yT (i:=i) (by omega)
  unfold qd0; omega
 ·have:=h.term (k:=k) (i:=i) hk (by omega)
  unfold qd0; omega
 ·have:=h.rsB (i:=i) (by omega) (K:=k+1) (by omega)
  unfold qd0; omega
theorem AskC.restB {m:List (List Int)} {y C:List Int} (h:AskC m y C):∀i,i<m.length->(nI (qh9 m y C) i).natAbs<=4838400000000:=λi hi=>by
 rw[w0z m y C (by rw[h.ylen]; exact hi)]
 exact h.rsB hi (Nat.le_refl _)
theorem AskC.seeB {m:List (List Int)} {y C:List Int} (h:AskC m y C) {j:Nat} (hj:j<(nL m 0).length):(q1r m (qh9 m y C) j).natAbs<=1000000000000000:=by
 have h6:=h.msk.rows6
 unfold q1r
 rw[wm4]
 have:=wj1 (n:=m.length) (f:=λi=>nI (qg2 m j) i*nI (qh9 m y C) i) (B:=4838400000000) λi hi=>by
  have h1:=q9l h.msk (j:=(j:Int)) (by omega) hi
  rw[Int.toNat_natCast] at h1
  rw[Int.natAbs_mul]
  have h3:(nI (qg2 m j) i).natAbs<=1:=by omega
  exact Nat.le_trans (Nat.mul_le_mul h3 (h.restB i hi)) (by omega)
 have h3:m.length*4838400000000<=6*4838400000000:=Nat.mul_le_mul_right _ h6
 omega
theorem ownB {m:List (List Int)} (hM:Mk m) {j:Nat} (hj:j<(nL m 0).length):0<=q0b m j/\q0b m j<=6/\(q0b m j=0↔qz3 (qg2 m j)=true):=by
 have h6:=hM.rows6
 have h1:∀i,i<m.length->-1<=nI (qg2 m j) i/\nI (qg2 m j) i<=1:=λi hi=>by
  have:=q9l hM (j:=(j:Int)) (by omega) hi
  rwa [Int.toNat_natCast] at this
 have e:q0b m j=sm m.length λi=>nI (qg2 m j) i*nI (qg2 m j) i:=by unfold q0b; rw[wm4]
 rw[e]
 refine⟨?_,?_,λh0=>?_,λh0=>?_⟩
 ·have:∀k,0<=sm k λi=>nI (qg2 m j) i*nI (qg2 m j) i:=λk=>by
   induction k with
   | zero=>exact Int.le_refl _
   | succ k ih=>rw[sm]; have:=w22 (nI (qg2 m j) k); omega
  exact this _
 ·have:=wj1 (n:=m.length) (f:=λi=>nI (qg2 m j) i*nI (qg2 m j) i) (B:=1) λi hi=>by
   rw[Int.natAbs_mul]
   have:=h1 i hi
   have h3:(nI (qg2 m j) i).natAbs<=1:=by omega
   exact Nat.le_trans (Nat.mul_le_mul h3 h3) (Nat.le_refl _)
  omega
 ·have hz:=xn8 _ h0
  unfold qz3
  rw[Bool.not_eq_true',List.any_eq_false]
  intro x hx
  obtain⟨i,hi,rfl⟩:=q43 hx
  rw[qi6] at hi
  rw[hz i hi]; decide
 ·refine sm_zero λi hi=>?_
  unfold qz3 at h0
  rw[Bool.not_eq_true',List.any_eq_false] at h0
  have:=h0 _ (q7f (l:=qg2 m j) (c:=i) (by rw[qi6]; exact hi))
  have hz:nI (qg2 m j) i=0:=by simpa using this
  rw[hz]; rfl
theorem AskC.nxPre {m:List (List Int)} {y C:List Int} (h:AskC m y C):w7x m y C:=by
 have hM:=h.msk
 have h1:=hM.rows1
 have h10:=hM.pix10
 have hyl:=h.ylen
 refine⟨h.rsPre,by omega,by omega,λj hj=>w77 hM (by omega),λj hj=>?_,λj hj=>?_⟩
 ·have d1:=q3s hM (j:=(j:Int)) (by omega) (b:=qh9 m y C) (by rw[q05]; omega) λi hi=>by have:=h.restB i hi; omega
  have d2:=w78 hM (i:=(j:Int)) (j:=(j:Int)) (by omega) (by omega)
  rw[Int.toNat_natCast] at d1 d2
  exact⟨d1,d2⟩
 ·have s:=h.seeB hj
  have o:=ownB hM hj
  refine⟨?_,o.1,?_⟩
  ·show qd0 1000000000000000 (q1r m (qh9 m y C) j)
   unfold qd0; omega
  ·show q0b m j<=1000
   omega
theorem q7r (m:List (List Int)) (C:List Int):∀j,j<=C.length->∀q,q<(qn8 m C j).length->∃k,k<C.length/\nI (qn8 m C j) q=nI C k
 | 0,_,q,hq=>absurd hq (Nat.not_lt_zero _)
 | j+1,hj,q,hq=>by
  rw[qn8] at hq ⊢
  split at hq
  ·rename_i hf
   rw[if_pos hf]
   rw[List.length_append,List.length_singleton] at hq
   rcases Nat.lt_succ_iff_lt_or_eq.1 hq with k | k
   ·rw[ql1 _ _ k]; exact q7r m C j (by omega) q k
   ·rw[k,qn0]; exact⟨j,by omega,rfl⟩
  ·rename_i hf
   rw[if_neg hf]
   exact q7r m C j (by omega) q hq
theorem x3u {m:List (List Int)} {C:List Int} (hM:Mk m) (hC:InW (nL m 0).length C) (h1:1<=C.length):w72 m C:=by
 have hl:=hC.len
 have h6:=hM.rows6
 refine⟨⟨by omega,by omega,λi hi j hj=>?_⟩,(q3q hM hC h1).rdOk⟩
 rw[hM.each i hi]
 have:=hC.at_ j hj
 omega
theorem q3t {m:List (List Int)} {y C:List Int} (h:AskC m y C):qj5 m y C=qn1 m y C/\∀K i,K<=(qe4 m C).length->rsE m y (qe4 m C) (gP m y C) (qj5 m y C) K i=rtE m y (gre m C) (gR m y C) (qn1 m y C) K i:=by
 have hg:=wt3 h.msk h.inw
 have hR:=h.rs
 have hl:=hR.len
 have e1:qj5 m y C=qn1 m y C:=by
  have:=(hR.tms _ (Nat.le_refl _)).2.2
  show qh5 (qa6 (qb9 m y (qe4 m C)) (qe4 m C).length).1 (qe4 m C).length (qe4 m C).length=q0c (qb7 (qb9 m y (gre m C))).1 (qb7 (qb9 m y (gre m C))).1.length
  rw[<- hg,hl]; exact this
 refine⟨e1,λK i=>?_⟩
 induction K with
 | zero=>intro _; show nI y i*qj5 m y C=nI y i*qn1 m y C; rw[e1]
 | succ K ih=>
  intro hK
  rw[rsE,rtE,ih (by omega),<- e1]
  have d:=(hR.den K (by omega)).1
  have n:=(hR.num K (by omega)).1
  have hgR:gR m y C=(qb7 (qb9 m y (qe4 m C))).1:=by rw[hg]; rfl
  have d2:qx5 (gP m y C) (qe4 m C).length K=nI (nL (gR m y C) K) K:=by rw[hgR]; exact d
  have n2:q7m (gP m y C) (qe4 m C).length K=nI (nL (gR m y C) K) (qe4 m C).length:=by rw[hgR]; exact n
  rw[d2,n2,<- hg]
  grind
theorem wd7 {m:List (List Int)} {y C:List Int} (h:AskC m y C):qj2 m y C=qh9 m y C:=by
 obtain⟨e1,e2⟩:=q3t h
 have hg:=wt3 h.msk h.inw
 have hl:(gR m y C).length=(qe4 m C).length:=by
  have:=h.rs.len
  rw[hg] at this ⊢
  exact this
 unfold qj2 qh9 rtL rsL
 rw[hl]
 refine List.map_congr_left λi _=>?_
 exact(e2 _ i (Nat.le_refl _)).symm
theorem AskC.rtPre {m:List (List Int)} {y C:List Int} (h:AskC m y C) (hf:q1u m):wt7 m y C:=by
 have hM:=h.msk
 have hg:=wt3 h.msk h.inw
 have hG:=h.gr
 have hR:=h.rs
 have hl:=h.inw.len
 have hyl:=h.ylen
 have hB:BIG=4000000000000000000:=rfl
 obtain⟨e1,e2⟩:=q3t h
 have ht:=h.t1
 rw[hg] at hG hR e2
 have hgl:(gR m y C).length=(gre m C).length:=hR.len
 have hd:∀k,k<(gre m C).length->0<nI (nL (gR m y C) k) k/\nI (nL (gR m y C) k) k<=691200:=λk hk=>by
  obtain⟨d1,d2,d3⟩:=hR.den k hk
  have d4:=(hR.tms _ (Nat.le_refl _)).2.1
  have d5:=(hR.tms _ (Nat.le_refl _)).1
  have:=Int.le_of_dvd d5 d3
  have e:nI (nL (gR m y C) k) k=qx5 (qa6 (qb9 m y (gre m C)) (gre m C).length).1 (gre m C).length k:=d1.symm
  omega
 have hn:∀k,k<(gre m C).length->(nI (nL (gR m y C) k) (gre m C).length).natAbs<=691200000000:=λk hk=>by
  obtain⟨d1,d2⟩:=hR.num k hk
  have e:nI (nL (gR m y C) k) (gre m C).length=q7m (qa6 (qb9 m y (gre m C)) (gre m C).length).1 (gre m C).length k:=d1.symm
  rw[e]; exact d2
 have hcs:∀k i,k<(gre m C).length->i<m.length->(nI (qg2 m (nI (gre m C) k).toNat) i).natAbs<=1:=λk i hk hi=>by
  have:=q9l hM (hG.inw.at_ k hk) hi
  omega
 refine⟨hf,λj hj=>?_,by omega,hG.n6,hM.rows6,hyl,λq hq=>⟨?_,w77 hM (hG.inw.at_ q hq)⟩,λa b ha hb=>w78 hM (hG.inw.at_ a ha) (hG.inw.at_ b hb),λa ha=>q3s hM (hG.inw.at_ a ha) (by omega) λi hi=>by have:=h.ybd i hi; omega,?_,hgl,λk hk=>hR.each k hk,λk hk=>by have:=hd k hk; omega,λk hk=>by have:=hd k hk; unfold qd0; omega,λk hk=>?_,λi hi=>?_,λk hk i hi=>?_,λk hk i hi=>⟨?_,?_⟩⟩
 ·have hgt:=q7q m C j
  refine x3u hM ⟨λq hq=>?_,by rw[List.length_append,List.length_singleton]; omega⟩ (by rw[List.length_append,List.length_singleton]; omega)
  rw[List.length_append,List.length_singleton] at hq
  rcases Nat.lt_succ_iff_lt_or_eq.1 hq with k | k
  ·rw[ql1 _ _ k]
   obtain⟨k2,h1,h2⟩:=q7r m C j (by omega) q k
   rw[h2]; exact h.inw.at_ k2 h1
  ·rw[k,qn0]; exact h.inw.at_ j hj
 ·unfold wn5
  have ha:=hG.inw.at_ q hq
  rw[if_neg (by rw[h.val]; decide),if_neg]
  rw[wd6 λi hi=>?_]; decide
  have:i=0:=by simpa using hi
  subst this
  show inB (nI (gre m C) q) 0 _=true
  rw[qv5]; omega
 ·rcases Nat.eq_zero_or_pos (gre m C).length with q | q
  ·have e0:qb9 m y (gre m C)=[]:=List.length_eq_zero_iff.1 (by rw[q3r]; exact q)
   rw[e0]
   exact⟨by simp,by show 0<=1000; omega,λi hi=>absurd hi (Nat.not_lt_zero _),λi hi=>absurd hi (Nat.not_lt_zero _),λj hj=>absurd hj (Nat.not_lt_zero _)⟩
  ·exact(xg3 hG.sml q).1
 ·have:=hR.tms k hk
  have e:q0c (gR m y C) k=qh5 (qa6 (qb9 m y (gre m C)) (gre m C).length).1 (gre m C).length k:=this.2.2.symm
  rw[e]
  unfold qd0; omega
 ·have:=h.yT (i:=i) (by omega)
  rw[<- e1]
  unfold qd0; omega
 ·have h1:=hcs k i hk (by omega)
  have h2:=hn k hk
  have:(nI (qg2 m (nI (gre m C) k).toNat) i*nI (nL (gR m y C) k) (gre m C).length).natAbs<=1*691200000000:=by
   rw[Int.natAbs_mul]; exact Nat.mul_le_mul h1 h2
  unfold qd0; omega
 ·have h1:=h.term (k:=k) (i:=i) (by rw[hg]; exact hk) (by omega)
  have d:=(hR.den k hk).1
  have n:=(hR.num k hk).1
  have d2:qx5 (gP m y C) (qe4 m C).length k=nI (nL (gR m y C) k) k:=by
   have:gP m y C=(qa6 (qb9 m y (gre m C)) (gre m C).length).1:=by unfold gP; rw[hg]
   rw[this,hg]; exact d
  have n2:q7m (gP m y C) (qe4 m C).length k=nI (nL (gR m y C) k) (gre m C).length:=by
   have:gP m y C=(qa6 (qb9 m y (gre m C)) (gre m C).length).1:=by unfold gP; rw[hg]
   rw[this,hg]; exact n
  rw[d2,n2,hg,e1] at h1
  have e:nI (qg2 m (nI (gre m C) k).toNat) i*nI (nL (gR m y C) k) (gre m C).length*(qn1 m y C).tdiv (nI (nL (gR m y C) k) k)=nI (qg2 m (nI (gre m C) k).toNat) i*((qn1 m y C).tdiv (nI (nL (gR m y C) k) k)*nI (nL (gR m y C) k) (gre m C).length):=by grind
  rw[e]
  unfold qd0; omega
 ·have h1:=h.rsB (i:=i) (by omega) (K:=k+1) (by rw[hg]; omega)
  rw[hg,e2 (k+1) i (by omega)] at h1
  unfold qd0; omega
theorem AskC.nrPre {m:List (List Int)} {y C:List Int} (h:AskC m y C) (hf:q1u m):w75 m y C:=by
 have hM:=h.msk
 have hN:=h.nxPre
 have hr:=wd7 h
 refine⟨h.rtPre hf,hN.one,hN.pix,λj hj=>⟨?_,hN.col j hj⟩,λj hj=>by rw[hr]; exact hN.dot j hj,λj hj=>?_⟩
 ·unfold wn5
  rw[if_neg (by rw[h.val]; decide),if_neg]
  rw[wd6 λi hi=>?_]; decide
  have:i=0:=by simpa using hi
  subst this
  show inB (j:Int) 0 _=true
  rw[qv5]; omega
 ·rw[hr]
  have s:=h.seeB hj
  have o:=ownB hM hj
  refine⟨by unfold qd0; omega,o.1,by omega⟩
theorem xz3 {l:List (Int × Int × Int)} {i:Nat} (h:i<l.length):nC l i∈l:=by
 have:nC l i=l[i]:=qk4 (t:=qv8) l i h
 rw[this]; exact List.getElem_mem h
theorem w79 (l:List (Int × Int × Int)) (c:Int × Int × Int) {i:Nat} (h:i<l.length):nC (l++[c]) i=nC l i:=by
 have e1:nC (l++[c]) i=(l++[c])[i]'(by rw[List.length_append]; omega):=qk4 (t:=qv8) _ _ _
 have e2:nC l i=l[i]:=qk4 (t:=qv8) l i h
 rw[e1,e2,List.getElem_append_left h]
theorem w8a (l:List (Int × Int × Int)) (c:Int × Int × Int):nC (l++[c]) l.length=c:=by
 have e1:nC (l++[c]) l.length=(l++[c])[l.length]'(by rw[List.length_append]; exact Nat.lt_succ_self _):=qk4 (t:=qv8) _ _ _
 rw[e1,List.getElem_append_right (Nat.le_refl _)]; simp
theorem q9m (l:List (Int × Int × Int)) (c:Int × Int × Int):∀i,i<=l.length->qd6 (l++[c]) i=qd6 l i
 | 0,_=>rfl
 | i+1,hi=>by rw[qd6,qd6,q9m l c i (by omega),w79 l c (by omega)]
theorem qx3 (l:List (Int × Int × Int)):∀i,0<i->i<=l.length->qd6 l i∈l
 | 0,h,_=>absurd h (Nat.lt_irrefl _)
 | i+1,_,hi=>by
  rw[qd6]
  split
  ·exact xz3 (by omega)
  ·rename_i hn
   exact qx3 l i (by omega) (by omega)
def xz4 (L:List (Int × Int × Int)) (X:Int × Int × Int):Prop:=(X=(-1,0,1)/\∀c∈L,c.2.1=0)\/(X=qd6 L L.length/\(qd6 L L.length).2.1≠0/\0<L.length)
theorem w8b {m:List (List Int)} (hM:Mk m) (r:List Int):∀j,j<=(nL m 0).length->xz4 (qi0 m r j) (qs0 m r j)/\∀c∈qi0 m r j,0<=c.1/\0<c.2.2
 | 0,_=>⟨.inl ⟨rfl,λc hc=>by cases hc⟩,λc hc=>by cases hc⟩
 | j+1,hj=>by
  obtain⟨ih,ih2⟩:=w8b hM r j (by omega)
  obtain⟨o1,o2,o3⟩:=ownB hM (show j<(nL m 0).length by omega)
  rw[qi0,qs0]
  by_cases hov:qz3 (qg2 m j)=true
  ·rw[if_pos hov,if_neg λq=>by have:=o3.2 hov; omega]
   exact⟨ih,ih2⟩
  ·have ho:0<q0b m j:=by
    rcases Int.lt_or_eq_of_le o1 with q | q
    ·exact q
    ·exact absurd (o3.1 q.symm) hov
   rw[if_neg hov]
   have hc:((j:Int),qg8 (qg2 m j) r m.length,qg8 (qg2 m j) (qg2 m j) m.length)=((j:Int),q1r m r j,q0b m j):=rfl
   rw[hc]
   generalize qi0 m r j=L at ih ih2 ⊢
   refine⟨?_,λc hc=>?_⟩
   ·have hB:qd6 (L++[((j:Int),q1r m r j,q0b m j)]) (L++[((j:Int),q1r m r j,q0b m j)]).length=if L.length=0\/wo0 ((j:Int),q1r m r j,q0b m j) (qd6 L L.length)=true then((j:Int),q1r m r j,q0b m j) else qd6 L L.length:=by
     rw[List.length_append,List.length_singleton,qd6,w8a,q9m _ _ _ (Nat.le_refl _)]
    rcases ih with⟨x1,x2⟩ | ⟨x1,x2,x3⟩
    ·rw[x1]
     have hab:wo1 (q1r m r j) (q0b m j) 0 1=decide (q1r m r j≠0):=by
      unfold wo1
      rw[decide_eq_decide]
      have:=w22 (q1r m r j)
      constructor
      ·intro h1 h2; rw[h2] at h1; simp at h1
      ·intro h1
       have:q1r m r j*q1r m r j≠0:=qo7 h1 h1
       simp only[Int.zero_mul,Int.mul_one]; omega
     by_cases hs:q1r m r j=0
     ·left
      refine⟨if_neg λq=>?_,λc hc=>?_⟩
      ·have:=q.2
       rw[hab] at this
       exact of_decide_eq_true this hs
      ·rcases List.mem_append.1 hc with hc | hc
       ·exact x2 c hc
       ·rw[List.mem_singleton.1 hc]; exact hs
     ·right
      have hX:(if 0<q0b m j/\wo1 (q1r m r j) (q0b m j) (-1,0,1).2.1 (-1,0,1).2.2=true then((j:Int),q1r m r j,q0b m j) else(-1,0,1))=((j:Int),q1r m r j,q0b m j):=if_pos ⟨ho,by show wo1 (q1r m r j) (q0b m j) 0 1=true; rw[hab]; exact decide_eq_true hs⟩
      rw[hX,hB]
      have hbe:L.length=0\/wo0 ((j:Int),q1r m r j,q0b m j) (qd6 L L.length)=true:=by
       rcases Nat.eq_zero_or_pos L.length with q | q
       ·exact .inl q
       ·right
        have hm:=qx3 L L.length q (Nat.le_refl _)
        have z1:=x2 _ hm
        have z2:=(ih2 _ hm).2
        unfold wo0
        rw[decide_eq_true_iff,z1]
        have:=qo7 hs hs
        have h3:=w22 (q1r m r j)
        have h4:=Int.mul_pos (show 0<q1r m r j*q1r m r j by omega) z2
        simp only[Int.zero_mul]; exact h4
      rw[if_pos hbe]
      exact⟨rfl,hs,by simp⟩
    ·right
     have hm:=qx3 L L.length x3 (Nat.le_refl _)
     have z2:=(ih2 _ hm).2
     rw[x1,hB]
     have hiff:wo1 (q1r m r j) (q0b m j) (qd6 L L.length).2.1 (qd6 L L.length).2.2=wo0 ((j:Int),q1r m r j,q0b m j) (qd6 L L.length):=rfl
     rw[hiff]
     cases hb:wo0 ((j:Int),q1r m r j,q0b m j) (qd6 L L.length) with
     | true=>
      rw[if_pos ⟨ho,rfl⟩,if_pos (.inr rfl)]
      refine⟨rfl,λhs=>?_,by simp⟩
      have hs:q1r m r j=0:=hs
      unfold wo0 at hb
      rw[decide_eq_true_iff] at hb
      dsimp only at hb
      rw[hs] at hb
      have h3:=w22 (qd6 L L.length).2.1
      have h4:=Int.mul_nonneg h3 (show 0<=q0b m j by omega)
      simp only[Int.zero_mul] at hb
      omega
     | false=>
      have n1:¬(0<q0b m j/\false=true):=λq=>absurd q.2 Bool.false_ne_true
      have n2:¬(L.length=0\/false=true):=λq=>q.elim (λq=>by omega) λq=>absurd q Bool.false_ne_true
      rw[if_neg n1,if_neg n2]
      exact⟨rfl,x2,by simp⟩
   ·rcases List.mem_append.1 hc with hc | hc
    ·exact ih2 c hc
    ·rw[List.mem_singleton.1 hc]; exact⟨by show(0:Int)<=j; omega,ho⟩
theorem xd5 (r:List Int):zTo r r.length=qz3 r:=by
 have h1:∀k,zTo r k=true↔∀i,i<k->nI r i=0:=λk=>by
  induction k with
  | zero=>exact⟨λ_ i hi=>absurd hi (Nat.not_lt_zero _),λ_=>rfl⟩
  | succ k ih=>
   rw[zTo,Bool.and_eq_true,ih,beq_iff_eq]
   exact⟨λ⟨a,b⟩ i hi=>(Nat.lt_succ_iff_lt_or_eq.1 hi).elim (λq=>a i q) (λq=>by rw[q]; exact b),λa=>⟨λi hi=>a i (by omega),a k (by omega)⟩⟩
 have h2:qz3 r=true↔∀i,i<r.length->nI r i=0:=by
  unfold qz3
  rw[Bool.not_eq_true',List.any_eq_false]
  exact⟨λa i hi=>by have:=a _ (q7f hi); simpa using this,λa x hx=>by obtain⟨i,hi,rfl⟩:=q43 hx; rw[a i hi]; decide⟩
 cases e:qz3 r with
 | true=>exact(h1 _).2 (h2.1 e)
 | false=>
  rw[Bool.eq_false_iff] at e ⊢
  exact λq=>e (h2.2 ((h1 _).1 q))
theorem w8c {m:List (List Int)} (hM:Mk m) (r:List Int):wn4 m r=w73 m r:=by
 obtain⟨h1,h2⟩:=w8b hM r (nL m 0).length (Nat.le_refl _)
 unfold wn4 w73
 rw[xd5]
 by_cases ho:qz3 r=true
 ·rw[if_pos ho,if_pos ho]
 ·rw[if_neg ho,if_neg ho]
  change xz4 (qt9 m r) _ at h1
  change ∀c∈qt9 m r,_ at h2
  rcases h1 with⟨x1,x2⟩ | ⟨x1,x2,x3⟩
  ·rw[x1,if_pos (show((-1,0,1):Int × Int × Int).1<0 by decide),if_pos]
   rcases Nat.eq_zero_or_pos (qt9 m r).length with q | q
   ·exact .inl q
   ·exact .inr (x2 _ (qx3 _ _ q (Nat.le_refl _)))
  ·rw[x1]
   have:=(h2 _ (qx3 _ _ x3 (Nat.le_refl _))).1
   rw[if_neg (λq=>q.elim (λq=>by omega) x2),if_neg (by omega)]
theorem xp0 {m:List (List Int)} {y C:List Int} (h:AskC m y C):q5e m y C=q5c m y C:=by
 unfold q5e q5c
 rw[wd7 h,w8c h.msk]
theorem xd6 (m:List (List Int)) (y C:List Int):qz8 m y C=q7p m y C:=by
 unfold qz8 q7p
 split
 ·rename_i h; exact xp0 (AskC.of h)
 ·rfl
theorem w8d (m:List (List Int)) (y C:List Int):qv3 m y C=q2j m y C:=by
 unfold qv3 q2j
 split
 ·rename_i h
  have hA:=AskC.of h
  have h1:=hA.t1
  have e:q72 m y C=q5d m y C:=by
   unfold q72 q5d
   rw[wd7 hA,<- (q3t hA).1]
   exact List.map_congr_left λn _=>(w7b h1.1).symm
  rw[e]
 ·rfl
theorem xz5 {m:List (List Int)} {y C:List Int} (hl:C.length<=100000):q9i m y C:=by
 refine⟨hl,λh=>(AskC.of h).rsPre,λh=>by have:=(AskC.of h).t1; omega,λh=>?_⟩
 have hA:=AskC.of h
 have h1:=hA.t1
 have hB:BIG=4000000000000000000:=rfl
 refine⟨by unfold qd0; omega,λi hi=>?_⟩
 have:=hA.restB i (by rw[<- hA.ylen]; exact hi)
 unfold qd0; omega
theorem xz6 {m:List (List Int)} {y C:List Int} (hl:C.length<=100000):q9j m y C:=⟨hl,λh=>(AskC.of h).nxPre⟩
theorem x3v {m:List (List Int)} {y C:List Int} (hf:q1u m) (hl:C.length<=100000):w3a m y C:=by
 refine⟨hf,hl,λh=>(AskC.of h).rtPre hf,λh=>by have:=(AskC.of h).t1; rw[<- (q3t (AskC.of h)).1]; omega,λh=>?_⟩
 have hA:=AskC.of h
 have h1:=hA.t1
 have hB:BIG=4000000000000000000:=rfl
 rw[wd7 hA,<- (q3t hA).1]
 refine⟨by unfold qd0; omega,λi hi=>?_⟩
 have:=hA.restB i (by rw[<- hA.ylen]; exact hi)
 unfold qd0; omega
theorem x7q {m:List (List Int)} {y C:List Int} (hf:q1u m) (hl:C.length<=100000):xq0 m y C:=⟨hf,hl,λh=>(AskC.of h).nrPre hf⟩
end Go.Proofs.YtmijnbjlhnpokaaGreat
set_option linter.unusedSimpArgs false
namespace Go.Proofs.YtmijnbjlhnpokaaGreat
open Go Go.RowKit Eng
abbrev xp1:qc7:=qg0 true none [qk2,qd4,qd4] [.bool] (λx=>q1u x.1) (λ_=>(true,()))
theorem q4q:Meets Tryz.prog 5 xp1:=by
 refine meets (snd (SpecsOk.cons w6y (SpecsOk.cons wc1 (SpecsOk.cons w2v (SpecsOk.cons wm7 (SpecsOk.cons w7z (SpecsOk.cons xd4 (SpecsOk.cons w70 (SpecsOk.cons w76 (SpecsOk.cons q84 (SpecsOk.nil _))))))))))) Tryz.func5 rfl rfl (λ_ _=>none) (λ_=>by kernel_rfl) (by decide) ?_
 rintro⟨m,y,C,⟨⟩⟩ h
 revert m y C
 intro(m:List (List Int)) (y:List Int) (C:List Int) (h:q1u m)
 refine @qe0 _ (let Q0:=q2j m y C; let Q1:=qv3 m y C; let Q2:=qz8 m y C; let Q3:=q7p m y C; q1u m/\((!qz6 m)=true->q1u m/\((!qe6 m)=true->True/\true=true)/\((!qe6 m)=false->List.length [y,C]<=(1000:Nat)/\(q5a [y,C]=true->True/\true=true)/\(q5a [y,C]=false->q9i m y C/\w3a m y C/\q9j m y C/\xq0 m y C/\Q0.1.length<=(1000000:Nat)/\(decide (Q0.1=Q1.1)=true->((Q0.2==Q1.2)=true->((Q3.1==Q2.1)=true->((Q3.2==Q2.2)=true->True/\true=true)/\((Q3.2==Q2.2)=false->false=true))/\((Q3.1==Q2.1)=false->false=true))/\((Q0.2==Q1.2)=false->false=true))/\(decide (Q0.1=Q1.1)=false->false=true))))/\((!qz6 m)=false->List.length [y,C]<=(1000:Nat)/\(q5a [y,C]=true->True/\true=true)/\(q5a [y,C]=false->q9i m y C/\w3a m y C/\q9j m y C/\xq0 m y C/\Q0.1.length<=(1000000:Nat)/\(decide (Q0.1=Q1.1)=true->((Q0.2==Q1.2)=true->((Q3.1==Q2.1)=true->((Q3.2==Q2.2)=true->True/\true=true)/\((Q3.2==Q2.2)=false->false=true))/\((Q3.1==Q2.1)=false->false=true))/\((Q0.2==Q1.2)=false->false=true))/\(decide (Q0.1=Q1.1)=false->false=true)))) (by kernel_rfl) ?_
 try simp only[z0,z1,z2,z3,z4,z5,z6,z7,z8,z9,z10,Int.reduceEq,z11,z12,z13,z14,z15,z16,z17,z18,z19,z20,z21,z22,z23,z24,z25,z26,z27,z28,z29,z30,Int.reduceLE,Int.reduceLT,z31,z32,z33,z34,qa1]
 try simp only[qb4,qb5,qc8,z31,z32,z2,z1]
 have key:q5a [y,C]=false->q9i m y C/\w3a m y C/\q9j m y C/\xq0 m y C/\(q2j m y C).1.length<=1000000/\((q2j m y C).1=(qv3 m y C).1->((q2j m y C).2=(qv3 m y C).2->((q7p m y C).1=(qz8 m y C).1->¬(q7p m y C).2=(qz8 m y C).2->false=true)/\(¬(q7p m y C).1=(qz8 m y C).1->false=true))/\(¬(q2j m y C).2=(qv3 m y C).2->false=true))/\(¬(q2j m y C).1=(qv3 m y C).1->false=true):=λhg=>by
  have hb:y.length<=100/\C.length<=100:=by
   unfold q5a at hg
   rw[List.any_eq_false] at hg
   have h1:=hg y (by simp)
   have h2:=hg C (by simp)
   exact⟨by simpa using h1,by simpa using h2⟩
  rw[w8d,xd6]
  refine⟨xz5 (by omega),x3v h (by omega),xz6 (by omega),x7q h (by omega),?_,λ_=>⟨λ_=>⟨λ_ q=>absurd rfl q,λq=>absurd rfl q⟩,λq=>absurd rfl q⟩,λq=>absurd rfl q⟩
  unfold q2j
  split
  ·show(q5d m y C).length<=1000000
   unfold q5d
   rw[List.length_map,q05]; omega
  ·exact Nat.zero_le _
 exact⟨h,λ_=>⟨h,λ_=>⟨by decide,key⟩⟩,λ_=>⟨by decide,key⟩⟩
open Go.ChangeShapes Go.WideShapes Go.ChangeAt Go.RowKit Go.Deep Ls
theorem own:ownKnob Tryz.prog.godebug=none:=by kernel_rfl
theorem laidOut:laidOutB Tryz.prog=true:=by kernel_rfl
theorem xz7 {H:Type} {enc:TypeId × Value->H} {W:World} {t e:TypeId} {v:Value} {d:DataW H} {p:List MemPlace} (ht:Tryz.prog.underlying t=some (.slice e)) (he:Tryz.prog.underlying e=some (.int .i64)) (ce:Tryz.prog.cellsOf e=1)
  (hv:∃a l c,v=.slice a l c) (h:DataW.Trod enc Tryz.prog W 0 (λ_=>true) true t v d p):∃a l c zs,v=.slice a l c/\SI W a l c zs:=by
 obtain⟨a,l,c,rfl⟩:=hv
 obtain⟨fuel,hf⟩:=h
 rcases open_ints ht he ce hf with⟨hcs,_⟩ | ⟨x,l',c',zs,hcs,_,hl,hm,hz,_,hcell,hwz⟩
 ·simp[Value.cells] at hcs
  obtain⟨rfl,rfl,rfl⟩:=hcs
  exact⟨_,_,_,[],rfl,SI.nil W⟩
 ·simp[Value.cells] at hcs
  obtain⟨rfl,rfl,rfl⟩:=hcs
  have hz':zs.length=c:=by simpa using hz
  refine⟨_,_,_,zs.take l,rfl,by simp; omega,hl,hm,λ_=>⟨x,rfl,λk hk=>?_⟩⟩
  rw[hcell k (by omega)]
  simp[nth,hk]
theorem x3w {H:Type} {enc:TypeId × Value->H} {W:World} {t e q:TypeId} {v:Value} {d:DataW H} {p:List MemPlace} (ht:Tryz.prog.underlying t=some (.slice e)) (he:Tryz.prog.underlying e=some (.slice q)) (hq:Tryz.prog.underlying q=some (.int .i64))
  (ce:Tryz.prog.cellsOf e=1) (cq:Tryz.prog.cellsOf q=1)
  (hv:∃a l c,v=.slice a l c) (h:DataW.Trod enc Tryz.prog W 0 (λ_=>true) true t v d p):∃a l c m,v=.slice a l c/\SM W a l c m:=by
 obtain⟨a,l,c,rfl⟩:=hv
 obtain⟨fuel,hf⟩:=h
 rcases open_int_rows ht he hq ce cq hf with⟨hcs,_⟩ | ⟨x,l',c',A,L,C,Z,hcs,_,hl,hm,_,hr⟩
 ·simp[Value.cells] at hcs
  obtain⟨rfl,rfl,rfl⟩:=hcs
  exact⟨_,_,_,[],rfl,SM.nil W⟩
 ·simp[Value.cells] at hcs
  obtain⟨rfl,rfl,rfl⟩:=hcs
  refine⟨_,_,_,(List.range l).map (λr=>(Z r).take (L r)),rfl,by simp,hl,hm,λ_=>⟨x,rfl,λk hk=>?_⟩⟩
  obtain⟨h1,h2,h3,h4,_,h6,h7⟩:=hr k (by omega)
  have e0:nthL ((List.range l).map (λr=>(Z r).take (L r))) k=(Z k).take (L k):=by simp[nthL,hk]
  have e1:((Z k).take (L k)).length=L k:=by simp; omega
  rw[e0,e1]
  refine⟨A k,C k,h1,e1,h2,h3,λhp=>?_⟩
  cases hA:A k with
  | none=>have:=h6 hA; omega
  | some a'=>
   refine⟨a',rfl,λj hj=>?_⟩
   rw[(h7 a' hA).2 j (by omega)]
   simp[nth,hj]
open Go Go.RowKit Eng Ls
theorem xp2 {w:World} {A:Option Addr} {n c:Nat} {m:List (List Int)} (s:SM w A n c m):q1u m:=by
 have hl:=s.len
 have hn:=s.nmax
 refine⟨by omega,λi hi=>?_⟩
 obtain⟨ad,_,h⟩:=s.at_ (by omega)
 obtain⟨A',c',_,h2⟩:=h i (by omega)
 have e:nL m i=nthL m i:=by
  rw[ql7 m i hi]
  unfold nthL
  rw[List.getD_eq_getElem?_getD,List.getElem?_eq_getElem hi]
  rfl
 rw[e]
 exact h2.nmax
end Go.Proofs.YtmijnbjlhnpokaaGreat
