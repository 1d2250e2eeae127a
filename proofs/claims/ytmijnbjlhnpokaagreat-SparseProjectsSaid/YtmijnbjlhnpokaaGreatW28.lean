/- A pursuit: each column that it chooses is a new one. Plain mathematics. No condition. -/
import Derived.Test.YtmijnbjlhnpokaaGreatQ7
import Derived.Test.YtmijnbjlhnpokaaGreatEngT2
import Derived.Test.YtmijnbjlhnpokaaGreatW5
import Derived.Test.YtmijnbjlhnpokaaGreatZ8
import Derived.Test.YtmijnbjlhnpokaaGreatZ4
set_option linter.unusedVariables false
set_option linter.unusedSimpArgs false
namespace Go.Proofs.YtmijnbjlhnpokaaGreat
open Go Go.RowKit Eng
def x2u (n:Nat) (p:List Int):Bool:=p.any λj=>!(inB j 0 ((n:Int)-1))
theorem xu6 {n:Nat} {p:List Int} {k:Nat} (hk:k<p.length) (h:inB (nI p k) 0 ((n:Int)-1)=false):x2u n p=true:=
 List.any_eq_true.2 ⟨nI p k,q9o hk,by rw[h]; rfl⟩
theorem w1x {n:Nat} {p:List Int} (h:∀i,i<p.length->inB (nI p i) 0 ((n:Int)-1)=true):x2u n p=false:=by
 unfold x2u
 rw[List.any_eq_false]
 intro x hx
 obtain⟨i,hi,rfl⟩:=List.mem_iff_getElem.1 hx
 have:=h i hi
 rw[qh7 _ _ hi] at this
 rw[this]; simp
def ww0 (m:List (List Int)) (p:List Int):Int:=if qe9 m=false then 1 else if x2u (nL m 0).length p=true then 5 else 0
structure xh8 (n:Nat) (p:List Int) (k:Nat):Prop where
 le:k<=p.length
 ok:∀i,i<k->inB (nI p i) 0 ((n:Int)-1)=true
def x1x (n:Nat) (p:List Int):Nat->Option Inv
 | 0=>some (Inv.of [12] 0 (λk:Nat=>[(12,.lit (.int .i64 k))]) (λ_=>[]) (λk=>xh8 n p k) (λk=>p.length-k))
 | _=>none
abbrev x58:qc9:=qg4 true none [qo2,qf1] [qg0] (λx=>wh2 x.1/\x.2.1.length<=9223372036854775807) (λx=>(ww0 x.1 x.2.1,()))
theorem w4d:Meets Tryz.prog 87 x58:=by
 refine meets (snd (SpecsOk.cons w04 (SpecsOk.cons q0b (SpecsOk.nil _)))) Tryz.func87 rfl rfl (λx=>x1x (nL x.1 0).length x.2.1) (λ_=>by kernel_rfl) (by decide) ?_
 rintro⟨m,p,⟨⟩⟩ h
 revert m p
 intro(m:List (List Int)) (p:List Int) (h:wh2 m/\p.length<=9223372036854775807)
 refine @qe1 _ (wh2 m/\((!qe9 m)=true->(1:Int)=ww0 m p)/\((!qe9 m)=false->∃(v1:Unit),∃(v2:Nat),xh8 (nL m (0:Nat)).length p v2/\(((0:Int)=(↑v2:Int)/\True)/\True)/\∀(v3:Nat),xh8 (nL m (0:Nat)).length p v3->(decide ((↑v3:Int)<(↑p.length:Int))=true->((0:Int)<=(↑v3:Int)/\(↑v3:Int)<(↑p.length:Int))/\((0:Int)<=(0:Int)/\(0:Int)<(↑m.length:Int))/\fits .i64 ((↑(nL m (0:Nat)).length:Int)-(1:Int))/\True/\((!inB (nI p v3) (0:Int) ((↑(nL m (0:Nat)).length:Int)-(1:Int)))=true->(5:Int)=ww0 m p)/\((!inB (nI p v3) (0:Int) ((↑(nL m (0:Nat)).length:Int)-(1:Int)))=false->fits .i64 ((↑v3:Int)+(1:Int))/\∃(v7:Nat),xh8 (nL m (0:Nat)).length p v7/\p.length-v7<p.length-v3/\((↑v3:Int)+(1:Int)=(↑v7:Int)/\True)/\True))/\(decide ((↑v3:Int)<(↑p.length:Int))=false->(0:Int)=ww0 m p))) (by kernel_rfl) ?_
 try simp only[z0,z1,z2,z3,z4,z5,z6,z7,z8,z9,z10,Int.reduceEq,z11,z12,z13,z14,z15,z16,z17,z18,z19,z20,z21,z22,z23,z24,z25,z26,z27,z28,z29,z30,Int.reduceLE,Int.reduceLT,z31,z32,z33,z34,qa1]
 try simp only[qb5,qb6,qd2,z31,z32,z2,z1]
 refine⟨h.1,λq=>by unfold ww0; rw[if_pos q],λq=>⟨(),0,⟨Nat.zero_le _,λi hi=>by omega⟩,rfl,λk hk=>⟨λhlt=>?_,λhge=>?_⟩⟩⟩
 ·have hM:=Mk.of q
  have h10:=hM.pix10
  have h1:=hM.rows1
  refine⟨hlt,by omega,qa7 (by omega) (by omega),λhf=>?_,λht=>⟨qa7 (by omega) (by omega),k+1,⟨hlt,λi hi=>?_⟩,by omega,by push_cast; rfl⟩⟩
  ·unfold ww0
   rw[if_neg (by rw[q]; decide),if_pos (xu6 hlt hf)]
  ·by_cases e:i=k
   ·subst e; exact ht
   ·exact hk.ok i (by omega)
 ·have hle:=hk.le
  unfold ww0
  rw[if_neg (by rw[q]; decide),if_neg (by rw[w1x λi hi=>hk.ok i (by omega)]; decide)]
abbrev yb1:qc9:=qg4 true none [qo2,qg0] [qf1] (λx=>qw2 x.1 x.2.1) (λx=>(qi1 x.1 x.2.1.toNat,()))
def x59 (m:List (List Int)) (j:Nat):Nat->Option Inv
 | 0=>some (Inv.of [5,10] 1 (λk:Nat=>[(5,.own 0),(10,.lit (.int .i64 k))]) (λk=>[.vec 3 (.int .i64) ((qi1 m j).take k)]) (λk=>k<=m.length) (λk=>m.length-k))
 | _=>none
theorem w8x:Meets Tryz.prog 88 yb1:=by
 refine meets (snd (SpecsOk.nil _)) Tryz.func88 rfl rfl (λx=>x59 x.1 x.2.1.toNat) (λ_=>by kernel_rfl) (by decide) ?_
 rintro⟨m,j,⟨⟩⟩ h
 revert m j
 intro(m:List (List Int)) (j:Int) (h:qw2 m j)
 refine @qe1 _ (let Q0:=qi1 m j.toNat; ∃(v0:Unit),∃(v1:Nat),Nat.le v1 m.length/\((True/\(0:Int)=(↑v1:Int)/\True)/\List.take v1 Q0=[]/\True)/\∀(v2:Nat),Nat.le v2 m.length->(decide ((↑v2:Int)<(↑m.length:Int))=true->((0:Int)<=(↑v2:Int)/\(↑v2:Int)<(↑m.length:Int))/\((0:Int)<=j/\j<(↑(nL m v2).length:Int))/\((0:Nat)<List.length [nI (nL m v2) j.toNat]/\Nat.le ((List.take v2 Q0).length+List.length [nI (nL m v2) j.toNat]) (1000000:Nat))/\fits .i64 ((↑v2:Int)+(1:Int))/\∃(v5:Nat),Nat.le v5 m.length/\m.length-v5<m.length-v2/\(True/\(↑v2:Int)+(1:Int)=(↑v5:Int)/\True)/\List.take v2 Q0++[nI (nL m v2) j.toNat]=List.take v5 Q0/\True)/\(decide ((↑v2:Int)<(↑m.length:Int))=false->List.take v2 Q0=qi1 m j.toNat)) (by kernel_rfl) ?_
 try simp only[z0,z1,z2,z3,z4,z5,z6,z7,z8,z9,z10,Int.reduceEq,z11,z12,z13,z14,z15,z16,z17,z18,z19,z20,z21,z22,z23,z24,z25,z26,z27,z28,z29,z30,Int.reduceLE,Int.reduceLT,z31,z32,z33,z34,qa1]
 try simp only[qb5,qb6,qd2,z31,z32,z2,z1]
 have hr:=h.rows
 refine⟨(),0,Nat.zero_le _,⟨rfl,rfl⟩,λk hk=>⟨λhlt=>⟨hlt,h.at_ k hlt,by rw[List.length_take]; omega,qa7 (by omega) (by omega),k+1,by omega,by omega,by omega,(wo8 _ _ _ hlt).symm⟩,λhge=>?_⟩⟩
 rw[List.take_of_length_le (by rw[qi7]; omega)]
def q4j (m:List (List Int)) (j:Int):List Int × Int:=if ww0 m [j]=0 then(qi1 m j.toNat,0) else([],ww0 m [j])
structure xu7 (m:List (List Int)) (j:Int):Prop where
 fit:wh2 m
 col:ww0 m [j]=0->qw2 m j
abbrev yb2:qc9:=qg4 false none [qo2,qg0] [qf1,qg0] (λx=>xu7 x.1 x.2.1) (λx=>((q4j x.1 x.2.1).1,(q4j x.1 x.2.1).2,()))
theorem w8y:Meets Tryz.prog 31 yb2:=by
 refine meets (snd (SpecsOk.cons w4d (SpecsOk.cons w8x (SpecsOk.nil _)))) Tryz.func31 rfl rfl (λ_ _=>none) (λ_=>by kernel_rfl) (by decide) ?_
 rintro⟨m,j,⟨⟩⟩ h
 revert m j
 intro(m:List (List Int)) (j:Int) (h:xu7 m j)
 refine @qe1 _ (let Q0:=q4j m j; (wh2 m/\List.length [j]<=(9223372036854775807:Nat))/\((ww0 m [j] != (0:Int))=true->Q0.1=[]/\ww0 m [j]=Q0.2/\True)/\((ww0 m [j] != (0:Int))=false->qw2 m j/\qi1 m j.toNat=Q0.1/\(0:Int)=Q0.2/\True)) (by kernel_rfl) ?_
 try simp only[z0,z1,z2,z3,z4,z5,z6,z7,z8,z9,z10,Int.reduceEq,z11,z12,z13,z14,z15,z16,z17,z18,z19,z20,z21,z22,z23,z24,z25,z26,z27,z28,z29,z30,Int.reduceLE,Int.reduceLT,z31,z32,z33,z34,qa1]
 try simp only[qb5,qb6,qd2,z31,z32,z2,z1]
 refine⟨⟨h.fit,by decide⟩,λhe=>?_,λhe=>⟨h.col he,?_⟩⟩
 ·unfold q4j; rw[if_neg he]; exact⟨rfl,rfl⟩
 ·unfold q4j; rw[if_pos he]; exact⟨rfl,rfl⟩
def xw6 (m:List (List Int)) (j:Nat):Int:=ql0 (qi1 m j) (qi1 m j) m.length
def x1y (m:List (List Int)) (r:List Int) (j:Nat):Int:=ql0 (qi1 m j) r m.length
theorem AskC.of {m:List (List Int)} {y C:List Int} (h:qs5 m y C=0):AskC m y C:=by
 have hA:=Asked.of h
 have hl:=hA.nam.len
 have h10:=hA.msk.pix10
 refine⟨hA.msk,hA.val,hA.len,λi hi=>?_,hA.nam.at_,by omega⟩
 have:=hA.at_ i hi
 omega
theorem InW.small {m:List (List Int)} {C:List Int} (hM:Mk m) (hC:InW (nL m 0).length C):Small m.length C.length C.length (qj9 m C):=by
 have hl:=hC.len
 have hlo:∀a c,a<m.length->c<C.length->(nI (nL (qj9 m C) a) c).natAbs<=1:=λa c ha hc=>by
  have h2:=q2y m C ha hc
  unfold rowOf at h2
  rw[h2]
  have h3:=hC.at_ c hc
  have:=hM.small a ha (nI C c).toNat (by omega)
  omega
 exact⟨⟨q4a _ _,λi hi=>by rw[q17 _ _ _ hi,qn5]⟩,hM.rows6,Nat.le_refl _,by omega,hlo,λa c ha hc=>by have:=hlo a c ha hc; omega⟩
theorem x1z {m:List (List Int)} {C:List Int} (hM:Mk m) (hC:InW (nL m 0).length C):wo9 m C:=by
 have hl:=hC.len
 have h6:=hM.rows6
 refine⟨⟨by omega,by omega,λi hi j hj=>?_,λi hi=>⟨trivial,by simp⟩⟩,by rw[qw1]; exact q4c (hC.small hM)⟩
 rw[hM.each i hi]
 have:=hC.at_ j hj
 omega
theorem w8z {m:List (List Int)} (hM:Mk m) {j:Int} (h:0<=j/\j<(nL m 0).length):qw2 m j:=by
 have h6:=hM.rows6
 exact⟨by omega,λi hi=>by rw[hM.each i hi]; omega⟩
theorem q90 {m:List (List Int)} (hM:Mk m) {j:Int} (h:0<=j/\j<(nL m 0).length) {i:Nat} (hi:i<m.length):-1<=nI (qi1 m j.toNat) i/\nI (qi1 m j.toNat) i<=1:=by
 rw[q0d _ _ _ hi]
 exact hM.small i hi j.toNat (by omega)
theorem q74 {m:List (List Int)} (hM:Mk m) {j:Int} (h:0<=j/\j<(nL m 0).length) {b:List Int} (hl:m.length<=b.length) (hb:∀i,i<m.length->(nI b i).natAbs<=10000000000000000):qw3 (qi1 m j.toNat) b:=by
 have h6:=hM.rows6
 refine⟨by rw[qi7]; omega,by rw[qi7]; exact hl,λi hi=>?_,λi hi=>?_⟩
 ·rw[qi7] at hi; exact q90 hM h hi
 ·rw[qi7] at hi
  have:=hb i hi
  unfold qc8; omega
theorem xl8 {m:List (List Int)} (hM:Mk m) {i j:Int} (h:0<=i/\i<(nL m 0).length) (hj:0<=j/\j<(nL m 0).length):qw3 (qi1 m i.toNat) (qi1 m j.toNat):=
 q74 hM h (by rw[qi7]; exact Nat.le_refl _) λk hk=>by have:=q90 hM hj hk; omega
theorem AskC.term {m:List (List Int)} {y C:List Int} (h:AskC m y C) {k i:Nat} (hk:k<(qf0 m C).length) (hi:i<m.length):(nI (qi1 m (nI (qf0 m C) k).toNat) i*((qh0 m y C).tdiv (q0e (gP m y C) (qf0 m C).length k)*q8d (gP m y C) (qf0 m C).length k)).natAbs<=691200000000:=by
 have h1:=q90 h.msk (h.gr.inw.at_ k hk) hi
 have h2:=h.rs.mul k hk
 rw[Int.natAbs_mul]
 have h3:(nI (qi1 m (nI (qf0 m C) k).toNat) i).natAbs<=1:=by omega
 exact Nat.le_trans (Nat.mul_le_mul h3 h2) (by omega)
theorem AskC.t1 {m:List (List Int)} {y C:List Int} (h:AskC m y C):0<qh0 m y C/\qh0 m y C<=691200:=⟨(h.rs.tms _ (Nat.le_refl _)).1,(h.rs.tms _ (Nat.le_refl _)).2.1⟩
theorem AskC.yT {m:List (List Int)} {y C:List Int} (h:AskC m y C) {i:Nat} (hi:i<m.length):(nI y i*qh0 m y C).natAbs<=691200000000:=by
 have h1:=h.ybd i hi
 have h2:=h.t1
 rw[Int.natAbs_mul]
 exact Nat.le_trans (Nat.mul_le_mul h1 (show(qh0 m y C).natAbs<=691200 by omega)) (by decide)
theorem AskC.rsB {m:List (List Int)} {y C:List Int} (h:AskC m y C) {i:Nat} (hi:i<m.length) {K:Nat} (hK:K<=(qf0 m C).length):(rsE m y (qf0 m C) (gP m y C) (qh0 m y C) K i).natAbs<=4838400000000:=by
 have h6:=h.gr.n6
 have h1:=h.yT hi
 rw[wf9]
 have h2:=wc8 (n:=K) (f:=λk=>nI (qi1 m (nI (qf0 m C) k).toNat) i*((qh0 m y C).tdiv (q0e (gP m y C) (qf0 m C).length k)*q8d (gP m y C) (qf0 m C).length k)) (B:=691200000000) λk hk=>h.term (by omega) hi
 have h3:K*691200000000<=6*691200000000:=Nat.mul_le_mul_right _ (by omega)
 omega
theorem AskC.rsPre {m:List (List Int)} {y C:List Int} (h:AskC m y C):wv9 m y C:=by
 have hM:=h.msk
 have hG:=h.gr
 have hR:=h.rs
 have hn6:=hG.n6
 have hm6:=hM.rows6
 have hyl:=h.ylen
 have hB:BIG=4000000000000000000:=rfl
 have ht:=h.t1
 refine⟨x1z hM h.inw,hn6,hm6,hyl,λq hq=>w8z hM (hG.inw.at_ q hq),λa b ha hb=>xl8 hM (hG.inw.at_ a ha) (hG.inw.at_ b hb),λa ha=>q74 hM (hG.inw.at_ a ha) (by omega) λi hi=>by have:=h.ybd i hi; omega,w8a hG.sml,λk hk=>by have:=hR.pos k hk; show nI (nL (qa6 (qd0 m y (qf0 m C)) (qf0 m C).length).1 k) k≠0; omega,λk hk c hc=>?_,λk hk=>?_,λk hk=>?_,λk hk=>?_,λi hi=>?_,λk hk i hi=>⟨?_,?_⟩⟩
 ·have:=hR.row k hk c hc
  show qc8 BIG (nI (nL (qa6 (qd0 m y (qf0 m C)) (qf0 m C).length).1 k) c)
  unfold qc8; omega
 ·have:=hR.tms k hk
  show qc8 BIG (qi2 (qa6 (qd0 m y (qf0 m C)) (qf0 m C).length).1 (qf0 m C).length k)/\qi2 (qa6 (qd0 m y (qf0 m C)) (qf0 m C).length).1 (qf0 m C).length k≠0
  unfold qc8; omega
 ·have:=(hR.den k hk).2.1
  show q0e (qa6 (qd0 m y (qf0 m C)) (qf0 m C).length).1 (qf0 m C).length k≠0
  omega
 ·have:=hR.mul k hk
  show qc8 BIG ((qi2 (qa6 (qd0 m y (qf0 m C)) (qf0 m C).length).1 (qf0 m C).length (qf0 m C).length).tdiv (q0e (qa6 (qd0 m y (qf0 m C)) (qf0 m C).length).1 (qf0 m C).length k)*q8d (qa6 (qd0 m y (qf0 m C)) (qf0 m C).length).1 (qf0 m C).length k)
  unfold qc8; omega
 ·have:=h.yT (i:=i) (by omega)
  unfold qc8; omega
 ·have:=h.term (k:=k) (i:=i) hk (by omega)
  unfold qc8; omega
 ·have:=h.rsB (i:=i) (by omega) (K:=k+1) (by omega)
  unfold qc8; omega
theorem AskC.restB {m:List (List Int)} {y C:List Int} (h:AskC m y C):∀i,i<m.length->(nI (qe8 m y C) i).natAbs<=4838400000000:=λi hi=>by
 rw[wg1 m y C (by rw[h.ylen]; exact hi)]
 exact h.rsB hi (Nat.le_refl _)
theorem AskC.seeB {m:List (List Int)} {y C:List Int} (h:AskC m y C) {j:Nat} (hj:j<(nL m 0).length):(x1y m (qe8 m y C) j).natAbs<=1000000000000000:=by
 have h6:=h.msk.rows6
 unfold x1y
 rw[q9t]
 have:=wc8 (n:=m.length) (f:=λi=>nI (qi1 m j) i*nI (qe8 m y C) i) (B:=4838400000000) λi hi=>by
  have h1:=q90 h.msk (j:=(j:Int)) (by omega) hi
  rw[Int.toNat_natCast] at h1
  rw[Int.natAbs_mul]
  have h3:(nI (qi1 m j) i).natAbs<=1:=by omega
  exact Nat.le_trans (Nat.mul_le_mul h3 (h.restB i hi)) (by omega)
 have h3:m.length*4838400000000<=6*4838400000000:=Nat.mul_le_mul_right _ h6
 omega
theorem ownB {m:List (List Int)} (hM:Mk m) {j:Nat} (hj:j<(nL m 0).length):0<=xw6 m j/\xw6 m j<=6/\(xw6 m j=0↔q48 (qi1 m j)=true):=by
 have h6:=hM.rows6
 have h1:∀i,i<m.length->-1<=nI (qi1 m j) i/\nI (qi1 m j) i<=1:=λi hi=>by
  have:=q90 hM (j:=(j:Int)) (by omega) hi
  rwa [Int.toNat_natCast] at this
 have e:xw6 m j=sm m.length λi=>nI (qi1 m j) i*nI (qi1 m j) i:=by unfold xw6; rw[q9t]
 rw[e]
 refine⟨?_,?_,λh0=>?_,λh0=>?_⟩
 ·have:∀k,0<=sm k λi=>nI (qi1 m j) i*nI (qi1 m j) i:=λk=>by
   induction k with
   | zero=>exact Int.le_refl _
   | succ k ih=>rw[sm]; have:=q71 (nI (qi1 m j) k); omega
  exact this _
 ·have:=wc8 (n:=m.length) (f:=λi=>nI (qi1 m j) i*nI (qi1 m j) i) (B:=1) λi hi=>by
   rw[Int.natAbs_mul]
   have:=h1 i hi
   have h3:(nI (qi1 m j) i).natAbs<=1:=by omega
   exact Nat.le_trans (Nat.mul_le_mul h3 h3) (Nat.le_refl _)
  omega
 ·have hz:=w8j _ h0
  unfold q48
  rw[Bool.not_eq_true',List.any_eq_false]
  intro x hx
  obtain⟨i,hi,rfl⟩:=q5k hx
  rw[qi7] at hi
  rw[hz i hi]; decide
 ·refine sm_zero λi hi=>?_
  unfold q48 at h0
  rw[Bool.not_eq_true',List.any_eq_false] at h0
  have:=h0 _ (q9o (l:=qi1 m j) (c:=i) (by rw[qi7]; exact hi))
  have hz:nI (qi1 m j) i=0:=by simpa using this
  rw[hz]; rfl
theorem AskC.nxPre {m:List (List Int)} {y C:List Int} (h:AskC m y C):xh7 m y C:=by
 have hM:=h.msk
 have h1:=hM.rows1
 have h10:=hM.pix10
 have hyl:=h.ylen
 refine⟨h.rsPre,by omega,by omega,λj hj=>w8z hM (by omega),λj hj=>?_,λj hj=>?_⟩
 ·have d1:=q74 hM (j:=(j:Int)) (by omega) (b:=qe8 m y C) (by rw[qy3]; omega) λi hi=>by have:=h.restB i hi; omega
  have d2:=xl8 hM (i:=(j:Int)) (j:=(j:Int)) (by omega) (by omega)
  rw[Int.toNat_natCast] at d1 d2
  exact⟨d1,d2⟩
 ·have s:=h.seeB hj
  have o:=ownB hM hj
  refine⟨?_,o.1,?_⟩
  ·show qc8 1000000000000000 (x1y m (qe8 m y C) j)
   unfold qc8; omega
  ·show xw6 m j<=1000
   omega
theorem x13 {l:List (Int × Int × Int)} {i:Nat} (h:i<l.length):nC l i∈l:=by
 have:nC l i=l[i]:=ql9 (t:=q0l) l i h
 rw[this]; exact List.getElem_mem h
theorem q91 (l:List (Int × Int × Int)):∀i,0<i->i<=l.length->qf8 l i∈l
 | 0,h,_=>absurd h (Nat.lt_irrefl _)
 | i+1,_,hi=>by
  rw[qf8]
  split
  ·exact x13 (by omega)
  ·rename_i hn
   exact q91 l i (by omega) (by omega)
theorem xl9 {m:List (List Int)} {y C:List Int} (hl:C.length<=100000):q2f m y C:=by
 refine⟨hl,λh=>(AskC.of h).rsPre,λh=>by have:=(AskC.of h).t1; omega,λh=>?_⟩
 have hA:=AskC.of h
 have h1:=hA.t1
 have hB:BIG=4000000000000000000:=rfl
 refine⟨by unfold qc8; omega,λi hi=>?_⟩
 have:=hA.restB i (by rw[<- hA.ylen]; exact hi)
 unfold qc8; omega
theorem xu8 {m:List (List Int)} {y C:List Int} (h:AskC m y C):(qn6 m y C).2=8\/(qn6 m y C).2=10\/((qn6 m y C).2=0/\∃j:Nat,(qn6 m y C).1=(j:Int)/\j<(nL m 0).length/\x1y m (qe8 m y C) j≠0):=by
 unfold qn6 w1w
 split
 ·exact .inl rfl
 ·split
  ·exact .inr (.inl rfl)
  ·rename_i hn
   refine .inr (.inr ⟨rfl,?_⟩)
   have hl:0<(qv0 m (qe8 m y C)).length:=Nat.pos_of_ne_zero λq=>hn (.inl q)
   obtain⟨j,h1,h2⟩:=q6d (q91 (qv0 m (qe8 m y C)) _ hl (Nat.le_refl _))
   refine⟨j,by rw[h2],h1,λq=>hn (.inr ?_)⟩
   rw[h2]; exact q
theorem AskC.snoc {m:List (List Int)} {y C:List Int} (h:AskC m y C) {j:Nat} (hj:j<(nL m 0).length) (hl:C.length+1<=100):AskC m y (C++[(j:Int)]):=by
 refine⟨h.msk,h.val,h.ylen,h.ybd,λq hq=>?_,by rw[List.length_append]; exact hl⟩
 rw[List.length_append,List.length_singleton] at hq
 rcases Nat.lt_succ_iff_lt_or_eq.1 hq with k | k
 ·rw[qp8 _ _ k]; exact h.inw.at_ q k
 ·rw[k,qu7]; omega
def w1y (m:List (List Int)) (y:List Int):Nat->List Int->List Int × Int
 | 0,C=>([],10)
 | f+1,C=>if(qn6 m y C).2=8 then(C,0) else if(qn6 m y C).2=10 then([],10) else w1y m y f (C++[(qn6 m y C).1])
def w4n (m:List (List Int)) (y:List Int):List Int × Int:=if qs5 m y []=0 then w1y m y 8 [] else([],qs5 m y [])
structure PurI (m:List (List Int)) (y C:List Int):Prop where
 ask:AskC m y C
 ind:Ind m C
 eq:w1y m y 8 []=w1y m y (8-C.length) C
theorem PurI.start {m:List (List Int)} {y:List Int} (h:qs5 m y []=0):PurI m y []:=⟨AskC.of h,λz _ c hc=>absurd hc (Nat.not_lt_zero _),rfl⟩
theorem PurI.len {m:List (List Int)} {y C:List Int} (h:PurI m y C):C.length<=6:=by
 have:=xt7 h.ask.msk h.ask.inw h.ind
 have:=h.ask.msk.rows6
 omega
theorem PurI.unf {m:List (List Int)} {y C:List Int} (h:PurI m y C):w1y m y 8 []=if(qn6 m y C).2=8 then(C,0) else if(qn6 m y C).2=10 then([],10) else w1y m y (7-C.length) (C++[(qn6 m y C).1]):=by
 have hl:=h.len
 rw[h.eq,show 8-C.length=(7-C.length)+1 by omega,w1y]
theorem PurI.step {m:List (List Int)} {y C:List Int} (h:PurI m y C) (h1:(qn6 m y C).2≠8) (h2:(qn6 m y C).2≠10):PurI m y (C++[(qn6 m y C).1]):=by
 have hl:=h.len
 rcases xu8 h.ask with q | q | ⟨q,j,e,hj,hs⟩
 ·exact absurd q h1
 ·exact absurd q h2
 ·have hs2:(sm m.length λi=>nI (nL m i) j*nI (qe8 m y C) i)≠0:=by
   unfold x1y at hs
   rw[q9t] at hs
   rw[<- qb4 (f:=λi=>nI (qi1 m j) i*nI (qe8 m y C) i) λi hi=>by rw[q0d _ _ _ hi]]
   exact hs
  have hn:=h.ask.new h.ind hs2
  rw[e]
  refine⟨h.ask.snoc hj (by omega),hn,?_⟩
  rw[h.unf,if_neg h1,if_neg h2,e,List.length_append,List.length_singleton]
  congr 1
  omega
theorem PurI.all {m:List (List Int)} {y:List Int}:∀d C,PurI m y C->C.length+d=7->((w1y m y 8 []).2=0/\PurI m y (w1y m y 8 []).1/\(qn6 m y (w1y m y 8 []).1).2=8)\/w1y m y 8 []=([],10)
 | 0,C,h,hd=>by have:=h.len; omega
 | d+1,C,h,hd=>by
  by_cases h1:(qn6 m y C).2=8
  ·have e:=h.unf
   rw[if_pos h1] at e
   left
   rw[e]
   exact⟨rfl,h,h1⟩
  ·by_cases h2:(qn6 m y C).2=10
   ·have e:=h.unf
    rw[if_neg h1,if_pos h2] at e
    exact .inr e
   ·exact PurI.all d _ (h.step h1 h2) (by rw[List.length_append,List.length_singleton]; omega)
end Go.Proofs.YtmijnbjlhnpokaaGreat
