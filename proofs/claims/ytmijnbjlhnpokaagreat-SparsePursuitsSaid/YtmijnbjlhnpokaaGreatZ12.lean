/- Pursuits, by the program and by the reference: contracts by the engine. No condition. -/
import Derived.Test.YtmijnbjlhnpokaaGreatQ7
import Derived.Test.YtmijnbjlhnpokaaGreatEngT2
import Derived.Test.YtmijnbjlhnpokaaGreatW5
import Derived.Test.YtmijnbjlhnpokaaGreatZ8
set_option linter.unusedVariables false
set_option linter.unusedSimpArgs false
namespace Go.Proofs.YtmijnbjlhnpokaaGreat
open Go Go.RowKit Eng
def x1q (n:Nat) (p:List Int):Bool:=p.any λj=>!(inB j 0 ((n:Int)-1))
theorem xs9 {n:Nat} {p:List Int} {k:Nat} (hk:k<p.length) (h:inB (nI p k) 0 ((n:Int)-1)=false):x1q n p=true:=
 List.any_eq_true.2 ⟨nI p k,q7v hk,by rw[h]; rfl⟩
theorem we6 {n:Nat} {p:List Int} (h:∀i,i<p.length->inB (nI p i) 0 ((n:Int)-1)=true):x1q n p=false:=by
 unfold x1q
 rw[List.any_eq_false]
 intro x hx
 obtain⟨i,hi,rfl⟩:=List.mem_iff_getElem.1 hx
 have:=h i hi
 rw[qg1 _ _ hi] at this
 rw[this]; simp
def wp1 (m:List (List Int)) (p:List Int):Int:=if qe2 m=false then 1 else if x1q (nL m 0).length p=true then 5 else 0
structure xh0 (n:Nat) (p:List Int) (k:Nat):Prop where
 le:k<=p.length
 ok:∀i,i<k->inB (nI p i) 0 ((n:Int)-1)=true
def x1d (n:Nat) (p:List Int):Nat->Option Inv
 | 0=>some (Inv.of [12] 0 (λk:Nat=>[(12,.lit (.int .i64 k))]) (λ_=>[]) (λk=>xh0 n p k) (λk=>p.length-k))
 | _=>none
abbrev x46:qc9:=qg4 true none [qi8,qd4] [qf6] (λx=>q0l x.1/\x.2.1.length<=9223372036854775807) (λx=>(wp1 x.1 x.2.1,()))
theorem w3x:Meets Tryz.prog 87 x46:=by
 refine meets (snd (SpecsOk.cons q51 (SpecsOk.cons q0g (SpecsOk.nil _)))) Tryz.func87 rfl rfl (λx=>x1d (nL x.1 0).length x.2.1) (λ_=>by kernel_rfl) (by decide) ?_
 rintro⟨m,p,⟨⟩⟩ h
 revert m p
 intro(m:List (List Int)) (p:List Int) (h:q0l m/\p.length<=9223372036854775807)
 refine @qd9 _ (q0l m/\((!qe2 m)=true->(1:Int)=wp1 m p)/\((!qe2 m)=false->∃(v1:Unit),∃(v2:Nat),xh0 (nL m (0:Nat)).length p v2/\(((0:Int)=(↑v2:Int)/\True)/\True)/\∀(v3:Nat),xh0 (nL m (0:Nat)).length p v3->(decide ((↑v3:Int)<(↑p.length:Int))=true->((0:Int)<=(↑v3:Int)/\(↑v3:Int)<(↑p.length:Int))/\((0:Int)<=(0:Int)/\(0:Int)<(↑m.length:Int))/\fits .i64 ((↑(nL m (0:Nat)).length:Int)-(1:Int))/\True/\((!inB (nI p v3) (0:Int) ((↑(nL m (0:Nat)).length:Int)-(1:Int)))=true->(5:Int)=wp1 m p)/\((!inB (nI p v3) (0:Int) ((↑(nL m (0:Nat)).length:Int)-(1:Int)))=false->fits .i64 ((↑v3:Int)+(1:Int))/\∃(v7:Nat),xh0 (nL m (0:Nat)).length p v7/\p.length-v7<p.length-v3/\((↑v3:Int)+(1:Int)=(↑v7:Int)/\True)/\True))/\(decide ((↑v3:Int)<(↑p.length:Int))=false->(0:Int)=wp1 m p))) (by kernel_rfl) ?_
 try simp only[z0,z1,z2,z3,z4,z5,z6,z7,z8,z9,z10,Int.reduceEq,z11,z12,z13,z14,z15,z16,z17,z18,z19,z20,z21,z22,z23,z24,z25,z26,z27,z28,z29,z30,Int.reduceLE,Int.reduceLT,z31,z32,z33,z34,qa1]
 try simp only[qb4,qb5,qd0,z31,z32,z2,z1]
 refine⟨h.1,λq=>by unfold wp1; rw[if_pos q],λq=>⟨(),0,⟨Nat.zero_le _,λi hi=>by omega⟩,rfl,λk hk=>⟨λhlt=>?_,λhge=>?_⟩⟩⟩
 ·have hM:=Mk.of q
  have h10:=hM.pix10
  have h1:=hM.rows1
  refine⟨hlt,by omega,qa5 (by omega) (by omega),λhf=>?_,λht=>⟨qa5 (by omega) (by omega),k+1,⟨hlt,λi hi=>?_⟩,by omega,by push_cast; rfl⟩⟩
  ·unfold wp1
   rw[if_neg (by rw[q]; decide),if_pos (xs9 hlt hf)]
  ·by_cases e:i=k
   ·subst e; exact ht
   ·exact hk.ok i (by omega)
 ·have hle:=hk.le
  unfold wp1
  rw[if_neg (by rw[q]; decide),if_neg (by rw[we6 λi hi=>hk.ok i (by omega)]; decide)]
theorem w3y:Meets Tryz.prog 84 wc4:=by
 refine meets (snd (SpecsOk.nil _)) Tryz.func84 rfl rfl (λx=>xz8 x.1 x.2.1) (λ_=>by kernel_rfl) (by decide) ?_
 rintro⟨a,b,⟨⟩⟩ h
 revert a b
 intro(a:Int) (b:Int) (h:(-BIG<=a/\a<=BIG)/\-BIG<=b/\b<=BIG)
 refine @qd9 _ (∃(v0:Unit),∃(v1:Int × Int),(qd2 BIG v1.1/\qd2 BIG v1.2/\qe1 v1.1 v1.2=qe1 a b)/\((a=v1.1/\b=v1.2/\True)/\True)/\∀(v2:Int × Int),qd2 BIG v2.1/\qd2 BIG v2.2/\qe1 v2.1 v2.2=qe1 a b->((v2.2 != (0:Int))=true->v2.2≠(0:Int)/\∃(v5:Int × Int),(qd2 BIG v5.1/\qd2 BIG v5.2/\qe1 v5.1 v5.2=qe1 a b)/\Int.natAbs v5.2<Int.natAbs v2.2/\(v2.2=v5.1/\Int.tmod v2.1 v2.2=v5.2/\True)/\True)/\((v2.2 != (0:Int))=false->fits .i64 ((0:Int)-v2.1)/\max2 true v2.1 ((0:Int)-v2.1)=qe1 a b)) (by kernel_rfl) ?_
 try simp only[z0,z1,z2,z3,z4,z5,z6,z7,z8,z9,z10,Int.reduceEq,z11,z12,z13,z14,z15,z16,z17,z18,z19,z20,z21,z22,z23,z24,z25,z26,z27,z28,z29,z30,Int.reduceLE,Int.reduceLT,z31,z32,z33,z34,qa1]
 try simp only[qb4,qb5,qd0,z31,z32,z2,z1]
 refine⟨(),(a,b),⟨h.1,h.2,rfl⟩,⟨rfl,rfl⟩,?_⟩
 rintro⟨x,y⟩ ⟨h1,h2,h3⟩
 dsimp only at h1 h2 h3 ⊢
 have hB:BIG=4000000000000000000:=rfl
 refine⟨λhy=>⟨hy,(y,x.tmod y),⟨h2,?_,(wm2 x y).trans h3⟩,?_,rfl,rfl⟩,λhy=>?_⟩
 ·have:(x.tmod y).natAbs<=x.natAbs:=by rw[Int.natAbs_tmod]; exact Nat.mod_le _ _
  unfold qd2 at h1 ⊢
  dsimp only
  omega
 ·dsimp only
  rw[Int.natAbs_tmod]
  exact Nat.mod_lt _ (by omega)
 ·subst hy
  unfold qd2 at h1
  refine⟨qa5 (by omega) (by omega),?_⟩
  rw[<- h3]
  show max x (0-x)=((Int.gcd x 0:Nat):Int)
  rw[Int.gcd_zero_right]
  omega
abbrev x8z:qc9:=qg4 true none [qi8,qf6] [qd4] (λx=>qt5 x.1 x.2.1) (λx=>(qg6 x.1 x.2.1.toNat,()))
def x47 (m:List (List Int)) (j:Nat):Nat->Option Inv
 | 0=>some (Inv.of [5,10] 1 (λk:Nat=>[(5,.own 0),(10,.lit (.int .i64 k))]) (λk=>[.vec 3 (.int .i64) ((qg6 m j).take k)]) (λk=>k<=m.length) (λk=>m.length-k))
 | _=>none
theorem w8s:Meets Tryz.prog 88 x8z:=by
 refine meets (snd (SpecsOk.nil _)) Tryz.func88 rfl rfl (λx=>x47 x.1 x.2.1.toNat) (λ_=>by kernel_rfl) (by decide) ?_
 rintro⟨m,j,⟨⟩⟩ h
 revert m j
 intro(m:List (List Int)) (j:Int) (h:qt5 m j)
 refine @qd9 _ (let Q0:=qg6 m j.toNat; ∃(v0:Unit),∃(v1:Nat),Nat.le v1 m.length/\((True/\(0:Int)=(↑v1:Int)/\True)/\List.take v1 Q0=[]/\True)/\∀(v2:Nat),Nat.le v2 m.length->(decide ((↑v2:Int)<(↑m.length:Int))=true->((0:Int)<=(↑v2:Int)/\(↑v2:Int)<(↑m.length:Int))/\((0:Int)<=j/\j<(↑(nL m v2).length:Int))/\((0:Nat)<List.length [nI (nL m v2) j.toNat]/\Nat.le ((List.take v2 Q0).length+List.length [nI (nL m v2) j.toNat]) (1000000:Nat))/\fits .i64 ((↑v2:Int)+(1:Int))/\∃(v5:Nat),Nat.le v5 m.length/\m.length-v5<m.length-v2/\(True/\(↑v2:Int)+(1:Int)=(↑v5:Int)/\True)/\List.take v2 Q0++[nI (nL m v2) j.toNat]=List.take v5 Q0/\True)/\(decide ((↑v2:Int)<(↑m.length:Int))=false->List.take v2 Q0=qg6 m j.toNat)) (by kernel_rfl) ?_
 try simp only[z0,z1,z2,z3,z4,z5,z6,z7,z8,z9,z10,Int.reduceEq,z11,z12,z13,z14,z15,z16,z17,z18,z19,z20,z21,z22,z23,z24,z25,z26,z27,z28,z29,z30,Int.reduceLE,Int.reduceLT,z31,z32,z33,z34,qa1]
 try simp only[qb4,qb5,qd0,z31,z32,z2,z1]
 have hr:=h.rows
 refine⟨(),0,Nat.zero_le _,⟨rfl,rfl⟩,λk hk=>⟨λhlt=>⟨hlt,h.at_ k hlt,by rw[List.length_take]; omega,qa5 (by omega) (by omega),k+1,by omega,by omega,by omega,(wo6 _ _ _ hlt).symm⟩,λhge=>?_⟩⟩
 rw[List.take_of_length_le (by rw[qi7]; omega)]
def qx2 (m:List (List Int)) (j:Int):List Int × Int:=if wp1 m [j]=0 then(qg6 m j.toNat,0) else([],wp1 m [j])
structure wv7 (m:List (List Int)) (j:Int):Prop where
 fit:q0l m
 col:wp1 m [j]=0->qt5 m j
abbrev x9a:qc9:=qg4 false none [qi8,qf6] [qd4,qf6] (λx=>wv7 x.1 x.2.1) (λx=>((qx2 x.1 x.2.1).1,(qx2 x.1 x.2.1).2,()))
theorem wp2:Meets Tryz.prog 31 x9a:=by
 refine meets (snd (SpecsOk.cons w3x (SpecsOk.cons w8s (SpecsOk.nil _)))) Tryz.func31 rfl rfl (λ_ _=>none) (λ_=>by kernel_rfl) (by decide) ?_
 rintro⟨m,j,⟨⟩⟩ h
 revert m j
 intro(m:List (List Int)) (j:Int) (h:wv7 m j)
 refine @qd9 _ (let Q0:=qx2 m j; (q0l m/\List.length [j]<=(9223372036854775807:Nat))/\((wp1 m [j] != (0:Int))=true->Q0.1=[]/\wp1 m [j]=Q0.2/\True)/\((wp1 m [j] != (0:Int))=false->qt5 m j/\qg6 m j.toNat=Q0.1/\(0:Int)=Q0.2/\True)) (by kernel_rfl) ?_
 try simp only[z0,z1,z2,z3,z4,z5,z6,z7,z8,z9,z10,Int.reduceEq,z11,z12,z13,z14,z15,z16,z17,z18,z19,z20,z21,z22,z23,z24,z25,z26,z27,z28,z29,z30,Int.reduceLE,Int.reduceLT,z31,z32,z33,z34,qa1]
 try simp only[qb4,qb5,qd0,z31,z32,z2,z1]
 refine⟨⟨h.fit,by decide⟩,λhe=>?_,λhe=>⟨h.col he,?_⟩⟩
 ·unfold qx2; rw[if_neg he]; exact⟨rfl,rfl⟩
 ·unfold qx2; rw[if_pos he]; exact⟨rfl,rfl⟩
structure w8t (m:List (List Int)) (C:List Int):Prop where
 col:wm3 m C
 rd:w34 (qf3 m C)
abbrev sFr:qc9:=qg4 true none [qi8,qd4] [.bool] (λx=>w8t x.1 x.2.1) (λx=>(wo3 x.1 x.2.1,()))
theorem xh1:Meets Tryz.prog 142 sFr:=by
 refine meets (snd (SpecsOk.cons w3b (SpecsOk.cons wd5 (SpecsOk.nil _)))) Tryz.func142 rfl rfl (λ_ _=>none) (λ_=>by kernel_rfl) (by decide) ?_
 rintro⟨m,C,⟨⟩⟩ h
 revert m C
 intro(m:List (List Int)) (C:List Int) (h:w8t m C)
 refine @qd9 _ (wm3 m C/\w34 (qf3 m C)/\((↑(qa6 (qf3 m C)).2.length:Int)==(↑C.length:Int))=wo3 m C) (by kernel_rfl) ?_
 try simp only[z0,z1,z2,z3,z4,z5,z6,z7,z8,z9,z10,Int.reduceEq,z11,z12,z13,z14,z15,z16,z17,z18,z19,z20,z21,z22,z23,z24,z25,z26,z27,z28,z29,z30,Int.reduceLE,Int.reduceLT,z31,z32,z33,z34,qa1]
 try simp only[qb4,qb5,qd0,z31,z32,z2,z1]
 exact⟨h.col,h.rd,rfl⟩
def q2k (m:List (List Int)) (l:List Int):List (List Int):=l.map λj=>qg6 m j.toNat
theorem q74 (m:List (List Int)) (C:List Int):∀j,(qo2 m C j).length<=j
 | 0=>Nat.le_refl _
 | j+1=>by
  have:=q74 m C j
  rw[qo2]; split
  ·simp; omega
  ·omega
structure w8u (m:List (List Int)) (y C:List Int):Prop where
 fit:q0l m
 fr:∀j,j<C.length->w8t m (qo2 m C j++[nI C j])
 cl:C.length<=100000
 n6:(gre m C).length<=6
 m6:m.length<=6
 ylen:y.length=m.length
 nam:∀q,q<(gre m C).length->wp1 m [nI (gre m C) q]=0/\qt5 m (nI (gre m C) q)
 dot:∀a b,a<(gre m C).length->b<(gre m C).length->qm1 (qg6 m (nI (gre m C) a).toNat) (qg6 m (nI (gre m C) b).toNat)
 doty:∀a,a<(gre m C).length->qm1 (qg6 m (nI (gre m C) a).toNat) y
 rd:w34 (qb8 m y (gre m C))
 cnt:(gR m y C).length=(gre m C).length
 each:∀k,k<(gre m C).length->(nL (gR m y C) k).length=(gre m C).length+1
 nz:∀k,k<(gre m C).length->nI (nL (gR m y C) k) k≠0
 big:∀k,k<(gre m C).length->qd2 BIG (nI (nL (gR m y C) k) k)
 all:∀k,k<=(gre m C).length->qd2 BIG (q0q (gR m y C) k)/\q0q (gR m y C) k≠0
 out:∀i,i<y.length->qd2 BIG (nI y i*qw9 m y C)
 mul:∀k,k<(gre m C).length->∀i,i<y.length->qd2 BIG (nI (qg6 m (nI (gre m C) k).toNat) i*nI (nL (gR m y C) k) (gre m C).length)
 sub:∀k,k<(gre m C).length->∀i,i<y.length->qd2 BIG ((nI (qg6 m (nI (gre m C) k).toNat) i*nI (nL (gR m y C) k) (gre m C).length)*(qw9 m y C).tdiv (nI (nL (gR m y C) k) k))/\qd2 BIG (rtE m y (gre m C) (gR m y C) (qw9 m y C) (k+1) i)
def x9c (m:List (List Int)) (y C:List Int):Nat->Option Inv
 | 0=>some (Inv.of [8,30] 1 (λk:Nat=>[(8,.own 0),(30,.lit (.int .i64 k))]) (λk=>[.vec 3 (.int .i64) (qo2 m C k)]) (λk=>k<=C.length) (λk=>C.length-k))
 | 1=>some (Inv.of [8,12,47,49] 2 (λk:Nat=>[(8,.own 0),(12,.own 1),(47,.own 0),(49,.lit (.int .i64 k))]) (λk=>[.vec 3 (.int .i64) (gre m C),.vec 34 qd4 ((q2k m (gre m C)).take k)]) (λk=>k<=(gre m C).length) (λk=>(gre m C).length-k))
 | 2=>some (Inv.of [8,11,12,66] 3 (λk:Nat=>[(8,.own 0),(11,.own 2),(12,.own 1),(66,.lit (.int .i64 k))]) (λk=>[.vec 3 (.int .i64) (gre m C),.vec 34 qd4 (q2k m (gre m C)),.vec 34 qd4 ((qb8 m y (gre m C)).take k)]) (λk=>k<=(gre m C).length) (λk=>(gre m C).length-k))
 | 3=>some (Eng.Inv.mk Nat Nat [8,11,12,18,71] 4 (λ_ j=>[(8,.own 0),(11,.own 2),(12,.own 1),(18,.own 3),(71,.lit (.int .i64 j))]) (λk j=>[.vec 3 (.int .i64) (gre m C),.vec 34 qd4 (q2k m (gre m C)),.vec 34 qd4 ((qb8 m y (gre m C)).take k),.vec 3 (.int .i64) ((gRow m y (gre m C) k).take j)]) (λ_ j=>j<=(gre m C).length) (λ_ j=>(gre m C).length-j))
 | 4=>some (Inv.of [8,12,22,107] 3 (λk:Nat=>[(8,.own 0),(12,.own 1),(22,.lit (.int .i64 (q0q (gR m y C) k))),(107,.lit (.int .i64 k))]) (λk=>[.vec 3 (.int .i64) (gre m C),.vec 34 qd4 (q2k m (gre m C)),.dead]) (λk=>k<=(gre m C).length) (λk=>(gre m C).length-k))
 | 5=>some (Inv.of [8,12,24,132] 4 (λk:Nat=>[(8,.own 0),(12,.own 1),(24,.own 3),(132,.lit (.int .i64 k))]) (λk=>[.vec 3 (.int .i64) (gre m C),.vec 34 qd4 (q2k m (gre m C)),.dead,.vec 3 (.int .i64) ((qm4 m y C).take k)]) (λk=>k<=y.length) (λk=>y.length-k))
 | 6=>some (Eng.Inv.mk Nat Nat [8,12,24,26,142] 4 (λi t=>[(8,.own 0),(12,.own 1),(24,.own 3),(26,.lit (.int .i64 (rtE m y (gre m C) (gR m y C) (qw9 m y C) t i))),(142,.lit (.int .i64 t))]) (λi t=>[.vec 3 (.int .i64) (gre m C),.vec 34 qd4 (q2k m (gre m C)),.dead,.vec 3 (.int .i64) ((qm4 m y C).take i)]) (λ_ t=>t<=(gre m C).length) (λ_ t=>(gre m C).length-t))
 | _=>none
abbrev sRt:qc9:=qg4 true none [qi8,qd4,qd4] [qd4,qf6] (λx=>w8u x.1 x.2.1 x.2.2.1) (λx=>(qm4 x.1 x.2.1 x.2.2.1,qw9 x.1 x.2.1 x.2.2.1,()))
theorem xh2:Meets Tryz.prog 83 sRt:=by
 refine meets (xx5 [] [37] (SpecsOk.cons xh1 (SpecsOk.cons wp2 (SpecsOk.cons q9u (SpecsOk.cons wd5 (SpecsOk.cons w3y (SpecsOk.nil _))))))) Tryz.func83 rfl rfl (λx=>x9c x.1 x.2.1 x.2.2.1) (λ_=>by kernel_rfl) (by decide) ?_
 rintro⟨m,y,C,⟨⟩⟩ h
 revert m y C
 intro(m:List (List Int)) (y:List Int) (C:List Int) (h:w8u m y C)
 refine @qd9 _ (let Q0:=qb8 m y (gre m C); let Q1:=q2k m (gre m C); let Q2:=gR m y C; let Q3:=qm4 m y C; let Q4:=qw9 m y C; ∃(v0:Unit),∃(v1:Nat),Nat.le v1 C.length/\((True/\(0:Int)=(↑v1:Int)/\True)/\qo2 m C v1=[]/\True)/\∀(v2:Nat),Nat.le v2 C.length->(decide ((↑v2:Int)<(↑C.length:Int))=true->((0:Int)<=(↑v2:Int)/\(↑v2:Int)<(↑C.length:Int))/\Nat.le ((0:Nat)+(qo2 m C v2).length) (1000000:Nat)/\((0:Nat)<List.length [nI C v2]/\Nat.le (([]++qo2 m C v2).length+List.length [nI C v2]) (1000000:Nat))/\w8t m ([]++qo2 m C v2++[nI C v2])/\(wo3 m ([]++qo2 m C v2++[nI C v2])=true->((0:Nat)<List.length [nI C v2]/\Nat.le ((qo2 m C v2).length+List.length [nI C v2]) (1000000:Nat))/\fits .i64 ((↑v2:Int)+(1:Int))/\∃(v6:Nat),Nat.le v6 C.length/\C.length-v6<C.length-v2/\(True/\(↑v2:Int)+(1:Int)=(↑v6:Int)/\True)/\qo2 m C v2++[nI C v2]=qo2 m C v6/\True)/\(wo3 m ([]++qo2 m C v2++[nI C v2])=false->fits .i64 ((↑v2:Int)+(1:Int))/\∃(v6:Nat),Nat.le v6 C.length/\C.length-v6<C.length-v2/\(True/\(↑v2:Int)+(1:Int)=(↑v6:Int)/\True)/\qo2 m C v2=qo2 m C v6/\True))/\(decide ((↑v2:Int)<(↑C.length:Int))=false->∃(v5:Unit),∃(v6:Nat),Nat.le v6 (gre m C).length/\((True/\True/\True/\(0:Int)=(↑v6:Int)/\True)/\qo2 m C v2=gre m C/\List.take v6 Q1=[]/\True)/\∀(v7:Nat),Nat.le v7 (gre m C).length->(decide ((↑v7:Int)<(↑(qo2 m C v2).length:Int))=true->((0:Int)<=(↑v7:Int)/\(↑v7:Int)<(↑(gre m C).length:Int))/\v7<(gre m C).length/\wv7 m (nI (gre m C) v7)/\((0:Nat)<List.length [(qx2 m (nI (gre m C) v7)).1]/\Nat.le ((List.take v7 Q1).length+List.length [(qx2 m (nI (gre m C) v7)).1]) (1000000:Nat))/\fits .i64 ((↑v7:Int)+(1:Int))/\∃(v10:Nat),Nat.le v10 (gre m C).length/\(gre m C).length-v10<(gre m C).length-v7/\(True/\True/\True/\(↑v7:Int)+(1:Int)=(↑v10:Int)/\True)/\gre m C=gre m C/\List.take v7 Q1++[(qx2 m (nI (gre m C) v7)).1]=List.take v10 Q1/\True)/\(decide ((↑v7:Int)<(↑(qo2 m C v2).length:Int))=false->∃(v10:Unit),∃(v11:Nat),Nat.le v11 (gre m C).length/\((True/\True/\True/\(0:Int)=(↑v11:Int)/\True)/\gre m C=gre m C/\List.take v7 Q1=q2k m (gre m C)/\List.take v11 Q0=[]/\True)/\∀(v12:Nat),Nat.le v12 (gre m C).length->(decide ((↑v12:Int)<(↑(gre m C).length:Int))=true->∃(v15:Nat),∃(v16:Nat),Nat.le v16 (gre m C).length/\((True/\True/\True/\True/\(0:Int)=(↑v16:Int)/\True)/\gre m C=gre m C/\q2k m (gre m C)=q2k m (gre m C)/\List.take v12 Q0=List.take v15 Q0/\List.take v16 (gRow m y (gre m C) v15)=[]/\True)/\∀(v17:Nat),Nat.le v17 (gre m C).length->(decide ((↑v17:Int)<(↑(gre m C).length:Int))=true->((0:Int)<=(↑v12:Int)/\(↑v12:Int)<(↑Q1.length:Int))/\v12<Q1.length/\((0:Int)<=(↑v17:Int)/\(↑v17:Int)<(↑Q1.length:Int))/\v17<Q1.length/\qm1 (qe8 qd4 Q1 v12) (qe8 qd4 Q1 v17)/\((0:Nat)<List.length [qg9 (qe8 qd4 Q1 v12) (qe8 qd4 Q1 v17) (qe8 qd4 Q1 v12).length]/\Nat.le ((List.take v17 (gRow m y (gre m C) v15)).length+List.length [qg9 (qe8 qd4 Q1 v12) (qe8 qd4 Q1 v17) (qe8 qd4 Q1 v12).length]) (1000000:Nat))/\fits .i64 ((↑v17:Int)+(1:Int))/\∃(v20:Nat),Nat.le v20 (gre m C).length/\(gre m C).length-v20<(gre m C).length-v17/\(True/\True/\True/\True/\(↑v17:Int)+(1:Int)=(↑v20:Int)/\True)/\gre m C=gre m C/\q2k m (gre m C)=q2k m (gre m C)/\List.take v15 Q0=List.take v15 Q0/\List.take v17 (gRow m y (gre m C) v15)++[qg9 (qe8 qd4 Q1 v12) (qe8 qd4 Q1 v17) (qe8 qd4 Q1 v12).length]=List.take v20 (gRow m y (gre m C) v15)/\True)/\(decide ((↑v17:Int)<(↑(gre m C).length:Int))=false->((0:Int)<=(↑v12:Int)/\(↑v12:Int)<(↑Q1.length:Int))/\v12<Q1.length/\qm1 (qe8 qd4 Q1 v12) y/\((0:Nat)<List.length [qg9 (qe8 qd4 Q1 v12) y (qe8 qd4 Q1 v12).length]/\Nat.le ((List.take v17 (gRow m y (gre m C) v15)).length+List.length [qg9 (qe8 qd4 Q1 v12) y (qe8 qd4 Q1 v12).length]) (1000000:Nat))/\((0:Nat)<(0:Nat)+(1:Nat)/\Nat.le ((List.take v15 Q0).length+((0:Nat)+(1:Nat))) (1000000:Nat))/\fits .i64 ((↑v12:Int)+(1:Int))/\∃(v20:Nat),Nat.le v20 (gre m C).length/\(gre m C).length-v20<(gre m C).length-v12/\(True/\True/\True/\(↑v12:Int)+(1:Int)=(↑v20:Int)/\True)/\gre m C=gre m C/\q2k m (gre m C)=q2k m (gre m C)/\List.take v15 Q0++[List.take v17 (gRow m y (gre m C) v15)++[qg9 (qe8 qd4 Q1 v12) y (qe8 qd4 Q1 v12).length]]=List.take v20 Q0/\True))/\(decide ((↑v12:Int)<(↑(gre m C).length:Int))=false->w34 (List.take v12 Q0)/\∃(v15:Unit),∃(v16:Nat),Nat.le v16 (gre m C).length/\((True/\True/\(1:Int)=q0q Q2 v16/\(0:Int)=(↑v16:Int)/\True)/\gre m C=gre m C/\q2k m (gre m C)=q2k m (gre m C)/\True/\True)/\∀(v17:Nat),Nat.le v17 (gre m C).length->(decide ((↑v17:Int)<(↑(qa6 (List.take v12 Q0)).1.length:Int))=true->((0:Int)<=(↑v17:Int)/\(↑v17:Int)<(↑(qa6 (List.take v12 Q0)).1.length:Int))/\((0:Int)<=(↑v17:Int)/\(↑v17:Int)<(↑(nL (qa6 (List.take v12 Q0)).1 v17).length:Int))/\(((-4000000000000000000:Int)<=q0q Q2 v17/\q0q Q2 v17<=BIG)/\(-4000000000000000000:Int)<=nI (nL (qa6 (List.take v12 Q0)).1 v17) v17/\nI (nL (qa6 (List.take v12 Q0)).1 v17) v17<=BIG)/\qe1 (q0q Q2 v17) (nI (nL (qa6 (List.take v12 Q0)).1 v17) v17)≠(0:Int)/\fits .i64 (Int.tdiv (q0q Q2 v17) (qe1 (q0q Q2 v17) (nI (nL (qa6 (List.take v12 Q0)).1 v17) v17)))/\((0:Int)<=(↑v17:Int)/\(↑v17:Int)<(↑(qa6 (List.take v12 Q0)).1.length:Int))/\((0:Int)<=(↑v17:Int)/\(↑v17:Int)<(↑(nL (qa6 (List.take v12 Q0)).1 v17).length:Int))/\fits .i64 (Int.tdiv (q0q Q2 v17) (qe1 (q0q Q2 v17) (nI (nL (qa6 (List.take v12 Q0)).1 v17) v17))*nI (nL (qa6 (List.take v12 Q0)).1 v17) v17)/\fits .i64 ((↑v17:Int)+(1:Int))/\∃(v20:Nat),Nat.le v20 (gre m C).length/\(gre m C).length-v20<(gre m C).length-v17/\(True/\True/\Int.tdiv (q0q Q2 v17) (qe1 (q0q Q2 v17) (nI (nL (qa6 (List.take v12 Q0)).1 v17) v17))*nI (nL (qa6 (List.take v12 Q0)).1 v17) v17=q0q Q2 v20/\(↑v17:Int)+(1:Int)=(↑v20:Int)/\True)/\gre m C=gre m C/\q2k m (gre m C)=q2k m (gre m C)/\True/\True)/\(decide ((↑v17:Int)<(↑(qa6 (List.take v12 Q0)).1.length:Int))=false->∃(v20:Unit),∃(v21:Nat),Nat.le v21 y.length/\((True/\True/\True/\(0:Int)=(↑v21:Int)/\True)/\gre m C=gre m C/\q2k m (gre m C)=q2k m (gre m C)/\True/\List.take v21 Q3=[]/\True)/\∀(v22:Nat),Nat.le v22 y.length->(decide ((↑v22:Int)<(↑y.length:Int))=true->((0:Int)<=(↑v22:Int)/\(↑v22:Int)<(↑y.length:Int))/\fits .i64 (nI y v22*q0q Q2 v17)/\∃(v25:Nat),∃(v26:Nat),Nat.le v26 (gre m C).length/\((True/\True/\True/\nI y v22*q0q Q2 v17=rtE m y (gre m C) Q2 Q4 v26 v25/\(0:Int)=(↑v26:Int)/\True)/\gre m C=gre m C/\q2k m (gre m C)=q2k m (gre m C)/\True/\List.take v22 Q3=List.take v25 Q3/\True)/\∀(v27:Nat),Nat.le v27 (gre m C).length->(decide ((↑v27:Int)<(↑(qa6 (List.take v12 Q0)).1.length:Int))=true->((0:Int)<=(↑v27:Int)/\(↑v27:Int)<(↑Q1.length:Int))/\v27<Q1.length/\((0:Int)<=(↑v22:Int)/\(↑v22:Int)<(↑(qe8 qd4 Q1 v27).length:Int))/\((0:Int)<=(↑v27:Int)/\(↑v27:Int)<(↑(qa6 (List.take v12 Q0)).1.length:Int))/\((0:Int)<=(↑(gre m C).length:Int)/\(↑(gre m C).length:Int)<(↑(nL (qa6 (List.take v12 Q0)).1 v27).length:Int))/\fits .i64 (nI (qe8 qd4 Q1 v27) v22*nI (nL (qa6 (List.take v12 Q0)).1 v27) (↑(gre m C).length:Int).toNat)/\((0:Int)<=(↑v27:Int)/\(↑v27:Int)<(↑(qa6 (List.take v12 Q0)).1.length:Int))/\((0:Int)<=(↑v27:Int)/\(↑v27:Int)<(↑(nL (qa6 (List.take v12 Q0)).1 v27).length:Int))/\nI (nL (qa6 (List.take v12 Q0)).1 v27) v27≠(0:Int)/\fits .i64 (Int.tdiv (q0q Q2 v17) (nI (nL (qa6 (List.take v12 Q0)).1 v27) v27))/\fits .i64 (nI (qe8 qd4 Q1 v27) v22*nI (nL (qa6 (List.take v12 Q0)).1 v27) (↑(gre m C).length:Int).toNat*Int.tdiv (q0q Q2 v17) (nI (nL (qa6 (List.take v12 Q0)).1 v27) v27))/\fits .i64 (rtE m y (gre m C) Q2 Q4 v27 v25-nI (qe8 qd4 Q1 v27) v22*nI (nL (qa6 (List.take v12 Q0)).1 v27) (↑(gre m C).length:Int).toNat*Int.tdiv (q0q Q2 v17) (nI (nL (qa6 (List.take v12 Q0)).1 v27) v27))/\fits .i64 ((↑v27:Int)+(1:Int))/\∃(v30:Nat),Nat.le v30 (gre m C).length/\(gre m C).length-v30<(gre m C).length-v27/\(True/\True/\True/\rtE m y (gre m C) Q2 Q4 v27 v25-nI (qe8 qd4 Q1 v27) v22*nI (nL (qa6 (List.take v12 Q0)).1 v27) (↑(gre m C).length:Int).toNat*Int.tdiv (q0q Q2 v17) (nI (nL (qa6 (List.take v12 Q0)).1 v27) v27)=rtE m y (gre m C) Q2 Q4 v30 v25/\(↑v27:Int)+(1:Int)=(↑v30:Int)/\True)/\gre m C=gre m C/\q2k m (gre m C)=q2k m (gre m C)/\True/\List.take v25 Q3=List.take v25 Q3/\True)/\(decide ((↑v27:Int)<(↑(qa6 (List.take v12 Q0)).1.length:Int))=false->((0:Nat)<List.length [rtE m y (gre m C) Q2 Q4 v27 v25]/\Nat.le ((List.take v25 Q3).length+List.length [rtE m y (gre m C) Q2 Q4 v27 v25]) (1000000:Nat))/\fits .i64 ((↑v22:Int)+(1:Int))/\∃(v30:Nat),Nat.le v30 y.length/\y.length-v30<y.length-v22/\(True/\True/\True/\(↑v22:Int)+(1:Int)=(↑v30:Int)/\True)/\gre m C=gre m C/\q2k m (gre m C)=q2k m (gre m C)/\True/\List.take v25 Q3++[rtE m y (gre m C) Q2 Q4 v27 v25]=List.take v30 Q3/\True))/\(decide ((↑v22:Int)<(↑y.length:Int))=false->List.take v22 Q3=qm4 m y C/\q0q Q2 v17=qw9 m y C/\True)))))) (by kernel_rfl) ?_
 try simp only[z0,z1,z2,z3,z4,z5,z6,z7,z8,z9,z10,Int.reduceEq,z11,z12,z13,z14,z15,z16,z17,z18,z19,z20,z21,z22,z23,z24,z25,z26,z27,z28,z29,z30,Int.reduceLE,Int.reduceLT,z31,z32,z33,z34,qa1]
 try simp only[qb4,qb5,qd0,z31,z32,z2,z1]
 have hcl:=h.cl
 have hn6:=h.n6
 have hm6:=h.m6
 have hyl:=h.ylen
 have hgL:∀j,(qo2 m C j).length<=j:=q74 m C
 have hcll:(q2k m (gre m C)).length=(gre m C).length:=by simp[q2k]
 have hca:∀k,k<(gre m C).length->nL (q2k m (gre m C)) k=qg6 m (nI (gre m C) k).toNat:=λk hk=>by
  rw[qm2 _ _ (by rw[hcll]; exact hk)]; simp[q2k,qg1 _ k hk]
 have hgl:(qb8 m y (gre m C)).length=(gre m C).length:=by simp[qb8]
 have hga:∀k,k<(gre m C).length->nL (qb8 m y (gre m C)) k=gRow m y (gre m C) k:=λk hk=>by
  rw[qm2 _ _ (by rw[hgl]; exact hk)]; simp[qb8]
 have hrl:∀k,(gRow m y (gre m C) k).length=(gre m C).length+1:=λk=>by simp[gRow]
 have hr1:∀k j,j<(gre m C).length->nI (gRow m y (gre m C) k) j=qg9 (qg6 m (nI (gre m C) k).toNat) (qg6 m (nI (gre m C) j).toNat) m.length:=λk j hj=>by
  unfold gRow
  rw[qg1 _ _ (by simp; omega),List.getElem_append_left (by simp; exact hj)]; simp
 have hr2:∀k,nI (gRow m y (gre m C) k) (gre m C).length=qg9 (qg6 m (nI (gre m C) k).toNat) y m.length:=λk=>by
  unfold gRow
  rw[qg1 _ _ (by simp),List.getElem_append_right (by simp)]; simp
 have hB:BIG=4000000000000000000:=rfl
 have hcp:∀q,q<(gre m C).length->wv7 m (nI (gre m C) q):=λq hq=>⟨h.fit,λ_=>(h.nam q hq).2⟩
 have hce:∀q,q<(gre m C).length->(qx2 m (nI (gre m C) q)).1=qg6 m (nI (gre m C) q).toNat:=λq hq=>by unfold qx2; rw[if_pos (h.nam q hq).1]
 refine⟨(),0,Nat.zero_le _,⟨rfl,rfl⟩,λj hj=>⟨λhlt=>?_,λhge=>?_⟩⟩
 ·have hg:=hgL j
  refine⟨hlt,by omega,by omega,h.fr j hlt,λhf=>?_,λhf=>?_⟩
  ·refine⟨by omega,qa5 (by omega) (by omega),j+1,by omega,by omega,by omega,?_⟩
   rw[qo2,if_pos hf]
  ·refine⟨qa5 (by omega) (by omega),j+1,by omega,by omega,by omega,?_⟩
   rw[qo2,if_neg (by rw[hf]; decide)]
 obtain rfl:j=C.length:=by omega
 have hgre:qo2 m C C.length=gre m C:=rfl
 rw[hgre]
 refine⟨(),0,Nat.zero_le _,⟨rfl,rfl,rfl⟩,λk hk=>⟨λhlt=>?_,λhge=>?_⟩⟩
 ·refine⟨hlt,hlt,hcp k hlt,by rw[List.length_take]; omega,qa5 (by omega) (by omega),k+1,by omega,by omega,by omega,?_⟩
  rw[takeL_snoc _ k (by omega),hca k hlt,hce k hlt]
 obtain rfl:k=(gre m C).length:=by omega
 have hT:(q2k m (gre m C)).take (gre m C).length=q2k m (gre m C):=List.take_of_length_le (by omega)
 rw[hT]
 refine⟨(),0,Nat.zero_le _,⟨rfl,rfl,rfl⟩,λk hk=>⟨λhlt=>⟨k,0,Nat.zero_le _,⟨rfl,rfl,rfl⟩,λj hj=>⟨λhlj=>?_,λhgj=>?_⟩⟩,λhge=>?_⟩⟩
 ·rw[hca k hlt,hca j hlj]
  refine⟨by omega,by omega,by omega,by omega,h.dot k j hlt hlj,by rw[List.length_take,hrl]; omega,qa5 (by omega) (by omega),j+1,by omega,by omega,by omega,?_⟩
  rw[qp7 _ j (by rw[hrl]; omega),hr1 k j hlj,qi7]
 ·obtain rfl:j=(gre m C).length:=by omega
  rw[hca k hlt]
  refine⟨by omega,by omega,h.doty k hlt,by rw[List.length_take,hrl]; omega,by rw[List.length_take,hgl]; omega,qa5 (by omega) (by omega),k+1,by omega,by omega,by omega,?_⟩
  rw[takeL_snoc _ k (by omega),hga k hlt,qi7,<- hr2,<- qp7 _ _ (by rw[hrl]; omega),List.take_of_length_le (l:=gRow m y (gre m C) k) (by rw[hrl]; exact Nat.le_refl _)]
 obtain rfl:k=(gre m C).length:=by omega
 have hT2:(qb8 m y (gre m C)).take (gre m C).length=qb8 m y (gre m C):=List.take_of_length_le (by omega)
 rw[hT2]
 have hgR:(qa6 (qb8 m y (gre m C))).1=gR m y C:=rfl
 rw[hgR]
 have hcn:=h.cnt
 refine⟨h.rd,(),0,Nat.zero_le _,⟨rfl,rfl⟩,λk hk=>⟨λhlt=>?_,λhge=>?_⟩⟩
 ·have hk2:k<(gre m C).length:=by omega
  have hrow:=h.each k hk2
  have b1:=h.big k hk2
  have nz:=h.nz k hk2
  have t1:=h.all k (by omega)
  have t2:=(h.all (k+1) (by omega)).1
  have g1:=ql9 (a:=q0q (gR m y C) k) (b:=nI (nL (gR m y C) k) k) (Or.inl t1.2)
  have e2:(q0q (gR m y C) k).tdiv (qe1 (q0q (gR m y C) k) (nI (nL (gR m y C) k) k))*nI (nL (gR m y C) k) k=q0q (gR m y C) (k+1):=rfl
  have hq:qd2 BIG ((q0q (gR m y C) k).tdiv (qe1 (q0q (gR m y C) k) (nI (nL (gR m y C) k) k))):=qj3 t1.1
  rw[e2]
  unfold qd2 at b1 t1 t2 hq
  refine⟨hlt,by omega,⟨t1.1,b1⟩,by omega,qa5 (by omega) (by omega),hlt,by omega,qa5 (by omega) (by omega),qa5 (by omega) (by omega),k+1,by omega,by omega,rfl,by omega⟩
 obtain rfl:k=(gre m C).length:=by omega
 have hA:q0q (gR m y C) (gre m C).length=qw9 m y C:=by unfold qw9; rw[hcn]
 rw[hA]
 have hzl:(qm4 m y C).length=y.length:=by simp[qm4,rtL]
 have hza:∀i,i<y.length->nI (qm4 m y C) i=rtE m y (gre m C) (gR m y C) (qw9 m y C) (gre m C).length i:=λi hi=>by
  rw[qg1 _ _ (by rw[hzl]; exact hi)]; simp[qm4,rtL,hcn]
 have hT1:=(h.all (gre m C).length (Nat.le_refl _)).1
 rw[hA] at hT1
 refine⟨(),0,Nat.zero_le _,⟨rfl,rfl⟩,λi hi=>⟨λhlt=>?_,λhge=>?_⟩⟩
 ·have ho:=h.out i hlt
  unfold qd2 at ho
  refine⟨hlt,qa5 (by omega) (by omega),i,0,Nat.zero_le _,⟨⟨rfl,rfl⟩,rfl⟩,λk hk=>⟨λhlk=>?_,λhgk=>?_⟩⟩
  ·have hk2:k<(gre m C).length:=by omega
   have hrow:=h.each k hk2
   have hq:qd2 BIG ((qw9 m y C).tdiv (nI (nL (gR m y C) k) k)):=qj3 hT1
   have hm:=h.mul k hk2 i hlt
   obtain⟨s1,s2⟩:=h.sub k hk2 i hlt
   have e:rtE m y (gre m C) (gR m y C) (qw9 m y C) (k+1) i=rtE m y (gre m C) (gR m y C) (qw9 m y C) k i-nI (qg6 m (nI (gre m C) k).toNat) i*nI (nL (gR m y C) k) (gre m C).length*(qw9 m y C).tdiv (nI (nL (gR m y C) k) k):=rfl
   rw[hca k hk2,<- e,qi7]
   unfold qd2 at hq hm s1 s2
   refine⟨by omega,by omega,by omega,hlk,by omega,qa5 (by omega) (by omega),hlk,by omega,h.nz k hk2,qa5 (by omega) (by omega),qa5 (by omega) (by omega),qa5 (by omega) (by omega),qa5 (by omega) (by omega),k+1,by omega,by omega,rfl,by omega⟩
  ·obtain rfl:k=(gre m C).length:=by omega
   refine⟨by rw[List.length_take]; omega,qa5 (by omega) (by omega),i+1,by omega,by omega,by omega,?_⟩
   rw[qp7 _ i (by omega),hza i hlt]
 ·obtain rfl:i=y.length:=by omega
  exact⟨List.take_of_length_le (by omega),rfl⟩
def zTo (r:List Int):Nat->Bool
 | 0=>true
 | k+1=>zTo r k && (nI r k==0)
def q0p (m:List (List Int)) (j:Nat):Int:=qg9 (qg6 m j) (qg6 m j) m.length
def q0r (m:List (List Int)) (r:List Int) (j:Nat):Int:=qg9 (qg6 m j) r m.length
def qt0 (m:List (List Int)) (r:List Int):Nat->Int × Int × Int
 | 0=>(-1,0,1)
 | j+1=>if 0<q0p m j/\wq0 (q0r m r j) (q0p m j) (qt0 m r j).2.1 (qt0 m r j).2.2=true then((j:Int),q0r m r j,q0p m j) else qt0 m r j
def w8v (m:List (List Int)) (r:List Int):Int × Int:=if zTo r r.length=true then(0,8) else if(qt0 m r (nL m 0).length).1<0 then(0,10) else((qt0 m r (nL m 0).length).1,0)
def q1o (m:List (List Int)) (y C:List Int):Int × Int:=w8v m (qm4 m y C)
theorem w8w {m:List (List Int)} {r:List Int} {N:Nat} (h:∀j,j<N->qd2 1000000000000000 (q0r m r j)/\0<=q0p m j/\q0p m j<=1000):∀j,j<=N->qd2 1000000000000000 (qt0 m r j).2.1/\0<=(qt0 m r j).2.2/\(qt0 m r j).2.2<=1000
 | 0,_=>⟨by show qd2 1000000000000000 0; unfold qd2; omega,by show(0:Int)<=1; omega,by show(1:Int)<=1000; omega⟩
 | j+1,hj=>by
  rw[qt0]; split
  ·exact h j (by omega)
  ·exact w8w h j (by omega)
structure xh3 (m:List (List Int)) (y C:List Int):Prop where
 rt:w8u m y C
 one:0<m.length
 pix:(nL m 0).length<=1000
 nam:∀j:Nat,j<(nL m 0).length->wp1 m [(j:Int)]=0/\qt5 m j
 dot:∀j,j<(nL m 0).length->qm1 (qg6 m j) (qm4 m y C)/\qm1 (qg6 m j) (qg6 m j)
 cnd:∀j,j<(nL m 0).length->qd2 1000000000000000 (q0r m (qm4 m y C) j)/\0<=q0p m j/\q0p m j<=1000
def x9d (m:List (List Int)) (y C:List Int):Nat->Option Inv
 | 0=>some (Inv.of [10,29] 0 (λk:Nat=>[(10,.lit (.bool (zTo (qm4 m y C) k))),(29,.lit (.int .i64 k))]) (λ_=>[]) (λk=>k<=(qm4 m y C).length) (λk=>(qm4 m y C).length-k))
 | 1=>some (Inv.of [13,14,15,44] 0 (λj:Nat=>[(13,.lit (.int .i64 (qt0 m (qm4 m y C) j).1)),(14,.lit (.int .i64 (qt0 m (qm4 m y C) j).2.1)),(15,.lit (.int .i64 (qt0 m (qm4 m y C) j).2.2)),(44,.lit (.int .i64 j))]) (λ_=>[]) (λj=>j<=(nL m 0).length) (λj=>(nL m 0).length-j))
 | _=>none
abbrev sNr:qc9:=qg4 true none [qi8,qd4,qd4] [qf6,qf6] (λx=>xh3 x.1 x.2.1 x.2.2.1) (λx=>((q1o x.1 x.2.1 x.2.2.1).1,(q1o x.1 x.2.1 x.2.2.1).2,()))
theorem xh4:Meets Tryz.prog 86 sNr:=by
 refine meets (snd (SpecsOk.cons xh2 (SpecsOk.cons wp2 (SpecsOk.cons q9u (SpecsOk.cons w8p (SpecsOk.nil _)))))) Tryz.func86 rfl rfl (λx=>x9d x.1 x.2.1 x.2.2.1) (λ_=>by kernel_rfl) (by decide) ?_
 rintro⟨m,y,C,⟨⟩⟩ h
 revert m y C
 intro(m:List (List Int)) (y:List Int) (C:List Int) (h:xh3 m y C)
 refine @qd9 _ (let Q0:=qm4 m y C; let Q1:=q1o m y C; w8u m y C/\∃(v0:Unit),∃(v1:Nat),Nat.le v1 Q0.length/\((true=zTo Q0 v1/\(0:Int)=(↑v1:Int)/\True)/\True)/\∀(v2:Nat),Nat.le v2 Q0.length->(decide ((↑v2:Int)<(↑Q0.length:Int))=true->((0:Int)<=(↑v2:Int)/\(↑v2:Int)<(↑Q0.length:Int))/\(zTo Q0 v2=true->fits .i64 ((↑v2:Int)+(1:Int))/\∃(v6:Nat),Nat.le v6 Q0.length/\Q0.length-v6<Q0.length-v2/\((nI Q0 v2==(0:Int))=zTo Q0 v6/\(↑v2:Int)+(1:Int)=(↑v6:Int)/\True)/\True)/\(zTo Q0 v2=false->fits .i64 ((↑v2:Int)+(1:Int))/\∃(v6:Nat),Nat.le v6 Q0.length/\Q0.length-v6<Q0.length-v2/\(false=zTo Q0 v6/\(↑v2:Int)+(1:Int)=(↑v6:Int)/\True)/\True))/\(decide ((↑v2:Int)<(↑Q0.length:Int))=false->(zTo Q0 v2=true->(0:Int)=Q1.1/\(8:Int)=Q1.2/\True)/\(zTo Q0 v2=false->((0:Int)<=(0:Int)/\(0:Int)<(↑m.length:Int))/\∃(v6:Unit),∃(v7:Nat),Nat.le v7 (nL m (0:Nat)).length/\(((-1:Int)=(qt0 m Q0 v7).1/\(0:Int)=(qt0 m Q0 v7).2.1/\(1:Int)=(qt0 m Q0 v7).2.2/\(0:Int)=(↑v7:Int)/\True)/\True)/\∀(v8:Nat),Nat.le v8 (nL m (0:Nat)).length->(decide ((↑v8:Int)<(↑(nL m (0:Nat)).length:Int))=true->wv7 m (↑v8:Int)/\qm1 (qx2 m (↑v8:Int)).1 (qx2 m (↑v8:Int)).1/\(decide ((0:Int)<qg9 (qx2 m (↑v8:Int)).1 (qx2 m (↑v8:Int)).1 (qx2 m (↑v8:Int)).1.length)=true->qm1 (qx2 m (↑v8:Int)).1 Q0/\w1h (qg9 (qx2 m (↑v8:Int)).1 Q0 (qx2 m (↑v8:Int)).1.length) (qg9 (qx2 m (↑v8:Int)).1 (qx2 m (↑v8:Int)).1 (qx2 m (↑v8:Int)).1.length) (qt0 m Q0 v8).2.1 (qt0 m Q0 v8).2.2/\(wq0 (qg9 (qx2 m (↑v8:Int)).1 Q0 (qx2 m (↑v8:Int)).1.length) (qg9 (qx2 m (↑v8:Int)).1 (qx2 m (↑v8:Int)).1 (qx2 m (↑v8:Int)).1.length) (qt0 m Q0 v8).2.1 (qt0 m Q0 v8).2.2=true->qm1 (qx2 m (↑v8:Int)).1 Q0/\fits .i64 ((↑v8:Int)+(1:Int))/\∃(v13:Nat),Nat.le v13 (nL m (0:Nat)).length/\(nL m (0:Nat)).length-v13<(nL m (0:Nat)).length-v8/\((↑v8:Int)=(qt0 m Q0 v13).1/\qg9 (qx2 m (↑v8:Int)).1 Q0 (qx2 m (↑v8:Int)).1.length=(qt0 m Q0 v13).2.1/\qg9 (qx2 m (↑v8:Int)).1 (qx2 m (↑v8:Int)).1 (qx2 m (↑v8:Int)).1.length=(qt0 m Q0 v13).2.2/\(↑v8:Int)+(1:Int)=(↑v13:Int)/\True)/\True)/\(wq0 (qg9 (qx2 m (↑v8:Int)).1 Q0 (qx2 m (↑v8:Int)).1.length) (qg9 (qx2 m (↑v8:Int)).1 (qx2 m (↑v8:Int)).1 (qx2 m (↑v8:Int)).1.length) (qt0 m Q0 v8).2.1 (qt0 m Q0 v8).2.2=false->fits .i64 ((↑v8:Int)+(1:Int))/\∃(v13:Nat),Nat.le v13 (nL m (0:Nat)).length/\(nL m (0:Nat)).length-v13<(nL m (0:Nat)).length-v8/\((qt0 m Q0 v8).1=(qt0 m Q0 v13).1/\(qt0 m Q0 v8).2.1=(qt0 m Q0 v13).2.1/\(qt0 m Q0 v8).2.2=(qt0 m Q0 v13).2.2/\(↑v8:Int)+(1:Int)=(↑v13:Int)/\True)/\True))/\(decide ((0:Int)<qg9 (qx2 m (↑v8:Int)).1 (qx2 m (↑v8:Int)).1 (qx2 m (↑v8:Int)).1.length)=false->fits .i64 ((↑v8:Int)+(1:Int))/\∃(v12:Nat),Nat.le v12 (nL m (0:Nat)).length/\(nL m (0:Nat)).length-v12<(nL m (0:Nat)).length-v8/\((qt0 m Q0 v8).1=(qt0 m Q0 v12).1/\(qt0 m Q0 v8).2.1=(qt0 m Q0 v12).2.1/\(qt0 m Q0 v8).2.2=(qt0 m Q0 v12).2.2/\(↑v8:Int)+(1:Int)=(↑v12:Int)/\True)/\True))/\(decide ((↑v8:Int)<(↑(nL m (0:Nat)).length:Int))=false->(decide ((qt0 m Q0 v8).1<(0:Int))=true->(0:Int)=Q1.1/\(10:Int)=Q1.2/\True)/\(decide ((qt0 m Q0 v8).1<(0:Int))=false->(qt0 m Q0 v8).1=Q1.1/\(0:Int)=Q1.2/\True))))) (by kernel_rfl) ?_
 try simp only[z0,z1,z2,z3,z4,z5,z6,z7,z8,z9,z10,Int.reduceEq,z11,z12,z13,z14,z15,z16,z17,z18,z19,z20,z21,z22,z23,z24,z25,z26,z27,z28,z29,z30,Int.reduceLE,Int.reduceLT,z31,z32,z33,z34,qa1]
 try simp only[qb4,qb5,qd0,z31,z32,z2,z1]
 have hm6:=h.rt.m6
 have hp:=h.pix
 have hce:∀j:Nat,j<(nL m 0).length->(qx2 m (j:Int)).1=qg6 m j:=λj hj=>by
  unfold qx2; rw[if_pos (h.nam j hj).1,Int.toNat_natCast]
 have hcp:∀j:Nat,j<(nL m 0).length->wv7 m (j:Int):=λj hj=>⟨h.rt.fit,λ_=>(h.nam j hj).2⟩
 have hzl:(qm4 m y C).length=y.length:=by simp[qm4,rtL]
 have hyl:=h.rt.ylen
 refine⟨h.rt,(),0,Nat.zero_le _,⟨rfl,rfl⟩,λk hk=>⟨λhlt=>⟨hlt,λhz=>⟨qa5 (by omega) (by omega),k+1,by omega,by omega,by rw[zTo,hz,Bool.true_and],by omega⟩,λhz=>⟨qa5 (by omega) (by omega),k+1,by omega,by omega,by rw[zTo,hz,Bool.false_and],by omega⟩⟩,λhge=>?_⟩⟩
 obtain rfl:k=(qm4 m y C).length:=by omega
 refine⟨λhz=>?_,λhz=>⟨by have:=h.one; omega,(),0,Nat.zero_le _,⟨rfl,rfl,rfl,rfl⟩,λj hj=>⟨λhlt=>?_,λhge2=>?_⟩⟩⟩
 ·have e:q1o m y C=(0,8):=by unfold q1o w8v; rw[if_pos hz]
  rw[e]; exact⟨rfl,rfl⟩
 ·rw[hce j hlt,qi7]
  have hd:=h.dot j hlt
  have hc:=h.cnd j hlt
  have hb:=w8w (m:=m) (r:=qm4 m y C) (N:=(nL m 0).length) h.cnd j (by omega)
  change wv7 m j/\_/\(0<q0p m j->_/\w1h (q0r m (qm4 m y C) j) (q0p m j) _ _/\(wq0 (q0r m (qm4 m y C) j) (q0p m j) _ _=true->_)/\(wq0 (q0r m (qm4 m y C) j) (q0p m j) _ _=false->_))/\(q0p m j<=0->_)
  refine⟨hcp j hlt,hd.2,λhpos=>⟨hd.1,⟨hc.1,hb.1,hc.2.1,hc.2.2,hb.2.1,hb.2.2⟩,λha=>⟨hd.1,qa5 (by omega) (by omega),j+1,by omega,by omega,?_⟩,λha=>⟨qa5 (by omega) (by omega),j+1,by omega,by omega,?_⟩⟩,λhneg=>⟨qa5 (by omega) (by omega),j+1,by omega,by omega,?_⟩⟩
  ·have e:qt0 m (qm4 m y C) (j+1)=((j:Int),q0r m (qm4 m y C) j,q0p m j):=by rw[qt0,if_pos ⟨hpos,ha⟩]
   rw[e]; exact⟨rfl,rfl,rfl,by omega⟩
  ·have e:qt0 m (qm4 m y C) (j+1)=qt0 m (qm4 m y C) j:=by rw[qt0,if_neg λq=>by rw[ha] at q; exact absurd q.2 (by decide)]
   rw[e]; exact⟨rfl,rfl,rfl,by omega⟩
  ·have e:qt0 m (qm4 m y C) (j+1)=qt0 m (qm4 m y C) j:=by rw[qt0,if_neg λq=>absurd q.1 (by omega)]
   rw[e]; exact⟨rfl,rfl,rfl,by omega⟩
 ·obtain rfl:j=(nL m 0).length:=by omega
  have hN:q1o m y C=if(qt0 m (qm4 m y C) (nL m 0).length).1<0 then(0,10) else((qt0 m (qm4 m y C) (nL m 0).length).1,0):=by unfold q1o w8v; rw[if_neg (by rw[hz]; decide)]
  rw[hN]
  refine⟨λq=>?_,λq=>?_⟩
  ·rw[if_pos q]; exact⟨rfl,rfl⟩
  ·rw[if_neg (by omega)]; exact⟨rfl,rfl⟩
theorem AskC.of {m:List (List Int)} {y C:List Int} (h:qq0 m y C=0):AskC m y C:=by
 have hA:=Asked.of h
 have hl:=hA.nam.len
 have h10:=hA.msk.pix10
 refine⟨hA.msk,hA.val,hA.len,λi hi=>?_,hA.nam.at_,by omega⟩
 have:=hA.at_ i hi
 omega
theorem InW.small {m:List (List Int)} {C:List Int} (hM:Mk m) (hC:InW (nL m 0).length C):Small m.length C.length C.length (qf3 m C):=by
 have hl:=hC.len
 have hlo:∀a c,a<m.length->c<C.length->(nI (nL (qf3 m C) a) c).natAbs<=1:=λa c ha hc=>by
  have h2:=qv3 m C ha hc
  unfold rowOf at h2
  rw[h2]
  have h3:=hC.at_ c hc
  have:=hM.small a ha (nI C c).toNat (by omega)
  omega
 exact⟨⟨qm8 _ _,λi hi=>by rw[qp9 _ _ _ hi,qi3]⟩,hM.rows6,Nat.le_refl _,by omega,hlo,λa c ha hc=>by have:=hlo a c ha hc; omega⟩
theorem x1e {m:List (List Int)} {C:List Int} (hM:Mk m) (hC:InW (nL m 0).length C):wo7 m C:=by
 have hl:=hC.len
 have h6:=hM.rows6
 refine⟨⟨by omega,by omega,λi hi j hj=>?_,λi hi=>⟨trivial,by simp⟩⟩,by rw[qs6]; exact q38 (hC.small hM)⟩
 rw[hM.each i hi]
 have:=hC.at_ j hj
 omega
theorem w8x {m:List (List Int)} (hM:Mk m) {j:Int} (h:0<=j/\j<(nL m 0).length):qt5 m j:=by
 have h6:=hM.rows6
 exact⟨by omega,λi hi=>by rw[hM.each i hi]; omega⟩
theorem q9x {m:List (List Int)} (hM:Mk m) {j:Int} (h:0<=j/\j<(nL m 0).length) {i:Nat} (hi:i<m.length):-1<=nI (qg6 m j.toNat) i/\nI (qg6 m j.toNat) i<=1:=by
 rw[q1l _ _ _ hi]
 exact hM.small i hi j.toNat (by omega)
theorem q4c {m:List (List Int)} (hM:Mk m) {j:Int} (h:0<=j/\j<(nL m 0).length) {b:List Int} (hl:m.length<=b.length) (hb:∀i,i<m.length->(nI b i).natAbs<=10000000000000000):qm1 (qg6 m j.toNat) b:=by
 have h6:=hM.rows6
 refine⟨by rw[qi7]; omega,by rw[qi7]; exact hl,λi hi=>?_,λi hi=>?_⟩
 ·rw[qi7] at hi; exact q9x hM h hi
 ·rw[qi7] at hi
  have:=hb i hi
  unfold qd2; omega
theorem w8y {m:List (List Int)} (hM:Mk m) {i j:Int} (h:0<=i/\i<(nL m 0).length) (hj:0<=j/\j<(nL m 0).length):qm1 (qg6 m i.toNat) (qg6 m j.toNat):=
 q4c hM h (by rw[qi7]; exact Nat.le_refl _) λk hk=>by have:=q9x hM hj hk; omega
theorem AskC.term {m:List (List Int)} {y C:List Int} (h:AskC m y C) {k i:Nat} (hk:k<(qe5 m C).length) (hi:i<m.length):(nI (qg6 m (nI (qe5 m C) k).toNat) i*((qk4 m y C).tdiv (qy7 (gP m y C) (qe5 m C).length k)*q6a (gP m y C) (qe5 m C).length k)).natAbs<=691200000000:=by
 have h1:=q9x h.msk (h.gr.inw.at_ k hk) hi
 have h2:=h.rs.mul k hk
 rw[Int.natAbs_mul]
 have h3:(nI (qg6 m (nI (qe5 m C) k).toNat) i).natAbs<=1:=by omega
 exact Nat.le_trans (Nat.mul_le_mul h3 h2) (by omega)
theorem AskC.t1 {m:List (List Int)} {y C:List Int} (h:AskC m y C):0<qk4 m y C/\qk4 m y C<=691200:=⟨(h.rs.tms _ (Nat.le_refl _)).1,(h.rs.tms _ (Nat.le_refl _)).2.1⟩
theorem AskC.yT {m:List (List Int)} {y C:List Int} (h:AskC m y C) {i:Nat} (hi:i<m.length):(nI y i*qk4 m y C).natAbs<=691200000000:=by
 have h1:=h.ybd i hi
 have h2:=h.t1
 rw[Int.natAbs_mul]
 exact Nat.le_trans (Nat.mul_le_mul h1 (show(qk4 m y C).natAbs<=691200 by omega)) (by decide)
theorem AskC.rsB {m:List (List Int)} {y C:List Int} (h:AskC m y C) {i:Nat} (hi:i<m.length) {K:Nat} (hK:K<=(qe5 m C).length):(rsE m y (qe5 m C) (gP m y C) (qk4 m y C) K i).natAbs<=4838400000000:=by
 have h6:=h.gr.n6
 have h1:=h.yT hi
 rw[we4]
 have h2:=wk3 (n:=K) (f:=λk=>nI (qg6 m (nI (qe5 m C) k).toNat) i*((qk4 m y C).tdiv (qy7 (gP m y C) (qe5 m C).length k)*q6a (gP m y C) (qe5 m C).length k)) (B:=691200000000) λk hk=>h.term (by omega) hi
 have h3:K*691200000000<=6*691200000000:=Nat.mul_le_mul_right _ (by omega)
 omega
theorem AskC.rsPre {m:List (List Int)} {y C:List Int} (h:AskC m y C):w8k m y C:=by
 have hM:=h.msk
 have hG:=h.gr
 have hR:=h.rs
 have hn6:=hG.n6
 have hm6:=hM.rows6
 have hyl:=h.ylen
 have hB:BIG=4000000000000000000:=rfl
 have ht:=h.t1
 refine⟨x1e hM h.inw,hn6,hm6,hyl,λq hq=>w8x hM (hG.inw.at_ q hq),λa b ha hb=>w8y hM (hG.inw.at_ a ha) (hG.inw.at_ b hb),λa ha=>q4c hM (hG.inw.at_ a ha) (by omega) λi hi=>by have:=h.ybd i hi; omega,w7z hG.sml,λk hk=>by have:=hR.pos k hk; show nI (nL (qa4 (qb8 m y (qe5 m C)) (qe5 m C).length).1 k) k≠0; omega,λk hk c hc=>?_,λk hk=>?_,λk hk=>?_,λk hk=>?_,λi hi=>?_,λk hk i hi=>⟨?_,?_⟩⟩
 ·have:=hR.row k hk c hc
  show qd2 BIG (nI (nL (qa4 (qb8 m y (qe5 m C)) (qe5 m C).length).1 k) c)
  unfold qd2; omega
 ·have:=hR.tms k hk
  show qd2 BIG (qh5 (qa4 (qb8 m y (qe5 m C)) (qe5 m C).length).1 (qe5 m C).length k)/\qh5 (qa4 (qb8 m y (qe5 m C)) (qe5 m C).length).1 (qe5 m C).length k≠0
  unfold qd2; omega
 ·have:=(hR.den k hk).2.1
  show qy7 (qa4 (qb8 m y (qe5 m C)) (qe5 m C).length).1 (qe5 m C).length k≠0
  omega
 ·have:=hR.mul k hk
  show qd2 BIG ((qh5 (qa4 (qb8 m y (qe5 m C)) (qe5 m C).length).1 (qe5 m C).length (qe5 m C).length).tdiv (qy7 (qa4 (qb8 m y (qe5 m C)) (qe5 m C).length).1 (qe5 m C).length k)*q6a (qa4 (qb8 m y (qe5 m C)) (qe5 m C).length).1 (qe5 m C).length k)
  unfold qd2; omega
 ·have:=h.yT (i:=i) (by omega)
  unfold qd2; omega
 ·have:=h.term (k:=k) (i:=i) hk (by omega)
  unfold qd2; omega
 ·have:=h.rsB (i:=i) (by omega) (K:=k+1) (by omega)
  unfold qd2; omega
theorem AskC.restB {m:List (List Int)} {y C:List Int} (h:AskC m y C):∀i,i<m.length->(nI (qh6 m y C) i).natAbs<=4838400000000:=λi hi=>by
 rw[we5 m y C (by rw[h.ylen]; exact hi)]
 exact h.rsB hi (Nat.le_refl _)
theorem AskC.seeB {m:List (List Int)} {y C:List Int} (h:AskC m y C) {j:Nat} (hj:j<(nL m 0).length):(q0r m (qh6 m y C) j).natAbs<=1000000000000000:=by
 have h6:=h.msk.rows6
 unfold q0r
 rw[q9q]
 have:=wk3 (n:=m.length) (f:=λi=>nI (qg6 m j) i*nI (qh6 m y C) i) (B:=4838400000000) λi hi=>by
  have h1:=q9x h.msk (j:=(j:Int)) (by omega) hi
  rw[Int.toNat_natCast] at h1
  rw[Int.natAbs_mul]
  have h3:(nI (qg6 m j) i).natAbs<=1:=by omega
  exact Nat.le_trans (Nat.mul_le_mul h3 (h.restB i hi)) (by omega)
 have h3:m.length*4838400000000<=6*4838400000000:=Nat.mul_le_mul_right _ h6
 omega
theorem ownB {m:List (List Int)} (hM:Mk m) {j:Nat} (hj:j<(nL m 0).length):0<=q0p m j/\q0p m j<=6/\(q0p m j=0↔qx1 (qg6 m j)=true):=by
 have h6:=hM.rows6
 have h1:∀i,i<m.length->-1<=nI (qg6 m j) i/\nI (qg6 m j) i<=1:=λi hi=>by
  have:=q9x hM (j:=(j:Int)) (by omega) hi
  rwa [Int.toNat_natCast] at this
 have e:q0p m j=sm m.length λi=>nI (qg6 m j) i*nI (qg6 m j) i:=by unfold q0p; rw[q9q]
 rw[e]
 refine⟨?_,?_,λh0=>?_,λh0=>?_⟩
 ·have:∀k,0<=sm k λi=>nI (qg6 m j) i*nI (qg6 m j) i:=λk=>by
   induction k with
   | zero=>exact Int.le_refl _
   | succ k ih=>rw[sm]; have:=w3q (nI (qg6 m j) k); omega
  exact this _
 ·have:=wk3 (n:=m.length) (f:=λi=>nI (qg6 m j) i*nI (qg6 m j) i) (B:=1) λi hi=>by
   rw[Int.natAbs_mul]
   have:=h1 i hi
   have h3:(nI (qg6 m j) i).natAbs<=1:=by omega
   exact Nat.le_trans (Nat.mul_le_mul h3 h3) (Nat.le_refl _)
  omega
 ·have hz:=xr7 _ h0
  unfold qx1
  rw[Bool.not_eq_true',List.any_eq_false]
  intro x hx
  obtain⟨i,hi,rfl⟩:=q5g hx
  rw[qi7] at hi
  rw[hz i hi]; decide
 ·refine sm_zero λi hi=>?_
  unfold qx1 at h0
  rw[Bool.not_eq_true',List.any_eq_false] at h0
  have:=h0 _ (q7v (l:=qg6 m j) (c:=i) (by rw[qi7]; exact hi))
  have hz:nI (qg6 m j) i=0:=by simpa using this
  rw[hz]; rfl
theorem AskC.nxPre {m:List (List Int)} {y C:List Int} (h:AskC m y C):xg9 m y C:=by
 have hM:=h.msk
 have h1:=hM.rows1
 have h10:=hM.pix10
 have hyl:=h.ylen
 refine⟨h.rsPre,by omega,by omega,λj hj=>w8x hM (by omega),λj hj=>?_,λj hj=>?_⟩
 ·have d1:=q4c hM (j:=(j:Int)) (by omega) (b:=qh6 m y C) (by rw[q4a]; omega) λi hi=>by have:=h.restB i hi; omega
  have d2:=w8y hM (i:=(j:Int)) (j:=(j:Int)) (by omega) (by omega)
  rw[Int.toNat_natCast] at d1 d2
  exact⟨d1,d2⟩
 ·have s:=h.seeB hj
  have o:=ownB hM hj
  refine⟨?_,o.1,?_⟩
  ·show qd2 1000000000000000 (q0r m (qh6 m y C) j)
   unfold qd2; omega
  ·show q0p m j<=1000
   omega
theorem q75 (m:List (List Int)) (C:List Int):∀j,j<=C.length->∀q,q<(qo2 m C j).length->∃k,k<C.length/\nI (qo2 m C j) q=nI C k
 | 0,_,q,hq=>absurd hq (Nat.not_lt_zero _)
 | j+1,hj,q,hq=>by
  rw[qo2] at hq ⊢
  split at hq
  ·rename_i hf
   rw[if_pos hf]
   rw[List.length_append,List.length_singleton] at hq
   rcases Nat.lt_succ_iff_lt_or_eq.1 hq with k | k
   ·rw[qk2 _ _ k]; exact q75 m C j (by omega) q k
   ·rw[k,ql5]; exact⟨j,by omega,rfl⟩
  ·rename_i hf
   rw[if_neg hf]
   exact q75 m C j (by omega) q hq
theorem x48 {m:List (List Int)} {C:List Int} (hM:Mk m) (hC:InW (nL m 0).length C) (h1:1<=C.length):w8t m C:=by
 have hl:=hC.len
 have h6:=hM.rows6
 refine⟨⟨by omega,by omega,λi hi j hj=>?_⟩,(q1m hM hC h1).rdOk⟩
 rw[hM.each i hi]
 have:=hC.at_ j hj
 omega
theorem w1i {m:List (List Int)} {y C:List Int} (h:AskC m y C):qk4 m y C=qw9 m y C/\∀K i,K<=(qe5 m C).length->rsE m y (qe5 m C) (gP m y C) (qk4 m y C) K i=rtE m y (gre m C) (gR m y C) (qw9 m y C) K i:=by
 have hg:=wv5 h.msk h.inw
 have hR:=h.rs
 have hl:=hR.len
 have e1:qk4 m y C=qw9 m y C:=by
  have:=(hR.tms _ (Nat.le_refl _)).2.2
  show qh5 (qa4 (qb8 m y (qe5 m C)) (qe5 m C).length).1 (qe5 m C).length (qe5 m C).length=q0q (qa6 (qb8 m y (gre m C))).1 (qa6 (qb8 m y (gre m C))).1.length
  rw[<- hg,hl]; exact this
 refine⟨e1,λK i=>?_⟩
 induction K with
 | zero=>intro _; show nI y i*qk4 m y C=nI y i*qw9 m y C; rw[e1]
 | succ K ih=>
  intro hK
  rw[rsE,rtE,ih (by omega),<- e1]
  have d:=(hR.den K (by omega)).1
  have n:=(hR.num K (by omega)).1
  have hgR:gR m y C=(qa6 (qb8 m y (qe5 m C))).1:=by rw[hg]; rfl
  have d2:qy7 (gP m y C) (qe5 m C).length K=nI (nL (gR m y C) K) K:=by rw[hgR]; exact d
  have n2:q6a (gP m y C) (qe5 m C).length K=nI (nL (gR m y C) K) (qe5 m C).length:=by rw[hgR]; exact n
  rw[d2,n2,<- hg]
  grind
theorem w8z {m:List (List Int)} {y C:List Int} (h:AskC m y C):qm4 m y C=qh6 m y C:=by
 obtain⟨e1,e2⟩:=w1i h
 have hg:=wv5 h.msk h.inw
 have hl:(gR m y C).length=(qe5 m C).length:=by
  have:=h.rs.len
  rw[hg] at this ⊢
  exact this
 unfold qm4 qh6 rtL rsL
 rw[hl]
 refine List.map_congr_left λi _=>?_
 exact(e2 _ i (Nat.le_refl _)).symm
theorem AskC.rtPre {m:List (List Int)} {y C:List Int} (h:AskC m y C) (hf:q0l m):w8u m y C:=by
 have hM:=h.msk
 have hg:=wv5 h.msk h.inw
 have hG:=h.gr
 have hR:=h.rs
 have hl:=h.inw.len
 have hyl:=h.ylen
 have hB:BIG=4000000000000000000:=rfl
 obtain⟨e1,e2⟩:=w1i h
 have ht:=h.t1
 rw[hg] at hG hR e2
 have hgl:(gR m y C).length=(gre m C).length:=hR.len
 have hd:∀k,k<(gre m C).length->0<nI (nL (gR m y C) k) k/\nI (nL (gR m y C) k) k<=691200:=λk hk=>by
  obtain⟨d1,d2,d3⟩:=hR.den k hk
  have d4:=(hR.tms _ (Nat.le_refl _)).2.1
  have d5:=(hR.tms _ (Nat.le_refl _)).1
  have:=Int.le_of_dvd d5 d3
  have e:nI (nL (gR m y C) k) k=qy7 (qa4 (qb8 m y (gre m C)) (gre m C).length).1 (gre m C).length k:=d1.symm
  omega
 have hn:∀k,k<(gre m C).length->(nI (nL (gR m y C) k) (gre m C).length).natAbs<=691200000000:=λk hk=>by
  obtain⟨d1,d2⟩:=hR.num k hk
  have e:nI (nL (gR m y C) k) (gre m C).length=q6a (qa4 (qb8 m y (gre m C)) (gre m C).length).1 (gre m C).length k:=d1.symm
  rw[e]; exact d2
 have hcs:∀k i,k<(gre m C).length->i<m.length->(nI (qg6 m (nI (gre m C) k).toNat) i).natAbs<=1:=λk i hk hi=>by
  have:=q9x hM (hG.inw.at_ k hk) hi
  omega
 refine⟨hf,λj hj=>?_,by omega,hG.n6,hM.rows6,hyl,λq hq=>⟨?_,w8x hM (hG.inw.at_ q hq)⟩,λa b ha hb=>w8y hM (hG.inw.at_ a ha) (hG.inw.at_ b hb),λa ha=>q4c hM (hG.inw.at_ a ha) (by omega) λi hi=>by have:=h.ybd i hi; omega,?_,hgl,λk hk=>hR.each k hk,λk hk=>by have:=hd k hk; omega,λk hk=>by have:=hd k hk; unfold qd2; omega,λk hk=>?_,λi hi=>?_,λk hk i hi=>?_,λk hk i hi=>⟨?_,?_⟩⟩
 ·have hgt:=q74 m C j
  refine x48 hM ⟨λq hq=>?_,by rw[List.length_append,List.length_singleton]; omega⟩ (by rw[List.length_append,List.length_singleton]; omega)
  rw[List.length_append,List.length_singleton] at hq
  rcases Nat.lt_succ_iff_lt_or_eq.1 hq with k | k
  ·rw[qk2 _ _ k]
   obtain⟨k2,h1,h2⟩:=q75 m C j (by omega) q k
   rw[h2]; exact h.inw.at_ k2 h1
  ·rw[k,ql5]; exact h.inw.at_ j hj
 ·unfold wp1
  have ha:=hG.inw.at_ q hq
  rw[if_neg (by rw[h.val]; decide),if_neg]
  rw[we6 λi hi=>?_]; decide
  have:i=0:=by simpa using hi
  subst this
  show inB (nI (gre m C) q) 0 _=true
  rw[qv1]; omega
 ·rcases Nat.eq_zero_or_pos (gre m C).length with q | q
  ·have e0:qb8 m y (gre m C)=[]:=List.length_eq_zero_iff.1 (by rw[q4b]; exact q)
   rw[e0]
   exact⟨by simp,by show 0<=1000; omega,λi hi=>absurd hi (Nat.not_lt_zero _),λi hi=>absurd hi (Nat.not_lt_zero _),λj hj=>absurd hj (Nat.not_lt_zero _)⟩
  ·exact(xk5 hG.sml q).1
 ·have:=hR.tms k hk
  have e:q0q (gR m y C) k=qh5 (qa4 (qb8 m y (gre m C)) (gre m C).length).1 (gre m C).length k:=this.2.2.symm
  rw[e]
  unfold qd2; omega
 ·have:=h.yT (i:=i) (by omega)
  rw[<- e1]
  unfold qd2; omega
 ·have h1:=hcs k i hk (by omega)
  have h2:=hn k hk
  have:(nI (qg6 m (nI (gre m C) k).toNat) i*nI (nL (gR m y C) k) (gre m C).length).natAbs<=1*691200000000:=by
   rw[Int.natAbs_mul]; exact Nat.mul_le_mul h1 h2
  unfold qd2; omega
 ·have h1:=h.term (k:=k) (i:=i) (by rw[hg]; exact hk) (by omega)
  have d:=(hR.den k hk).1
  have n:=(hR.num k hk).1
  have d2:qy7 (gP m y C) (qe5 m C).length k=nI (nL (gR m y C) k) k:=by
   have:gP m y C=(qa4 (qb8 m y (gre m C)) (gre m C).length).1:=by unfold gP; rw[hg]
   rw[this,hg]; exact d
  have n2:q6a (gP m y C) (qe5 m C).length k=nI (nL (gR m y C) k) (gre m C).length:=by
   have:gP m y C=(qa4 (qb8 m y (gre m C)) (gre m C).length).1:=by unfold gP; rw[hg]
   rw[this,hg]; exact n
  rw[d2,n2,hg,e1] at h1
  have e:nI (qg6 m (nI (gre m C) k).toNat) i*nI (nL (gR m y C) k) (gre m C).length*(qw9 m y C).tdiv (nI (nL (gR m y C) k) k)=nI (qg6 m (nI (gre m C) k).toNat) i*((qw9 m y C).tdiv (nI (nL (gR m y C) k) k)*nI (nL (gR m y C) k) (gre m C).length):=by grind
  rw[e]
  unfold qd2; omega
 ·have h1:=h.rsB (i:=i) (by omega) (K:=k+1) (by rw[hg]; omega)
  rw[hg,e2 (k+1) i (by omega)] at h1
  unfold qd2; omega
theorem AskC.nrPre {m:List (List Int)} {y C:List Int} (h:AskC m y C) (hf:q0l m):xh3 m y C:=by
 have hM:=h.msk
 have hN:=h.nxPre
 have hr:=w8z h
 refine⟨h.rtPre hf,hN.one,hN.pix,λj hj=>⟨?_,hN.col j hj⟩,λj hj=>by rw[hr]; exact hN.dot j hj,λj hj=>?_⟩
 ·unfold wp1
  rw[if_neg (by rw[h.val]; decide),if_neg]
  rw[we6 λi hi=>?_]; decide
  have:i=0:=by simpa using hi
  subst this
  show inB (j:Int) 0 _=true
  rw[qv1]; omega
 ·rw[hr]
  have s:=h.seeB hj
  have o:=ownB hM hj
  refine⟨by unfold qd2; omega,o.1,by omega⟩
theorem x1f {l:List (Int × Int × Int)} {i:Nat} (h:i<l.length):nC l i∈l:=by
 have:nC l i=l[i]:=qk5 (t:=qx0) l i h
 rw[this]; exact List.getElem_mem h
theorem w80 (l:List (Int × Int × Int)) (c:Int × Int × Int) {i:Nat} (h:i<l.length):nC (l++[c]) i=nC l i:=by
 have e1:nC (l++[c]) i=(l++[c])[i]'(by rw[List.length_append]; omega):=qk5 (t:=qx0) _ _ _
 have e2:nC l i=l[i]:=qk5 (t:=qx0) l i h
 rw[e1,e2,List.getElem_append_left h]
theorem w81 (l:List (Int × Int × Int)) (c:Int × Int × Int):nC (l++[c]) l.length=c:=by
 have e1:nC (l++[c]) l.length=(l++[c])[l.length]'(by rw[List.length_append]; exact Nat.lt_succ_self _):=qk5 (t:=qx0) _ _ _
 rw[e1,List.getElem_append_right (Nat.le_refl _)]; simp
theorem q9y (l:List (Int × Int × Int)) (c:Int × Int × Int):∀i,i<=l.length->qd7 (l++[c]) i=qd7 l i
 | 0,_=>rfl
 | i+1,hi=>by rw[qd7,qd7,q9y l c i (by omega),w80 l c (by omega)]
theorem qu4 (l:List (Int × Int × Int)):∀i,0<i->i<=l.length->qd7 l i∈l
 | 0,h,_=>absurd h (Nat.lt_irrefl _)
 | i+1,_,hi=>by
  rw[qd7]
  split
  ·exact x1f (by omega)
  ·rename_i hn
   exact qu4 l i (by omega) (by omega)
def x1g (L:List (Int × Int × Int)) (X:Int × Int × Int):Prop:=(X=(-1,0,1)/\∀c∈L,c.2.1=0)\/(X=qd7 L L.length/\(qd7 L L.length).2.1≠0/\0<L.length)
theorem w82 {m:List (List Int)} (hM:Mk m) (r:List Int):∀j,j<=(nL m 0).length->x1g (qh9 m r j) (qt0 m r j)/\∀c∈qh9 m r j,0<=c.1/\0<c.2.2
 | 0,_=>⟨.inl ⟨rfl,λc hc=>by cases hc⟩,λc hc=>by cases hc⟩
 | j+1,hj=>by
  obtain⟨ih,ih2⟩:=w82 hM r j (by omega)
  obtain⟨o1,o2,o3⟩:=ownB hM (show j<(nL m 0).length by omega)
  rw[qh9,qt0]
  by_cases hov:qx1 (qg6 m j)=true
  ·rw[if_pos hov,if_neg λq=>by have:=o3.2 hov; omega]
   exact⟨ih,ih2⟩
  ·have ho:0<q0p m j:=by
    rcases Int.lt_or_eq_of_le o1 with q | q
    ·exact q
    ·exact absurd (o3.1 q.symm) hov
   rw[if_neg hov]
   have hc:((j:Int),qg9 (qg6 m j) r m.length,qg9 (qg6 m j) (qg6 m j) m.length)=((j:Int),q0r m r j,q0p m j):=rfl
   rw[hc]
   generalize qh9 m r j=L at ih ih2 ⊢
   refine⟨?_,λc hc=>?_⟩
   ·have hB:qd7 (L++[((j:Int),q0r m r j,q0p m j)]) (L++[((j:Int),q0r m r j,q0p m j)]).length=if L.length=0\/wp9 ((j:Int),q0r m r j,q0p m j) (qd7 L L.length)=true then((j:Int),q0r m r j,q0p m j) else qd7 L L.length:=by
     rw[List.length_append,List.length_singleton,qd7,w81,q9y _ _ _ (Nat.le_refl _)]
    rcases ih with⟨x1,x2⟩ | ⟨x1,x2,x3⟩
    ·rw[x1]
     have hab:wq0 (q0r m r j) (q0p m j) 0 1=decide (q0r m r j≠0):=by
      unfold wq0
      rw[decide_eq_decide]
      have:=w3q (q0r m r j)
      constructor
      ·intro h1 h2; rw[h2] at h1; simp at h1
      ·intro h1
       have:q0r m r j*q0r m r j≠0:=qp4 h1 h1
       simp only[Int.zero_mul,Int.mul_one]; omega
     by_cases hs:q0r m r j=0
     ·left
      refine⟨if_neg λq=>?_,λc hc=>?_⟩
      ·have:=q.2
       rw[hab] at this
       exact of_decide_eq_true this hs
      ·rcases List.mem_append.1 hc with hc | hc
       ·exact x2 c hc
       ·rw[List.mem_singleton.1 hc]; exact hs
     ·right
      have hX:(if 0<q0p m j/\wq0 (q0r m r j) (q0p m j) (-1,0,1).2.1 (-1,0,1).2.2=true then((j:Int),q0r m r j,q0p m j) else(-1,0,1))=((j:Int),q0r m r j,q0p m j):=if_pos ⟨ho,by show wq0 (q0r m r j) (q0p m j) 0 1=true; rw[hab]; exact decide_eq_true hs⟩
      rw[hX,hB]
      have hbe:L.length=0\/wp9 ((j:Int),q0r m r j,q0p m j) (qd7 L L.length)=true:=by
       rcases Nat.eq_zero_or_pos L.length with q | q
       ·exact .inl q
       ·right
        have hm:=qu4 L L.length q (Nat.le_refl _)
        have z1:=x2 _ hm
        have z2:=(ih2 _ hm).2
        unfold wp9
        rw[decide_eq_true_iff,z1]
        have:=qp4 hs hs
        have h3:=w3q (q0r m r j)
        have h4:=Int.mul_pos (show 0<q0r m r j*q0r m r j by omega) z2
        simp only[Int.zero_mul]; exact h4
      rw[if_pos hbe]
      exact⟨rfl,hs,by simp⟩
    ·right
     have hm:=qu4 L L.length x3 (Nat.le_refl _)
     have z2:=(ih2 _ hm).2
     rw[x1,hB]
     have hiff:wq0 (q0r m r j) (q0p m j) (qd7 L L.length).2.1 (qd7 L L.length).2.2=wp9 ((j:Int),q0r m r j,q0p m j) (qd7 L L.length):=rfl
     rw[hiff]
     cases hb:wp9 ((j:Int),q0r m r j,q0p m j) (qd7 L L.length) with
     | true=>
      rw[if_pos ⟨ho,rfl⟩,if_pos (.inr rfl)]
      refine⟨rfl,λhs=>?_,by simp⟩
      have hs:q0r m r j=0:=hs
      unfold wp9 at hb
      rw[decide_eq_true_iff] at hb
      dsimp only at hb
      rw[hs] at hb
      have h3:=w3q (qd7 L L.length).2.1
      have h4:=Int.mul_nonneg h3 (show 0<=q0p m j by omega)
      simp only[Int.zero_mul] at hb
      omega
     | false=>
      have n1:¬(0<q0p m j/\false=true):=λq=>absurd q.2 Bool.false_ne_true
      have n2:¬(L.length=0\/false=true):=λq=>q.elim (λq=>by omega) λq=>absurd q Bool.false_ne_true
      rw[if_neg n1,if_neg n2]
      exact⟨rfl,x2,by simp⟩
   ·rcases List.mem_append.1 hc with hc | hc
    ·exact ih2 c hc
    ·rw[List.mem_singleton.1 hc]; exact⟨by show(0:Int)<=j; omega,ho⟩
theorem xh5 (r:List Int):zTo r r.length=qx1 r:=by
 have h1:∀k,zTo r k=true↔∀i,i<k->nI r i=0:=λk=>by
  induction k with
  | zero=>exact⟨λ_ i hi=>absurd hi (Nat.not_lt_zero _),λ_=>rfl⟩
  | succ k ih=>
   rw[zTo,Bool.and_eq_true,ih,beq_iff_eq]
   exact⟨λ⟨a,b⟩ i hi=>(Nat.lt_succ_iff_lt_or_eq.1 hi).elim (λq=>a i q) (λq=>by rw[q]; exact b),λa=>⟨λi hi=>a i (by omega),a k (by omega)⟩⟩
 have h2:qx1 r=true↔∀i,i<r.length->nI r i=0:=by
  unfold qx1
  rw[Bool.not_eq_true',List.any_eq_false]
  exact⟨λa i hi=>by have:=a _ (q7v hi); simpa using this,λa x hx=>by obtain⟨i,hi,rfl⟩:=q5g hx; rw[a i hi]; decide⟩
 cases e:qx1 r with
 | true=>exact(h1 _).2 (h2.1 e)
 | false=>
  rw[Bool.eq_false_iff] at e ⊢
  exact λq=>e (h2.2 ((h1 _).1 q))
theorem w83 {m:List (List Int)} (hM:Mk m) (r:List Int):q73 m r=w8v m r:=by
 obtain⟨h1,h2⟩:=w82 hM r (nL m 0).length (Nat.le_refl _)
 unfold q73 w8v
 rw[xh5]
 by_cases ho:qx1 r=true
 ·rw[if_pos ho,if_pos ho]
 ·rw[if_neg ho,if_neg ho]
  change x1g (qs9 m r) _ at h1
  change ∀c∈qs9 m r,_ at h2
  rcases h1 with⟨x1,x2⟩ | ⟨x1,x2,x3⟩
  ·rw[x1,if_pos (show((-1,0,1):Int × Int × Int).1<0 by decide),if_pos]
   rcases Nat.eq_zero_or_pos (qs9 m r).length with q | q
   ·exact .inl q
   ·exact .inr (x2 _ (qu4 _ _ q (Nat.le_refl _)))
  ·rw[x1]
   have:=(h2 _ (qu4 _ _ x3 (Nat.le_refl _))).1
   rw[if_neg (λq=>q.elim (λq=>by omega) x2),if_neg (by omega)]
theorem xt0 {m:List (List Int)} {y C:List Int} (h:AskC m y C):q1o m y C=ql2 m y C:=by
 unfold q1o ql2
 rw[w8z h,w83 h.msk]
theorem w84 {m:List (List Int)} {y C:List Int} (h:AskC m y C):(ql2 m y C).2=8\/(ql2 m y C).2=10\/((ql2 m y C).2=0/\∃j:Nat,(ql2 m y C).1=(j:Int)/\j<(nL m 0).length/\q0r m (qh6 m y C) j≠0):=by
 unfold ql2 q73
 split
 ·exact .inl rfl
 ·split
  ·exact .inr (.inl rfl)
  ·rename_i hn
   refine .inr (.inr ⟨rfl,?_⟩)
   have hl:0<(qs9 m (qh6 m y C)).length:=Nat.pos_of_ne_zero λq=>hn (.inl q)
   obtain⟨j,h1,h2⟩:=q6b (qu4 (qs9 m (qh6 m y C)) _ hl (Nat.le_refl _))
   refine⟨j,by rw[h2],h1,λq=>hn (.inr ?_)⟩
   rw[h2]; exact q
theorem AskC.snoc {m:List (List Int)} {y C:List Int} (h:AskC m y C) {j:Nat} (hj:j<(nL m 0).length) (hl:C.length+1<=100):AskC m y (C++[(j:Int)]):=by
 refine⟨h.msk,h.val,h.ylen,h.ybd,λq hq=>?_,by rw[List.length_append]; exact hl⟩
 rw[List.length_append,List.length_singleton] at hq
 rcases Nat.lt_succ_iff_lt_or_eq.1 hq with k | k
 ·rw[qk2 _ _ k]; exact h.inw.at_ q k
 ·rw[k,ql5]; omega
def w1j (m:List (List Int)) (y:List Int):Nat->List Int->List Int × Int
 | 0,C=>([],10)
 | f+1,C=>if(ql2 m y C).2=8 then(C,0) else if(ql2 m y C).2=10 then([],10) else w1j m y f (C++[(ql2 m y C).1])
def qr3 (m:List (List Int)) (y:List Int):List Int × Int:=if qq0 m y []=0 then w1j m y 8 [] else([],qq0 m y [])
structure PurI (m:List (List Int)) (y C:List Int):Prop where
 ask:AskC m y C
 ind:Ind m C
 eq:w1j m y 8 []=w1j m y (8-C.length) C
theorem PurI.start {m:List (List Int)} {y:List Int} (h:qq0 m y []=0):PurI m y []:=⟨AskC.of h,λz _ c hc=>absurd hc (Nat.not_lt_zero _),rfl⟩
theorem PurI.len {m:List (List Int)} {y C:List Int} (h:PurI m y C):C.length<=6:=by
 have:=xs0 h.ask.msk h.ask.inw h.ind
 have:=h.ask.msk.rows6
 omega
theorem PurI.unf {m:List (List Int)} {y C:List Int} (h:PurI m y C):w1j m y 8 []=if(ql2 m y C).2=8 then(C,0) else if(ql2 m y C).2=10 then([],10) else w1j m y (7-C.length) (C++[(ql2 m y C).1]):=by
 have hl:=h.len
 rw[h.eq,show 8-C.length=(7-C.length)+1 by omega,w1j]
theorem PurI.step {m:List (List Int)} {y C:List Int} (h:PurI m y C) (h1:(ql2 m y C).2≠8) (h2:(ql2 m y C).2≠10):PurI m y (C++[(ql2 m y C).1]):=by
 have hl:=h.len
 rcases w84 h.ask with q | q | ⟨q,j,e,hj,hs⟩
 ·exact absurd q h1
 ·exact absurd q h2
 ·have hs2:(sm m.length λi=>nI (nL m i) j*nI (qh6 m y C) i)≠0:=by
   unfold q0r at hs
   rw[q9q] at hs
   rw[<- qc7 (f:=λi=>nI (qg6 m j) i*nI (qh6 m y C) i) λi hi=>by rw[q1l _ _ _ hi]]
   exact hs
  have hn:=h.ask.new h.ind hs2
  rw[e]
  refine⟨h.ask.snoc hj (by omega),hn,?_⟩
  rw[h.unf,if_neg h1,if_neg h2,e,List.length_append,List.length_singleton]
  congr 1
  omega
theorem PurI.all {m:List (List Int)} {y:List Int}:∀d C,PurI m y C->C.length+d=7->((w1j m y 8 []).2=0/\PurI m y (w1j m y 8 []).1/\(ql2 m y (w1j m y 8 []).1).2=8)\/w1j m y 8 []=([],10)
 | 0,C,h,hd=>by have:=h.len; omega
 | d+1,C,h,hd=>by
  by_cases h1:(ql2 m y C).2=8
  ·have e:=h.unf
   rw[if_pos h1] at e
   left
   rw[e]
   exact⟨rfl,h,h1⟩
  ·by_cases h2:(ql2 m y C).2=10
   ·have e:=h.unf
    rw[if_neg h1,if_pos h2] at e
    exact .inr e
   ·exact PurI.all d _ (h.step h1 h2) (by rw[List.length_append,List.length_singleton]; omega)
def InjL (l:List Int):Prop:=∀a b,a<l.length->b<l.length->nI l a=nI l b->a=b
def x1r (A B:List Int):Prop:=∀k,k<A.length->∃q,q<B.length/\nI B q=nI A k
theorem x1h {A B:List Int} (hin:x1r A B) (hB:InjL B) (g:Int->Int) (t:Nat->Int):(sm A.length λk=>g (nI A k)*t k)=sm B.length λq=>g (nI B q)*sm A.length λk=>if nI A k=nI B q then t k else 0:=by
 have e:(sm B.length λq=>g (nI B q)*sm A.length λk=>if nI A k=nI B q then t k else 0)=sm B.length λq=>sm A.length λk=>g (nI B q)*(if nI A k=nI B q then t k else 0):=qc7 λq _=>by rw[<- qi2]
 rw[e,q2y]
 refine qc7 λk hk=>?_
 obtain⟨q,hq,hqe⟩:=hin k hk
 rw[qo5 hq λi hi hne=>by
  try dsimp only
  rw[if_neg λh=>hne (hB i q hi hq (by rw[hqe,h])),Int.mul_zero]]
 try dsimp only
 rw[if_pos hqe.symm,hqe]
theorem Ind.inj {m:List (List Int)} {C:List Int} (h:Ind m C):InjL C:=by
 intro a b ha hb e
 refine Classical.byContradiction λhne=>?_
 have h1:=h (λc=>if c=a then 1 else if c=b then -1 else 0) (λi hi=>by
  rw[q5b (k:=a) (l:=b) ha hb (λq=>hne q) λc hc h1 h2=>by(try dsimp only); rw[if_neg h1,if_neg h2,Int.mul_zero]]
  try dsimp only
  rw[if_pos rfl,if_neg (λq=>hne q.symm),if_pos rfl,e]
  omega) a ha
 try dsimp only at h1
 rw[if_pos rfl] at h1
 exact absurd h1 (by decide)
theorem Ind.sub {m:List (List Int)} {C S:List Int} (h:Ind m C) (hin:x1r S C) (hS:InjL S):Ind m S:=by
 intro z hz c hc
 obtain⟨k,hk,e⟩:=hin c hc
 have h1:=h (λk=>sm S.length λq=>if nI S q=nI C k then z q else 0) (λi hi=>((x1h hin h.inj (λv=>nI (nL m i) v.toNat) z).symm.trans (hz i hi))) k hk
 try dsimp only at h1
 rw[qo5 hc λq hq hne=>if_neg λh2=>hne (hS q c hq hc (by rw[h2,e])),if_pos e.symm] at h1
 exact h1
def qv6 (l:List Int):List Int:=l.mergeSort λx y=>decide (x<=y)
theorem we7 (l:List Int):(qv6 l).length=l.length:=by simp[qv6]
theorem q8g {l:List Int} {x:Int}:x∈l↔∃q,q<l.length/\nI l q=x:=by
 refine⟨λh=>?_,λ⟨q,hq,e⟩=>by rw[<- e,qg1 _ _ hq]; exact List.getElem_mem hq⟩
 obtain⟨q,hq,e⟩:=List.mem_iff_getElem.1 h
 exact⟨q,hq,by rw[qg1 _ _ hq,e]⟩
theorem q6c {l:List Int} {x:Int}:x∈qv6 l↔x∈l:=(List.mergeSort_perm l _).mem_iff
theorem InjL.nodup {l:List Int} (h:InjL l):l.Nodup:=by
 rw[List.Nodup,List.pairwise_iff_getElem]
 intro i j hi hj hij e
 have:=h i j hi hj (by rw[qg1 _ _ hi,qg1 _ _ hj,e])
 omega
theorem w85 (l:List Int):(qv6 l).Pairwise λx y=>x<=y:=(List.pairwise_mergeSort (le:=λx y:Int=>decide (x<=y)) (λa b c h1 h2=>by simp only[decide_eq_true_eq] at *; omega) (λa b=>by simp; omega) l).imp λq=>by simpa using q
theorem xh6 {l:List Int} (h:InjL l):∀i j,i<j->j<(qv6 l).length->nI (qv6 l) i<nI (qv6 l) j:=by
 intro i j hij hj
 have hn:(qv6 l).Nodup:=(List.mergeSort_perm l _).nodup_iff.2 h.nodup
 rw[List.Nodup,List.pairwise_iff_getElem] at hn
 have h1:=hn i j (by omega) hj hij
 have h2:=List.pairwise_iff_getElem.1 (w85 l) i j (by omega) hj hij
 rw[qg1 _ _ (by omega),qg1 _ _ hj]
 omega
theorem xt1 {l:List Int} (h:∀i j,i<j->j<l.length->nI l i<nI l j):InjL l:=by
 intro a b ha hb e
 rcases Nat.lt_trichotomy a b with q | q | q
 ·have:=h a b q hb; omega
 ·exact q
 ·have:=h b a q ha; omega
def qq1 (C:List Int):Nat->List Int
 | 0=>[]
 | j+1=>if(j:Int)∈C then qq1 C j++[(j:Int)] else qq1 C j
theorem q76 (C:List Int) (x:Int):∀n,x∈qq1 C n↔x∈C/\0<=x/\x<n
 | 0=>by simp only[qq1,List.not_mem_nil,false_iff]; omega
 | n+1=>by
  have ih:=q76 C x n
  rw[qq1]
  split
  ·rename_i h
   rw[List.mem_append,ih,List.mem_singleton]
   constructor
   ·rintro(⟨a,b,c⟩ | rfl)
    ·exact⟨a,b,by omega⟩
    ·exact⟨h,by omega,by omega⟩
   ·rintro⟨a,b,c⟩
    rcases Int.lt_or_le x n with q | q
    ·exact .inl ⟨a,b,q⟩
    ·exact .inr (by omega)
  ·rename_i h
   rw[ih]
   constructor
   ·rintro⟨a,b,c⟩; exact⟨a,b,by omega⟩
   ·rintro⟨a,b,c⟩
    refine⟨a,b,?_⟩
    rcases Int.lt_or_le x n with q | q
    ·exact q
    ·exact absurd (by rw[show(n:Int)=x by omega]; exact a) h
theorem wp3 (C:List Int):∀n,(qq1 C n).length<=n
 | 0=>by simp[qq1]
 | n+1=>by
  have:=wp3 C n
  rw[qq1]; split
  ·rw[List.length_append,List.length_singleton]; omega
  ·omega
theorem we8 (C:List Int):∀n,(qq1 C n).Pairwise λx y=>x<y
 | 0=>List.Pairwise.nil
 | n+1=>by
  have ih:=we8 C n
  rw[qq1]; split
  ·rw[List.pairwise_append]
   refine⟨ih,List.pairwise_singleton _ _,λa ha b hb=>?_⟩
   rw[List.mem_singleton.1 hb]
   exact((q76 C a n).1 ha).2.2
  ·exact ih
theorem w86 {C:List Int} {n:Nat} (h:InjL C) (hb:∀j,j<C.length->0<=nI C j/\nI C j<n):qq1 C n=qv6 C:=by
 refine List.Perm.eq_of_pairwise (le:=λx y:Int=>x<=y) (λa b _ _ h1 h2=>by omega) ((we8 C n).imp λq=>Int.le_of_lt q) (w85 C) ?_
 have hn:(qq1 C n).Nodup:=(we8 C n).imp λq=>Int.ne_of_lt q
 have hn2:(qv6 C).Nodup:=(List.mergeSort_perm C _).nodup_iff.2 h.nodup
 rw[List.perm_ext_iff_of_nodup hn hn2]
 intro a
 rw[q76,q6c]
 refine⟨λq=>q.1,λq=>⟨q,?_⟩⟩
 obtain⟨k,hk,e⟩:=q8g.1 q
 rw[<- e]
 exact hb k hk
theorem w87 {r:List Int} (h:qx1 r=true) (i:Nat) (hi:i<r.length):nI r i=0:=by
 unfold qx1 at h
 rw[Bool.not_eq_true',List.any_eq_false] at h
 have:=h (nI r i) (by rw[qg1 _ _ hi]; exact List.getElem_mem hi)
 simpa using this
structure GrdOk (m:List (List Int)) (y S:List Int):Prop where
 chk:qq0 m y S=0
 nam:Named (nL m 0).length S
 pivs:(qz0 m S y).2.length=S.length
 id:∀k,k<S.length->nI (qz0 m S y).2 k=k
 no:q31 (qz0 m S y).1 (qz0 m S y).2 S.length=false
 sol:q4t m S y=((List.range S.length).map (w65 (qz0 m S y).1 (qz0 m S y).2 S.length),0)
 ok:xz5 m S y
theorem w88 {m:List (List Int)} {y S:List Int} (h:qq0 m y []=0) (hS:Named (nL m 0).length S):qq0 m y S=0:=by
 have hA:=Asked.of h
 have ha:w2v S=true:=q50.2 λi h0 hi=>hS.asc (i-1) i (by omega) hi
 have hb:(S.any λp=>!(inB p 0 ((nL m 0).length-1)))=false:=by
  rw[List.any_eq_false]
  intro x hx
  obtain⟨q,hq,e⟩:=q8g.1 hx
  have:=hS.at_ q hq
  rw[e] at this
  have:inB x 0 ((nL m 0).length-1)=true:=qv1.2 ⟨this.1,by omega⟩
  simp[this]
 simp[qq0,hA.val,hA.len,hA.out,w0v,q5d,ha,hb]
theorem PurI.named {m:List (List Int)} {y C:List Int} (h:PurI m y C):Named (nL m 0).length (qv6 C):=
 ⟨λj hj=>by
  obtain⟨k,hk,e⟩:=q8g.1 (q6c.1 (q8g.2 ⟨j,hj,rfl⟩))
  rw[<- e]; exact h.ask.inw.at_ k hk,xh6 h.ind.inj⟩
theorem GrdOk.of {m:List (List Int)} {y S:List Int} (h0:qq0 m y []=0) (hN:Named (nL m 0).length S) (hI:Ind m S) (hz:∃z:Nat->Int,(∀a,a<m.length->(sm S.length λc=>nI (nL m a) (nI S c).toNat*z c)+nI y a*z S.length=0)/\z S.length≠0):GrdOk m y S/\∀z:Nat->Int,(∀a,a<m.length->(sm S.length λc=>nI (nL m a) (nI S c).toNat*z c)+nI y a*z S.length=0)->∀k,k<S.length->0<nI (nL (qz0 m S y).1 k) k/\nI (nL (qz0 m S y).1 k) k*z k+nI (nL (qz0 m S y).1 k) S.length*z S.length=0:=by
 have hc:=w88 h0 hN
 have hA:=Asked.of hc
 have hSm:=q1k hA
 have hst:=qn8 hSm.toMat S.length (by omega)
 have hat:∀a,a<m.length->∀c,c<S.length->rowOf (qc8 m S y) a c=nI (nL m a) (nI S c).toNat:=λa ha c hc=>by
  unfold rowOf
  rw[q2f m S y a ha,qp9 m S a ha,qk2 _ _ (by rw[qi3]; exact hc),q0h _ _ _ hc]
 have hlast:∀a,a<m.length->rowOf (qc8 m S y) a S.length=nI y a:=λa ha=>by
  unfold rowOf
  rw[q2f m S y a ha,qp9 m S a ha,show S.length=(qm3 (nL m a) S).length by rw[qi3],ql5]
 have hsl:∀z:Nat->Int,(∀a,a<m.length->(sm S.length λc=>nI (nL m a) (nI S c).toNat*z c)+nI y a*z S.length=0)->Sol m.length (S.length+1) (rowOf (qc8 m S y)) z:=λz h a ha=>by
  rw[sm,hlast a ha,<- h a ha]
  congr 1
  exact qc7 λc hc=>by rw[hat a ha c hc]
 have hAs:Asc S.length (qa4 (qc8 m S y) S.length).2:=⟨λq hq=>⟨(hst.pos q hq).1,(hst.pos q hq).2.1⟩,hst.asc⟩
 have hP:(qa4 (qc8 m S y) S.length).2.length=S.length:=by
  rcases Nat.lt_or_ge (qa4 (qc8 m S y) S.length).2.length S.length with q | q
  ·exfalso
   obtain⟨f,hf,hnp⟩:=Asc.free q
   obtain⟨z,z1,z2,z3⟩:=hst.free (by omega) (f:=f) (by omega) hnp λi h1 h2=>hst.zero i h1 h2 f hf
   have zN:z S.length=0:=z3 _ (by omega) (by omega) λq hq=>by have:=(hst.pos q hq).2.1; omega
   refine z2 (hI z (λi hi=>?_) f hf)
   have:=z1 i hi
   rw[sm,zN,Int.mul_zero,Int.add_zero] at this
   rw[<- this]
   exact qc7 λc hc=>by rw[hat i hi c hc]
  ·have:=hAs.le; omega
 obtain⟨z,z1,z2⟩:=hz
 have hno:q31 (qa4 (qc8 m S y) S.length).1 (qa4 (qc8 m S y) S.length).2 S.length=false:=by
  unfold q31
  rw[List.any_eq_false]
  intro k hk
  have hk:k<m.length:=by have:=List.mem_range.1 hk; have:=hst.len; omega
  intro hb
  simp only[Bool.and_eq_true,decide_eq_true_eq,bne_iff_ne] at hb
  have:=(hst.sol z).1 (hsl z z1) k hk
  unfold dt at this
  rw[sm,sm_zero λc hc=>by rw[hst.zero k hb.1 hk c hc,Int.zero_mul],Int.zero_add] at this
  rcases Int.mul_eq_zero.1 this with q | q
  ·exact hb.2 q
  ·exact z2 q
 have hsol:q4t m S y=((List.range S.length).map (w65 (qz0 m S y).1 (qz0 m S y).2 S.length),0):=by
  rw[q4t,if_pos hc,w33]
  show(if q31 (qa4 (qc8 m S y) S.length).1 (qa4 (qc8 m S y) S.length).2 S.length=true then _ else _)=_
  rw[if_neg (by rw[hno]; decide)]
  show(if(qa4 (qc8 m S y) S.length).2.length<S.length then _ else _)=_
  rw[if_neg (by omega)]
  show((List.range (qa4 (qc8 m S y) S.length).2.length).map _,_)=_
  rw[hP]
 have h10:=hA.msk.pix10
 have hpl:=hA.nam.len
 refine⟨⟨hc,hN,hP,λk hk=>hAs.id hP hk,hno,hsol,(xk6 (y:=y) (m:=m) (pix:=S) (by omega)).ok hc⟩,λz hz k hk=>?_⟩
 have hp:=hst.pos k (by omega)
 rw[hAs.id hP hk,Int.toNat_natCast] at hp
 refine⟨hp.2.2.1,?_⟩
 have hpl2:=hst.pl
 have h1:=(hst.sol z).1 (hsl z hz) k (by omega)
 unfold dt at h1
 rw[q5b (k:=k) (l:=S.length) (by omega) (by omega) (by omega) λc hc h1 h2=>by
  try dsimp only
  have hp2:=(hst.pos c (by omega)).2.2.2.2 k (by omega) (by omega)
  rw[hAs.id hP (by omega),Int.toNat_natCast] at hp2
  rw[hp2,Int.zero_mul]] at h1
 exact h1
theorem PurI.rest0 {m:List (List Int)} {y C:List Int} (h:PurI m y C) (h8:(ql2 m y C).2=8):∀i,i<m.length->nI (qh6 m y C) i=0:=λi hi=>by
 refine w87 ?_ i (by rw[q4a,h.ask.ylen]; exact hi)
 unfold ql2 q73 at h8
 split at h8
 ·assumption
 ·split at h8
  ·exact absurd (show(10:Int)=8 from h8) (by decide)
  ·exact absurd (show(0:Int)=8 from h8) (by decide)
theorem PurI.rsum {m:List (List Int)} {y C:List Int} (h:PurI m y C):0<qk4 m y C/\∃t:Nat->Int,∀i,i<m.length->nI (qh6 m y C) i=nI y i*qk4 m y C-sm C.length λk=>nI (nL m i) (nI C k).toNat*t k:=by
 have hid:=w8g h.ask.msk h.ask.inw h.ind
 have ht:=h.ask.rs.tms (qe5 m C).length (Nat.le_refl _)
 have h1:0<qk4 m y C:=ht.1
 refine⟨h1,λk=>(qk4 m y C).tdiv (qy7 (gP m y C) C.length k)*q6a (gP m y C) C.length k,λi hi=>?_⟩
 rw[we5 m y C (by rw[h.ask.ylen]; exact hi),we4,hid]
 congr 1
 exact qc7 λk hk=>by rw[q1l _ _ _ hi]
theorem PurI.grd {m:List (List Int)} {y C:List Int} (h:PurI m y C) (h0:qq0 m y []=0) (h8:(ql2 m y C).2=8):GrdOk m y (qv6 C):=by
 have hN:=h.named
 have hinj:=xt1 hN.asc
 have hSC:x1r (qv6 C) C:=λk hk=>q8g.1 (q6c.1 (q8g.2 ⟨k,hk,rfl⟩))
 have hCS:x1r C (qv6 C):=λk hk=>q8g.1 (q6c.2 (q8g.2 ⟨k,hk,rfl⟩))
 refine(GrdOk.of h0 hN (h.ind.sub hSC hinj) ?_).1
 have hrest:=h.rest0 h8
 obtain⟨hT,t,ht⟩:=h.rsum
 generalize qv6 C=S at *
 generalize qk4 m y C=T at *
 refine⟨λc=>if c<S.length then sm C.length λk=>if nI C k=nI S c then t k else 0 else-T,λa ha=>?_,by(try dsimp only); rw[if_neg (Nat.lt_irrefl _)]; omega⟩
 try dsimp only
 have hy:=ht a ha
 rw[hrest a ha] at hy
 rw[if_neg (Nat.lt_irrefl _),show nI y a * -T=-(nI y a*T) by rw[Int.mul_neg]]
 have e:=x1h hCS hinj (λv=>nI (nL m a) v.toNat) t
 try dsimp only at e
 rw[e] at hy
 have:(sm S.length λc=>nI (nL m a) (nI S c).toNat*(if c<S.length then sm C.length λk=>if nI C k=nI S c then t k else 0 else-T))=sm S.length λq=>nI (nL m a) (nI S q).toNat*sm C.length λk=>if nI C k=nI S q then t k else 0:=qc7 λc hc=>by rw[if_pos hc]
 rw[this]
 omega
end Go.Proofs.YtmijnbjlhnpokaaGreat
set_option linter.unusedSimpArgs false
namespace Go.Proofs.YtmijnbjlhnpokaaGreat
open Go Go.RowKit Eng
def x49 (m:List (List Int)) (y:List Int):Nat->Option Inv
 | 0=>some (Inv.of [] 2 (λC:List Int=>[]) (λC=>[.box 109 (.cons (.dat (.list (.int .i64)) m) (.cons (.dat (.int .i64) y) (.cons (.own 1) .nil))),.vec 3 (.int .i64) C]) (λC=>PurI m y C) (λC=>7-C.length))
 | _=>none
def x5b (m:List (List Int)) (y:List Int):Nat->Option Inv
 | 0=>some (Inv.of [7] 1 (λC:List Int=>[(7,.own 0)]) (λC=>[.vec 3 (.int .i64) C]) (λC=>PurI m y C) (λC=>7-C.length))
 | _=>none
abbrev x9e:qc9:=qg4 true none [qi8,qd4] [qd4,qf6] (λx=>q0l x.1) (λx=>((qr3 x.1 x.2.1).1,(qr3 x.1 x.2.1).2,()))
theorem wp4:Meets Tryz.prog 38 x9e:=by
 refine meets (snd (SpecsOk.cons wt4 (SpecsOk.cons xh4 (SpecsOk.nil _)))) Tryz.func38 rfl rfl (λx=>x5b x.1 x.2.1) (λ_=>by kernel_rfl) (by decide) ?_
 rintro⟨m,y,⟨⟩⟩ h
 revert m y
 intro(m:List (List Int)) (y:List Int) (h:q0l m)
 refine @qd9 _ (let Q0:=qr3 m y; q0l m/\((q1d m y != (0:Int))=true->Q0.1=[]/\q1d m y=Q0.2/\True)/\((q1d m y != (0:Int))=false->∃(v1:Unit),∃(v2:List Int),PurI m y v2/\((True/\True)/\v2=[]/\True)/\∀(v3:List Int),PurI m y v3->xh3 m y v3/\(((q1o m y v3).2==(8:Int))=true->v3=Q0.1/\(0:Int)=Q0.2/\True)/\(((q1o m y v3).2==(8:Int))=false->(((q1o m y v3).2 != (0:Int))=true->Q0.1=[]/\(q1o m y v3).2=Q0.2/\True)/\(((q1o m y v3).2 != (0:Int))=false->((0:Nat)<List.length [(q1o m y v3).1]/\Nat.le (v3.length+List.length [(q1o m y v3).1]) (1000000:Nat))/\∃(v7:List Int),PurI m y v7/\(7:Nat)-v7.length<(7:Nat)-v3.length/\(True/\True)/\v3++[(q1o m y v3).1]=v7/\True)))) (by kernel_rfl) ?_
 try simp only[z0,z1,z2,z3,z4,z5,z6,z7,z8,z9,z10,Int.reduceEq,z11,z12,z13,z14,z15,z16,z17,z18,z19,z20,z21,z22,z23,z24,z25,z26,z27,z28,z29,z30,Int.reduceLE,Int.reduceLT,z31,z32,z33,z34,qa1]
 try simp only[qb4,qb5,qd0,z31,z32,z2,z1]
 have hc:q1d m y=0->qq0 m y []=0:=λhe=>(wd9 (pix:=[]) he).1
 refine⟨h,λhe=>?_,λhe=>⟨(),[],PurI.start (hc he),rfl,λC hC=>?_⟩⟩
 ·have e:=w7t (pix:=[]) he
  unfold qr3; rw[if_neg (by rw[e]; exact he),e]; exact⟨rfl,rfl⟩
 ·have hR:qr3 m y=w1j m y 8 []:=by unfold qr3; rw[if_pos (hc he)]
  have hu:=hC.unf
  have hl:=hC.len
  rw[xt0 hC.ask]
  refine⟨hC.ask.nrPre h,λh1=>?_,λh1=>⟨λh2=>?_,λh2=>⟨by omega,_,hC.step h1 (by rw[h2]; decide),?_,rfl⟩⟩⟩
  ·rw[hR,hu,if_pos h1]; exact⟨rfl,rfl⟩
  ·have h3:(ql2 m y C).2=10:=by
    rcases w84 hC.ask with q | q | ⟨q,_⟩
    ·exact absurd q h1
    ·exact q
    ·exact absurd q h2
   rw[hR,hu,if_neg h1,if_pos h3]; exact⟨rfl,h3⟩
  ·rw[List.length_append,List.length_singleton]; omega
end Go.Proofs.YtmijnbjlhnpokaaGreat
