/- The rest of a reading after some columns, by the reference: contracts by the engine. No condition. -/
import Derived.Test.YtmijnbjlhnpokaaGreatQ7
import Derived.Test.YtmijnbjlhnpokaaGreatEngT2
import Derived.Test.YtmijnbjlhnpokaaGreatW5
import Derived.Test.YtmijnbjlhnpokaaGreatZ8
set_option linter.unusedVariables false
set_option linter.unusedSimpArgs false
namespace Go.Proofs.YtmijnbjlhnpokaaGreat
open Go Go.RowKit Eng
def x0g (n:Nat) (p:List Int):Bool:=p.any λj=>!(inB j 0 ((n:Int)-1))
theorem xo9 {n:Nat} {p:List Int} {k:Nat} (hk:k<p.length) (h:inB (nI p k) 0 ((n:Int)-1)=false):x0g n p=true:=
 List.any_eq_true.2 ⟨nI p k,q7f hk,by rw[h]; rfl⟩
theorem wd6 {n:Nat} {p:List Int} (h:∀i,i<p.length->inB (nI p i) 0 ((n:Int)-1)=true):x0g n p=false:=by
 unfold x0g
 rw[List.any_eq_false]
 intro x hx
 obtain⟨i,hi,rfl⟩:=List.mem_iff_getElem.1 hx
 have:=h i hi
 rw[qh2 _ _ hi] at this
 rw[this]; simp
def wn5 (m:List (List Int)) (p:List Int):Int:=if qe6 m=false then 1 else if x0g (nL m 0).length p=true then 5 else 0
structure xd1 (n:Nat) (p:List Int) (k:Nat):Prop where
 le:k<=p.length
 ok:∀i,i<k->inB (nI p i) 0 ((n:Int)-1)=true
def xz1 (n:Nat) (p:List Int):Nat->Option Inv
 | 0=>some (Inv.of [12] 0 (λk:Nat=>[(12,.lit (.int .i64 k))]) (λ_=>[]) (λk=>xd1 n p k) (λk=>p.length-k))
 | _=>none
abbrev x3s:qc7:=qg0 true none [qk2,qd4] [qf8] (λx=>q1u x.1/\x.2.1.length<=9223372036854775807) (λx=>(wn5 x.1 x.2.1,()))
theorem w29:Meets Tryz.prog 87 x3s:=by
 refine meets (snd (SpecsOk.cons wc1 (SpecsOk.cons qz0 (SpecsOk.nil _)))) Tryz.func87 rfl rfl (λx=>xz1 (nL x.1 0).length x.2.1) (λ_=>by kernel_rfl) (by decide) ?_
 rintro⟨m,p,⟨⟩⟩ h
 revert m p
 intro(m:List (List Int)) (p:List Int) (h:q1u m/\p.length<=9223372036854775807)
 refine @qe0 _ (q1u m/\((!qe6 m)=true->(1:Int)=wn5 m p)/\((!qe6 m)=false->∃(v1:Unit),∃(v2:Nat),xd1 (nL m (0:Nat)).length p v2/\(((0:Int)=(↑v2:Int)/\True)/\True)/\∀(v3:Nat),xd1 (nL m (0:Nat)).length p v3->(decide ((↑v3:Int)<(↑p.length:Int))=true->((0:Int)<=(↑v3:Int)/\(↑v3:Int)<(↑p.length:Int))/\((0:Int)<=(0:Int)/\(0:Int)<(↑m.length:Int))/\fits .i64 ((↑(nL m (0:Nat)).length:Int)-(1:Int))/\True/\((!inB (nI p v3) (0:Int) ((↑(nL m (0:Nat)).length:Int)-(1:Int)))=true->(5:Int)=wn5 m p)/\((!inB (nI p v3) (0:Int) ((↑(nL m (0:Nat)).length:Int)-(1:Int)))=false->fits .i64 ((↑v3:Int)+(1:Int))/\∃(v7:Nat),xd1 (nL m (0:Nat)).length p v7/\p.length-v7<p.length-v3/\((↑v3:Int)+(1:Int)=(↑v7:Int)/\True)/\True))/\(decide ((↑v3:Int)<(↑p.length:Int))=false->(0:Int)=wn5 m p))) (by kernel_rfl) ?_
 try simp only[z0,z1,z2,z3,z4,z5,z6,z7,z8,z9,z10,Int.reduceEq,z11,z12,z13,z14,z15,z16,z17,z18,z19,z20,z21,z22,z23,z24,z25,z26,z27,z28,z29,z30,Int.reduceLE,Int.reduceLT,z31,z32,z33,z34,qa1]
 try simp only[qb4,qb5,qc8,z31,z32,z2,z1]
 refine⟨h.1,λq=>by unfold wn5; rw[if_pos q],λq=>⟨(),0,⟨Nat.zero_le _,λi hi=>by omega⟩,rfl,λk hk=>⟨λhlt=>?_,λhge=>?_⟩⟩⟩
 ·have hM:=Mk.of q
  have h10:=hM.pix10
  have h1:=hM.rows1
  refine⟨hlt,by omega,qa7 (by omega) (by omega),λhf=>?_,λht=>⟨qa7 (by omega) (by omega),k+1,⟨hlt,λi hi=>?_⟩,by omega,by push_cast; rfl⟩⟩
  ·unfold wn5
   rw[if_neg (by rw[q]; decide),if_pos (xo9 hlt hf)]
  ·by_cases e:i=k
   ·subst e; exact ht
   ·exact hk.ok i (by omega)
 ·have hle:=hk.le
  unfold wn5
  rw[if_neg (by rw[q]; decide),if_neg (by rw[wd6 λi hi=>hk.ok i (by omega)]; decide)]
theorem q9k:Meets Tryz.prog 84 wb7:=by
 refine meets (snd (SpecsOk.nil _)) Tryz.func84 rfl rfl (λx=>xv4 x.1 x.2.1) (λ_=>by kernel_rfl) (by decide) ?_
 rintro⟨a,b,⟨⟩⟩ h
 revert a b
 intro(a:Int) (b:Int) (h:(-BIG<=a/\a<=BIG)/\-BIG<=b/\b<=BIG)
 refine @qe0 _ (∃(v0:Unit),∃(v1:Int × Int),(qd0 BIG v1.1/\qd0 BIG v1.2/\qd7 v1.1 v1.2=qd7 a b)/\((a=v1.1/\b=v1.2/\True)/\True)/\∀(v2:Int × Int),qd0 BIG v2.1/\qd0 BIG v2.2/\qd7 v2.1 v2.2=qd7 a b->((v2.2 != (0:Int))=true->v2.2≠(0:Int)/\∃(v5:Int × Int),(qd0 BIG v5.1/\qd0 BIG v5.2/\qd7 v5.1 v5.2=qd7 a b)/\Int.natAbs v5.2<Int.natAbs v2.2/\(v2.2=v5.1/\Int.tmod v2.1 v2.2=v5.2/\True)/\True)/\((v2.2 != (0:Int))=false->fits .i64 ((0:Int)-v2.1)/\max2 true v2.1 ((0:Int)-v2.1)=qd7 a b)) (by kernel_rfl) ?_
 try simp only[z0,z1,z2,z3,z4,z5,z6,z7,z8,z9,z10,Int.reduceEq,z11,z12,z13,z14,z15,z16,z17,z18,z19,z20,z21,z22,z23,z24,z25,z26,z27,z28,z29,z30,Int.reduceLE,Int.reduceLT,z31,z32,z33,z34,qa1]
 try simp only[qb4,qb5,qc8,z31,z32,z2,z1]
 refine⟨(),(a,b),⟨h.1,h.2,rfl⟩,⟨rfl,rfl⟩,?_⟩
 rintro⟨x,y⟩ ⟨h1,h2,h3⟩
 dsimp only at h1 h2 h3 ⊢
 have hB:BIG=4000000000000000000:=rfl
 refine⟨λhy=>⟨hy,(y,x.tmod y),⟨h2,?_,(wk9 x y).trans h3⟩,?_,rfl,rfl⟩,λhy=>?_⟩
 ·have:(x.tmod y).natAbs<=x.natAbs:=by rw[Int.natAbs_tmod]; exact Nat.mod_le _ _
  unfold qd0 at h1 ⊢
  dsimp only
  omega
 ·dsimp only
  rw[Int.natAbs_tmod]
  exact Nat.mod_lt _ (by omega)
 ·subst hy
  unfold qd0 at h1
  refine⟨qa7 (by omega) (by omega),?_⟩
  rw[<- h3]
  show max x (0-x)=((Int.gcd x 0:Nat):Int)
  rw[Int.gcd_zero_right]
  omega
abbrev x7k:qc7:=qg0 true none [qk2,qf8] [qd4] (λx=>qs4 x.1 x.2.1) (λx=>(qg2 x.1 x.2.1.toNat,()))
def x3t (m:List (List Int)) (j:Nat):Nat->Option Inv
 | 0=>some (Inv.of [5,10] 1 (λk:Nat=>[(5,.own 0),(10,.lit (.int .i64 k))]) (λk=>[.vec 3 (.int .i64) ((qg2 m j).take k)]) (λk=>k<=m.length) (λk=>m.length-k))
 | _=>none
theorem w71:Meets Tryz.prog 88 x7k:=by
 refine meets (snd (SpecsOk.nil _)) Tryz.func88 rfl rfl (λx=>x3t x.1 x.2.1.toNat) (λ_=>by kernel_rfl) (by decide) ?_
 rintro⟨m,j,⟨⟩⟩ h
 revert m j
 intro(m:List (List Int)) (j:Int) (h:qs4 m j)
 refine @qe0 _ (let Q0:=qg2 m j.toNat; ∃(v0:Unit),∃(v1:Nat),Nat.le v1 m.length/\((True/\(0:Int)=(↑v1:Int)/\True)/\List.take v1 Q0=[]/\True)/\∀(v2:Nat),Nat.le v2 m.length->(decide ((↑v2:Int)<(↑m.length:Int))=true->((0:Int)<=(↑v2:Int)/\(↑v2:Int)<(↑m.length:Int))/\((0:Int)<=j/\j<(↑(nL m v2).length:Int))/\((0:Nat)<List.length [nI (nL m v2) j.toNat]/\Nat.le ((List.take v2 Q0).length+List.length [nI (nL m v2) j.toNat]) (1000000:Nat))/\fits .i64 ((↑v2:Int)+(1:Int))/\∃(v5:Nat),Nat.le v5 m.length/\m.length-v5<m.length-v2/\(True/\(↑v2:Int)+(1:Int)=(↑v5:Int)/\True)/\List.take v2 Q0++[nI (nL m v2) j.toNat]=List.take v5 Q0/\True)/\(decide ((↑v2:Int)<(↑m.length:Int))=false->List.take v2 Q0=qg2 m j.toNat)) (by kernel_rfl) ?_
 try simp only[z0,z1,z2,z3,z4,z5,z6,z7,z8,z9,z10,Int.reduceEq,z11,z12,z13,z14,z15,z16,z17,z18,z19,z20,z21,z22,z23,z24,z25,z26,z27,z28,z29,z30,Int.reduceLE,Int.reduceLT,z31,z32,z33,z34,qa1]
 try simp only[qb4,qb5,qc8,z31,z32,z2,z1]
 have hr:=h.rows
 refine⟨(),0,Nat.zero_le _,⟨rfl,rfl⟩,λk hk=>⟨λhlt=>⟨hlt,h.at_ k hlt,by rw[List.length_take]; omega,qa7 (by omega) (by omega),k+1,by omega,by omega,by omega,(wm8 _ _ _ hlt).symm⟩,λhge=>?_⟩⟩
 rw[List.take_of_length_le (by rw[qi6]; omega)]
def qv9 (m:List (List Int)) (j:Int):List Int × Int:=if wn5 m [j]=0 then(qg2 m j.toNat,0) else([],wn5 m [j])
structure wt6 (m:List (List Int)) (j:Int):Prop where
 fit:q1u m
 col:wn5 m [j]=0->qs4 m j
abbrev x7l:qc7:=qg0 false none [qk2,qf8] [qd4,qf8] (λx=>wt6 x.1 x.2.1) (λx=>((qv9 x.1 x.2.1).1,(qv9 x.1 x.2.1).2,()))
theorem wn6:Meets Tryz.prog 31 x7l:=by
 refine meets (snd (SpecsOk.cons w29 (SpecsOk.cons w71 (SpecsOk.nil _)))) Tryz.func31 rfl rfl (λ_ _=>none) (λ_=>by kernel_rfl) (by decide) ?_
 rintro⟨m,j,⟨⟩⟩ h
 revert m j
 intro(m:List (List Int)) (j:Int) (h:wt6 m j)
 refine @qe0 _ (let Q0:=qv9 m j; (q1u m/\List.length [j]<=(9223372036854775807:Nat))/\((wn5 m [j] != (0:Int))=true->Q0.1=[]/\wn5 m [j]=Q0.2/\True)/\((wn5 m [j] != (0:Int))=false->qs4 m j/\qg2 m j.toNat=Q0.1/\(0:Int)=Q0.2/\True)) (by kernel_rfl) ?_
 try simp only[z0,z1,z2,z3,z4,z5,z6,z7,z8,z9,z10,Int.reduceEq,z11,z12,z13,z14,z15,z16,z17,z18,z19,z20,z21,z22,z23,z24,z25,z26,z27,z28,z29,z30,Int.reduceLE,Int.reduceLT,z31,z32,z33,z34,qa1]
 try simp only[qb4,qb5,qc8,z31,z32,z2,z1]
 refine⟨⟨h.fit,by decide⟩,λhe=>?_,λhe=>⟨h.col he,?_⟩⟩
 ·unfold qv9; rw[if_neg he]; exact⟨rfl,rfl⟩
 ·unfold qv9; rw[if_pos he]; exact⟨rfl,rfl⟩
structure w72 (m:List (List Int)) (C:List Int):Prop where
 col:w6o m C
 rd:w6p (qg7 m C)
abbrev sFr:qc7:=qg0 true none [qk2,qd4] [.bool] (λx=>w72 x.1 x.2.1) (λx=>(wm5 x.1 x.2.1,()))
theorem xd2:Meets Tryz.prog 142 sFr:=by
 refine meets (snd (SpecsOk.cons w2o (SpecsOk.cons w0k (SpecsOk.nil _)))) Tryz.func142 rfl rfl (λ_ _=>none) (λ_=>by kernel_rfl) (by decide) ?_
 rintro⟨m,C,⟨⟩⟩ h
 revert m C
 intro(m:List (List Int)) (C:List Int) (h:w72 m C)
 refine @qe0 _ (w6o m C/\w6p (qg7 m C)/\((↑(qb7 (qg7 m C)).2.length:Int)==(↑C.length:Int))=wm5 m C) (by kernel_rfl) ?_
 try simp only[z0,z1,z2,z3,z4,z5,z6,z7,z8,z9,z10,Int.reduceEq,z11,z12,z13,z14,z15,z16,z17,z18,z19,z20,z21,z22,z23,z24,z25,z26,z27,z28,z29,z30,Int.reduceLE,Int.reduceLT,z31,z32,z33,z34,qa1]
 try simp only[qb4,qb5,qc8,z31,z32,z2,z1]
 exact⟨h.col,h.rd,rfl⟩
def q1v (m:List (List Int)) (l:List Int):List (List Int):=l.map λj=>qg2 m j.toNat
theorem q7q (m:List (List Int)) (C:List Int):∀j,(qn8 m C j).length<=j
 | 0=>Nat.le_refl _
 | j+1=>by
  have:=q7q m C j
  rw[qn8]; split
  ·simp; omega
  ·omega
structure wt7 (m:List (List Int)) (y C:List Int):Prop where
 fit:q1u m
 fr:∀j,j<C.length->w72 m (qn8 m C j++[nI C j])
 cl:C.length<=100000
 n6:(gre m C).length<=6
 m6:m.length<=6
 ylen:y.length=m.length
 nam:∀q,q<(gre m C).length->wn5 m [nI (gre m C) q]=0/\qs4 m (nI (gre m C) q)
 dot:∀a b,a<(gre m C).length->b<(gre m C).length->ql5 (qg2 m (nI (gre m C) a).toNat) (qg2 m (nI (gre m C) b).toNat)
 doty:∀a,a<(gre m C).length->ql5 (qg2 m (nI (gre m C) a).toNat) y
 rd:w6p (qb9 m y (gre m C))
 cnt:(gR m y C).length=(gre m C).length
 each:∀k,k<(gre m C).length->(nL (gR m y C) k).length=(gre m C).length+1
 nz:∀k,k<(gre m C).length->nI (nL (gR m y C) k) k≠0
 big:∀k,k<(gre m C).length->qd0 BIG (nI (nL (gR m y C) k) k)
 all:∀k,k<=(gre m C).length->qd0 BIG (q0c (gR m y C) k)/\q0c (gR m y C) k≠0
 out:∀i,i<y.length->qd0 BIG (nI y i*qn1 m y C)
 mul:∀k,k<(gre m C).length->∀i,i<y.length->qd0 BIG (nI (qg2 m (nI (gre m C) k).toNat) i*nI (nL (gR m y C) k) (gre m C).length)
 sub:∀k,k<(gre m C).length->∀i,i<y.length->qd0 BIG ((nI (qg2 m (nI (gre m C) k).toNat) i*nI (nL (gR m y C) k) (gre m C).length)*(qn1 m y C).tdiv (nI (nL (gR m y C) k) k))/\qd0 BIG (rtE m y (gre m C) (gR m y C) (qn1 m y C) (k+1) i)
def x7m (m:List (List Int)) (y C:List Int):Nat->Option Inv
 | 0=>some (Inv.of [8,30] 1 (λk:Nat=>[(8,.own 0),(30,.lit (.int .i64 k))]) (λk=>[.vec 3 (.int .i64) (qn8 m C k)]) (λk=>k<=C.length) (λk=>C.length-k))
 | 1=>some (Inv.of [8,12,47,49] 2 (λk:Nat=>[(8,.own 0),(12,.own 1),(47,.own 0),(49,.lit (.int .i64 k))]) (λk=>[.vec 3 (.int .i64) (gre m C),.vec 34 qd4 ((q1v m (gre m C)).take k)]) (λk=>k<=(gre m C).length) (λk=>(gre m C).length-k))
 | 2=>some (Inv.of [8,11,12,66] 3 (λk:Nat=>[(8,.own 0),(11,.own 2),(12,.own 1),(66,.lit (.int .i64 k))]) (λk=>[.vec 3 (.int .i64) (gre m C),.vec 34 qd4 (q1v m (gre m C)),.vec 34 qd4 ((qb9 m y (gre m C)).take k)]) (λk=>k<=(gre m C).length) (λk=>(gre m C).length-k))
 | 3=>some (Eng.Inv.mk Nat Nat [8,11,12,18,71] 4 (λ_ j=>[(8,.own 0),(11,.own 2),(12,.own 1),(18,.own 3),(71,.lit (.int .i64 j))]) (λk j=>[.vec 3 (.int .i64) (gre m C),.vec 34 qd4 (q1v m (gre m C)),.vec 34 qd4 ((qb9 m y (gre m C)).take k),.vec 3 (.int .i64) ((gRow m y (gre m C) k).take j)]) (λ_ j=>j<=(gre m C).length) (λ_ j=>(gre m C).length-j))
 | 4=>some (Inv.of [8,12,22,107] 3 (λk:Nat=>[(8,.own 0),(12,.own 1),(22,.lit (.int .i64 (q0c (gR m y C) k))),(107,.lit (.int .i64 k))]) (λk=>[.vec 3 (.int .i64) (gre m C),.vec 34 qd4 (q1v m (gre m C)),.dead]) (λk=>k<=(gre m C).length) (λk=>(gre m C).length-k))
 | 5=>some (Inv.of [8,12,24,132] 4 (λk:Nat=>[(8,.own 0),(12,.own 1),(24,.own 3),(132,.lit (.int .i64 k))]) (λk=>[.vec 3 (.int .i64) (gre m C),.vec 34 qd4 (q1v m (gre m C)),.dead,.vec 3 (.int .i64) ((qj2 m y C).take k)]) (λk=>k<=y.length) (λk=>y.length-k))
 | 6=>some (Eng.Inv.mk Nat Nat [8,12,24,26,142] 4 (λi t=>[(8,.own 0),(12,.own 1),(24,.own 3),(26,.lit (.int .i64 (rtE m y (gre m C) (gR m y C) (qn1 m y C) t i))),(142,.lit (.int .i64 t))]) (λi t=>[.vec 3 (.int .i64) (gre m C),.vec 34 qd4 (q1v m (gre m C)),.dead,.vec 3 (.int .i64) ((qj2 m y C).take i)]) (λ_ t=>t<=(gre m C).length) (λ_ t=>(gre m C).length-t))
 | _=>none
abbrev sRt:qc7:=qg0 true none [qk2,qd4,qd4] [qd4,qf8] (λx=>wt7 x.1 x.2.1 x.2.2.1) (λx=>(qj2 x.1 x.2.1 x.2.2.1,qn1 x.1 x.2.1 x.2.2.1,()))
theorem w03:Meets Tryz.prog 83 sRt:=by
 refine meets (xt2 [] [37] (SpecsOk.cons xd2 (SpecsOk.cons wn6 (SpecsOk.cons q9f (SpecsOk.cons w0k (SpecsOk.cons q9k (SpecsOk.nil _))))))) Tryz.func83 rfl rfl (λx=>x7m x.1 x.2.1 x.2.2.1) (λ_=>by kernel_rfl) (by decide) ?_
 rintro⟨m,y,C,⟨⟩⟩ h
 revert m y C
 intro(m:List (List Int)) (y:List Int) (C:List Int) (h:wt7 m y C)
 refine @qe0 _ (let Q0:=qb9 m y (gre m C); let Q1:=q1v m (gre m C); let Q2:=gR m y C; let Q3:=qj2 m y C; let Q4:=qn1 m y C; ∃(v0:Unit),∃(v1:Nat),Nat.le v1 C.length/\((True/\(0:Int)=(↑v1:Int)/\True)/\qn8 m C v1=[]/\True)/\∀(v2:Nat),Nat.le v2 C.length->(decide ((↑v2:Int)<(↑C.length:Int))=true->((0:Int)<=(↑v2:Int)/\(↑v2:Int)<(↑C.length:Int))/\Nat.le ((0:Nat)+(qn8 m C v2).length) (1000000:Nat)/\((0:Nat)<List.length [nI C v2]/\Nat.le (([]++qn8 m C v2).length+List.length [nI C v2]) (1000000:Nat))/\w72 m ([]++qn8 m C v2++[nI C v2])/\(wm5 m ([]++qn8 m C v2++[nI C v2])=true->((0:Nat)<List.length [nI C v2]/\Nat.le ((qn8 m C v2).length+List.length [nI C v2]) (1000000:Nat))/\fits .i64 ((↑v2:Int)+(1:Int))/\∃(v6:Nat),Nat.le v6 C.length/\C.length-v6<C.length-v2/\(True/\(↑v2:Int)+(1:Int)=(↑v6:Int)/\True)/\qn8 m C v2++[nI C v2]=qn8 m C v6/\True)/\(wm5 m ([]++qn8 m C v2++[nI C v2])=false->fits .i64 ((↑v2:Int)+(1:Int))/\∃(v6:Nat),Nat.le v6 C.length/\C.length-v6<C.length-v2/\(True/\(↑v2:Int)+(1:Int)=(↑v6:Int)/\True)/\qn8 m C v2=qn8 m C v6/\True))/\(decide ((↑v2:Int)<(↑C.length:Int))=false->∃(v5:Unit),∃(v6:Nat),Nat.le v6 (gre m C).length/\((True/\True/\True/\(0:Int)=(↑v6:Int)/\True)/\qn8 m C v2=gre m C/\List.take v6 Q1=[]/\True)/\∀(v7:Nat),Nat.le v7 (gre m C).length->(decide ((↑v7:Int)<(↑(qn8 m C v2).length:Int))=true->((0:Int)<=(↑v7:Int)/\(↑v7:Int)<(↑(gre m C).length:Int))/\v7<(gre m C).length/\wt6 m (nI (gre m C) v7)/\((0:Nat)<List.length [(qv9 m (nI (gre m C) v7)).1]/\Nat.le ((List.take v7 Q1).length+List.length [(qv9 m (nI (gre m C) v7)).1]) (1000000:Nat))/\fits .i64 ((↑v7:Int)+(1:Int))/\∃(v10:Nat),Nat.le v10 (gre m C).length/\(gre m C).length-v10<(gre m C).length-v7/\(True/\True/\True/\(↑v7:Int)+(1:Int)=(↑v10:Int)/\True)/\gre m C=gre m C/\List.take v7 Q1++[(qv9 m (nI (gre m C) v7)).1]=List.take v10 Q1/\True)/\(decide ((↑v7:Int)<(↑(qn8 m C v2).length:Int))=false->∃(v10:Unit),∃(v11:Nat),Nat.le v11 (gre m C).length/\((True/\True/\True/\(0:Int)=(↑v11:Int)/\True)/\gre m C=gre m C/\List.take v7 Q1=q1v m (gre m C)/\List.take v11 Q0=[]/\True)/\∀(v12:Nat),Nat.le v12 (gre m C).length->(decide ((↑v12:Int)<(↑(gre m C).length:Int))=true->∃(v15:Nat),∃(v16:Nat),Nat.le v16 (gre m C).length/\((True/\True/\True/\True/\(0:Int)=(↑v16:Int)/\True)/\gre m C=gre m C/\q1v m (gre m C)=q1v m (gre m C)/\List.take v12 Q0=List.take v15 Q0/\List.take v16 (gRow m y (gre m C) v15)=[]/\True)/\∀(v17:Nat),Nat.le v17 (gre m C).length->(decide ((↑v17:Int)<(↑(gre m C).length:Int))=true->((0:Int)<=(↑v12:Int)/\(↑v12:Int)<(↑Q1.length:Int))/\v12<Q1.length/\((0:Int)<=(↑v17:Int)/\(↑v17:Int)<(↑Q1.length:Int))/\v17<Q1.length/\ql5 (qf2 qd4 Q1 v12) (qf2 qd4 Q1 v17)/\((0:Nat)<List.length [qg8 (qf2 qd4 Q1 v12) (qf2 qd4 Q1 v17) (qf2 qd4 Q1 v12).length]/\Nat.le ((List.take v17 (gRow m y (gre m C) v15)).length+List.length [qg8 (qf2 qd4 Q1 v12) (qf2 qd4 Q1 v17) (qf2 qd4 Q1 v12).length]) (1000000:Nat))/\fits .i64 ((↑v17:Int)+(1:Int))/\∃(v20:Nat),Nat.le v20 (gre m C).length/\(gre m C).length-v20<(gre m C).length-v17/\(True/\True/\True/\True/\(↑v17:Int)+(1:Int)=(↑v20:Int)/\True)/\gre m C=gre m C/\q1v m (gre m C)=q1v m (gre m C)/\List.take v15 Q0=List.take v15 Q0/\List.take v17 (gRow m y (gre m C) v15)++[qg8 (qf2 qd4 Q1 v12) (qf2 qd4 Q1 v17) (qf2 qd4 Q1 v12).length]=List.take v20 (gRow m y (gre m C) v15)/\True)/\(decide ((↑v17:Int)<(↑(gre m C).length:Int))=false->((0:Int)<=(↑v12:Int)/\(↑v12:Int)<(↑Q1.length:Int))/\v12<Q1.length/\ql5 (qf2 qd4 Q1 v12) y/\((0:Nat)<List.length [qg8 (qf2 qd4 Q1 v12) y (qf2 qd4 Q1 v12).length]/\Nat.le ((List.take v17 (gRow m y (gre m C) v15)).length+List.length [qg8 (qf2 qd4 Q1 v12) y (qf2 qd4 Q1 v12).length]) (1000000:Nat))/\((0:Nat)<(0:Nat)+(1:Nat)/\Nat.le ((List.take v15 Q0).length+((0:Nat)+(1:Nat))) (1000000:Nat))/\fits .i64 ((↑v12:Int)+(1:Int))/\∃(v20:Nat),Nat.le v20 (gre m C).length/\(gre m C).length-v20<(gre m C).length-v12/\(True/\True/\True/\(↑v12:Int)+(1:Int)=(↑v20:Int)/\True)/\gre m C=gre m C/\q1v m (gre m C)=q1v m (gre m C)/\List.take v15 Q0++[List.take v17 (gRow m y (gre m C) v15)++[qg8 (qf2 qd4 Q1 v12) y (qf2 qd4 Q1 v12).length]]=List.take v20 Q0/\True))/\(decide ((↑v12:Int)<(↑(gre m C).length:Int))=false->w6p (List.take v12 Q0)/\∃(v15:Unit),∃(v16:Nat),Nat.le v16 (gre m C).length/\((True/\True/\(1:Int)=q0c Q2 v16/\(0:Int)=(↑v16:Int)/\True)/\gre m C=gre m C/\q1v m (gre m C)=q1v m (gre m C)/\True/\True)/\∀(v17:Nat),Nat.le v17 (gre m C).length->(decide ((↑v17:Int)<(↑(qb7 (List.take v12 Q0)).1.length:Int))=true->((0:Int)<=(↑v17:Int)/\(↑v17:Int)<(↑(qb7 (List.take v12 Q0)).1.length:Int))/\((0:Int)<=(↑v17:Int)/\(↑v17:Int)<(↑(nL (qb7 (List.take v12 Q0)).1 v17).length:Int))/\(((-4000000000000000000:Int)<=q0c Q2 v17/\q0c Q2 v17<=BIG)/\(-4000000000000000000:Int)<=nI (nL (qb7 (List.take v12 Q0)).1 v17) v17/\nI (nL (qb7 (List.take v12 Q0)).1 v17) v17<=BIG)/\qd7 (q0c Q2 v17) (nI (nL (qb7 (List.take v12 Q0)).1 v17) v17)≠(0:Int)/\fits .i64 (Int.tdiv (q0c Q2 v17) (qd7 (q0c Q2 v17) (nI (nL (qb7 (List.take v12 Q0)).1 v17) v17)))/\((0:Int)<=(↑v17:Int)/\(↑v17:Int)<(↑(qb7 (List.take v12 Q0)).1.length:Int))/\((0:Int)<=(↑v17:Int)/\(↑v17:Int)<(↑(nL (qb7 (List.take v12 Q0)).1 v17).length:Int))/\fits .i64 (Int.tdiv (q0c Q2 v17) (qd7 (q0c Q2 v17) (nI (nL (qb7 (List.take v12 Q0)).1 v17) v17))*nI (nL (qb7 (List.take v12 Q0)).1 v17) v17)/\fits .i64 ((↑v17:Int)+(1:Int))/\∃(v20:Nat),Nat.le v20 (gre m C).length/\(gre m C).length-v20<(gre m C).length-v17/\(True/\True/\Int.tdiv (q0c Q2 v17) (qd7 (q0c Q2 v17) (nI (nL (qb7 (List.take v12 Q0)).1 v17) v17))*nI (nL (qb7 (List.take v12 Q0)).1 v17) v17=q0c Q2 v20/\(↑v17:Int)+(1:Int)=(↑v20:Int)/\True)/\gre m C=gre m C/\q1v m (gre m C)=q1v m (gre m C)/\True/\True)/\(decide ((↑v17:Int)<(↑(qb7 (List.take v12 Q0)).1.length:Int))=false->∃(v20:Unit),∃(v21:Nat),Nat.le v21 y.length/\((True/\True/\True/\(0:Int)=(↑v21:Int)/\True)/\gre m C=gre m C/\q1v m (gre m C)=q1v m (gre m C)/\True/\List.take v21 Q3=[]/\True)/\∀(v22:Nat),Nat.le v22 y.length->(decide ((↑v22:Int)<(↑y.length:Int))=true->((0:Int)<=(↑v22:Int)/\(↑v22:Int)<(↑y.length:Int))/\fits .i64 (nI y v22*q0c Q2 v17)/\∃(v25:Nat),∃(v26:Nat),Nat.le v26 (gre m C).length/\((True/\True/\True/\nI y v22*q0c Q2 v17=rtE m y (gre m C) Q2 Q4 v26 v25/\(0:Int)=(↑v26:Int)/\True)/\gre m C=gre m C/\q1v m (gre m C)=q1v m (gre m C)/\True/\List.take v22 Q3=List.take v25 Q3/\True)/\∀(v27:Nat),Nat.le v27 (gre m C).length->(decide ((↑v27:Int)<(↑(qb7 (List.take v12 Q0)).1.length:Int))=true->((0:Int)<=(↑v27:Int)/\(↑v27:Int)<(↑Q1.length:Int))/\v27<Q1.length/\((0:Int)<=(↑v22:Int)/\(↑v22:Int)<(↑(qf2 qd4 Q1 v27).length:Int))/\((0:Int)<=(↑v27:Int)/\(↑v27:Int)<(↑(qb7 (List.take v12 Q0)).1.length:Int))/\((0:Int)<=(↑(gre m C).length:Int)/\(↑(gre m C).length:Int)<(↑(nL (qb7 (List.take v12 Q0)).1 v27).length:Int))/\fits .i64 (nI (qf2 qd4 Q1 v27) v22*nI (nL (qb7 (List.take v12 Q0)).1 v27) (↑(gre m C).length:Int).toNat)/\((0:Int)<=(↑v27:Int)/\(↑v27:Int)<(↑(qb7 (List.take v12 Q0)).1.length:Int))/\((0:Int)<=(↑v27:Int)/\(↑v27:Int)<(↑(nL (qb7 (List.take v12 Q0)).1 v27).length:Int))/\nI (nL (qb7 (List.take v12 Q0)).1 v27) v27≠(0:Int)/\fits .i64 (Int.tdiv (q0c Q2 v17) (nI (nL (qb7 (List.take v12 Q0)).1 v27) v27))/\fits .i64 (nI (qf2 qd4 Q1 v27) v22*nI (nL (qb7 (List.take v12 Q0)).1 v27) (↑(gre m C).length:Int).toNat*Int.tdiv (q0c Q2 v17) (nI (nL (qb7 (List.take v12 Q0)).1 v27) v27))/\fits .i64 (rtE m y (gre m C) Q2 Q4 v27 v25-nI (qf2 qd4 Q1 v27) v22*nI (nL (qb7 (List.take v12 Q0)).1 v27) (↑(gre m C).length:Int).toNat*Int.tdiv (q0c Q2 v17) (nI (nL (qb7 (List.take v12 Q0)).1 v27) v27))/\fits .i64 ((↑v27:Int)+(1:Int))/\∃(v30:Nat),Nat.le v30 (gre m C).length/\(gre m C).length-v30<(gre m C).length-v27/\(True/\True/\True/\rtE m y (gre m C) Q2 Q4 v27 v25-nI (qf2 qd4 Q1 v27) v22*nI (nL (qb7 (List.take v12 Q0)).1 v27) (↑(gre m C).length:Int).toNat*Int.tdiv (q0c Q2 v17) (nI (nL (qb7 (List.take v12 Q0)).1 v27) v27)=rtE m y (gre m C) Q2 Q4 v30 v25/\(↑v27:Int)+(1:Int)=(↑v30:Int)/\True)/\gre m C=gre m C/\q1v m (gre m C)=q1v m (gre m C)/\True/\List.take v25 Q3=List.take v25 Q3/\True)/\(decide ((↑v27:Int)<(↑(qb7 (List.take v12 Q0)).1.length:Int))=false->((0:Nat)<List.length [rtE m y (gre m C) Q2 Q4 v27 v25]/\Nat.le ((List.take v25 Q3).length+List.length [rtE m y (gre m C) Q2 Q4 v27 v25]) (1000000:Nat))/\fits .i64 ((↑v22:Int)+(1:Int))/\∃(v30:Nat),Nat.le v30 y.length/\y.length-v30<y.length-v22/\(True/\True/\True/\(↑v22:Int)+(1:Int)=(↑v30:Int)/\True)/\gre m C=gre m C/\q1v m (gre m C)=q1v m (gre m C)/\True/\List.take v25 Q3++[rtE m y (gre m C) Q2 Q4 v27 v25]=List.take v30 Q3/\True))/\(decide ((↑v22:Int)<(↑y.length:Int))=false->List.take v22 Q3=qj2 m y C/\q0c Q2 v17=qn1 m y C/\True)))))) (by kernel_rfl) ?_
 try simp only[z0,z1,z2,z3,z4,z5,z6,z7,z8,z9,z10,Int.reduceEq,z11,z12,z13,z14,z15,z16,z17,z18,z19,z20,z21,z22,z23,z24,z25,z26,z27,z28,z29,z30,Int.reduceLE,Int.reduceLT,z31,z32,z33,z34,qa1]
 try simp only[qb4,qb5,qc8,z31,z32,z2,z1]
 have hcl:=h.cl
 have hn6:=h.n6
 have hm6:=h.m6
 have hyl:=h.ylen
 have hgL:∀j,(qn8 m C j).length<=j:=q7q m C
 have hcll:(q1v m (gre m C)).length=(gre m C).length:=by simp[q1v]
 have hca:∀k,k<(gre m C).length->nL (q1v m (gre m C)) k=qg2 m (nI (gre m C) k).toNat:=λk hk=>by
  rw[ql7 _ _ (by rw[hcll]; exact hk)]; simp[q1v,qh2 _ k hk]
 have hgl:(qb9 m y (gre m C)).length=(gre m C).length:=by simp[qb9]
 have hga:∀k,k<(gre m C).length->nL (qb9 m y (gre m C)) k=gRow m y (gre m C) k:=λk hk=>by
  rw[ql7 _ _ (by rw[hgl]; exact hk)]; simp[qb9]
 have hrl:∀k,(gRow m y (gre m C) k).length=(gre m C).length+1:=λk=>by simp[gRow]
 have hr1:∀k j,j<(gre m C).length->nI (gRow m y (gre m C) k) j=qg8 (qg2 m (nI (gre m C) k).toNat) (qg2 m (nI (gre m C) j).toNat) m.length:=λk j hj=>by
  unfold gRow
  rw[qh2 _ _ (by simp; omega),List.getElem_append_left (by simp; exact hj)]; simp
 have hr2:∀k,nI (gRow m y (gre m C) k) (gre m C).length=qg8 (qg2 m (nI (gre m C) k).toNat) y m.length:=λk=>by
  unfold gRow
  rw[qh2 _ _ (by simp),List.getElem_append_right (by simp)]; simp
 have hB:BIG=4000000000000000000:=rfl
 have hcp:∀q,q<(gre m C).length->wt6 m (nI (gre m C) q):=λq hq=>⟨h.fit,λ_=>(h.nam q hq).2⟩
 have hce:∀q,q<(gre m C).length->(qv9 m (nI (gre m C) q)).1=qg2 m (nI (gre m C) q).toNat:=λq hq=>by unfold qv9; rw[if_pos (h.nam q hq).1]
 refine⟨(),0,Nat.zero_le _,⟨rfl,rfl⟩,λj hj=>⟨λhlt=>?_,λhge=>?_⟩⟩
 ·have hg:=hgL j
  refine⟨hlt,by omega,by omega,h.fr j hlt,λhf=>?_,λhf=>?_⟩
  ·refine⟨by omega,qa7 (by omega) (by omega),j+1,by omega,by omega,by omega,?_⟩
   rw[qn8,if_pos hf]
  ·refine⟨qa7 (by omega) (by omega),j+1,by omega,by omega,by omega,?_⟩
   rw[qn8,if_neg (by rw[hf]; decide)]
 obtain rfl:j=C.length:=by omega
 have hgre:qn8 m C C.length=gre m C:=rfl
 rw[hgre]
 refine⟨(),0,Nat.zero_le _,⟨rfl,rfl,rfl⟩,λk hk=>⟨λhlt=>?_,λhge=>?_⟩⟩
 ·refine⟨hlt,hlt,hcp k hlt,by rw[List.length_take]; omega,qa7 (by omega) (by omega),k+1,by omega,by omega,by omega,?_⟩
  rw[takeL_snoc _ k (by omega),hca k hlt,hce k hlt]
 obtain rfl:k=(gre m C).length:=by omega
 have hT:(q1v m (gre m C)).take (gre m C).length=q1v m (gre m C):=List.take_of_length_le (by omega)
 rw[hT]
 refine⟨(),0,Nat.zero_le _,⟨rfl,rfl,rfl⟩,λk hk=>⟨λhlt=>⟨k,0,Nat.zero_le _,⟨rfl,rfl,rfl⟩,λj hj=>⟨λhlj=>?_,λhgj=>?_⟩⟩,λhge=>?_⟩⟩
 ·rw[hca k hlt,hca j hlj]
  refine⟨by omega,by omega,by omega,by omega,h.dot k j hlt hlj,by rw[List.length_take,hrl]; omega,qa7 (by omega) (by omega),j+1,by omega,by omega,by omega,?_⟩
  rw[qq1 _ j (by rw[hrl]; omega),hr1 k j hlj,qi6]
 ·obtain rfl:j=(gre m C).length:=by omega
  rw[hca k hlt]
  refine⟨by omega,by omega,h.doty k hlt,by rw[List.length_take,hrl]; omega,by rw[List.length_take,hgl]; omega,qa7 (by omega) (by omega),k+1,by omega,by omega,by omega,?_⟩
  rw[takeL_snoc _ k (by omega),hga k hlt,qi6,<- hr2,<- qq1 _ _ (by rw[hrl]; omega),List.take_of_length_le (l:=gRow m y (gre m C) k) (by rw[hrl]; exact Nat.le_refl _)]
 obtain rfl:k=(gre m C).length:=by omega
 have hT2:(qb9 m y (gre m C)).take (gre m C).length=qb9 m y (gre m C):=List.take_of_length_le (by omega)
 rw[hT2]
 have hgR:(qb7 (qb9 m y (gre m C))).1=gR m y C:=rfl
 rw[hgR]
 have hcn:=h.cnt
 refine⟨h.rd,(),0,Nat.zero_le _,⟨rfl,rfl⟩,λk hk=>⟨λhlt=>?_,λhge=>?_⟩⟩
 ·have hk2:k<(gre m C).length:=by omega
  have hrow:=h.each k hk2
  have b1:=h.big k hk2
  have nz:=h.nz k hk2
  have t1:=h.all k (by omega)
  have t2:=(h.all (k+1) (by omega)).1
  have g1:=ql3 (a:=q0c (gR m y C) k) (b:=nI (nL (gR m y C) k) k) (Or.inl t1.2)
  have e2:(q0c (gR m y C) k).tdiv (qd7 (q0c (gR m y C) k) (nI (nL (gR m y C) k) k))*nI (nL (gR m y C) k) k=q0c (gR m y C) (k+1):=rfl
  have hq:qd0 BIG ((q0c (gR m y C) k).tdiv (qd7 (q0c (gR m y C) k) (nI (nL (gR m y C) k) k))):=qj0 t1.1
  rw[e2]
  unfold qd0 at b1 t1 t2 hq
  refine⟨hlt,by omega,⟨t1.1,b1⟩,by omega,qa7 (by omega) (by omega),hlt,by omega,qa7 (by omega) (by omega),qa7 (by omega) (by omega),k+1,by omega,by omega,rfl,by omega⟩
 obtain rfl:k=(gre m C).length:=by omega
 have hA:q0c (gR m y C) (gre m C).length=qn1 m y C:=by unfold qn1; rw[hcn]
 rw[hA]
 have hzl:(qj2 m y C).length=y.length:=by simp[qj2,rtL]
 have hza:∀i,i<y.length->nI (qj2 m y C) i=rtE m y (gre m C) (gR m y C) (qn1 m y C) (gre m C).length i:=λi hi=>by
  rw[qh2 _ _ (by rw[hzl]; exact hi)]; simp[qj2,rtL,hcn]
 have hT1:=(h.all (gre m C).length (Nat.le_refl _)).1
 rw[hA] at hT1
 refine⟨(),0,Nat.zero_le _,⟨rfl,rfl⟩,λi hi=>⟨λhlt=>?_,λhge=>?_⟩⟩
 ·have ho:=h.out i hlt
  unfold qd0 at ho
  refine⟨hlt,qa7 (by omega) (by omega),i,0,Nat.zero_le _,⟨⟨rfl,rfl⟩,rfl⟩,λk hk=>⟨λhlk=>?_,λhgk=>?_⟩⟩
  ·have hk2:k<(gre m C).length:=by omega
   have hrow:=h.each k hk2
   have hq:qd0 BIG ((qn1 m y C).tdiv (nI (nL (gR m y C) k) k)):=qj0 hT1
   have hm:=h.mul k hk2 i hlt
   obtain⟨s1,s2⟩:=h.sub k hk2 i hlt
   have e:rtE m y (gre m C) (gR m y C) (qn1 m y C) (k+1) i=rtE m y (gre m C) (gR m y C) (qn1 m y C) k i-nI (qg2 m (nI (gre m C) k).toNat) i*nI (nL (gR m y C) k) (gre m C).length*(qn1 m y C).tdiv (nI (nL (gR m y C) k) k):=rfl
   rw[hca k hk2,<- e,qi6]
   unfold qd0 at hq hm s1 s2
   refine⟨by omega,by omega,by omega,hlk,by omega,qa7 (by omega) (by omega),hlk,by omega,h.nz k hk2,qa7 (by omega) (by omega),qa7 (by omega) (by omega),qa7 (by omega) (by omega),qa7 (by omega) (by omega),k+1,by omega,by omega,rfl,by omega⟩
  ·obtain rfl:k=(gre m C).length:=by omega
   refine⟨by rw[List.length_take]; omega,qa7 (by omega) (by omega),i+1,by omega,by omega,by omega,?_⟩
   rw[qq1 _ i (by omega),hza i hlt]
 ·obtain rfl:i=y.length:=by omega
  exact⟨List.take_of_length_le (by omega),rfl⟩
end Go.Proofs.YtmijnbjlhnpokaaGreat
