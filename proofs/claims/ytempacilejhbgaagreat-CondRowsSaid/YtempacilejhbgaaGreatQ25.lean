/- The row that makes the order greatest: contracts by the engine. No condition. -/
import Derived.Test.YtempacilejhbgaaGreatQ19
import Derived.Test.YtempacilejhbgaaGreatV4
set_option linter.unusedVariables false
set_option linter.unusedSimpArgs false
namespace Go.Proofs.YtempacilejhbgaaGreat
open Go Go.RowKit Eng Ls
abbrev x5k:qb9:=w58 false none [tMask] (λ_=>True) (λx=>.ndat true (.list (.int .i64)) x.1)
theorem w8u {A:Option Addr} {n c:Nat} (w:World) (hn:n<=c) (hc:c<=maxLen):Calls Tryz.prog 86 #[.slice A n c] w λe w'=>e=.returned (.slice A n n)/\Below w.heap.size w w':=by
 have hcm:c<=9223372036854775807:=hc
 go_enter Tryz.func86,Tryz.ntmps86
 go_wp2_with fail
 go_ret
 exact⟨rfl,Below.refl _ _⟩
theorem w34:qd6 Tryz.prog 86 x5k:=by
 refine⟨⟨_,_,Tryz.func86,rfl,rfl⟩,λw m args vs k hm hargs hrun=>?_⟩
 obtain⟨⟨(l:List (List Int)),⟨⟩⟩,⟨hp,hk⟩,hx⟩:=qn2 hrun hargs
 obtain⟨u,us,rfl,h1,h2⟩:=hx
 have h2:us=[]:=h2
 subst h2
 have h1':=h1
 obtain⟨A,c,e,hl,hc,hr⟩:=h1
 obtain rfl:u=.slice A l.length c:=(List.cons.inj e).1
 refine(w8u w hl hc).mono λe w' ⟨e1,e2⟩=>⟨_,m,e1,e2,View.on_below hm e2,⟨View.le_refl _,λb o hb=>.inl hb⟩,?_⟩
 exact⟨_,hk,⟨A,l.length,rfl,Nat.le_refl _,Nat.le_trans hl hc,hr⟩,A,rfl⟩
def q78 (r:List Int):Bool:=!validB [r]
abbrev x1l:qb9:=hspec [] true none [.d tInts] [.bool] (λ_=>True) (λx=>(q78 x.1,()))
theorem w35:qd6 Tryz.prog 82 x1l:=by
 refine qu4 (SpecsOk.nil _) (snd (SpecsOk.cons qy9 (SpecsOk.nil _))) Tryz.func82 rfl rfl (λ_ _=>none) (λ_=>by kernel_rfl) (by decide) ?_
 rintro⟨r,⟨⟩⟩ h
 clear h
 revert r
 intro(r:List Int)
 refine @qd9 _ (True/\(!validB [r])=q78 r) (by kernel_rfl) ?_
 try simp only[z0,z1,z2,z3,z4,z5,z6,z7,z8,z9,z10,Int.reduceEq,z11,z12,z13,z14,z15,z16,z17,z18,z19,z20,z21,z22,z23,z24,z25,z26,z27,z28,z29,z30,Int.reduceLE,Int.reduceLT,z31,z32,z33,z34,qa3]
 try simp only[qb4,qb5,qc0,z31,z32,z2,z1]
 exact(Bool.not_not _).symm
theorem x1m (a b:Nat):((a:Int) != (b:Int))=decide (¬a=b):=by
 by_cases h:a=b
 ·subst h; simp
 ·have:¬(a:Int)=b:=by omega
  simp[h,this]
abbrev x1n:qb9:=hspec [] true none [.d tInts,.cap tMask] [.bool] (λx=>0<x.2.1.length) (λx=>(decide (x.1.length≠(nL x.2.1 0).length),()))
theorem w36:qd6 Tryz.prog 85 x1n:=by
 refine qu4 (SpecsOk.nil _) (snd (SpecsOk.nil _)) Tryz.func85 rfl rfl (λ_ _=>none) (λ_=>by kernel_rfl) (by decide) ?_
 rintro⟨r,m,⟨⟩⟩ h
 revert r m
 intro(r:List Int) (m:List (List Int)) (h:0<m.length)
 refine @qd9 _ (((0:Int)<=(0:Int)/\(0:Int)<(↑m.length:Int))/\((↑r.length:Int) != (↑(nL m (0:Nat)).length:Int))=decide (r.length≠(nL m (0:Nat)).length)) (by kernel_rfl) ?_
 try simp only[z0,z1,z2,z3,z4,z5,z6,z7,z8,z9,z10,Int.reduceEq,z11,z12,z13,z14,z15,z16,z17,z18,z19,z20,z21,z22,z23,z24,z25,z26,z27,z28,z29,z30,Int.reduceLE,Int.reduceLT,z31,z32,z33,z34,qa3]
 try simp only[qb4,qb5,qc0,z31,z32,z2,z1]
 exact⟨by omega,x1m _ _⟩
def qk5 (m b:List (List Int)):Nat->Int × Int
 | 0=>(0,-1)
 | k+1=>if(qk5 m b k).2<((ordL (m++[nL b k]):Nat):Int) then((k:Int),((ordL (m++[nL b k]):Nat):Int)) else qk5 m b k
def w9b (m b:List (List Int)):Int × Int:=
 if validB m=true/\b.any q78=false then
  if 1<=b.length/\b.length<=20 then
   if b.any (λr=>decide (r.length≠(nL m 0).length))=true then(0,9)
   else if m.length=6 then(0,4) else((qk5 m b b.length).1,0)
  else(0,7)
 else(0,1)
structure BetPre (m b:List (List Int)):Prop where
 fit:q1q m
 len:b.length<=1000
 each:∀i,i<b.length->(nL b i).length<=1000
structure q71 (m b:List (List Int)) (k:Nat):Prop where
 le:k<=b.length
 ok:∀i,i<b.length->validB (m++[nL b i])=true/\(nL (m++[nL b i]) 0).length<=7
theorem xh7 {r:List Int} (h:q78 r=false):rowB r=true:=by
 unfold q78 validB at h
 simp only[Bool.not_eq_false',Bool.and_eq_true,List.all_cons] at h
 exact h.2.1.2
theorem w8v {m:List (List Int)} {r:List Int} (hv:validB m=true) (h6:m.length≠6) (hr:rowB r=true) (hl:r.length=(nL m 0).length):validB (m++[r])=true/\nL (m++[r]) 0=nL m 0:=by
 have hM:=Mk.of hv
 have m1:=hM.rows1
 have m6:=hM.rows6
 have e:nL (m++[r]) 0=nL m 0:=qm8 _ _ (by omega)
 refine⟨?_,e⟩
 unfold validB at hv ⊢
 rw[Bool.and_eq_true,List.all_eq_true] at hv
 rw[Bool.and_eq_true,List.all_eq_true,e,List.length_append,List.length_singleton]
 refine⟨inB_iff.2 ⟨by push_cast; omega,by push_cast; omega⟩,λx hx=>?_⟩
 rcases List.mem_append.1 hx with h | h
 ·exact hv.2 x h
 ·obtain rfl:=List.mem_singleton.1 h
  rw[Bool.and_eq_true]
  exact⟨decide_eq_true hl,hr⟩
theorem BetPre.jv {m b:List (List Int)} (h:BetPre m b) (hv:validB m=true) (h1:b.any q78=false) (h2:b.any (λr=>decide (¬r.length=(nL m 0).length))=false) (h6:m.length≠6):q71 m b 0:=by
 refine⟨Nat.zero_le _,λi hi=>?_⟩
 have hm:=qi9 b i hi
 have a1:=List.any_eq_false.1 h1 _ hm
 have a2:=List.any_eq_false.1 h2 _ hm
 obtain⟨e1,e2⟩:=w8v hv h6 (xh7 (by simpa using a1)) (by simpa using a2)
 exact⟨e1,by rw[e2]; exact h.fit.n7 hv⟩
theorem xh8 {m:List (List Int)} {r:List Int} (h:validB (m++[r])=true/\(nL (m++[r]) 0).length<=7):validB (m++[r])=true/\wv7 (m++[r]):=⟨h.1,xw7 λ_=>h.2⟩
theorem wg6 {m b:List (List Int)} {k:Nat} (h:(qk5 m b k).2<((ordL (m++[nL b k]):Nat):Int)):qk5 m b (k+1)=((k:Int),((ordL (m++[nL b k]):Nat):Int)):=by rw[qk5,if_pos h]
theorem wg7 {m b:List (List Int)} {k:Nat} (h:((ordL (m++[nL b k]):Nat):Int)<=(qk5 m b k).2):qk5 m b (k+1)=qk5 m b k:=by rw[qk5,if_neg (Int.not_lt.2 h)]
theorem bet_1 {m b:List (List Int)} (h:¬(validB m=true/\b.any q78=false)):w9b m b=(0,1):=if_neg h
theorem xu5 {m b:List (List Int)} (h:validB m=true/\b.any q78=false) (h7:¬(1<=b.length/\b.length<=20)):w9b m b=(0,7):=(if_pos h).trans (if_neg h7)
theorem x1o {m b:List (List Int)} (h:validB m=true/\b.any q78=false) (h7:1<=b.length/\b.length<=20) (h9:b.any (λr=>decide (¬r.length=(nL m 0).length))=true):w9b m b=(0,9):=(if_pos h).trans ((if_pos h7).trans (if_pos h9))
theorem x1p {m b:List (List Int)} (h:validB m=true/\b.any q78=false) (h7:1<=b.length/\b.length<=20) (h9:b.any (λr=>decide (¬r.length=(nL m 0).length))=false) (h6:m.length=6):w9b m b=(0,4):=(if_pos h).trans ((if_pos h7).trans ((if_neg (by rw[show b.any (λr=>decide (r.length≠(nL m 0).length))=false from h9]; simp)).trans (if_pos h6)))
theorem x1q {m b:List (List Int)} (h:validB m=true/\b.any q78=false) (h7:1<=b.length/\b.length<=20) (h9:b.any (λr=>decide (¬r.length=(nL m 0).length))=false) (h6:m.length≠6):w9b m b=((qk5 m b b.length).1,0):=(if_pos h).trans ((if_pos h7).trans ((if_neg (by rw[show b.any (λr=>decide (r.length≠(nL m 0).length))=false from h9]; simp)).trans (if_neg h6)))
theorem prE {a b:Int} {p:Int × Int} (h:p=(a,b)):a=p.1/\b=p.2:=by rw[h]; exact⟨rfl,rfl⟩
def x5l (m b:List (List Int)):Nat->Option Inv
 | 0=>some (Inv.of [7,8,36] 1 (λk:Nat=>[(7,.lit (.int .i64 (qk5 m b k).1)),(8,.lit (.int .i64 (qk5 m b k).2)),(36,.lit (.int .i64 k))]) (λ_=>[.box 23 (.cons (.dat (.list (.int .i64)) m) .nil)]) (λk=>q71 m b k) (λk=>b.length-k))
 | _=>none
abbrev x6i:qb9:=qg1 true none [tMask,tMask] [tInt,tInt] (λx=>BetPre x.1 x.2.1) (λx=>((w9b x.1 x.2.1).1,(w9b x.1 x.2.1).2,()))
theorem w8w:qd6 Tryz.prog 34 x6i:=by
 refine meets (snd (SpecsOk.cons qy9 (SpecsOk.cons q3g (SpecsOk.cons (wm3 (fs:=[(82,x1l),(85,x1n)]) (SpecsOk.cons w35 (SpecsOk.cons w36 (SpecsOk.nil _)))) (SpecsOk.cons w34 (SpecsOk.cons qz4 (SpecsOk.nil _))))))) Tryz.func34 rfl rfl (λx=>x5l x.1 x.2.1) (λ_=>by kernel_rfl) (by decide) ?_
 rintro⟨m,b,⟨⟩⟩ h
 revert m b
 intro(m:List (List Int)) (b:List (List Int)) (h:BetPre m b)
 refine @qd9 _ (let Q0:=w9b m b; True/\((!validB m)=true->(0:Int)=Q0.1/\(1:Int)=Q0.2/\True)/\((!validB m)=false->∃(v1:qa5 [Ty.list (Ty.int .i64)]->Prop),∃(v2:qa5 [Ty.list (Ty.int .i64)]->Bool),(∀(v3:List Int × qa5._f [] PUnit.unit),v1 v3->True/\q78 v3.1=v2 v3)/\(b.length<=(1000000:Nat)/\∀(v3:Nat),v3<b.length->v1 (nL b v3,()))/\((List.any b λ(v4:List Int)=>v2 (v4,()))=true->(0:Int)=Q0.1/\(1:Int)=Q0.2/\True)/\((List.any b λ(v4:List Int)=>v2 (v4,()))=false->True/\((!inB (↑b.length:Int) (1:Int) (20:Int))=true->(0:Int)=Q0.1/\(7:Int)=Q0.2/\True)/\((!inB (↑b.length:Int) (1:Int) (20:Int))=false->∃(v5:qa5 [Ty.list (Ty.int .i64)]->Prop),∃(v6:qa5 [Ty.list (Ty.int .i64)]->Bool),(∀(v7:List Int × qa5._f [] PUnit.unit),v5 v7->(0:Nat)<m.length/\decide (v7.1.length≠(nL m (0:Nat)).length)=v6 v7)/\(b.length<=(1000000:Nat)/\∀(v7:Nat),v7<b.length->v5 (nL b v7,()))/\((List.any b λ(v8:List Int)=>v6 (v8,()))=true->(0:Int)=Q0.1/\(9:Int)=Q0.2/\True)/\((List.any b λ(v8:List Int)=>v6 (v8,()))=false->(((↑m.length:Int)==(6:Int))=true->(0:Int)=Q0.1/\(4:Int)=Q0.2/\True)/\(((↑m.length:Int)==(6:Int))=false->∃(v9:Unit),∃(v10:Nat),q71 m b v10/\(((0:Int)=(qk5 m b v10).1/\(-1:Int)=(qk5 m b v10).2/\(0:Int)=(↑v10:Int)/\True)/\(m=m/\True)/\True)/\∀(v11:Nat),q71 m b v11->(decide ((↑v11:Int)<(↑b.length:Int))=true->((0:Int)<=(↑v11:Int)/\(↑v11:Int)<(↑b.length:Int))/\True/\((0:Nat)<List.length [nL b v11]/\m.length+List.length [nL b v11]<=(1000000:Nat))/\(validB (m++[nL b v11])=true/\wv7 (m++[nL b v11]))/\(decide ((qk5 m b v11).2<(↑(ordL (m++[nL b v11])):Int))=true->fits .i64 ((↑v11:Int)+(1:Int))/\∃(v15:Nat),q71 m b v15/\b.length-v15<b.length-v11/\((↑v11:Int)=(qk5 m b v15).1/\(↑(ordL (m++[nL b v11])):Int)=(qk5 m b v15).2/\(↑v11:Int)+(1:Int)=(↑v15:Int)/\True)/\(m=m/\True)/\True)/\(decide ((qk5 m b v11).2<(↑(ordL (m++[nL b v11])):Int))=false->fits .i64 ((↑v11:Int)+(1:Int))/\∃(v15:Nat),q71 m b v15/\b.length-v15<b.length-v11/\((qk5 m b v11).1=(qk5 m b v15).1/\(qk5 m b v11).2=(qk5 m b v15).2/\(↑v11:Int)+(1:Int)=(↑v15:Int)/\True)/\(m=m/\True)/\True))/\(decide ((↑v11:Int)<(↑b.length:Int))=false->(qk5 m b v11).1=Q0.1/\(0:Int)=Q0.2/\True))))))) (by kernel_rfl) ?_
 try simp only[z0,z1,z2,z3,z4,z5,z6,z7,z8,z9,z10,Int.reduceEq,z11,z12,z13,z14,z15,z16,z17,z18,z19,z20,z21,z22,z23,z24,z25,z26,z27,z28,z29,z30,Int.reduceLE,Int.reduceLT,z31,z32,z33,z34,qa3]
 try simp only[qb4,qb5,qc0,z31,z32,z2,z1]
 have hl:=h.len
 refine⟨λhv=>prE (bet_1 λq=>by rw[hv] at q; cases q.1),λhv=>⟨λ_=>True,λv=>q78 v.1,λ_ _=>rfl,⟨by omega,λ_ _=>trivial⟩,λh1=>prE (bet_1 λq=>by have q2:b.any q78=false:=q.2; rw[show b.any q78=true from h1] at q2; cases q2),λh1=>?_⟩⟩
 have h1:b.any q78=false:=h1
 have hq:validB m=true/\b.any q78=false:=⟨hv,h1⟩
 have hM:=Mk.of hv
 have m1:=hM.rows1
 have m6:=hM.rows6
 refine⟨λhb=>prE (xu5 hq λq=>?_),λhb=>⟨λ_=>True,λv=>decide (¬v.1.length=(nL m 0).length),λ_ _=>⟨by omega,rfl⟩,⟨by omega,λ_ _=>trivial⟩,?_⟩⟩
 ·rw[inB_iff.2 ⟨by omega,by omega⟩] at hb; cases hb
 have hb':=inB_iff.1 hb
 have h7:1<=b.length/\b.length<=20:=⟨by omega,by omega⟩
 refine⟨λh9=>prE (x1o hq h7 h9),λh9=>⟨λh6=>prE (x1p hq h7 h9 (by omega)),λh6=>?_⟩⟩
 have h6:m.length≠6:=by omega
 have hJ:=h.jv hv h1 h9 h6
 refine⟨(),0,hJ,⟨rfl,rfl,rfl⟩,λk hk=>⟨λhlt=>⟨hlt,by omega,xh8 (hk.ok k hlt),λhg=>⟨qa6 (by omega) (by omega),k+1,⟨hlt,hk.ok⟩,by omega,(prE (wg6 hg)).1,(prE (wg6 hg)).2,by push_cast; rfl⟩,λhg=>⟨qa6 (by omega) (by omega),k+1,⟨hlt,hk.ok⟩,by omega,by rw[wg7 hg],by rw[wg7 hg],by push_cast; rfl⟩⟩,λhge=>?_⟩⟩
 obtain rfl:k=b.length:=by have:=hk.le; omega
 exact prE (x1q hq h7 h9 h6)
theorem x1r {r:List Int} (h:r.length<=1000):wm4 [r]:=⟨by show 1<=_; omega,λi hi=>by
 obtain rfl:i=0:=by have:i<1:=hi; omega
 show r.length<=_
 omega⟩
theorem xm4 {b:List (List Int)} {f:List Int->Bool} (h:∀i,i<b.length->f (nL b i)=false):b.any f=false:=by
 rw[List.any_eq_false]
 intro x hx
 obtain⟨i,hi,rfl⟩:=List.getElem_of_mem hx
 rw[<- qk2 b i hi,h i hi]
 exact Bool.false_ne_true
theorem w37 {m:List (List Int)} (hv:validB m=true) (h7:(nL m 0).length<=7):q1q m:=by
 have hM:=Mk.of hv
 have:=hM.rows6
 exact⟨⟨by omega,λi hi=>by rw[hM.each i hi]; omega⟩,λ_=>h7⟩
theorem xh9 {m:List (List Int)} {r:List Int} (h:validB (m++[r])=true/\(nL (m++[r]) 0).length<=7):q1q (m++[r]):=w37 h.1 h.2
structure B6a (m b:List (List Int)) (k:Nat):Prop where
 le:k<=b.length
 ok:∀i,i<k->q78 (nL b i)=false
structure B6b (m b:List (List Int)) (k:Nat):Prop where
 le:k<=b.length
 ok:∀i,i<k->(nL b i).length=(nL m 0).length
def x1s (m b:List (List Int)):Nat->Option Inv
 | 0=>some (Inv.of [21] 0 (λk:Nat=>[(21,.lit (.int .i64 k))]) (λ_=>[]) (λk=>B6a m b k) (λk=>b.length-k))
 | 1=>some (Inv.of [40] 0 (λk:Nat=>[(40,.lit (.int .i64 k))]) (λ_=>[]) (λk=>B6b m b k) (λk=>b.length-k))
 | 2=>some (Inv.of [10,11,57] 0 (λk:Nat=>[(10,.lit (.int .i64 (qk5 m b k).2)),(11,.lit (.int .i64 (qk5 m b k).1)),(57,.lit (.int .i64 k))]) (λ_=>[]) (λk=>q71 m b k) (λk=>b.length-k))
 | _=>none
theorem w38:qd6 Tryz.prog 35 x6i:=by
 refine meets (snd (SpecsOk.cons q3i (SpecsOk.cons q9y (SpecsOk.nil _)))) Tryz.func35 rfl rfl (λx=>x1s x.1 x.2.1) (λ_=>by kernel_rfl) (by decide) ?_
 rintro⟨m,b,⟨⟩⟩ h
 revert m b
 intro(m:List (List Int)) (b:List (List Int)) (h:BetPre m b)
 refine @qd9 _ (let Q0:=w9b m b; wm4 m/\((!validB m)=true->(0:Int)=Q0.1/\(1:Int)=Q0.2/\True)/\((!validB m)=false->∃(v1:Unit),∃(v2:Nat),B6a m b v2/\(((0:Int)=(↑v2:Int)/\True)/\True)/\∀(v3:Nat),B6a m b v3->(decide ((↑v3:Int)<(↑b.length:Int))=true->((0:Int)<=(↑v3:Int)/\(↑v3:Int)<(↑b.length:Int))/\wm4 [nL b v3]/\((!validB [nL b v3])=true->(0:Int)=Q0.1/\(1:Int)=Q0.2/\True)/\((!validB [nL b v3])=false->fits .i64 ((↑v3:Int)+(1:Int))/\∃(v7:Nat),B6a m b v7/\b.length-v7<b.length-v3/\((↑v3:Int)+(1:Int)=(↑v7:Int)/\True)/\True))/\(decide ((↑v3:Int)<(↑b.length:Int))=false->(decide ((↑b.length:Int)<(1:Int))=true->(0:Int)=Q0.1/\(7:Int)=Q0.2/\True)/\(decide ((↑b.length:Int)<(1:Int))=false->(decide ((20:Int)<(↑b.length:Int))=true->(0:Int)=Q0.1/\(7:Int)=Q0.2/\True)/\(decide ((20:Int)<(↑b.length:Int))=false->∃(v8:Unit),∃(v9:Nat),B6b m b v9/\(((0:Int)=(↑v9:Int)/\True)/\True)/\∀(v10:Nat),B6b m b v10->(decide ((↑v10:Int)<(↑b.length:Int))=true->((0:Int)<=(↑v10:Int)/\(↑v10:Int)<(↑b.length:Int))/\((0:Int)<=(0:Int)/\(0:Int)<(↑m.length:Int))/\(((↑(nL b v10).length:Int) != (↑(nL m (0:Nat)).length:Int))=true->(0:Int)=Q0.1/\(9:Int)=Q0.2/\True)/\(((↑(nL b v10).length:Int) != (↑(nL m (0:Nat)).length:Int))=false->fits .i64 ((↑v10:Int)+(1:Int))/\∃(v14:Nat),B6b m b v14/\b.length-v14<b.length-v10/\((↑v10:Int)+(1:Int)=(↑v14:Int)/\True)/\True))/\(decide ((↑v10:Int)<(↑b.length:Int))=false->(((↑m.length:Int)==(6:Int))=true->(0:Int)=Q0.1/\(4:Int)=Q0.2/\True)/\(((↑m.length:Int)==(6:Int))=false->∃(v14:Unit),∃(v15:Nat),q71 m b v15/\(((-1:Int)=(qk5 m b v15).2/\(0:Int)=(qk5 m b v15).1/\(0:Int)=(↑v15:Int)/\True)/\True)/\∀(v16:Nat),q71 m b v16->(decide ((↑v16:Int)<(↑b.length:Int))=true->((0:Int)<=(↑v16:Int)/\(↑v16:Int)<(↑b.length:Int))/\((0:Nat)<m.length/\Nat.le ((0:Nat)+m.length) (1000000:Nat))/\((0:Nat)<List.length [nL b v16]/\Nat.le (([]++m).length+List.length [nL b v16]) (1000000:Nat))/\q1q ([]++m++[nL b v16])/\(decide ((qk5 m b v16).2<(qu8 ([]++m++[nL b v16])).1)=true->fits .i64 ((↑v16:Int)+(1:Int))/\∃(v20:Nat),q71 m b v20/\b.length-v20<b.length-v16/\((qu8 ([]++m++[nL b v16])).1=(qk5 m b v20).2/\(↑v16:Int)=(qk5 m b v20).1/\(↑v16:Int)+(1:Int)=(↑v20:Int)/\True)/\True)/\(decide ((qk5 m b v16).2<(qu8 ([]++m++[nL b v16])).1)=false->fits .i64 ((↑v16:Int)+(1:Int))/\∃(v20:Nat),q71 m b v20/\b.length-v20<b.length-v16/\((qk5 m b v16).2=(qk5 m b v20).2/\(qk5 m b v16).1=(qk5 m b v20).1/\(↑v16:Int)+(1:Int)=(↑v20:Int)/\True)/\True))/\(decide ((↑v16:Int)<(↑b.length:Int))=false->(qk5 m b v16).1=Q0.1/\(0:Int)=Q0.2/\True)))))))) (by kernel_rfl) ?_
 try simp only[z0,z1,z2,z3,z4,z5,z6,z7,z8,z9,z10,Int.reduceEq,z11,z12,z13,z14,z15,z16,z17,z18,z19,z20,z21,z22,z23,z24,z25,z26,z27,z28,z29,z30,Int.reduceLE,Int.reduceLT,z31,z32,z33,z34,qa3]
 try simp only[qb4,qb5,qc0,z31,z32,z2,z1]
 have hl:=h.len
 refine⟨h.fit.fit,λhv=>prE (bet_1 λq=>by rw[hv] at q; cases q.1),λhv=>⟨(),0,⟨Nat.zero_le _,λi hi=>absurd hi (Nat.not_lt_zero _)⟩,rfl,λk hk=>⟨λhlt=>⟨hlt,x1r (h.each k hlt),λh1=>prE (bet_1 λq=>?_),λh1=>⟨qa6 (by omega) (by omega),k+1,⟨hlt,λi hi=>?_⟩,by omega,by push_cast; rfl⟩⟩,λhge=>?_⟩⟩⟩
 ·have a:=List.any_eq_false.1 q.2 _ (qi9 b k hlt)
  unfold q78 at a
  rw[h1] at a
  simp at a
 ·by_cases e:i=k
  ·subst e; unfold q78; rw[h1]; rfl
  ·exact hk.ok i (by omega)
 have h1:b.any q78=false:=xm4 λi hi=>hk.ok i (by omega)
 have hq:validB m=true/\b.any q78=false:=⟨hv,h1⟩
 have hM:=Mk.of hv
 have m1:=hM.rows1
 have m6:=hM.rows6
 refine⟨λhb=>prE (xu5 hq λq=>by omega),λhb=>⟨λhb2=>prE (xu5 hq λq=>by omega),λhb2=>⟨(),0,⟨Nat.zero_le _,λi hi=>absurd hi (Nat.not_lt_zero _)⟩,rfl,λj hj=>⟨λhlt=>⟨hlt,by omega,λh9=>prE (x1o hq ⟨by omega,by omega⟩ (List.any_eq_true.2 ⟨_,qi9 b j hlt,decide_eq_true (by omega)⟩)),λh9=>⟨qa6 (by omega) (by omega),j+1,⟨hlt,λi hi=>?_⟩,by omega,by push_cast; rfl⟩⟩,λhge2=>?_⟩⟩⟩⟩
 ·by_cases e:i=j
  ·subst e; omega
  ·exact hj.ok i (by omega)
 have h7:1<=b.length/\b.length<=20:=⟨by omega,by omega⟩
 have h9:b.any (λr=>decide (¬r.length=(nL m 0).length))=false:=xm4 λi hi=>decide_eq_false (not_not_intro (hj.ok i (by omega)))
 refine⟨λh6=>prE (x1p hq h7 h9 (by omega)),λh6=>?_⟩
 have h6:m.length≠6:=by omega
 have hJ:=h.jv hv h1 h9 h6
 refine⟨(),0,hJ,⟨rfl,rfl,rfl⟩,λk hk=>⟨λhlt=>⟨hlt,⟨by omega,by omega⟩,by omega,xh9 (hk.ok k hlt),?_⟩,λhge=>?_⟩⟩
 ·rw[show qu8 (m++[nL b k])=(((ordL (m++[nL b k]):Nat):Int),0) from if_pos (hk.ok k hlt).1]
  dsimp only
  exact⟨λhg=>⟨qa6 (by omega) (by omega),k+1,⟨hlt,hk.ok⟩,by omega,(prE (wg6 hg)).2,(prE (wg6 hg)).1,by push_cast; rfl⟩,λhg=>⟨qa6 (by omega) (by omega),k+1,⟨hlt,hk.ok⟩,by omega,by rw[wg7 hg],by rw[wg7 hg],by push_cast; rfl⟩⟩
 ·obtain rfl:k=b.length:=by have:=hk.le; omega
  exact prE (x1q hq h7 h9 h6)
end Go.Proofs.YtempacilejhbgaaGreat
