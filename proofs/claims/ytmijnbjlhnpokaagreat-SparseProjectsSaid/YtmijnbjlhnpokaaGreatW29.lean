/- The rests of a pursuit: what no column sees, and how great they are. Plain mathematics. No condition. -/
import Derived.Test.YtmijnbjlhnpokaaGreatV38
import Derived.Test.YtmijnbjlhnpokaaGreatW3
import Derived.Test.YtmijnbjlhnpokaaGreatW28
import Derived.Test.YtmijnbjlhnpokaaGreatZ4
set_option linter.unusedVariables false
set_option linter.unusedSimpArgs false
namespace Go.Proofs.YtmijnbjlhnpokaaGreat
open Go Go.RowKit Eng
def x6i (m:List (List Int)) (y:List Int):Nat->Option Inv
 | 0=>some (Inv.of [] 2 (λC:List Int=>[]) (λC=>[.box 109 (.cons (.dat (.list (.int .i64)) m) (.cons (.dat (.int .i64) y) (.cons (.own 1) .nil))),.vec 3 (.int .i64) C]) (λC=>PurI m y C) (λC=>7-C.length))
 | _=>none
abbrev yb7:qc9:=qg4 true none [qo2,qf1] [qf1,qg0] (λ_=>True) (λx=>((w4n x.1 x.2.1).1,(w4n x.1 x.2.1).2,()))
theorem w9d:Meets Tryz.prog 35 yb7:=by
 refine meets (snd (SpecsOk.cons q3x (SpecsOk.cons w8v (SpecsOk.nil _)))) Tryz.func35 rfl rfl (λx=>x6i x.1 x.2.1) (λ_=>by kernel_rfl) (by decide) ?_
 rintro⟨m,y,⟨⟩⟩ -
 revert m y
 intro(m:List (List Int)) (y:List Int)
 refine @qe1 _ (let Q0:=w4n m y; Value.slice none (0:Nat) (0:Nat)=Value.slice none (0:Nat) (0:Nat)/\(0:Nat)<=(1000000:Nat)/\((qs5 m y [] != (0:Int))=true->Q0.1=[]/\qs5 m y []=Q0.2/\True)/\((qs5 m y [] != (0:Int))=false->∃(v1:Unit),∃(v2:List Int),PurI m y v2/\(True/\(m=m/\y=y/\True/\True)/\v2=[]/\True)/\∀(v3:List Int),PurI m y v3->xh7 m y v3/\(((qn6 m y v3).2==(8:Int))=true->v3=Q0.1/\(0:Int)=Q0.2/\True)/\(((qn6 m y v3).2==(8:Int))=false->(((qn6 m y v3).2==(10:Int))=true->Q0.1=[]/\(qn6 m y v3).2=Q0.2/\True)/\(((qn6 m y v3).2==(10:Int))=false->((0:Nat)<List.length [(qn6 m y v3).1]/\Nat.le (v3.length+List.length [(qn6 m y v3).1]) (1000000:Nat))/\∃(v7:List Int),PurI m y v7/\(7:Nat)-v7.length<(7:Nat)-v3.length/\True/\(m=m/\y=y/\True/\True)/\v3++[(qn6 m y v3).1]=v7/\True)))) (by kernel_rfl) ?_
 try simp only[z0,z1,z2,z3,z4,z5,z6,z7,z8,z9,z10,Int.reduceEq,z11,z12,z13,z14,z15,z16,z17,z18,z19,z20,z21,z22,z23,z24,z25,z26,z27,z28,z29,z30,Int.reduceLE,Int.reduceLT,z31,z32,z33,z34,qa1]
 try simp only[qb5,qb6,qd2,z31,z32,z2,z1]
 refine⟨by decide,λhe=>?_,λhe=>⟨(),[],PurI.start he,rfl,λC hC=>?_⟩⟩
 ·unfold w4n; rw[if_neg he]; exact⟨rfl,rfl⟩
 ·have hR:w4n m y=w1y m y 8 []:=by unfold w4n; rw[if_pos he]
  have hu:=hC.unf
  have hl:=hC.len
  refine⟨hC.ask.nxPre,λh1=>?_,λh1=>⟨λh2=>?_,λh2=>⟨by omega,_,hC.step h1 h2,?_,rfl⟩⟩⟩
  ·rw[hR,hu,if_pos h1]; exact⟨rfl,rfl⟩
  ·rw[hR,hu,if_neg h1,if_pos h2]; exact⟨rfl,h2⟩
  ·rw[List.length_append,List.length_singleton]; omega
def sqV (a:q2g):q2g:=(false,q5t a.2.1 a.2.1,q5t a.2.2 a.2.2)
theorem x2l {K:Nat} {a:q2g} (h:RxOk K a):RxOk (K+K) (sqV a):=by
 have a1:=q4f h.n h.ln
 have a2:=q4f h.d h.ld
 unfold sqV
 refine⟨by dsimp only; unfold q5t; rw[qh4],by dsimp only; unfold q5t; rw[qh4],?_,?_⟩
 ·dsimp only; unfold q5t; rw[qw8]; exact qw7 (mul_lt a1 a1)
 ·dsimp only; unfold q5t; rw[qw8]; exact qw7 (mul_lt a2 a2)
abbrev yb8:qc9:=qg4 false none [q5a] [q5a] (λx=>RxOk 400 x.1) (λx=>(sqV x.1,()))
theorem w9e:Meets Tryz.prog 93 yb8:=by
 refine meets (snd (SpecsOk.cons q21 (SpecsOk.nil _))) Tryz.func93 rfl rfl (λ_ _=>none) (λ_=>by kernel_rfl) (by decide) ?_
 rintro⟨⟨s,n,d⟩,⟨⟩⟩ h
 revert s n d
 intro(s:Bool) (n:List Int) (d:List Int) (h:RxOk 400 (s,n,d))
 refine @qe1 _ (let Q0:=(sqV (s,n,d)); (DigOk n/\DigOk n)/\(DigOk d/\DigOk d)/\false=Q0.1/\q5t n n=Q0.2.1/\q5t d d=Q0.2.2/\True) (by kernel_rfl) ?_
 try simp only[z0,z1,z2,z3,z4,z5,z6,z7,z8,z9,z10,Int.reduceEq,z11,z12,z13,z14,z15,z16,z17,z18,z19,z20,z21,z22,z23,z24,z25,z26,z27,z28,z29,z30,Int.reduceLE,Int.reduceLT,z31,z32,z33,z34,qa1]
 try simp only[qb5,qb6,qd2,z31,z32,z2,z1]
 exact⟨⟨h.dn,h.dn⟩,⟨h.dd,h.dd⟩,rfl,rfl,rfl⟩
def qk3 (x:List (Int × Int)):Nat->q2g
 | 0=>qc7 0 1
 | k+1=>plusV (qk3 x k) (sqV (qc7 (nR x k).1 (nR x k).2))
structure wq3 (x:List (Int × Int)):Prop where
 len:x.length<=20
 val:∀j,j<x.length->qc8 BIG (nR x j).1/\qc8 BIG (nR x j).2
theorem ww4 {x:List (Int × Int)} (h:wq3 x):∀k,k<=x.length->RxOk (7*k+3) (qk3 x k)
 | 0,_=>q0f (by unfold qc8 BIG; omega) (by unfold qc8 BIG; omega)
 | k+1,hk=>by
  have ih:=ww4 h k (by omega)
  have:=w9a ih (x2l (q0f (h.val k (by omega)).1 (h.val k (by omega)).2))
  exact this.up
abbrev yb9:qc9:=qg4 false none [xc8] [q5a] (λx=>wq3 x.1) (λx=>(qk3 x.1 x.1.length,()))
abbrev x6j (a:q2g):AObj:=.box 65 (.cons (.lit (.bool a.1)) (.cons (.dat (.int .i64) a.2.1) (.cons (.dat (.int .i64) a.2.2) .nil)))
abbrev x6k:AObj:=.box 65 (.cons (.lit (.bool false)) (.cons (.lit (.slice .none 0 0)) (.cons (.lit (.slice .none 0 0)) .nil)))
def x6l (x:List (Int × Int)):Nat->Option Inv
 | 0=>some (Inv.of [9] 2 (λk:Nat=>[(9,.lit (.int .i64 k))]) (λk=>[x6k,x6j (qk3 x k)]) (λk=>k<=x.length) (λk=>x.length-k))
 | _=>none
theorem w9f:Meets Tryz.prog 37 yb9:=by
 refine meets (snd (SpecsOk.cons q79 (SpecsOk.cons q25 (SpecsOk.cons w9e (SpecsOk.cons q26 (SpecsOk.nil _)))))) Tryz.func37 rfl rfl (λx=>x6l x.1) (λ_=>by kernel_rfl) (by decide) ?_
 rintro⟨x,⟨⟩⟩ h
 revert x
 intro(x:List (Int × Int)) (h:wq3 x)
 refine @qe1 _ (let Q0:=qk3 x x.length; qc8 BIG (0:Int)/\∃(v0:Unit),∃(v1:Nat),Nat.le v1 x.length/\(((0:Int)=(↑v1:Int)/\True)/\(false=false/\Value.slice none (0:Nat) (0:Nat)=Value.slice none (0:Nat) (0:Nat)/\Value.slice none (0:Nat) (0:Nat)=Value.slice none (0:Nat) (0:Nat)/\True)/\((qc7 (0:Int) (1:Int)).1=(qk3 x v1).1/\(qc7 (0:Int) (1:Int)).2.1=(qk3 x v1).2.1/\(qc7 (0:Int) (1:Int)).2.2=(qk3 x v1).2.2/\True)/\True)/\∀(v2:Nat),Nat.le v2 x.length->(decide ((↑v2:Int)<(↑x.length:Int))=true->((0:Int)<=(↑v2:Int)/\(↑v2:Int)<(↑x.length:Int))/\(qc8 BIG (qd1 (Ty.prod (Ty.int .i64) (Ty.int .i64)) x v2).1/\qc8 BIG (qd1 (Ty.prod (Ty.int .i64) (Ty.int .i64)) x v2).2)/\RxOk (400:Nat) ((qc7 (qd1 (Ty.prod (Ty.int .i64) (Ty.int .i64)) x v2).1 (qd1 (Ty.prod (Ty.int .i64) (Ty.int .i64)) x v2).2).1,(qc7 (qd1 (Ty.prod (Ty.int .i64) (Ty.int .i64)) x v2).1 (qd1 (Ty.prod (Ty.int .i64) (Ty.int .i64)) x v2).2).2.1,(qc7 (qd1 (Ty.prod (Ty.int .i64) (Ty.int .i64)) x v2).1 (qd1 (Ty.prod (Ty.int .i64) (Ty.int .i64)) x v2).2).2.2)/\(RxOk (400:Nat) ((qk3 x v2).1,(qk3 x v2).2.1,(qk3 x v2).2.2)/\RxOk (400:Nat) ((sqV ((qc7 (qd1 (Ty.prod (Ty.int .i64) (Ty.int .i64)) x v2).1 (qd1 (Ty.prod (Ty.int .i64) (Ty.int .i64)) x v2).2).1,(qc7 (qd1 (Ty.prod (Ty.int .i64) (Ty.int .i64)) x v2).1 (qd1 (Ty.prod (Ty.int .i64) (Ty.int .i64)) x v2).2).2.1,(qc7 (qd1 (Ty.prod (Ty.int .i64) (Ty.int .i64)) x v2).1 (qd1 (Ty.prod (Ty.int .i64) (Ty.int .i64)) x v2).2).2.2)).1,(sqV ((qc7 (qd1 (Ty.prod (Ty.int .i64) (Ty.int .i64)) x v2).1 (qd1 (Ty.prod (Ty.int .i64) (Ty.int .i64)) x v2).2).1,(qc7 (qd1 (Ty.prod (Ty.int .i64) (Ty.int .i64)) x v2).1 (qd1 (Ty.prod (Ty.int .i64) (Ty.int .i64)) x v2).2).2.1,(qc7 (qd1 (Ty.prod (Ty.int .i64) (Ty.int .i64)) x v2).1 (qd1 (Ty.prod (Ty.int .i64) (Ty.int .i64)) x v2).2).2.2)).2.1,(sqV ((qc7 (qd1 (Ty.prod (Ty.int .i64) (Ty.int .i64)) x v2).1 (qd1 (Ty.prod (Ty.int .i64) (Ty.int .i64)) x v2).2).1,(qc7 (qd1 (Ty.prod (Ty.int .i64) (Ty.int .i64)) x v2).1 (qd1 (Ty.prod (Ty.int .i64) (Ty.int .i64)) x v2).2).2.1,(qc7 (qd1 (Ty.prod (Ty.int .i64) (Ty.int .i64)) x v2).1 (qd1 (Ty.prod (Ty.int .i64) (Ty.int .i64)) x v2).2).2.2)).2.2))/\fits .i64 ((↑v2:Int)+(1:Int))/\∃(v5:Nat),Nat.le v5 x.length/\x.length-v5<x.length-v2/\((↑v2:Int)+(1:Int)=(↑v5:Int)/\True)/\(false=false/\Value.slice none (0:Nat) (0:Nat)=Value.slice none (0:Nat) (0:Nat)/\Value.slice none (0:Nat) (0:Nat)=Value.slice none (0:Nat) (0:Nat)/\True)/\((plusV ((qk3 x v2).1,(qk3 x v2).2.1,(qk3 x v2).2.2) ((sqV ((qc7 (qd1 (Ty.prod (Ty.int .i64) (Ty.int .i64)) x v2).1 (qd1 (Ty.prod (Ty.int .i64) (Ty.int .i64)) x v2).2).1,(qc7 (qd1 (Ty.prod (Ty.int .i64) (Ty.int .i64)) x v2).1 (qd1 (Ty.prod (Ty.int .i64) (Ty.int .i64)) x v2).2).2.1,(qc7 (qd1 (Ty.prod (Ty.int .i64) (Ty.int .i64)) x v2).1 (qd1 (Ty.prod (Ty.int .i64) (Ty.int .i64)) x v2).2).2.2)).1,(sqV ((qc7 (qd1 (Ty.prod (Ty.int .i64) (Ty.int .i64)) x v2).1 (qd1 (Ty.prod (Ty.int .i64) (Ty.int .i64)) x v2).2).1,(qc7 (qd1 (Ty.prod (Ty.int .i64) (Ty.int .i64)) x v2).1 (qd1 (Ty.prod (Ty.int .i64) (Ty.int .i64)) x v2).2).2.1,(qc7 (qd1 (Ty.prod (Ty.int .i64) (Ty.int .i64)) x v2).1 (qd1 (Ty.prod (Ty.int .i64) (Ty.int .i64)) x v2).2).2.2)).2.1,(sqV ((qc7 (qd1 (Ty.prod (Ty.int .i64) (Ty.int .i64)) x v2).1 (qd1 (Ty.prod (Ty.int .i64) (Ty.int .i64)) x v2).2).1,(qc7 (qd1 (Ty.prod (Ty.int .i64) (Ty.int .i64)) x v2).1 (qd1 (Ty.prod (Ty.int .i64) (Ty.int .i64)) x v2).2).2.1,(qc7 (qd1 (Ty.prod (Ty.int .i64) (Ty.int .i64)) x v2).1 (qd1 (Ty.prod (Ty.int .i64) (Ty.int .i64)) x v2).2).2.2)).2.2)).1=(qk3 x v5).1/\(plusV ((qk3 x v2).1,(qk3 x v2).2.1,(qk3 x v2).2.2) ((sqV ((qc7 (qd1 (Ty.prod (Ty.int .i64) (Ty.int .i64)) x v2).1 (qd1 (Ty.prod (Ty.int .i64) (Ty.int .i64)) x v2).2).1,(qc7 (qd1 (Ty.prod (Ty.int .i64) (Ty.int .i64)) x v2).1 (qd1 (Ty.prod (Ty.int .i64) (Ty.int .i64)) x v2).2).2.1,(qc7 (qd1 (Ty.prod (Ty.int .i64) (Ty.int .i64)) x v2).1 (qd1 (Ty.prod (Ty.int .i64) (Ty.int .i64)) x v2).2).2.2)).1,(sqV ((qc7 (qd1 (Ty.prod (Ty.int .i64) (Ty.int .i64)) x v2).1 (qd1 (Ty.prod (Ty.int .i64) (Ty.int .i64)) x v2).2).1,(qc7 (qd1 (Ty.prod (Ty.int .i64) (Ty.int .i64)) x v2).1 (qd1 (Ty.prod (Ty.int .i64) (Ty.int .i64)) x v2).2).2.1,(qc7 (qd1 (Ty.prod (Ty.int .i64) (Ty.int .i64)) x v2).1 (qd1 (Ty.prod (Ty.int .i64) (Ty.int .i64)) x v2).2).2.2)).2.1,(sqV ((qc7 (qd1 (Ty.prod (Ty.int .i64) (Ty.int .i64)) x v2).1 (qd1 (Ty.prod (Ty.int .i64) (Ty.int .i64)) x v2).2).1,(qc7 (qd1 (Ty.prod (Ty.int .i64) (Ty.int .i64)) x v2).1 (qd1 (Ty.prod (Ty.int .i64) (Ty.int .i64)) x v2).2).2.1,(qc7 (qd1 (Ty.prod (Ty.int .i64) (Ty.int .i64)) x v2).1 (qd1 (Ty.prod (Ty.int .i64) (Ty.int .i64)) x v2).2).2.2)).2.2)).2.1=(qk3 x v5).2.1/\(plusV ((qk3 x v2).1,(qk3 x v2).2.1,(qk3 x v2).2.2) ((sqV ((qc7 (qd1 (Ty.prod (Ty.int .i64) (Ty.int .i64)) x v2).1 (qd1 (Ty.prod (Ty.int .i64) (Ty.int .i64)) x v2).2).1,(qc7 (qd1 (Ty.prod (Ty.int .i64) (Ty.int .i64)) x v2).1 (qd1 (Ty.prod (Ty.int .i64) (Ty.int .i64)) x v2).2).2.1,(qc7 (qd1 (Ty.prod (Ty.int .i64) (Ty.int .i64)) x v2).1 (qd1 (Ty.prod (Ty.int .i64) (Ty.int .i64)) x v2).2).2.2)).1,(sqV ((qc7 (qd1 (Ty.prod (Ty.int .i64) (Ty.int .i64)) x v2).1 (qd1 (Ty.prod (Ty.int .i64) (Ty.int .i64)) x v2).2).1,(qc7 (qd1 (Ty.prod (Ty.int .i64) (Ty.int .i64)) x v2).1 (qd1 (Ty.prod (Ty.int .i64) (Ty.int .i64)) x v2).2).2.1,(qc7 (qd1 (Ty.prod (Ty.int .i64) (Ty.int .i64)) x v2).1 (qd1 (Ty.prod (Ty.int .i64) (Ty.int .i64)) x v2).2).2.2)).2.1,(sqV ((qc7 (qd1 (Ty.prod (Ty.int .i64) (Ty.int .i64)) x v2).1 (qd1 (Ty.prod (Ty.int .i64) (Ty.int .i64)) x v2).2).1,(qc7 (qd1 (Ty.prod (Ty.int .i64) (Ty.int .i64)) x v2).1 (qd1 (Ty.prod (Ty.int .i64) (Ty.int .i64)) x v2).2).2.1,(qc7 (qd1 (Ty.prod (Ty.int .i64) (Ty.int .i64)) x v2).1 (qd1 (Ty.prod (Ty.int .i64) (Ty.int .i64)) x v2).2).2.2)).2.2)).2.2=(qk3 x v5).2.2/\True)/\True)/\(decide ((↑v2:Int)<(↑x.length:Int))=false->(qk3 x v2).1=Q0.1/\(qk3 x v2).2.1=Q0.2.1/\(qk3 x v2).2.2=Q0.2.2/\True)) (by kernel_rfl) ?_
 try simp only[z0,z1,z2,z3,z4,z5,z6,z7,z8,z9,z10,Int.reduceEq,z11,z12,z13,z14,z15,z16,z17,z18,z19,z20,z21,z22,z23,z24,z25,z26,z27,z28,z29,z30,Int.reduceLE,Int.reduceLT,z31,z32,z33,z34,qa1]
 try simp only[qb5,qb6,qd2,z31,z32,z2,z1]
 have hl:=h.len
 refine⟨by unfold qc8 BIG; omega,(),0,Nat.zero_le _,⟨rfl,rfl,rfl,rfl⟩,λk hk=>⟨λhlt=>?_,λhge=>?_⟩⟩
 ·have hv:=h.val k hlt
  have hE:=q0f hv.1 hv.2
  have hq:=x2l hE
  have hx:=ww4 h k hk
  have es:qk3 x (k+1)=plusV (qk3 x k) (sqV (qc7 (nR x k).1 (nR x k).2)):=rfl
  exact⟨hlt,hv,hE.up,⟨hx.up,hq.up⟩,qa7 (by omega) (by omega),k+1,hlt,by omega,by omega,congrArg Prod.fst es.symm,congrArg (λp=>p.2.1) es.symm,congrArg (λp=>p.2.2) es.symm⟩
 ·obtain rfl:k=x.length:=by omega
  exact⟨rfl,rfl,rfl⟩
def q4g (m:List (List Int)):Int × Int:=if qe9 m=true then((qd8 m).2.length,0) else(0,1)
structure w9g (m:List (List Int)):Prop where
 fit:wh2 m
 rd:qe9 m=true->w9n m
abbrev yc0:qc9:=qg4 true none [qo2] [qg0,qg0] (λx=>w9g x.1) (λx=>((q4g x.1).1,(q4g x.1).2,()))
theorem w9h:Meets Tryz.prog 36 yc0:=by
 refine meets (snd (SpecsOk.cons w04 (SpecsOk.cons xf9 (SpecsOk.nil _)))) Tryz.func36 rfl rfl (λ_ _=>none) (λ_=>by kernel_rfl) (by decide) ?_
 rintro⟨m,⟨⟩⟩ h
 revert m
 intro(m:List (List Int)) (h:w9g m)
 refine @qe1 _ (wh2 m/\((!qe9 m)=true->(0:Int)=(q4g m).1/\(1:Int)=(q4g m).2/\True)/\((!qe9 m)=false->w9n m/\(↑(qd8 m).2.length:Int)=(q4g m).1/\(0:Int)=(q4g m).2/\True)) (by kernel_rfl) ?_
 try simp only[z0,z1,z2,z3,z4,z5,z6,z7,z8,z9,z10,Int.reduceEq,z11,z12,z13,z14,z15,z16,z17,z18,z19,z20,z21,z22,z23,z24,z25,z26,z27,z28,z29,z30,Int.reduceLE,Int.reduceLT,z31,z32,z33,z34,qa1]
 try simp only[qb5,qb6,qd2,z31,z32,z2,z1]
 refine⟨h.fit,λhv=>?_,λhv=>⟨h.rd hv,?_⟩⟩
 ·unfold q4g; rw[if_neg (by rw[hv]; decide)]; exact⟨rfl,rfl⟩
 ·unfold q4g; rw[if_pos hv]; exact⟨rfl,rfl⟩
theorem AskC.t46 {m:List (List Int)} {y C:List Int} (h:AskC m y C):qh0 m y C<=46656:=h.rs.tms_le h.gr
theorem wg9 (n:Int) {d:Int} (hd:0<d):0<(q8c n d).2/\(q8c n d).2<=d/\(q8c n d).1.natAbs<=n.natAbs/\∃u:Int,d=(q8c n d).2*u/\n=(q8c n d).1*u:=by
 have hg:=qm8 (a:=n) (b:=d) (.inr (by omega))
 obtain⟨x,hx⟩:=wv6 n d
 obtain⟨z,hz⟩:=wv7 n d
 unfold q8c
 have a1:=q2a n (qe2 n d)
 have a2:=q2a d (qe2 n d)
 generalize qe2 n d=g at hg hx hz a1 a2 ⊢
 have e1:n.tdiv g=x:=by rw[hx]; exact Int.mul_tdiv_cancel_left _ (by omega)
 have e2:d.tdiv g=z:=by rw[hz]; exact Int.mul_tdiv_cancel_left _ (by omega)
 dsimp only
 rw[e1] at a1 ⊢
 rw[e2] at a2 ⊢
 have hz0:0<z:=q4b hg (by omega)
 exact⟨hz0,by omega,a1,g,by rw[hz,Int.mul_comm],by rw[hx,Int.mul_comm]⟩
theorem qy4 (m:List (List Int)) (y C:List Int):(qj6 m y C).length=y.length:=by simp[qj6,qy3]
theorem AskC.frac {m:List (List Int)} {y C:List Int} (h:AskC m y C) {i:Nat} (hi:i<m.length):nR (qj6 m y C) i=q8c (nI (qe8 m y C) i) (qh0 m y C):=by
 have h1:=h.t1
 have hy:=h.ylen
 rw[x6f _ _ (by rw[qy4]; omega)]
 have e:nI (qe8 m y C) i=(qe8 m y C)[i]'(by rw[qy3]; omega):=qh7 _ _ _
 rw[e]
 simp only[qj6,List.getElem_map]
 exact w8d h1.1
theorem AskC.fracB {m:List (List Int)} {y C:List Int} (h:AskC m y C) {i:Nat} (hi:i<m.length):qc8 BIG (nR (qj6 m y C) i).1/\qc8 BIG (nR (qj6 m y C) i).2/\1<=(nR (qj6 m y C) i).2/\(nR (qj6 m y C) i).2<=50000:=by
 have h1:=h.t1
 have h2:=h.t46
 have h3:=h.restB i hi
 obtain⟨a,b,c,_⟩:=wg9 (nI (qe8 m y C) i) h1.1
 have hB:BIG=4000000000000000000:=rfl
 rw[h.frac hi]
 refine⟨by unfold qc8; omega,by unfold qc8; omega,by omega,by omega⟩
theorem AskC.sees0 {m:List (List Int)} {y C:List Int} (h:AskC m y C) {j:Nat} (hj:j<C.length):q5u (qe6 (qi1 m (nI C j).toNat) (qj6 m y C) (qi1 m (nI C j).toNat).length) (qc7 0 1)=0:=by
 have h1:=h.t1
 rw[qi7]
 refine w4h (L:=qh0 m y C) (u:=λi=>(qh0 m y C).tdiv (nR (qj6 m y C) i).2) (by omega) (λi hi=>?_) ?_
 ·rw[h.frac hi]
  obtain⟨a,b,c,u,d,e⟩:=wg9 (nI (qe8 m y C) i) h1.1
  refine⟨a,?_⟩
  have:qh0 m y C=(q8c (nI (qe8 m y C) i) (qh0 m y C)).2*(qh0 m y C).tdiv (q8c (nI (qe8 m y C) i) (qh0 m y C)).2:=(Int.mul_tdiv_cancel' ⟨u,d⟩).symm
  exact this
 ·rw[Int.zero_mul,<- h.orth hj]
  refine qb4 λi hi=>?_
  rw[q0d _ _ _ hi,h.frac hi]
  obtain⟨a,b,c,u,d,e⟩:=wg9 (nI (qe8 m y C) i) h1.1
  have e2:(qh0 m y C).tdiv (q8c (nI (qe8 m y C) i) (qh0 m y C)).2=u:=by
   have:qh0 m y C=(q8c (nI (qe8 m y C) i) (qh0 m y C)).2*u:=d
   conv=>lhs; rw[this]
   have e3:(q8c (nI (qe8 m y C) i) ((q8c (nI (qe8 m y C) i) (qh0 m y C)).2*u)).2=(q8c (nI (qe8 m y C) i) (qh0 m y C)).2:=by rw[<- this]
   rw[e3]
   exact Int.mul_tdiv_cancel_left _ (by omega)
  rw[e2,<- e]
theorem xm1 (a:q2g):q0m (sqV a)=q0m a*q0m a/\q0o (sqV a)=q0o a*q0o a:=by
 unfold sqV q0m q0o q5t
 dsimp only
 rw[qh4,qh4]
 refine⟨?_,by push_cast; rfl⟩
 cases a.1
 ·simp
 ·simp[Int.neg_mul_neg]
theorem xm2 {x:List (Int × Int)} {L:Int} {r u:Nat->Int}:∀k,(∀j,j<k->0<(nR x j).2/\L=(nR x j).2*u j/\r j=(nR x j).1*u j)->q0m (qk3 x k)*(L*L)=q0o (qk3 x k)*(sm k λj=>r j*r j)/\0<q0o (qk3 x k)
 | 0,_=>by
  rw[qk3,q1f,q1g (by decide),sm]
  exact⟨by simp,by decide⟩
 | k+1,h=>by
  obtain⟨h1,h2⟩:=xm2 k λj hj=>h j (by omega)
  obtain⟨a,b,c⟩:=h k (by omega)
  rw[qk3,q6f,w18,(xm1 _).1,(xm1 _).2,q1f,q1g (by omega),sm]
  refine⟨?_,Int.mul_pos h2 (Int.mul_pos a a)⟩
  rw[c]
  generalize q0m (qk3 x k)=N at h1 ⊢
  generalize q0o (qk3 x k)=D at h1 ⊢
  generalize(sm k λj=>r j*r j)=S at h1 ⊢
  generalize(nR x k).1=n
  generalize(nR x k).2=d at b ⊢
  calc(N*(d*d)+n*n*D)*(L*L)=(N*(L*L))*(d*d)+n*n*D*(L*L):=by grind
   _=(D*S)*(d*d)+n*n*D*((d*u k)*(d*u k)):=by rw[h1,b]
   _=D*(d*d)*(S+n*u k*(n*u k)):=by grind
theorem xv8 {a:q2g}:(a.1=true->q0m a<=0)/\(a.1=false->0<=q0m a):=by
 unfold q0m
 refine⟨λh=>by rw[if_pos h]; omega,λh=>by rw[if_neg (by rw[h]; decide)]; omega⟩
theorem x2m {a b:q2g} (h:q0m a*q0o b<=q0m b*q0o a):q5u a b<=0:=by
 rcases Int.lt_or_eq_of_le h with q | q
 ·unfold q5u
  split
  ·exact Int.le_refl _
  ·split
   ·decide
   ·rename_i hn
    exfalso
    have h1:=(xv8 (a:=plusV a (qg6 (-1) b))).2 (by cases e:(plusV a (qg6 (-1) b)).1 with
     | false=>rfl
     | true=>exact absurd e hn)
    rw[q6f,q77,q76] at h1
    have e:-1*q0m b*q0o a=- (q0m b*q0o a):=by grind
    rw[e] at h1
    omega
 ·rw[(w19 a b).2 q]; exact Int.le_refl _
theorem w9i {m:List (List Int)} {y C C':List Int} (h:AskC m y C) (h':AskC m y C') (hs:∀q,q<C.length->∃k,k<C'.length/\nI C' k=nI C q):(sm m.length λi=>nI (qe8 m y C') i*nI (qe8 m y C') i)*(qh0 m y C*qh0 m y C)<=(sm m.length λi=>nI (qe8 m y C) i*nI (qe8 m y C) i)*(qh0 m y C' * qh0 m y C'):=by
 obtain⟨r,hr⟩:∃r:Nat->Int,∀i,r i=nI (qe8 m y C) i:=⟨_,λ_=>rfl⟩
 obtain⟨s,hs'⟩:∃s:Nat->Int,∀i,s i=nI (qe8 m y C') i:=⟨_,λ_=>rfl⟩
 obtain⟨T,hT⟩:∃T,T=qh0 m y C:=⟨_,rfl⟩
 obtain⟨T',hT'⟩:∃T',T'=qh0 m y C':=⟨_,rfl⟩
 have t1:=h.t1
 have t1':=h'.t1
 rw[<- hT] at t1
 rw[<- hT'] at t1'
 have ho:∀k,k<C'.length->(sm m.length λi=>nI (nL m i) (nI C' k).toNat*s i)=0:=λk hk=>by
  rw[<- h'.orth hk]; exact qb4 λi _=>by rw[hs']
 have ex:∀(D:List Int) (hD:AskC m y D),(∀q,q<(qf0 m D).length->∃k,k<C'.length/\nI C' k=nI (qf0 m D) q)->(sm m.length λi=>s i*nI (qe8 m y D) i)=qh0 m y D*sm m.length λi=>s i*nI y i:=λD hD hin=>by
  have e:(sm m.length λi=>s i*nI (qe8 m y D) i)=(sm m.length λi=>qh0 m y D*(s i*nI y i))-sm m.length λi=>sm (qf0 m D).length λk=>((qh0 m y D).tdiv (q0e (gP m y D) (qf0 m D).length k)*q8d (gP m y D) (qf0 m D).length k)*(nI (nL m i) (nI (qf0 m D) k).toNat*s i):=by
   rw[<- w0t]
   refine qb4 λi hi=>?_
   rw[wg1 m y D (by rw[hD.ylen]; exact hi),wf9,Int.mul_sub,<- qg5]
   congr 1
   ·grind
   ·refine qb4 λk hk=>?_
    rw[q0d _ _ _ hi]; grind
  have hz:(sm m.length λi=>sm (qf0 m D).length λk=>((qh0 m y D).tdiv (q0e (gP m y D) (qf0 m D).length k)*q8d (gP m y D) (qf0 m D).length k)*(nI (nL m i) (nI (qf0 m D) k).toNat*s i))=0:=by
   rw[qs7]
   refine sm_zero λk hk=>?_
   rw[qg5]
   obtain⟨k',h1,h2⟩:=hin k hk
   rw[<- h2,ho k' h1,Int.mul_zero]
  rw[e,hz,Int.sub_zero,qg5]
 have e1:=ex C h λq hq=>by
  obtain⟨k,h1,h2⟩:=(wf6 h.msk h.inw).2.2.2.2 q hq
  obtain⟨k',h3,h4⟩:=hs k h1
  exact⟨k',h3,by rw[h4,h2]⟩
 have e2:=ex C' h' λq hq=>by
  obtain⟨k,h1,h2⟩:=(wf6 h'.msk h'.inw).2.2.2.2 q hq
  exact⟨k,h1,h2.symm⟩
 have e1':(sm m.length λi=>s i*r i)=T*sm m.length λi=>s i*nI y i:=by rw[hT,<- e1]; exact qb4 λi _=>by rw[hr]
 have e2':(sm m.length λi=>s i*s i)=T' * sm m.length λi=>s i*nI y i:=by rw[hT',<- e2]; exact qb4 λi _=>by rw[<- hs']
 have hc:=xl7 m.length s r
 have g1:(sm m.length λi=>nI (qe8 m y C') i*nI (qe8 m y C') i)=sm m.length λi=>s i*s i:=qb4 λi _=>by rw[hs']
 have g2:(sm m.length λi=>nI (qe8 m y C) i*nI (qe8 m y C) i)=sm m.length λi=>r i*r i:=qb4 λi _=>by rw[hr]
 rw[g1,g2,<- hT,<- hT']
 have hS:0<=sm m.length λi=>s i*s i:=wv8 _ λi _=>q71 _
 have hR:0<=sm m.length λi=>r i*r i:=wv8 _ λi _=>q71 _
 rw[e1'] at hc
 generalize(sm m.length λi=>s i*s i)=S at *
 generalize(sm m.length λi=>r i*r i)=R at *
 generalize(sm m.length λi=>s i*nI y i)=w at *
 rcases Int.lt_or_eq_of_le hS with q | q
 ·refine Int.le_of_mul_le_mul_left (a:=S) ?_ q
  have h3:(T*w*(T*w))*(T' * T')<=(S*R)*(T' * T'):=Int.mul_le_mul_of_nonneg_right hc (q71 _)
  have e3:S*(S*(T*T))=(T*w*(T*w))*(T' * T'):=by rw[e2']; grind
  have e4:S*(R*(T' * T'))=(S*R)*(T' * T'):=by grind
  rw[e3,e4]; exact h3
 ·rw[<- q,Int.zero_mul]
  exact Int.mul_nonneg hR (q71 _)
theorem w2b {m:List (List Int)} {C:List Int} (hM:Mk m) (hC:InW (nL m 0).length C) (hI:Ind m C):w9n m/\C.length<=(qd8 m).2.length:=by
 have hO:Ones m.length (nL m 0).length m:=⟨⟨rfl,hM.each⟩,hM.rows1,hM.rows6,hM.pix1,by have:=hM.pix10; omega,λa c ha hc=>by
  have:=hM.small a ha c hc
  omega⟩
 refine⟨hO.rdOk,?_⟩
 have hst:=hO.stR
 have hcn:=(qr3 hO.toMat (nL m 0).length (Nat.le_refl _)).cnt
 have e:(qd8 m).2=(qh5 m (nL m 0).length).piv:=rfl
 rw[e]
 rcases Nat.lt_or_ge (qh5 m (nL m 0).length).piv.length C.length with q | q
 ·exfalso
  obtain⟨z,z1,f,hf,z2⟩:=wv3 (n:=(qh5 m (nL m 0).length).piv.length) (W:=C.length) (λk c=>nI (nL ((qh5 m (nL m 0).length).done_++(qh5 m (nL m 0).length).left) k) (nI C c).toNat) q
  refine z2 (hI z ?_ f hf)
  obtain⟨v,hv⟩:∃v:Nat->Int,∀c,v c=sm C.length λq=>if nI C q=(c:Int) then z q else 0:=⟨_,λ_=>rfl⟩
  have him:∀g:Nat->Int,(sm (nL m 0).length λc=>g c*v c)=sm C.length λq=>g (nI C q).toNat*z q:=λg=>by
   have e1:(sm (nL m 0).length λc=>g c*v c)=sm (nL m 0).length λc=>sm C.length λq=>g c*(if nI C q=(c:Int) then z q else 0):=qb4 λc _=>by rw[hv,<- qg5]
   rw[e1,qs7]
   refine qb4 λq hq=>?_
   have hc:=hC.at_ q hq
   rw[qo7 (k:=(nI C q).toNat) (by omega) λc hc2 hne=>by(try dsimp only); rw[if_neg (by omega),Int.mul_zero]]
   (try dsimp only)
   rw[if_pos (by omega)]
  have hsol:=(hst.sol v).2 λi hi=>by
   unfold dt
   rw[him λc=>nI (nL ((qh5 m (nL m 0).length).done_++(qh5 m (nL m 0).length).left) i) c]
   rcases Nat.lt_or_ge i (qh5 m (nL m 0).length).piv.length with k | k
   ·exact z1 i k
   ·refine sm_zero λq hq=>?_
    have hc:=hC.at_ q hq
    rw[hst.zero i k hi _ (by omega),Int.zero_mul]
  intro i hi
  have:=hsol i hi
  rw[him λc=>rowOf m i c] at this
  exact this
 ·exact q
end Go.Proofs.YtmijnbjlhnpokaaGreat
