/- What the laws of this layer leave out, and their example: contracts by the engine. No condition. -/
import Derived.Test.YtmijnbjlhnpokaaGreatV19
set_option linter.unusedVariables false
set_option linter.unusedSimpArgs false
namespace Go.Proofs.YtmijnbjlhnpokaaGreat
open Go Go.RowKit Eng
def qj9 (m:List (List Int)):List Int × Int:=if(q67 m).2≠0 then([],(q67 m).2) else if(q67 m).1=[] then([],8) else(nL (q67 m).1 0,0)
abbrev x22:qc7:=qg0 false none [qk2] [qd4,qf8] (λx=>qe6 x.1=true->wr7 x.1) (λx=>((qj9 x.1).1,(qj9 x.1).2,()))
theorem w2t:Meets Tryz.prog 16 x22:=by
 refine meets (snd (SpecsOk.cons w6w (SpecsOk.nil _))) Tryz.func16 rfl rfl (λ_ _=>none) (λ_=>by kernel_rfl) (by decide) ?_
 rintro⟨m,⟨⟩⟩ h
 revert m
 intro(m:List (List Int)) (h:qe6 m=true->wr7 m)
 refine @qe0 _ ((qe6 m=true->wr7 m)/\(((q67 m).2 != (0:Int))=true->(qj9 m).1=[]/\(q67 m).2=(qj9 m).2/\True)/\(((q67 m).2 != (0:Int))=false->(((↑(q67 m).1.length:Int)==(0:Int))=true->(qj9 m).1=[]/\(8:Int)=(qj9 m).2/\True)/\(((↑(q67 m).1.length:Int)==(0:Int))=false->((0:Int)<=(0:Int)/\(0:Int)<(↑(q67 m).1.length:Int))/\nL (q67 m).1 (0:Nat)=(qj9 m).1/\(0:Int)=(qj9 m).2/\True))) (by kernel_rfl) ?_
 try simp only[z0,z1,z2,z3,z4,z5,z6,z7,z8,z9,z10,Int.reduceEq,z11,z12,z13,z14,z15,z16,z17,z18,z19,z20,z21,z22,z23,z24,z25,z26,z27,z28,z29,z30,Int.reduceLE,Int.reduceLT,z31,z32,z33,z34,qa1]
 try simp only[qb4,qb5,qc8,z31,z32,z2,z1]
 refine⟨h,λhe=>by simp[qj9,he],λhe=>⟨λh0=>?_,λh0=>?_⟩⟩
 ·have e:(q67 m).1=[]:=List.eq_nil_of_length_eq_zero (by omega)
  simp[qj9,he,e]
 ·have e:¬(q67 m).1=[]:=λe=>by rw[e] at h0; exact h0 rfl
  unfold qj9
  rw[if_neg (λq=>q he),if_neg e]
  exact⟨by omega,rfl,rfl⟩
def wn9 (l:List Int):Nat->Nat
 | 0=>0
 | k+1=>if nI l k≠0 then wn9 l k+1 else wn9 l k
theorem ws0 (l:List Int):∀k,wn9 l k<=k
 | 0=>Nat.le_refl _
 | k+1=>by have:=ws0 l k; rw[wn9]; split <;> omega
def qv1 (m:List (List Int)):Int × Int:=((wn9 (qj9 m).1 (qj9 m).1.length:Int),(qj9 m).2)
structure ws1 (m:List (List Int)):Prop where
 cir:qe6 m=true->wr7 m
 len:(qj9 m).1.length<=1000
abbrev xw2:qc7:=qg0 true none [qk2] [qf8,qf8] (λx=>ws1 x.1) (λx=>((qv1 x.1).1,(qv1 x.1).2,()))
def xm6 (l:List Int):Nat->Option Inv
 | 0=>some (Inv.of [6,16] 0 (λk:Nat=>[(6,.lit (.int .i64 (wn9 l k))),(16,.lit (.int .i64 k))]) (λ_=>[]) (λk=>k<=l.length) (λk=>l.length-k))
 | _=>none
theorem ws3:Meets Tryz.prog 17 xw2:=by
 refine meets (snd (SpecsOk.cons w2t (SpecsOk.nil _))) Tryz.func17 rfl rfl (λx=>xm6 (qj9 x.1).1) (λ_=>by kernel_rfl) (by decide) ?_
 rintro⟨m,⟨⟩⟩ h
 revert m
 intro(m:List (List Int)) (h:ws1 m)
 refine @qe0 _ ((qe6 m=true->wr7 m)/\∃(v0:Unit),∃(v1:Nat),Nat.le v1 (qj9 m).1.length/\(((0:Int)=(↑(wn9 (qj9 m).1 v1):Int)/\(0:Int)=(↑v1:Int)/\True)/\True)/\∀(v2:Nat),Nat.le v2 (qj9 m).1.length->(decide ((↑v2:Int)<(↑(qj9 m).1.length:Int))=true->((0:Int)<=(↑v2:Int)/\(↑v2:Int)<(↑(qj9 m).1.length:Int))/\((nI (qj9 m).1 v2 != (0:Int))=true->fits .i64 ((↑(wn9 (qj9 m).1 v2):Int)+(1:Int))/\fits .i64 ((↑v2:Int)+(1:Int))/\∃(v6:Nat),Nat.le v6 (qj9 m).1.length/\(qj9 m).1.length-v6<(qj9 m).1.length-v2/\((↑(wn9 (qj9 m).1 v2):Int)+(1:Int)=(↑(wn9 (qj9 m).1 v6):Int)/\(↑v2:Int)+(1:Int)=(↑v6:Int)/\True)/\True)/\((nI (qj9 m).1 v2 != (0:Int))=false->fits .i64 ((↑v2:Int)+(1:Int))/\∃(v6:Nat),Nat.le v6 (qj9 m).1.length/\(qj9 m).1.length-v6<(qj9 m).1.length-v2/\((↑(wn9 (qj9 m).1 v2):Int)=(↑(wn9 (qj9 m).1 v6):Int)/\(↑v2:Int)+(1:Int)=(↑v6:Int)/\True)/\True))/\(decide ((↑v2:Int)<(↑(qj9 m).1.length:Int))=false->(↑(wn9 (qj9 m).1 v2):Int)=(qv1 m).1/\(qj9 m).2=(qv1 m).2/\True)) (by kernel_rfl) ?_
 try simp only[z0,z1,z2,z3,z4,z5,z6,z7,z8,z9,z10,Int.reduceEq,z11,z12,z13,z14,z15,z16,z17,z18,z19,z20,z21,z22,z23,z24,z25,z26,z27,z28,z29,z30,Int.reduceLE,Int.reduceLT,z31,z32,z33,z34,qa1]
 try simp only[qb4,qb5,qc8,z31,z32,z2,z1]
 have hl:=h.len
 refine⟨h.cir,(),0,Nat.zero_le _,⟨rfl,rfl⟩,λi hi=>⟨λhlt=>?_,λhge=>?_⟩⟩
 ·have:=ws0 (qj9 m).1 i
  exact⟨hlt,λhz=>⟨qa7 (by omega) (by omega),qa7 (by omega) (by omega),i+1,hlt,by omega,by rw[wn9,if_pos hz]; omega,by omega⟩,λhz=>⟨qa7 (by omega) (by omega),i+1,hlt,by omega,by rw[wn9,if_neg (λq=>q hz)],by omega⟩⟩
 ·obtain rfl:i=(qj9 m).1.length:=by omega
  exact⟨rfl,rfl⟩
def q7b (m:List (List Int)):Int × Int:=if(qv1 m).2=0 then(((qv1 m).1-1).tdiv 2,0) else if(qv1 m).2=8 then((nL m 0).length,0) else(0,(qv1 m).2)
abbrev x23:qc7:=qg0 true none [qk2] [qf8,qf8] (λx=>ws1 x.1) (λx=>((q7b x.1).1,(q7b x.1).2,()))
theorem w2u:Meets Tryz.prog 46 x23:=by
 refine meets (snd (SpecsOk.cons ws3 (SpecsOk.nil _))) Tryz.func46 rfl rfl (λ_ _=>none) (λ_=>by kernel_rfl) (by decide) ?_
 rintro⟨m,⟨⟩⟩ h
 revert m
 intro(m:List (List Int)) (h:ws1 m)
 refine @qe0 _ (let Q0:=qv1 m; ws1 m/\((Q0.2==(0:Int))=true->fits .i64 (Q0.1-(1:Int))/\(2:Int)≠(0:Int)/\fits .i64 (Int.tdiv (Q0.1-(1:Int)) (2:Int))/\Int.tdiv (Q0.1-(1:Int)) (2:Int)=(q7b m).1/\(0:Int)=(q7b m).2/\True)/\((Q0.2==(0:Int))=false->((Q0.2==(8:Int))=true->((0:Int)<=(0:Int)/\(0:Int)<(↑m.length:Int))/\(↑(nL m (0:Nat)).length:Int)=(q7b m).1/\(0:Int)=(q7b m).2/\True)/\((Q0.2==(8:Int))=false->(0:Int)=(q7b m).1/\Q0.2=(q7b m).2/\True))) (by kernel_rfl) ?_
 try simp only[z0,z1,z2,z3,z4,z5,z6,z7,z8,z9,z10,Int.reduceEq,z11,z12,z13,z14,z15,z16,z17,z18,z19,z20,z21,z22,z23,z24,z25,z26,z27,z28,z29,z30,Int.reduceLE,Int.reduceLT,z31,z32,z33,z34,qa1]
 try simp only[qb4,qb5,qc8,z31,z32,z2,z1]
 have hl:=h.len
 have hn:=ws0 (qj9 m).1 (qj9 m).1.length
 have e1:(qv1 m).1=(wn9 (qj9 m).1 (qj9 m).1.length:Int):=rfl
 have hb:qd0 1000 ((qv1 m).1-1):=by unfold qd0; rw[e1]; omega
 have hb2:qd0 1000 (((qv1 m).1-1).tdiv 2):=qj0 hb
 unfold qd0 at hb hb2
 refine⟨h,λhe=>⟨qa7 (by omega) (by omega),qa7 (by omega) (by omega),by simp[q7b,he]⟩,λhe=>⟨λh8=>⟨?_,by simp[q7b,h8]⟩,λh8=>by simp[q7b,he,h8]⟩⟩
 have hv:qe6 m=true:=by
  cases e:qe6 m with
  | true=>rfl
  | false=>
   have e2:(qv1 m).2=1:=by simp[qv1,qj9,q67,e]
   rw[e2] at h8; cases h8
 have:=(Mk.of hv).rows1
 omega
def qg8 (a b:List Int):Nat->Int
 | 0=>0
 | k+1=>qg8 a b k+nI a k*nI b k
structure DotOk (a b:List Int):Prop where
 len:a.length<=10
 le:a.length<=b.length
 sa:∀i,i<a.length->-1<=nI a i/\nI a i<=1
 sb:∀i,i<a.length->qd0 1000000 (nI b i)
theorem q7c {x y K:Int} (hx:-1<=x/\x<=1) (hy:qd0 K y):qd0 K (x*y):=by
 unfold qd0 at *
 rcases(show x=-1\/x=0\/x=1 by omega) with rfl | rfl | rfl
 ·rw[show(-1:Int)*y=-y by omega]; omega
 ·rw[Int.zero_mul]; omega
 ·rw[Int.one_mul]; exact hy
def x4z (m:List (List Int)) (l:List Int) (n k:Int):Int:=if qe6 m=false then 1 else if(l.length:Int)≠n then 9 else if(l.all λe=>inB e (0-k) k)=false then 7 else 0
def x42 (m:List (List Int)) (x:List Int):Int:=x4z m x (nL m 0).length 1000000
structure Shw (m:List (List Int)) (x:List Int):Prop where
 msk:Mk m
 val:qe6 m=true
 len:x.length=(nL m 0).length
 bd:∀i,i<x.length->qd0 1000000 (nI x i)
theorem Shw.of {m:List (List Int)} {x:List Int} (h:x42 m x=0):Shw m x:=by
 unfold x42 x4z at h
 split at h
 ·cases h
 ·rename_i hv
  have hv:qe6 m=true:=by cases e:qe6 m with | true=>rfl | false=>exact absurd e hv
  split at h
  ·cases h
  ·rename_i hl
   split at h
   ·cases h
   ·rename_i ha
    have ha:(x.all λe=>inB e (0-1000000) 1000000)=true:=by simpa using ha
    refine⟨Mk.of hv,hv,by omega,λi hi=>?_⟩
    have:=qv5.1 (List.all_eq_true.1 ha (nI x i) (by rw[qh2 x i hi]; exact List.getElem_mem hi))
    unfold qd0; omega
theorem Shw.dot {m:List (List Int)} {x:List Int} (h:Shw m x) (k:Nat) (hk:k<m.length):DotOk (nL m k) x:=by
 have h1:=h.msk.each k hk
 have h2:=h.msk.pix10
 have h3:=h.len
 exact⟨by omega,by omega,λi hi=>h.msk.small k hk i (by omega),λi hi=>h.bd i (by omega)⟩
def x65 (wr:List Nat) (specs:List (Nat × qc7)):Ctx:={ specs:=specs,tys:=tys,wr:=wr }
theorem x26 (wr:List Nat) {specs:List (Nat × qc7)} (h:SpecsOk Tryz.prog specs):Sound Tryz.prog (x65 wr specs):=SpecsOk.sound h q28 (by kernel_rfl)
def wc7 (m:List (List Int)):Nat->Int
 | 0=>0
 | k+1=>IntKind.i64.wrap (wc7 m k+IntKind.i64.wrap ((nL m k).length+1))
def wc8 (l:List Int):Bool:=decide (7<l.length) && decide (l.length<=10)
def qz6 (m:List (List Int)):Bool:=!(m.any wc8) && decide (wc7 m m.length<=200)
theorem xb4 {m:List (List Int)} (hl:qz6 m=true) (hM:Mk m):(nL m 0).length<=7:=by
 unfold qz6 at hl
 rw[Bool.and_eq_true,Bool.not_eq_true',List.any_eq_false] at hl
 have h1:=hl.1 (nL m 0) (qv0 m 0 (by have:=hM.rows1; omega))
 have h2:=hM.pix10
 unfold wc8 at h1
 rw[Bool.and_eq_true,decide_eq_true_eq,decide_eq_true_eq] at h1
 omega
structure w6x (m:List (List Int)) (k:Nat):Prop where
 le:k<=m.length
 ok:∀i,i<k->wc8 (nL m i)=false
abbrev x67:qc7:=qg0 true none [qk2] [.bool] (λx=>q1u x.1) (λx=>(qz6 x.1,()))
def x3a (m:List (List Int)):Nat->Option Inv
 | 0=>some (Inv.of [3,8] 0 (λk:Nat=>[(3,.lit (.int .i64 (wc7 m k))),(8,.lit (.int .i64 k))]) (λ_=>[]) (λk=>w6x m k) (λk=>m.length-k))
 | _=>none
theorem w6y:Meets Tryz.prog 22 x67:=by
 refine meets (x26 [15,16] (SpecsOk.nil _)) Tryz.func22 rfl rfl (λx=>x3a x.1) (λ_=>by kernel_rfl) (by decide) ?_
 rintro⟨m,⟨⟩⟩ h
 revert m
 intro(m:List (List Int)) (h:q1u m)
 refine @qe0 _ (∃(v0:Unit),∃(v1:Nat),w6x m v1/\(((0:Int)=wc7 m v1/\(0:Int)=(↑v1:Int)/\True)/\True)/\∀(v2:Nat),w6x m v2->(decide ((↑v2:Int)<(↑m.length:Int))=true->((0:Int)<=(↑v2:Int)/\(↑v2:Int)<(↑m.length:Int))/\(decide ((7:Int)<(↑(nL m v2).length:Int))=true->(decide ((↑(nL m v2).length:Int)<=(10:Int))=true->false=qz6 m)/\(decide ((↑(nL m v2).length:Int)<=(10:Int))=false->fits .i64 ((↑v2:Int)+(1:Int))/\∃(v7:Nat),w6x m v7/\m.length-v7<m.length-v2/\(IntKind.wrap IntKind.i64 (wc7 m v2+IntKind.wrap IntKind.i64 ((↑(nL m v2).length:Int)+(1:Int)))=wc7 m v7/\(↑v2:Int)+(1:Int)=(↑v7:Int)/\True)/\True))/\(decide ((7:Int)<(↑(nL m v2).length:Int))=false->fits .i64 ((↑v2:Int)+(1:Int))/\∃(v6:Nat),w6x m v6/\m.length-v6<m.length-v2/\(IntKind.wrap IntKind.i64 (wc7 m v2+IntKind.wrap IntKind.i64 ((↑(nL m v2).length:Int)+(1:Int)))=wc7 m v6/\(↑v2:Int)+(1:Int)=(↑v6:Int)/\True)/\True))/\(decide ((↑v2:Int)<(↑m.length:Int))=false->decide (wc7 m v2<=(200:Int))=qz6 m)) (by kernel_rfl) ?_
 try simp only[z0,z1,z2,z3,z4,z5,z6,z7,z8,z9,z10,Int.reduceEq,z11,z12,z13,z14,z15,z16,z17,z18,z19,z20,z21,z22,z23,z24,z25,z26,z27,z28,z29,z30,Int.reduceLE,Int.reduceLT,z31,z32,z33,z34,qa1]
 try simp only[qb4,qb5,qc8,z31,z32,z2,z1]
 have hr:=h.rows
 have dk:∀k,k<m.length->wc8 (nL m k)=true->qz6 m=false:=λk hk hd=>by
  have:m.any wc8=true:=List.any_eq_true.2 ⟨_,qv0 m k hk,hd⟩
  simp[qz6,this]
 refine⟨(),0,⟨Nat.zero_le _,λi hi=>absurd hi (Nat.not_lt_zero _)⟩,⟨rfl,rfl⟩,λk hk=>⟨λhlt=>⟨hlt,λh7=>⟨λh10=>?_,λh10=>⟨qa7 (by omega) (by omega),k+1,⟨hlt,λi hi=>?_⟩,by omega,rfl,by omega⟩⟩,λh7=>⟨qa7 (by omega) (by omega),k+1,⟨hlt,λi hi=>?_⟩,by omega,rfl,by omega⟩⟩,λhge=>?_⟩⟩
 ·refine(dk k hlt ?_).symm
  unfold wc8
  rw[Bool.and_eq_true,decide_eq_true_eq,decide_eq_true_eq]
  omega
 ·by_cases e:i=k
  ·subst e
   have:¬(nL m i).length<=10:=by omega
   simp[wc8,this]
  ·exact hk.ok i (by omega)
 ·by_cases e:i=k
  ·subst e
   have:¬7<(nL m i).length:=by omega
   simp[wc8,this]
  ·exact hk.ok i (by omega)
 ·obtain rfl:k=m.length:=by have:=hk.le; omega
  have:m.any wc8=false:=by
   rw[List.any_eq_false]
   intro x hx
   obtain⟨i,hi,rfl⟩:=List.getElem_of_mem hx
   rw[<- ql7 m i hi,hk.ok i hi]; decide
  simp[qz6,this]
def q5a (l:List (List Int)):Bool:=l.any λx=>decide (100<x.length)
abbrev x3b:qc7:=qg0 true none [qk2] [.bool] (λx=>x.1.length<=1000) (λx=>(q5a x.1,()))
structure xb5 (l:List (List Int)) (k:Nat):Prop where
 le:k<=l.length
 ok:∀i,i<k->(nL l i).length<=100
def xw3 (l:List (List Int)):Nat->Option Inv
 | 0=>some (Inv.of [7] 0 (λk:Nat=>[(7,.lit (.int .i64 k))]) (λ_=>[]) (λk=>xb5 l k) (λk=>l.length-k))
 | _=>none
theorem w2v:Meets Tryz.prog 24 x3b:=by
 refine meets (snd (SpecsOk.nil _)) Tryz.func24 rfl rfl (λx=>xw3 x.1) (λ_=>by kernel_rfl) (by decide) ?_
 rintro⟨l,⟨⟩⟩ h
 revert l
 intro(l:List (List Int)) (h:l.length<=1000)
 refine @qe0 _ (∃(v0:Unit),∃(v1:Nat),xb5 l v1/\(((0:Int)=(↑v1:Int)/\True)/\True)/\∀(v2:Nat),xb5 l v2->(decide ((↑v2:Int)<(↑l.length:Int))=true->((0:Int)<=(↑v2:Int)/\(↑v2:Int)<(↑l.length:Int))/\(decide ((100:Int)<(↑(nL l v2).length:Int))=true->true=q5a l)/\(decide ((100:Int)<(↑(nL l v2).length:Int))=false->fits .i64 ((↑v2:Int)+(1:Int))/\∃(v6:Nat),xb5 l v6/\l.length-v6<l.length-v2/\((↑v2:Int)+(1:Int)=(↑v6:Int)/\True)/\True))/\(decide ((↑v2:Int)<(↑l.length:Int))=false->false=q5a l)) (by kernel_rfl) ?_
 try simp only[z0,z1,z2,z3,z4,z5,z6,z7,z8,z9,z10,Int.reduceEq,z11,z12,z13,z14,z15,z16,z17,z18,z19,z20,z21,z22,z23,z24,z25,z26,z27,z28,z29,z30,Int.reduceLE,Int.reduceLT,z31,z32,z33,z34,qa1]
 try simp only[qb4,qb5,qc8,z31,z32,z2,z1]
 refine⟨(),0,⟨Nat.zero_le _,λi hi=>absurd hi (Nat.not_lt_zero _)⟩,rfl,λk hk=>⟨λhlt=>⟨hlt,λh1=>?_,λh1=>⟨qa7 (by omega) (by omega),k+1,⟨hlt,λi hi=>?_⟩,by omega,by omega⟩⟩,λhge=>?_⟩⟩
 ·have:q5a l=true:=List.any_eq_true.2 ⟨_,qv0 l k hlt,decide_eq_true (by omega)⟩
  exact this.symm
 ·by_cases e:i=k
  ·subst e; omega
  ·exact hk.ok i (by omega)
 ·obtain rfl:k=l.length:=by have:=hk.le; omega
  have:q5a l=false:=by
   unfold q5a
   rw[List.any_eq_false]
   intro x hx
   obtain⟨i,hi,rfl⟩:=List.getElem_of_mem hx
   have:=hk.ok i hi
   rw[ql7 l i hi] at this
   simp; omega
  exact this.symm
def q86:List (List Int):=[[1,1,0],[0,1,1]]
abbrev x68:qc7:=qg0 false none [] [qk2] (λ_=>True) (λ_=>(q86,()))
theorem w6z:Meets Tryz.prog 77 x68:=by
 refine meets (snd (SpecsOk.nil _)) Tryz.func77 rfl rfl (λ_ _=>none) (λ_=>by kernel_rfl) (by decide) ?_
 rintro⟨⟩ -
 refine @qe0 _ ([[(1:Int),(1:Int),(0:Int)],[(0:Int),(1:Int),(1:Int)]]=q86) (by kernel_rfl) ?_
 try simp only[z0,z1,z2,z3,z4,z5,z6,z7,z8,z9,z10,Int.reduceEq,z11,z12,z13,z14,z15,z16,z17,z18,z19,z20,z21,z22,z23,z24,z25,z26,z27,z28,z29,z30,Int.reduceLE,Int.reduceLT,z31,z32,z33,z34,qa1]
 try simp only[qb4,qb5,qc8,z31,z32,z2,z1]
 rfl
end Go.Proofs.YtmijnbjlhnpokaaGreat
