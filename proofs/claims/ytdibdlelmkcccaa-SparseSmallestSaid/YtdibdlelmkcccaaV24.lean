/- What the laws of this layer leave out, and their example: contracts by the engine. No condition. -/
import Derived.Test.YtdibdlelmkcccaaV23
set_option linter.unusedVariables false
set_option linter.unusedSimpArgs false
namespace Go.Proofs.Ytdibdlelmkcccaa
open Go Go.RowKit Eng
def x60 (wr:List Nat) (specs:List (Nat × qc7)):Ctx:={ specs:=specs,tys:=tys,wr:=wr }
theorem x61 (wr:List Nat) {specs:List (Nat × qc7)} (h:SpecsOk Try.prog specs):Sound Try.prog (x60 wr specs):=SpecsOk.sound h q2q (by kernel_rfl)
def q97 (m:List (List Int)):Nat->Int
 | 0=>0
 | k+1=>IntKind.i64.wrap (q97 m k+IntKind.i64.wrap ((nL m k).length+1))
def q98 (l:List Int):Bool:=decide (7<l.length) && decide (l.length<=10)
def qy3 (m:List (List Int)):Bool:=!(m.any q98) && decide (q97 m m.length<=200)
theorem wy9 {m:List (List Int)} (hl:qy3 m=true) (hM:Mk m):(nL m 0).length<=7:=by
 unfold qy3 at hl
 rw[Bool.and_eq_true,Bool.not_eq_true',List.any_eq_false] at hl
 have h1:=hl.1 (nL m 0) (q1f m 0 (by have:=hM.rows1; omega))
 have h2:=hM.pix10
 unfold q98 at h1
 rw[Bool.and_eq_true,decide_eq_true_eq,decide_eq_true_eq] at h1
 omega
structure w6i (m:List (List Int)) (k:Nat):Prop where
 le:k<=m.length
 ok:∀i,i<k->q98 (nL m i)=false
abbrev x62:qc7:=qg3 true none [ql6] [.bool] (λx=>q51 x.1) (λx=>(qy3 x.1,()))
def x21 (m:List (List Int)):Nat->Option Inv
 | 0=>some (Inv.of [3,8] 0 (λk:Nat=>[(3,.lit (.int .i64 (q97 m k))),(8,.lit (.int .i64 k))]) (λ_=>[]) (λk=>w6i m k) (λk=>m.length-k))
 | _=>none
theorem w6j:qd8 Try.prog 8 x62:=by
 refine meets (x61 [15,16] (SpecsOk.nil _)) Try.func8 rfl rfl (λx=>x21 x.1) (λ_=>by kernel_rfl) (by decide) ?_
 rintro⟨m,⟨⟩⟩ h
 revert m
 intro(m:List (List Int)) (h:q51 m)
 refine @qe0 _ (∃(v0:Unit),∃(v1:Nat),w6i m v1/\(((0:Int)=q97 m v1/\(0:Int)=(↑v1:Int)/\True)/\True)/\∀(v2:Nat),w6i m v2->(decide ((↑v2:Int)<(↑(List.length m):Int))=true->((0:Int)<=(↑v2:Int)/\(↑v2:Int)<(↑(List.length m):Int))/\(decide ((7:Int)<(↑(List.length (qa1 (Ty.list (Ty.int .i64)) m (Int.toNat (↑v2:Int)))):Int))=true->(decide ((↑(List.length (qa1 (Ty.list (Ty.int .i64)) m (Int.toNat (↑v2:Int)))):Int)<=(10:Int))=true->false=qy3 m)/\(decide ((↑(List.length (qa1 (Ty.list (Ty.int .i64)) m (Int.toNat (↑v2:Int)))):Int)<=(10:Int))=false->fits .i64 ((↑v2:Int)+(1:Int))/\∃(v7:Nat),w6i m v7/\List.length m-v7<List.length m-v2/\(IntKind.wrap IntKind.i64 (q97 m v2+IntKind.wrap IntKind.i64 ((↑(List.length (qa1 (Ty.list (Ty.int .i64)) m (Int.toNat (↑v2:Int)))):Int)+(1:Int)))=q97 m v7/\(↑v2:Int)+(1:Int)=(↑v7:Int)/\True)/\True))/\(decide ((7:Int)<(↑(List.length (qa1 (Ty.list (Ty.int .i64)) m (Int.toNat (↑v2:Int)))):Int))=false->fits .i64 ((↑v2:Int)+(1:Int))/\∃(v6:Nat),w6i m v6/\List.length m-v6<List.length m-v2/\(IntKind.wrap IntKind.i64 (q97 m v2+IntKind.wrap IntKind.i64 ((↑(List.length (qa1 (Ty.list (Ty.int .i64)) m (Int.toNat (↑v2:Int)))):Int)+(1:Int)))=q97 m v6/\(↑v2:Int)+(1:Int)=(↑v6:Int)/\True)/\True))/\(decide ((↑v2:Int)<(↑(List.length m):Int))=false->decide (q97 m v2<=(200:Int))=qy3 m)) (by kernel_rfl) ?_
 try simp only[z0,z1,z2,z3,z4,z5,z6,z7,z8,z9,z10,Int.reduceEq,z11,z12,z13,z14,z15,z16,z17,z18,z19,z20,z21,z22,z23,z24,z25,z26,z27,z28,z29,z30,Int.reduceLE,Int.reduceLT,z31,z32,z33,z34,qa3]
 try simp only[qb3,qb4,qc8,List.set_cons_zero,List.cons.injEq,and_true,true_and]
 have hr:=h.rows
 have dk:∀k,k<m.length->q98 (nL m k)=true->qy3 m=false:=λk hk hd=>by
  have:m.any q98=true:=List.any_eq_true.2 ⟨_,q1f m k hk,hd⟩
  simp[qy3,this]
 refine⟨(),0,⟨Nat.zero_le _,λi hi=>absurd hi (Nat.not_lt_zero _)⟩,⟨rfl,rfl⟩,λk hk=>⟨λhlt=>⟨hlt,λh7=>⟨λh10=>?_,λh10=>⟨qb9 (by omega) (by omega),k+1,⟨hlt,λi hi=>?_⟩,by omega,rfl,by omega⟩⟩,λh7=>⟨qb9 (by omega) (by omega),k+1,⟨hlt,λi hi=>?_⟩,by omega,rfl,by omega⟩⟩,λhge=>?_⟩⟩
 ·refine(dk k hlt ?_).symm
  unfold q98
  rw[Bool.and_eq_true,decide_eq_true_eq,decide_eq_true_eq]
  omega
 ·by_cases e:i=k
  ·subst e
   have:¬(nL m i).length<=10:=by omega
   simp[q98,this]
  ·exact hk.ok i (by omega)
 ·by_cases e:i=k
  ·subst e
   have:¬7<(nL m i).length:=by omega
   simp[q98,this]
  ·exact hk.ok i (by omega)
 ·obtain rfl:k=m.length:=by have:=hk.le; omega
  have:m.any q98=false:=by
   rw[List.any_eq_false]
   intro x hx
   obtain⟨i,hi,rfl⟩:=List.getElem_of_mem hx
   rw[<- qq0 m i hi,hk.ok i hi]; decide
  simp[qy3,this]
def q99 (l:List (List Int)):Bool:=l.any λx=>decide (100<x.length)
abbrev x22:qc7:=qg3 true none [ql6] [.bool] (λx=>x.1.length<=1000) (λx=>(q99 x.1,()))
structure w9z (l:List (List Int)) (k:Nat):Prop where
 le:k<=l.length
 ok:∀i,i<k->(nL l i).length<=100
def xw3 (l:List (List Int)):Nat->Option Inv
 | 0=>some (Inv.of [7] 0 (λk:Nat=>[(7,.lit (.int .i64 k))]) (λ_=>[]) (λk=>w9z l k) (λk=>l.length-k))
 | _=>none
theorem w2s:qd8 Try.prog 9 x22:=by
 refine meets (snd (SpecsOk.nil _)) Try.func9 rfl rfl (λx=>xw3 x.1) (λ_=>by kernel_rfl) (by decide) ?_
 rintro⟨l,⟨⟩⟩ h
 revert l
 intro(l:List (List Int)) (h:l.length<=1000)
 refine @qe0 _ (∃(v0:Unit),∃(v1:Nat),w9z l v1/\(((0:Int)=(↑v1:Int)/\True)/\True)/\∀(v2:Nat),w9z l v2->(decide ((↑v2:Int)<(↑(List.length l):Int))=true->((0:Int)<=(↑v2:Int)/\(↑v2:Int)<(↑(List.length l):Int))/\(decide ((100:Int)<(↑(List.length (qa1 (Ty.list (Ty.int .i64)) l (Int.toNat (↑v2:Int)))):Int))=true->true=q99 l)/\(decide ((100:Int)<(↑(List.length (qa1 (Ty.list (Ty.int .i64)) l (Int.toNat (↑v2:Int)))):Int))=false->fits .i64 ((↑v2:Int)+(1:Int))/\∃(v6:Nat),w9z l v6/\List.length l-v6<List.length l-v2/\((↑v2:Int)+(1:Int)=(↑v6:Int)/\True)/\True))/\(decide ((↑v2:Int)<(↑(List.length l):Int))=false->false=q99 l)) (by kernel_rfl) ?_
 try simp only[z0,z1,z2,z3,z4,z5,z6,z7,z8,z9,z10,Int.reduceEq,z11,z12,z13,z14,z15,z16,z17,z18,z19,z20,z21,z22,z23,z24,z25,z26,z27,z28,z29,z30,Int.reduceLE,Int.reduceLT,z31,z32,z33,z34,qa3]
 try simp only[qb3,qb4,qc8,List.set_cons_zero,List.cons.injEq,and_true,true_and]
 refine⟨(),0,⟨Nat.zero_le _,λi hi=>absurd hi (Nat.not_lt_zero _)⟩,rfl,λk hk=>⟨λhlt=>⟨hlt,λh1=>?_,λh1=>⟨qb9 (by omega) (by omega),k+1,⟨hlt,λi hi=>?_⟩,by omega,by omega⟩⟩,λhge=>?_⟩⟩
 ·have:q99 l=true:=List.any_eq_true.2 ⟨_,q1f l k hlt,decide_eq_true (by omega)⟩
  exact this.symm
 ·by_cases e:i=k
  ·subst e; omega
  ·exact hk.ok i (by omega)
 ·obtain rfl:k=l.length:=by have:=hk.le; omega
  have:q99 l=false:=by
   unfold q99
   rw[List.any_eq_false]
   intro x hx
   obtain⟨i,hi,rfl⟩:=List.getElem_of_mem hx
   have:=hk.ok i hi
   rw[qq0 l i hi] at this
   simp; omega
  exact this.symm
def q8j:List (List Int):=[[1,1,0],[0,1,1]]
abbrev x63:qc7:=qg3 false none [] [ql6] (λ_=>True) (λ_=>(q8j,()))
theorem w6k:qd8 Try.prog 38 x63:=by
 refine meets (snd (SpecsOk.nil _)) Try.func38 rfl rfl (λ_ _=>none) (λ_=>by kernel_rfl) (by decide) ?_
 rintro⟨⟩ -
 refine @qe0 _ ([[(1:Int),(1:Int),(0:Int)],[(0:Int),(1:Int),(1:Int)]]=q8j) (by kernel_rfl) ?_
 try simp only[z0,z1,z2,z3,z4,z5,z6,z7,z8,z9,z10,Int.reduceEq,z11,z12,z13,z14,z15,z16,z17,z18,z19,z20,z21,z22,z23,z24,z25,z26,z27,z28,z29,z30,Int.reduceLE,Int.reduceLT,z31,z32,z33,z34,qa3]
 try simp only[qb3,qb4,qc8,List.set_cons_zero,List.cons.injEq,and_true,true_and]
 rfl
end Go.Proofs.Ytdibdlelmkcccaa
