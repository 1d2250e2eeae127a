/- The errors of masks, readings and pixels: contracts by the engine. No condition. -/
import Derived.Test.YtdibdlelmkcccaaV4
set_option linter.unusedVariables false
set_option linter.unusedSimpArgs false
namespace Go.Proofs.Ytdibdlelmkcccaa
open Go Go.RowKit Eng
abbrev xu0:qc7:=hspec [] true none [.d qg4,.cap qg4] [.bool] (λx=>0<=x.2.1/\x.2.1<=BIG) (λx=>(!(inB x.1 (0-x.2.1) x.2.1),()))
theorem w1y:qd8 Try.prog 113 xu0:=by
 refine qs5 (SpecsOk.nil _) (snd (SpecsOk.cons qx8 (SpecsOk.nil _))) Try.func113 rfl rfl (λ_ _=>none) (λ_=>by kernel_rfl) (by decide) ?_
 rintro⟨n,k,⟨⟩⟩ h
 revert n k
 intro(n:Int) (k:Int) (h:0<=k/\k<=BIG)
 refine @qe0 _ (fits .i64 ((0:Int)-k)/\True/\(!inB n ((0:Int)-k) k)=!inB n ((0:Int)-k) k) (by kernel_rfl) ?_
 try simp only[z0,z1,z2,z3,z4,z5,z6,z7,z8,z9,z10,Int.reduceEq,z11,z12,z13,z14,z15,z16,z17,z18,z19,z20,z21,z22,z23,z24,z25,z26,z27,z28,z29,z30,Int.reduceLE,Int.reduceLT,z31,z32,z33,z34,qa3]
 try simp only[qb3,qb4,qc8,List.set_cons_zero,List.cons.injEq,and_true,true_and]
 unfold BIG at h
 exact qb9 (by omega) (by omega)
abbrev x6g:qc7:=w9c false none [qg4] (λ_=>True) (λx=>.clo 113 (.cons (.imm (.cons (.lit (.int .i64 x.1)) .nil) 0) .nil))
theorem w5n:qd8 Try.prog 80 x6g:=by
 refine wx3 (snd (SpecsOk.nil _)) Try.func80 rfl rfl (λ_ _=>none) (λ_=>by kernel_rfl) (by decide) ?_
 rintro⟨m,⟨⟩⟩ -
 revert m
 intro(m:Int)
 refine @qe0 _ (((m=m/\True)/\(0:Nat)=(0:Nat))/\True) (by kernel_rfl) ?_
 try simp only[z0,z1,z2,z3,z4,z5,z6,z7,z8,z9,z10,Int.reduceEq,z11,z12,z13,z14,z15,z16,z17,z18,z19,z20,z21,z22,z23,z24,z25,z26,z27,z28,z29,z30,Int.reduceLE,Int.reduceLT,z31,z32,z33,z34,qa3]
 try simp only[qb3,qb4,qc8,List.set_cons_zero,List.cons.injEq,and_true,true_and]
abbrev xu1:qc7:=hspec [] true none [.d qg4,.cap qg4] [.bool] (λx=>0<=x.2.1/\x.2.1<=BIG) (λx=>(!(inB x.1 0 (x.2.1-1)),()))
theorem w1z:qd8 Try.prog 134 xu1:=by
 refine qs5 (SpecsOk.nil _) (snd (SpecsOk.cons qx8 (SpecsOk.nil _))) Try.func134 rfl rfl (λ_ _=>none) (λ_=>by kernel_rfl) (by decide) ?_
 rintro⟨n,k,⟨⟩⟩ h
 revert n k
 intro(n:Int) (k:Int) (h:0<=k/\k<=BIG)
 refine @qe0 _ (fits .i64 (k-(1:Int))/\True/\(!inB n (0:Int) (k-(1:Int)))=!inB n (0:Int) (k-(1:Int))) (by kernel_rfl) ?_
 try simp only[z0,z1,z2,z3,z4,z5,z6,z7,z8,z9,z10,Int.reduceEq,z11,z12,z13,z14,z15,z16,z17,z18,z19,z20,z21,z22,z23,z24,z25,z26,z27,z28,z29,z30,Int.reduceLE,Int.reduceLT,z31,z32,z33,z34,qa3]
 try simp only[qb3,qb4,qc8,List.set_cons_zero,List.cons.injEq,and_true,true_and]
 unfold BIG at h
 exact qb9 (by omega) (by omega)
def w9k (l:List Int):Bool:=(List.range l.length).all λi=>decide (i=0) || decide (nI l (i-1)<nI l i)
def w11 (n:Int) (l:List Int):Int:=if w9k l=false then 7 else if l.any (λp=>!(inB p 0 (n-1))) then 5 else 0
theorem q4r {l:List Int}:w9k l=true↔∀i,0<i->i<l.length->nI l (i-1)<nI l i:=by
 unfold w9k
 rw[List.all_eq_true]
 constructor
 ·intro h i h0 hi
  have:=h i (List.mem_range.2 hi)
  simp only[Bool.or_eq_true,decide_eq_true_eq] at this
  exact this.resolve_left (by omega)
 ·intro h i hi
  simp only[Bool.or_eq_true,decide_eq_true_eq]
  by_cases e:i=0
  ·exact .inl e
  ·exact .inr (h i (by omega) (List.mem_range.1 hi))
structure AscTo (l:List Int) (k:Nat):Prop where
 le:k<=l.length
 lt:∀i,0<i->i<k->nI l (i-1)<nI l i
theorem AscTo.step {l:List Int} {k:Nat} (h:AscTo l k) (hk:k<l.length) (h1:k=0\/nI l (k-1)<nI l k):AscTo l (k+1):=
 ⟨hk,λi h0 hi=>by
  by_cases e:i=k
  ·subst e; exact h1.resolve_left (by omega)
  ·exact h.lt i h0 (by omega)⟩
theorem AscTo.all {l:List Int} (h:AscTo l l.length):w9k l=true:=q4r.2 h.lt
theorem wy2 {l:List Int} {k:Nat} (h0:0<k) (hk:k<l.length) (h:nI l k<=nI l (k-1)):w9k l=false:=by
 cases e:w9k l with
 | false=>rfl
 | true=>have:=q4r.1 e k h0 hk; omega
def x1w (n:Int) (l:List Int):Nat->Option Inv
 | 0=>some (Inv.of [9] 1 (λk:Nat=>[(9,.lit (.int .i64 k))]) (λ_=>[.box 3 (.cons (.lit (.int .i64 n)) .nil)]) (λk=>AscTo l k) (λk=>l.length-k))
 | _=>none
abbrev x6h:qc7:=qg3 true none [qg4,qf7] [qg4] (λx=>(0<=x.1/\x.1<=BIG)/\x.2.1.length<=1000000) (λx=>(w11 x.1 x.2.1,()))
theorem w5o:qd8 Try.prog 104 x6h:=by
 refine meets (snd (SpecsOk.cons (q50 (fs:=[(134,xu1)]) (SpecsOk.cons w1z (SpecsOk.nil _))) (SpecsOk.nil _))) Try.func104 rfl rfl (λx=>x1w x.1 x.2.1) (λ_=>by kernel_rfl) (by decide) ?_
 rintro⟨n,l,⟨⟩⟩ h
 revert n l
 intro(n:Int) (l:List Int) (h:(0<=n/\n<=BIG)/\l.length<=1000000)
 refine @qe0 _ (∃(v0:Unit),∃(v1:Nat),AscTo l v1/\(((0:Int)=(↑v1:Int)/\True)/\(n=n/\True)/\True)/\∀(v2:Nat),AscTo l v2->(decide ((↑v2:Int)<(↑(List.length l):Int))=true->((0:Int)<=(↑v2:Int)/\(↑v2:Int)<(↑(List.length l):Int))/\(decide ((0:Int)<(↑v2:Int))=true->fits .i64 ((↑v2:Int)-(1:Int))/\((0:Int)<=(↑v2:Int)-(1:Int)/\(↑v2:Int)-(1:Int)<(↑(List.length l):Int))/\(decide (qa1 (Ty.int .i64) l (Int.toNat (↑v2:Int))<=qa1 (Ty.int .i64) l (Int.toNat ((↑v2:Int)-(1:Int))))=true->(7:Int)=w11 n l)/\(decide (qa1 (Ty.int .i64) l (Int.toNat (↑v2:Int))<=qa1 (Ty.int .i64) l (Int.toNat ((↑v2:Int)-(1:Int))))=false->fits .i64 ((↑v2:Int)+(1:Int))/\∃(v7:Nat),AscTo l v7/\List.length l-v7<List.length l-v2/\((↑v2:Int)+(1:Int)=(↑v7:Int)/\True)/\(n=n/\True)/\True))/\(decide ((0:Int)<(↑v2:Int))=false->fits .i64 ((↑v2:Int)+(1:Int))/\∃(v6:Nat),AscTo l v6/\List.length l-v6<List.length l-v2/\((↑v2:Int)+(1:Int)=(↑v6:Int)/\True)/\(n=n/\True)/\True))/\(decide ((↑v2:Int)<(↑(List.length l):Int))=false->∃(v5:qa6 [Ty.int .i64]->Prop),∃(v6:qa6 [Ty.int .i64]->Bool),(∀(v7:Int × qa6._f [] PUnit.unit),v5 v7->((0:PTy.den (PTy.cap qg4))<=n/\n<=BIG)/\(!inB (Prod.fst v7) (0:Int) (n-(1:Int)))=v6 v7)/\(List.length l<=(1000000:Nat)/\∀(v7:Nat),v7<List.length l->v5 (qa1 (Ty.int .i64) l v7,()))/\((List.any l λ(v8:Int)=>v6 (v8,()))=true->(5:Int)=w11 n l)/\((List.any l λ(v8:Int)=>v6 (v8,()))=false->(0:Int)=w11 n l))) (by kernel_rfl) ?_
 try simp only[z0,z1,z2,z3,z4,z5,z6,z7,z8,z9,z10,Int.reduceEq,z11,z12,z13,z14,z15,z16,z17,z18,z19,z20,z21,z22,z23,z24,z25,z26,z27,z28,z29,z30,Int.reduceLE,Int.reduceLT,z31,z32,z33,z34,qa3]
 try simp only[qb3,qb4,qc8,List.set_cons_zero,List.cons.injEq,and_true,true_and]
 obtain⟨hn,hl⟩:=h
 refine⟨(),0,⟨Nat.zero_le _,λi h0 hi=>by omega⟩,rfl,λk hk=>⟨λhlt=>⟨hlt,λh0=>?_,λh0=>⟨qb9 (by omega) (by omega),k+1,hk.step hlt (.inl (by omega)),by omega,by omega⟩⟩,λhge=>?_⟩⟩
 ·have e:((k:Int)-1).toNat=k-1:=by omega
  rw[e]
  refine⟨qb9 (by omega) (by omega),by omega,λh1=>?_,λh1=>⟨qb9 (by omega) (by omega),k+1,hk.step hlt (.inr h1),by omega,by omega⟩⟩
  unfold w11
  rw[if_pos (wy2 (by omega) hlt h1)]
 ·obtain rfl:k=l.length:=by have:=hk.le; omega
  refine⟨λ_=>True,λx=>!(inB x.1 0 (n-1)),λx _=>⟨hn,by simp⟩,⟨hl,λ_ _=>trivial⟩,λh1=>?_,λh1=>?_⟩
  ·unfold w11
   rw[if_neg (by simp[hk.all]),if_pos h1]
  ·unfold w11
   rw[if_neg (by simp[hk.all]),if_neg (by rw[h1]; decide)]
end Go.Proofs.Ytdibdlelmkcccaa
