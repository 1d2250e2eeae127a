/- The library's searches over lists, with a function: contracts by the engine. No condition. -/
import Derived.Test.YtdibdlelmkcccaaV2
set_option linter.unusedVariables false
set_option linter.unusedSimpArgs false
namespace Go.Proofs.Ytdibdlelmkcccaa
open Go Go.RowKit Eng
def ixT (t:Ty) (f:t.den->Bool) (l:List t.den):Int:=if l.any f then(l.findIdx f:Int) else -1
theorem wy1 (t:Ty) (f:t.den->Bool) (l:List t.den) (k:Nat) (hk:k<l.length) (h:∀i,i<k->f (qa1 t l i)=false) (hf:f (qa1 t l k)=true):ixT t f l=k:=by
 have hk':f l[k]=true:=by rw[<- ql1 l k hk]; exact hf
 unfold ixT
 rw[if_pos (List.any_eq_true.2 ⟨_,List.getElem_mem hk,hk'⟩)]
 have:l.findIdx f=k:=by
  rw[List.findIdx_eq hk]
  refine⟨hk',λj hj=>?_⟩
  have:=h j hj
  rw[ql1 l j (by omega)] at this
  exact this
 rw[this]
theorem q4p (t:Ty) (f:t.den->Bool) (l:List t.den) (h:∀i,i<l.length->f (qa1 t l i)=false):ixT t f l=-1:=by
 unfold ixT
 rw[if_neg]
 intro he
 obtain⟨x,hx,hf⟩:=List.any_eq_true.1 he
 obtain⟨i,hi,rfl⟩:=List.getElem_of_mem hx
 have:=h i hi
 rw[ql1 l i hi,hf] at this
 cases this
theorem q03 (t:Ty) (f:t.den->Bool) (l:List t.den):decide (0<=ixT t f l)=l.any f:=by
 unfold ixT
 split
 ·rename_i h; rw[h]; simp
 ·rename_i h; simp at h ⊢; exact h
theorem xe2 (t:Ty) (f:t.den->Bool) (l:List t.den):ixT t f l<l.length/\-1<=ixT t f l:=by
 unfold ixT
 split
 ·rename_i h
  have:l.findIdx f<l.length:=List.findIdx_lt_length.2 (List.any_eq_true.1 h)
  omega
 ·omega
def x0d (t:Ty) (l:List t.den) (f:t.den->Bool):Nat->Option Inv
 | 0=>some (Inv.of [8] 0 (λk:Nat=>[(8,.lit (.int .i64 k))]) (λ_=>[]) (λk=>k<=l.length/\∀i,i<k->f (qa1 t l i)=false) (λk=>l.length-k))
 | _=>none
abbrev x59 (fs:List (Nat × qc7)):qc7:=hspec fs true none [.d (.list (.list (.int .i64))),.fn [.list (.int .i64)] .bool] [qg4] (λx=>x.1.length<=1000000/\∀i,i<x.1.length->x.2.1.1 (qa1 (.list (.int .i64)) x.1 i,())) (λx=>(ixT (.list (.int .i64)) (λe=>x.2.1.2 (e,())) x.1,()))
theorem wh2 {fs:List (Nat × qc7)} (hfs:SpecsOk Try.prog fs):qd8 Try.prog 142 (x59 fs):=by
 refine qs5 hfs (snd (SpecsOk.nil _)) Try.func142 rfl rfl (λx=>x0d (.list (.int .i64)) x.1 (λe=>x.2.1.2 (e,()))) (λ_=>by kernel_rfl) (by decide) ?_
 rintro⟨l,⟨p,f⟩,⟨⟩⟩ h
 revert l p f
 intro(l:List (Ty.den (.list (.int .i64)))) (p:qa6 [.list (.int .i64)]->Prop) (f:qa6 [.list (.int .i64)]->Bool) (h:l.length<=1000000/\∀i,i<l.length->p (qa1 (.list (.int .i64)) l i,()))
 refine @qe0 _ (∃(v0:Unit),∃(v1:Nat),(v1<=List.length l/\∀(v2:Nat),Nat.le (Nat.succ v2) v1->f (qa1 (Ty.list (Ty.int .i64)) l v2,())=false)/\(((0:Int)=(↑v1:Int)/\True)/\True)/\∀(v2:Nat),(v2<=List.length l/\∀(v4:Nat),Nat.le (Nat.succ v4) v2->f (qa1 (Ty.list (Ty.int .i64)) l v4,())=false)->(decide ((↑v2:Int)<(↑(List.length l):Int))=true->((0:Int)<=(↑v2:Int)/\(↑v2:Int)<(↑(List.length l):Int))/\p (qa1 (Ty.list (Ty.int .i64)) l (Int.toNat (↑v2:Int)),())/\(f (qa1 (Ty.list (Ty.int .i64)) l (Int.toNat (↑v2:Int)),())=true->(↑v2:Int)=ixT (Ty.list (Ty.int .i64)) (λ(v6:List Int)=>f (v6,())) l)/\(f (qa1 (Ty.list (Ty.int .i64)) l (Int.toNat (↑v2:Int)),())=false->fits .i64 ((↑v2:Int)+(1:Int))/\∃(v6:Nat),(v6<=List.length l/\∀(v7:Nat),Nat.le (Nat.succ v7) v6->f (qa1 (Ty.list (Ty.int .i64)) l v7,())=false)/\List.length l-v6<List.length l-v2/\((↑v2:Int)+(1:Int)=(↑v6:Int)/\True)/\True))/\(decide ((↑v2:Int)<(↑(List.length l):Int))=false->(-1:Int)=ixT (Ty.list (Ty.int .i64)) (λ(v5:List Int)=>f (v5,())) l)) (by kernel_rfl) ?_
 try simp only[z0,z1,z2,z3,z4,z5,z6,z7,z8,z9,z10,Int.reduceEq,z11,z12,z13,z14,z15,z16,z17,z18,z19,z20,z21,z22,z23,z24,z25,z26,z27,z28,z29,z30,Int.reduceLE,Int.reduceLT,z31,z32,z33,z34,qa3]
 try simp only[qb3,qb4,qc8,List.set_cons_zero,List.cons.injEq,and_true,true_and]
 obtain⟨hl,hp⟩:=h
 refine⟨(),0,⟨Nat.zero_le _,λi hi=>absurd hi (by omega)⟩,rfl,λk ⟨hk,hall⟩=>?_⟩
 refine⟨λhlt=>⟨hlt,hp k hlt,λhf=>(wy1 (.list (.int .i64)) (λe=>f (e,())) l k hlt hall hf).symm,λhf=>⟨qb9 (by omega) (by omega),k+1,⟨by omega,λi hi=>?_⟩,by omega,by omega⟩⟩,λhge=>(q4p (.list (.int .i64)) (λe=>f (e,())) l λi hi=>hall i (by omega)).symm⟩
 by_cases e:i=k
 ·subst e; exact hf
 ·exact hall i (by omega)
abbrev x6a (fs:List (Nat × qc7)):qc7:=hspec fs true none [.d (.list (.int .i64)),.fn [.int .i64] .bool] [qg4] (λx=>x.1.length<=1000000/\∀i,i<x.1.length->x.2.1.1 (qa1 (.int .i64) x.1 i,())) (λx=>(ixT (.int .i64) (λe=>x.2.1.2 (e,())) x.1,()))
theorem wh3 {fs:List (Nat × qc7)} (hfs:SpecsOk Try.prog fs):qd8 Try.prog 112 (x6a fs):=by
 refine qs5 hfs (snd (SpecsOk.nil _)) Try.func112 rfl rfl (λx=>x0d (.int .i64) x.1 (λe=>x.2.1.2 (e,()))) (λ_=>by kernel_rfl) (by decide) ?_
 rintro⟨l,⟨p,f⟩,⟨⟩⟩ h
 revert l p f
 intro(l:List (Ty.den (.int .i64))) (p:qa6 [.int .i64]->Prop) (f:qa6 [.int .i64]->Bool) (h:l.length<=1000000/\∀i,i<l.length->p (qa1 (.int .i64) l i,()))
 refine @qe0 _ (∃(v0:Unit),∃(v1:Nat),(v1<=List.length l/\∀(v2:Nat),Nat.le (Nat.succ v2) v1->f (qa1 (Ty.int .i64) l v2,())=false)/\(((0:Int)=(↑v1:Int)/\True)/\True)/\∀(v2:Nat),(v2<=List.length l/\∀(v4:Nat),Nat.le (Nat.succ v4) v2->f (qa1 (Ty.int .i64) l v4,())=false)->(decide ((↑v2:Int)<(↑(List.length l):Int))=true->((0:Int)<=(↑v2:Int)/\(↑v2:Int)<(↑(List.length l):Int))/\p (qa1 (Ty.int .i64) l (Int.toNat (↑v2:Int)),())/\(f (qa1 (Ty.int .i64) l (Int.toNat (↑v2:Int)),())=true->(↑v2:Int)=ixT (Ty.int .i64) (λ(v6:Int)=>f (v6,())) l)/\(f (qa1 (Ty.int .i64) l (Int.toNat (↑v2:Int)),())=false->fits .i64 ((↑v2:Int)+(1:Int))/\∃(v6:Nat),(v6<=List.length l/\∀(v7:Nat),Nat.le (Nat.succ v7) v6->f (qa1 (Ty.int .i64) l v7,())=false)/\List.length l-v6<List.length l-v2/\((↑v2:Int)+(1:Int)=(↑v6:Int)/\True)/\True))/\(decide ((↑v2:Int)<(↑(List.length l):Int))=false->(-1:Int)=ixT (Ty.int .i64) (λ(v5:Int)=>f (v5,())) l)) (by kernel_rfl) ?_
 try simp only[z0,z1,z2,z3,z4,z5,z6,z7,z8,z9,z10,Int.reduceEq,z11,z12,z13,z14,z15,z16,z17,z18,z19,z20,z21,z22,z23,z24,z25,z26,z27,z28,z29,z30,Int.reduceLE,Int.reduceLT,z31,z32,z33,z34,qa3]
 try simp only[qb3,qb4,qc8,List.set_cons_zero,List.cons.injEq,and_true,true_and]
 obtain⟨hl,hp⟩:=h
 refine⟨(),0,⟨Nat.zero_le _,λi hi=>absurd hi (by omega)⟩,rfl,λk ⟨hk,hall⟩=>?_⟩
 refine⟨λhlt=>⟨hlt,hp k hlt,λhf=>(wy1 (.int .i64) (λe=>f (e,())) l k hlt hall hf).symm,λhf=>⟨qb9 (by omega) (by omega),k+1,⟨by omega,λi hi=>?_⟩,by omega,by omega⟩⟩,λhge=>(q4p (.int .i64) (λe=>f (e,())) l λi hi=>hall i (by omega)).symm⟩
 by_cases e:i=k
 ·subst e; exact hf
 ·exact hall i (by omega)
abbrev x6b (fs:List (Nat × qc7)):qc7:=hspec fs true none [.d (.list (.prod (.int .i64) (.int .i64))),.fn [.prod (.int .i64) (.int .i64)] .bool] [qg4] (λx=>x.1.length<=1000000/\∀i,i<x.1.length->x.2.1.1 (qa1 (.prod (.int .i64) (.int .i64)) x.1 i,())) (λx=>(ixT (.prod (.int .i64) (.int .i64)) (λe=>x.2.1.2 (e,())) x.1,()))
theorem w5j {fs:List (Nat × qc7)} (hfs:SpecsOk Try.prog fs):qd8 Try.prog 118 (x6b fs):=by
 refine qs5 hfs (snd (SpecsOk.nil _)) Try.func118 rfl rfl (λx=>x0d (.prod (.int .i64) (.int .i64)) x.1 (λe=>x.2.1.2 (e,()))) (λ_=>by kernel_rfl) (by decide) ?_
 rintro⟨l,⟨p,f⟩,⟨⟩⟩ h
 revert l p f
 intro(l:List (Ty.den (.prod (.int .i64) (.int .i64)))) (p:qa6 [.prod (.int .i64) (.int .i64)]->Prop) (f:qa6 [.prod (.int .i64) (.int .i64)]->Bool) (h:l.length<=1000000/\∀i,i<l.length->p (qa1 (.prod (.int .i64) (.int .i64)) l i,()))
 refine @qe0 _ (∃(v0:Unit),∃(v1:Nat),(v1<=List.length l/\∀(v2:Nat),Nat.le (Nat.succ v2) v1->f (qa1 (Ty.prod (Ty.int .i64) (Ty.int .i64)) l v2,())=false)/\(((0:Int)=(↑v1:Int)/\True)/\True)/\∀(v2:Nat),(v2<=List.length l/\∀(v4:Nat),Nat.le (Nat.succ v4) v2->f (qa1 (Ty.prod (Ty.int .i64) (Ty.int .i64)) l v4,())=false)->(decide ((↑v2:Int)<(↑(List.length l):Int))=true->((0:Int)<=(↑v2:Int)/\(↑v2:Int)<(↑(List.length l):Int))/\p ((Prod.fst (qa1 (Ty.prod (Ty.int .i64) (Ty.int .i64)) l (Int.toNat (↑v2:Int))),Prod.snd (qa1 (Ty.prod (Ty.int .i64) (Ty.int .i64)) l (Int.toNat (↑v2:Int)))),())/\(f ((Prod.fst (qa1 (Ty.prod (Ty.int .i64) (Ty.int .i64)) l (Int.toNat (↑v2:Int))),Prod.snd (qa1 (Ty.prod (Ty.int .i64) (Ty.int .i64)) l (Int.toNat (↑v2:Int)))),())=true->(↑v2:Int)=ixT (Ty.prod (Ty.int .i64) (Ty.int .i64)) (λ(v6:Int × Int)=>f (v6,())) l)/\(f ((Prod.fst (qa1 (Ty.prod (Ty.int .i64) (Ty.int .i64)) l (Int.toNat (↑v2:Int))),Prod.snd (qa1 (Ty.prod (Ty.int .i64) (Ty.int .i64)) l (Int.toNat (↑v2:Int)))),())=false->fits .i64 ((↑v2:Int)+(1:Int))/\∃(v6:Nat),(v6<=List.length l/\∀(v7:Nat),Nat.le (Nat.succ v7) v6->f (qa1 (Ty.prod (Ty.int .i64) (Ty.int .i64)) l v7,())=false)/\List.length l-v6<List.length l-v2/\((↑v2:Int)+(1:Int)=(↑v6:Int)/\True)/\True))/\(decide ((↑v2:Int)<(↑(List.length l):Int))=false->(-1:Int)=ixT (Ty.prod (Ty.int .i64) (Ty.int .i64)) (λ(v5:Int × Int)=>f (v5,())) l)) (by kernel_rfl) ?_
 try simp only[z0,z1,z2,z3,z4,z5,z6,z7,z8,z9,z10,Int.reduceEq,z11,z12,z13,z14,z15,z16,z17,z18,z19,z20,z21,z22,z23,z24,z25,z26,z27,z28,z29,z30,Int.reduceLE,Int.reduceLT,z31,z32,z33,z34,qa3]
 try simp only[qb3,qb4,qc8,List.set_cons_zero,List.cons.injEq,and_true,true_and]
 obtain⟨hl,hp⟩:=h
 refine⟨(),0,⟨Nat.zero_le _,λi hi=>absurd hi (by omega)⟩,rfl,λk ⟨hk,hall⟩=>?_⟩
 refine⟨λhlt=>⟨hlt,hp k hlt,λhf=>(wy1 (.prod (.int .i64) (.int .i64)) (λe=>f (e,())) l k hlt hall hf).symm,λhf=>⟨qb9 (by omega) (by omega),k+1,⟨by omega,λi hi=>?_⟩,by omega,by omega⟩⟩,λhge=>(q4p (.prod (.int .i64) (.int .i64)) (λe=>f (e,())) l λi hi=>hall i (by omega)).symm⟩
 by_cases e:i=k
 ·subst e; exact hf
 ·exact hall i (by omega)
abbrev x6c (fs:List (Nat × qc7)):qc7:=hspec fs true none [.d (.list (.list (.int .i64))),.fn [.list (.int .i64)] .bool] [.bool] (λx=>x.1.length<=1000000/\∀i,i<x.1.length->x.2.1.1 (qa1 (.list (.int .i64)) x.1 i,())) (λx=>(x.1.any λe=>x.2.1.2 (e,()),()))
theorem w5k {fs:List (Nat × qc7)} (hfs:SpecsOk Try.prog fs):qd8 Try.prog 130 (x6c fs):=by
 refine qs5 hfs (snd (SpecsOk.cons (wh2 (fs:=fs) hfs) (SpecsOk.nil _))) Try.func130 rfl rfl (λx=>λ_=>none) (λ_=>by kernel_rfl) (by decide) ?_
 rintro⟨l,⟨p,f⟩,⟨⟩⟩ h
 revert l p f
 intro(l:List (Ty.den (.list (.int .i64)))) (p:qa6 [.list (.int .i64)]->Prop) (f:qa6 [.list (.int .i64)]->Bool) (h:l.length<=1000000/\∀i,i<l.length->p (qa1 (.list (.int .i64)) l i,()))
 refine @qe0 _ (∃(v0:qa6 [Ty.list (Ty.int .i64)]->Prop),∃(v1:qa6 [Ty.list (Ty.int .i64)]->Bool),([Ty.list (Ty.int .i64)]=[Ty.list (Ty.int .i64)]/\Ty.bool=Ty.bool/\p ≍ v0/\f ≍ v1)/\(List.length l<=(1000000:Nat)/\∀(v2:Nat),v2<List.length l->v0 (qa1 (Ty.list (Ty.int .i64)) l v2,()))/\decide ((0:Int)<=ixT (Ty.list (Ty.int .i64)) (λ(v2:List Int)=>v1 (v2,())) l)=List.any l λ(v2:List Int)=>f (v2,())) (by kernel_rfl) ?_
 try simp only[z0,z1,z2,z3,z4,z5,z6,z7,z8,z9,z10,Int.reduceEq,z11,z12,z13,z14,z15,z16,z17,z18,z19,z20,z21,z22,z23,z24,z25,z26,z27,z28,z29,z30,Int.reduceLE,Int.reduceLT,z31,z32,z33,z34,qa3]
 try simp only[qb3,qb4,qc8,List.set_cons_zero,List.cons.injEq,and_true,true_and]
 exact⟨p,f,⟨HEq.rfl,HEq.rfl⟩,h,q03 (.list (.int .i64)) (λe=>f (e,())) l⟩
abbrev x6d (fs:List (Nat × qc7)):qc7:=hspec fs true none [.d (.list (.int .i64)),.fn [.int .i64] .bool] [.bool] (λx=>x.1.length<=1000000/\∀i,i<x.1.length->x.2.1.1 (qa1 (.int .i64) x.1 i,())) (λx=>(x.1.any λe=>x.2.1.2 (e,()),()))
theorem q50 {fs:List (Nat × qc7)} (hfs:SpecsOk Try.prog fs):qd8 Try.prog 79 (x6d fs):=by
 refine qs5 hfs (snd (SpecsOk.cons (wh3 (fs:=fs) hfs) (SpecsOk.nil _))) Try.func79 rfl rfl (λx=>λ_=>none) (λ_=>by kernel_rfl) (by decide) ?_
 rintro⟨l,⟨p,f⟩,⟨⟩⟩ h
 revert l p f
 intro(l:List (Ty.den (.int .i64))) (p:qa6 [.int .i64]->Prop) (f:qa6 [.int .i64]->Bool) (h:l.length<=1000000/\∀i,i<l.length->p (qa1 (.int .i64) l i,()))
 refine @qe0 _ (∃(v0:qa6 [Ty.int .i64]->Prop),∃(v1:qa6 [Ty.int .i64]->Bool),([Ty.int .i64]=[Ty.int .i64]/\Ty.bool=Ty.bool/\p ≍ v0/\f ≍ v1)/\(List.length l<=(1000000:Nat)/\∀(v2:Nat),v2<List.length l->v0 (qa1 (Ty.int .i64) l v2,()))/\decide ((0:Int)<=ixT (Ty.int .i64) (λ(v2:Int)=>v1 (v2,())) l)=List.any l λ(v2:Int)=>f (v2,())) (by kernel_rfl) ?_
 try simp only[z0,z1,z2,z3,z4,z5,z6,z7,z8,z9,z10,Int.reduceEq,z11,z12,z13,z14,z15,z16,z17,z18,z19,z20,z21,z22,z23,z24,z25,z26,z27,z28,z29,z30,Int.reduceLE,Int.reduceLT,z31,z32,z33,z34,qa3]
 try simp only[qb3,qb4,qc8,List.set_cons_zero,List.cons.injEq,and_true,true_and]
 exact⟨p,f,⟨HEq.rfl,HEq.rfl⟩,h,q03 (.int .i64) (λe=>f (e,())) l⟩
abbrev x6e (fs:List (Nat × qc7)):qc7:=hspec fs true none [.d (.list (.prod (.int .i64) (.int .i64))),.fn [.prod (.int .i64) (.int .i64)] .bool] [.bool] (λx=>x.1.length<=1000000/\∀i,i<x.1.length->x.2.1.1 (qa1 (.prod (.int .i64) (.int .i64)) x.1 i,())) (λx=>(x.1.any λe=>x.2.1.2 (e,()),()))
theorem wh4 {fs:List (Nat × qc7)} (hfs:SpecsOk Try.prog fs):qd8 Try.prog 82 (x6e fs):=by
 refine qs5 hfs (snd (SpecsOk.cons (w5j (fs:=fs) hfs) (SpecsOk.nil _))) Try.func82 rfl rfl (λx=>λ_=>none) (λ_=>by kernel_rfl) (by decide) ?_
 rintro⟨l,⟨p,f⟩,⟨⟩⟩ h
 revert l p f
 intro(l:List (Ty.den (.prod (.int .i64) (.int .i64)))) (p:qa6 [.prod (.int .i64) (.int .i64)]->Prop) (f:qa6 [.prod (.int .i64) (.int .i64)]->Bool) (h:l.length<=1000000/\∀i,i<l.length->p (qa1 (.prod (.int .i64) (.int .i64)) l i,()))
 refine @qe0 _ (∃(v0:qa6 [Ty.prod (Ty.int .i64) (Ty.int .i64)]->Prop),∃(v1:qa6 [Ty.prod (Ty.int .i64) (Ty.int .i64)]->Bool),([Ty.prod (Ty.int .i64) (Ty.int .i64)]=[Ty.prod (Ty.int .i64) (Ty.int .i64)]/\Ty.bool=Ty.bool/\p ≍ v0/\f ≍ v1)/\(List.length l<=(1000000:Nat)/\∀(v2:Nat),v2<List.length l->v0 (qa1 (Ty.prod (Ty.int .i64) (Ty.int .i64)) l v2,()))/\decide ((0:Int)<=ixT (Ty.prod (Ty.int .i64) (Ty.int .i64)) (λ(v2:Int × Int)=>v1 (v2,())) l)=List.any l λ(v2:Int × Int)=>f (v2,())) (by kernel_rfl) ?_
 try simp only[z0,z1,z2,z3,z4,z5,z6,z7,z8,z9,z10,Int.reduceEq,z11,z12,z13,z14,z15,z16,z17,z18,z19,z20,z21,z22,z23,z24,z25,z26,z27,z28,z29,z30,Int.reduceLE,Int.reduceLT,z31,z32,z33,z34,qa3]
 try simp only[qb3,qb4,qc8,List.set_cons_zero,List.cons.injEq,and_true,true_and]
 exact⟨p,f,⟨HEq.rfl,HEq.rfl⟩,h,q03 (.prod (.int .i64) (.int .i64)) (λe=>f (e,())) l⟩
end Go.Proofs.Ytdibdlelmkcccaa
