/- Masks, and the errors of masks, readings and pixels: contracts by the engine. No condition. -/
import Derived.Test.YtdibdlelmkcccaaV3
set_option linter.unusedVariables false
set_option linter.unusedSimpArgs false
namespace Go.Proofs.Ytdibdlelmkcccaa
open Go Go.RowKit Eng
def inB (n lo hi:Int):Bool:=decide (lo<=n) && decide (n<=hi)
theorem qp5 {n lo hi:Int}:inB n lo hi=true↔lo<=n/\n<=hi:=by simp[inB]
abbrev wa6:qc9:=qh6 true none [qg1,qg1,qg1] [.bool] (λ_=>True) (λx=>(inB x.1 x.2.1 x.2.2.1,()))
theorem qt4:qe1 Try.prog 100 wa6:=by
 refine meets (snd (SpecsOk.nil _)) Try.func100 rfl rfl (λ_ _=>none) (λ_=>by kernel_rfl) (by decide) ?_
 rintro⟨n,lo,hi,⟨⟩⟩ -
 revert n lo hi
 intro(n:Int) (lo:Int) (hi:Int)
 refine qe6 (B:=(decide (lo<=n)=true->decide (n<=hi)=inB n lo hi)/\(decide (lo<=n)=false->false=inB n lo hi)) (by kernel_rfl) ?_
 try simp only[z0,z1,z2,z3,z4,z5,z6,z7,z8,z9,z10,Int.reduceEq,z11,z12,z13,z14,z15,z16,z17,z18,z19,z20,z21,z22,z23,z24,z25,z26,z27,z28,z29,z30,Int.reduceLE,Int.reduceLT,z31,z32,z33,z34,qa4]
 try simp only[qb8,qb9,qd2,List.set_cons_zero,List.cons.injEq,and_true,true_and]
 constructor
 ·intro h1
  simp[inB,h1]
 ·intro h1
  have:¬lo<=n:=by omega
  simp[inB,this]
theorem qt5:qe1 Try.prog 45 wa6:=by
 refine meets (snd (SpecsOk.nil _)) Try.func45 rfl rfl (λ_ _=>none) (λ_=>by kernel_rfl) (by decide) ?_
 rintro⟨n,lo,hi,⟨⟩⟩ -
 revert n lo hi
 intro(n:Int) (lo:Int) (hi:Int)
 refine qe6 (B:=(decide (lo<=n)=true->decide (n<=hi)=inB n lo hi)/\(decide (lo<=n)=false->false=inB n lo hi)) (by kernel_rfl) ?_
 try simp only[z0,z1,z2,z3,z4,z5,z6,z7,z8,z9,z10,Int.reduceEq,z11,z12,z13,z14,z15,z16,z17,z18,z19,z20,z21,z22,z23,z24,z25,z26,z27,z28,z29,z30,Int.reduceLE,Int.reduceLT,z31,z32,z33,z34,qa4]
 try simp only[qb8,qb9,qd2,List.set_cons_zero,List.cons.injEq,and_true,true_and]
 constructor
 ·intro h1
  simp[inB,h1]
 ·intro h1
  have:¬lo<=n:=by omega
  simp[inB,this]
theorem qz5:qe1 Try.prog 98 wa6:=by
 refine meets (snd (SpecsOk.nil _)) Try.func98 rfl rfl (λ_ _=>none) (λ_=>by kernel_rfl) (by decide) ?_
 rintro⟨n,lo,hi,⟨⟩⟩ -
 revert n lo hi
 intro(n:Int) (lo:Int) (hi:Int)
 refine qe6 (B:=(decide (lo<=n)=true->decide (n<=hi)=inB n lo hi)/\(decide (lo<=n)=false->false=inB n lo hi)) (by kernel_rfl) ?_
 try simp only[z0,z1,z2,z3,z4,z5,z6,z7,z8,z9,z10,Int.reduceEq,z11,z12,z13,z14,z15,z16,z17,z18,z19,z20,z21,z22,z23,z24,z25,z26,z27,z28,z29,z30,Int.reduceLE,Int.reduceLT,z31,z32,z33,z34,qa4]
 try simp only[qb8,qb9,qd2,List.set_cons_zero,List.cons.injEq,and_true,true_and]
 constructor
 ·intro h1
  simp[inB,h1]
 ·intro h1
  have:¬lo<=n:=by omega
  simp[inB,this]
abbrev xa6 (fs:List (Nat × qc9)):qc9:=hspec fs true none [.d qg1,.capfn [qg1] .bool] [.bool] (λx=>x.2.1.1 (x.1,())) (λx=>(!(x.2.1.2 (x.1,())),()))
theorem wp0 {fs:List (Nat × qc9)} (hfs:SpecsOk Try.prog fs):qe1 Try.prog 153 (xa6 fs):=by
 refine qp4 hfs (snd (SpecsOk.nil _)) Try.func153 rfl rfl (λ_ _=>none) (λ_=>by kernel_rfl) (by decide) ?_
 rintro⟨n,⟨p,f⟩,⟨⟩⟩ h
 revert n p f
 intro(n:Int) (p:qa7 [.int .i64]->Prop) (f:qa7 [.int .i64]->Bool) (h:p (n,()))
 refine qe6 (B:=p (n,())/\(!f (n,()))=!f (n,())) (by kernel_rfl) ?_
 try simp only[z0,z1,z2,z3,z4,z5,z6,z7,z8,z9,z10,Int.reduceEq,z11,z12,z13,z14,z15,z16,z17,z18,z19,z20,z21,z22,z23,z24,z25,z26,z27,z28,z29,z30,Int.reduceLE,Int.reduceLT,z31,z32,z33,z34,qa4]
 try simp only[qb8,qb9,qd2,List.set_cons_zero,List.cons.injEq,and_true,true_and]
 exact h
abbrev xa7 (fs:List (Nat × qc9)):qc9:=hspec fs true none [.d qf6,.capfn [qf6] .bool] [.bool] (λx=>x.2.1.1 (x.1,())) (λx=>(!(x.2.1.2 (x.1,())),()))
theorem wp1 {fs:List (Nat × qc9)} (hfs:SpecsOk Try.prog fs):qe1 Try.prog 131 (xa7 fs):=by
 refine qp4 hfs (snd (SpecsOk.nil _)) Try.func131 rfl rfl (λ_ _=>none) (λ_=>by kernel_rfl) (by decide) ?_
 rintro⟨n,⟨p,f⟩,⟨⟩⟩ h
 revert n p f
 intro(n:List Int) (p:qa7 [.list (.int .i64)]->Prop) (f:qa7 [.list (.int .i64)]->Bool) (h:p (n,()))
 refine qe6 (B:=p (n,())/\(!f (n,()))=!f (n,())) (by kernel_rfl) ?_
 try simp only[z0,z1,z2,z3,z4,z5,z6,z7,z8,z9,z10,Int.reduceEq,z11,z12,z13,z14,z15,z16,z17,z18,z19,z20,z21,z22,z23,z24,z25,z26,z27,z28,z29,z30,Int.reduceLE,Int.reduceLT,z31,z32,z33,z34,qa4]
 try simp only[qb8,qb9,qd2,List.set_cons_zero,List.cons.injEq,and_true,true_and]
 exact h
abbrev fsI (fs:List (Nat × qc9)):List (Nat × qc9):=[(153,xa6 fs)]
abbrev fsL (fs:List (Nat × qc9)):List (Nat × qc9):=[(131,xa7 fs)]
abbrev xy8 (fs:List (Nat × qc9)):qc9:=hspec fs true none [.d qf6,.fn [qg1] .bool] [.bool] (λx=>x.1.length<=1000000/\∀i,i<x.1.length->x.2.1.1 (nI x.1 i,())) (λx=>(x.1.all λe=>x.2.1.2 (e,()),()))
abbrev xy9 (fs:List (Nat × qc9)):qc9:=hspec fs true none [.d qk0,.fn [qf6] .bool] [.bool] (λx=>x.1.length<=1000000/\∀i,i<x.1.length->x.2.1.1 (nL x.1 i,())) (λx=>(x.1.all λe=>x.2.1.2 (e,()),()))
theorem q8o {fs:List (Nat × qc9)} (hfs:SpecsOk Try.prog fs):qe1 Try.prog 132 (xy8 fs):=by
 refine qp4 hfs (snd (SpecsOk.cons (q6n (fs:=fsI fs) (SpecsOk.cons (wp0 hfs) (SpecsOk.nil _))) (SpecsOk.nil _))) Try.func132 rfl rfl (λ_ _=>none) (λ_=>by kernel_rfl) (by decide) ?_
 rintro⟨l,⟨p,f⟩,⟨⟩⟩ h
 revert l p f
 intro(l:List Int) (p:qa7 [.int .i64]->Prop) (f:qa7 [.int .i64]->Bool) (h:l.length<=1000000/\∀i,i<l.length->p (nI l i,()))
 refine qe6 (B:=∃(v0:qa7 [Ty.int .i64]->Prop),∃(v1:qa7 [Ty.int .i64]->Bool),(∀(v2:Int × qa7._f [] PUnit.unit),v0 v2->∃(v4:qa7 [qg1]->Prop),∃(v5:qa7 [qg1]->Bool),([qg1]=[qg1]/\Ty.bool=Ty.bool/\p ≍ v4/\f ≍ v5)/\v4 (Prod.fst v2,())/\(!v5 (Prod.fst v2,()))=v1 v2)/\(List.length l<=(1000000:Nat)/\∀(v2:Nat),v2<List.length l->v0 (qa3 (Ty.int .i64) l v2,()))/\(!List.any l λ(v2:Int)=>v1 (v2,()))=List.all l λ(v2:Int)=>f (v2,())) (by kernel_rfl) ?_
 try simp only[z0,z1,z2,z3,z4,z5,z6,z7,z8,z9,z10,Int.reduceEq,z11,z12,z13,z14,z15,z16,z17,z18,z19,z20,z21,z22,z23,z24,z25,z26,z27,z28,z29,z30,Int.reduceLE,Int.reduceLT,z31,z32,z33,z34,qa4]
 try simp only[qb8,qb9,qd2,List.set_cons_zero,List.cons.injEq,and_true,true_and]
 exact⟨p,λx=>!f x,λx hx=>⟨p,f,⟨HEq.rfl,HEq.rfl⟩,hx,(Bool.not_not (f x)).symm⟩,h,by simp[List.not_all_eq_any_not]⟩
theorem w1k {fs:List (Nat × qc9)} (hfs:SpecsOk Try.prog fs):qe1 Try.prog 101 (xy9 fs):=by
 refine qp4 hfs (snd (SpecsOk.cons (w4z (fs:=fsL fs) (SpecsOk.cons (wp1 hfs) (SpecsOk.nil _))) (SpecsOk.nil _))) Try.func101 rfl rfl (λ_ _=>none) (λ_=>by kernel_rfl) (by decide) ?_
 rintro⟨l,⟨p,f⟩,⟨⟩⟩ h
 revert l p f
 intro(l:List (List Int)) (p:qa7 [.list (.int .i64)]->Prop) (f:qa7 [.list (.int .i64)]->Bool) (h:l.length<=1000000/\∀i,i<l.length->p (nL l i,()))
 refine qe6 (B:=∃(v0:qa7 [Ty.list (Ty.int .i64)]->Prop),∃(v1:qa7 [Ty.list (Ty.int .i64)]->Bool),(∀(v2:List Int × qa7._f [] PUnit.unit),v0 v2->∃(v4:qa7 [qf6]->Prop),∃(v5:qa7 [qf6]->Bool),([qf6]=[qf6]/\Ty.bool=Ty.bool/\p ≍ v4/\f ≍ v5)/\v4 (Prod.fst v2,())/\(!v5 (Prod.fst v2,()))=v1 v2)/\(List.length l<=(1000000:Nat)/\∀(v2:Nat),v2<List.length l->v0 (qa3 (Ty.list (Ty.int .i64)) l v2,()))/\(!List.any l λ(v2:List Int)=>v1 (v2,()))=List.all l λ(v2:List Int)=>f (v2,())) (by kernel_rfl) ?_
 try simp only[z0,z1,z2,z3,z4,z5,z6,z7,z8,z9,z10,Int.reduceEq,z11,z12,z13,z14,z15,z16,z17,z18,z19,z20,z21,z22,z23,z24,z25,z26,z27,z28,z29,z30,Int.reduceLE,Int.reduceLT,z31,z32,z33,z34,qa4]
 try simp only[qb8,qb9,qd2,List.set_cons_zero,List.cons.injEq,and_true,true_and]
 exact⟨p,λx=>!f x,λx hx=>⟨p,f,⟨HEq.rfl,HEq.rfl⟩,hx,(Bool.not_not (f x)).symm⟩,h,by simp[List.not_all_eq_any_not]⟩
abbrev xp3:qc9:=qh6 true none [qg1] [.bool] (λ_=>True) (λx=>(inB x.1 (-1) 1,()))
theorem w1l:qe1 Try.prog 133 xp3:=by
 refine meets (snd (SpecsOk.cons qt4 (SpecsOk.nil _))) Try.func133 rfl rfl (λ_ _=>none) (λ_=>by kernel_rfl) (by decide) ?_
 rintro⟨n,⟨⟩⟩ -
 revert n
 intro(n:Int)
 refine qe6 (B:=True/\inB n (-1:Int) (1:Int)=inB n (-1:Int) (1:Int)) (by kernel_rfl) ?_
 try simp only[z0,z1,z2,z3,z4,z5,z6,z7,z8,z9,z10,Int.reduceEq,z11,z12,z13,z14,z15,z16,z17,z18,z19,z20,z21,z22,z23,z24,z25,z26,z27,z28,z29,z30,Int.reduceLE,Int.reduceLT,z31,z32,z33,z34,qa4]
 try simp only[qb8,qb9,qd2,List.set_cons_zero,List.cons.injEq,and_true,true_and]
def rowB (l:List Int):Bool:=inB l.length 1 10 && l.all λn=>inB n (-1) 1
abbrev x3t:qc9:=qh6 true none [qf6] [.bool] (λ_=>True) (λx=>(rowB x.1,()))
theorem w41:qe1 Try.prog 103 x3t:=by
 refine meets (snd (SpecsOk.cons qt4 (SpecsOk.cons (q8o (fs:=[(133,xp3)]) (SpecsOk.cons w1l (SpecsOk.nil _))) (SpecsOk.nil _)))) Try.func103 rfl rfl (λ_ _=>none) (λ_=>by kernel_rfl) (by decide) ?_
 rintro⟨l,⟨⟩⟩ -
 revert l
 intro(l:List Int)
 refine qe6 (B:=True/\(inB (↑(List.length l):Int) (1:Int) (10:Int)=true->∃(v1:qa7 [qg1]->Prop),∃(v2:qa7 [qg1]->Bool),(∀(v3:Int × qa7._f [] PUnit.unit),v1 v3->True/\inB (Prod.fst v3) (-1:Int) (1:Int)=v2 v3)/\(List.length l<=(1000000:Nat)/\∀(v3:Nat),v3<List.length l->v1 (nI l v3,()))/\(List.all l λ(v3:Int)=>v2 (v3,()))=rowB l)/\(inB (↑(List.length l):Int) (1:Int) (10:Int)=false->false=rowB l)) (by kernel_rfl) ?_
 try simp only[z0,z1,z2,z3,z4,z5,z6,z7,z8,z9,z10,Int.reduceEq,z11,z12,z13,z14,z15,z16,z17,z18,z19,z20,z21,z22,z23,z24,z25,z26,z27,z28,z29,z30,Int.reduceLE,Int.reduceLT,z31,z32,z33,z34,qa4]
 try simp only[qb8,qb9,qd2,List.set_cons_zero,List.cons.injEq,and_true,true_and]
 refine⟨λh=>⟨λ_=>True,λx=>inB x.1 (-1) 1,λ_ _=>rfl,⟨by rw[qp5] at h; omega,λ_ _=>trivial⟩,by simp[rowB,h]⟩,λh=>by simp[rowB,h]⟩
abbrev x13:qc9:=hspec [] true none [.d qf6,.cap qk0] [.bool] (λx=>0<x.2.1.length) (λx=>(decide (x.1.length=(nL x.2.1 0).length) && rowB x.1,()))
theorem w42:qe1 Try.prog 102 x13:=by
 refine qp4 (SpecsOk.nil _) (snd (SpecsOk.cons w41 (SpecsOk.nil _))) Try.func102 rfl rfl (λ_ _=>none) (λ_=>by kernel_rfl) (by decide) ?_
 rintro⟨l,m,⟨⟩⟩ h
 revert l m
 intro(l:List Int) (m:List (List Int)) (h:0<m.length)
 refine qe6 (B:=((0:Int)<=(0:Int)/\(0:Int)<(↑(List.length m):Int))/\(((↑(List.length l):Int)==(↑(List.length (qa3 (Ty.list (Ty.int .i64)) m (0:Nat))):Int))=true->True/\rowB l=(decide (List.length l=List.length (nL m (0:Nat))) && rowB l))/\(((↑(List.length l):Int)==(↑(List.length (qa3 (Ty.list (Ty.int .i64)) m (0:Nat))):Int))=false->false=(decide (List.length l=List.length (nL m (0:Nat))) && rowB l))) (by kernel_rfl) ?_
 try simp only[z0,z1,z2,z3,z4,z5,z6,z7,z8,z9,z10,Int.reduceEq,z11,z12,z13,z14,z15,z16,z17,z18,z19,z20,z21,z22,z23,z24,z25,z26,z27,z28,z29,z30,Int.reduceLE,Int.reduceLT,z31,z32,z33,z34,qa4]
 try simp only[qb8,qb9,qd2,List.set_cons_zero,List.cons.injEq,and_true,true_and]
 refine⟨by omega,λh1=>?_,λh1=>?_⟩
 ·rw[decide_eq_true (Int.ofNat.inj h1)]; simp
 ·rw[decide_eq_false λe=>h1 (congrArg _ e)]; simp
def qd3 (m:List (List Int)):Bool:=inB m.length 1 6 && m.all λl=>decide (l.length=(nL m 0).length) && rowB l
abbrev sMV:qc9:=qh6 true none [qk0] [.bool] (λ_=>True) (λx=>(qd3 x.1,()))
theorem q5g:qe1 Try.prog 68 sMV:=by
 refine meets (snd (SpecsOk.cons qt4 (SpecsOk.cons (w1k (fs:=[(102,x13)]) (SpecsOk.cons w42 (SpecsOk.nil _))) (SpecsOk.nil _)))) Try.func68 rfl rfl (λ_ _=>none) (λ_=>by kernel_rfl) (by decide) ?_
 rintro⟨m,⟨⟩⟩ -
 revert m
 intro(m:List (List Int))
 refine qe6 (B:=True/\(inB (↑(List.length m):Int) (1:Int) (6:Int)=true->∃(v1:qa7 [qf6]->Prop),∃(v2:qa7 [qf6]->Bool),(∀(v3:List Int × qa7._f [] PUnit.unit),v1 v3->(0:Nat)<List.length m/\(decide (List.length (Prod.fst v3)=List.length (nL m (0:Nat))) && rowB (Prod.fst v3))=v2 v3)/\(List.length m<=(1000000:Nat)/\∀(v3:Nat),v3<List.length m->v1 (nL m v3,()))/\(List.all m λ(v3:List Int)=>v2 (v3,()))=qd3 m)/\(inB (↑(List.length m):Int) (1:Int) (6:Int)=false->false=qd3 m)) (by kernel_rfl) ?_
 try simp only[z0,z1,z2,z3,z4,z5,z6,z7,z8,z9,z10,Int.reduceEq,z11,z12,z13,z14,z15,z16,z17,z18,z19,z20,z21,z22,z23,z24,z25,z26,z27,z28,z29,z30,Int.reduceLE,Int.reduceLT,z31,z32,z33,z34,qa4]
 try simp only[qb8,qb9,qd2,List.set_cons_zero,List.cons.injEq,and_true,true_and]
 refine⟨λh=>?_,λh=>by simp[qd3,h]⟩
 have hm:=qp5.1 h
 exact⟨λ_=>True,λx=>decide (x.1.length=(nL m 0).length) && rowB x.1,λx _=>⟨by omega,rfl⟩,⟨by omega,λ_ _=>trivial⟩,by simp[qd3,h]⟩
end Go.Proofs.Ytdibdlelmkcccaa
