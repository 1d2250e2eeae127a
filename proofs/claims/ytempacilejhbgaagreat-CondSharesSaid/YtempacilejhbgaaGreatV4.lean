/- Masks, and the errors of masks, readings and pixels: contracts by the engine. No condition. -/
import Derived.Test.YtempacilejhbgaaGreatV3
set_option linter.unusedVariables false
set_option linter.unusedSimpArgs false
namespace Go.Proofs.YtempacilejhbgaaGreat
open Go Go.RowKit Eng
def inB (n lo hi:Int):Bool:=decide (lo<=n) && decide (n<=hi)
theorem qm0 {n lo hi:Int}:inB n lo hi=true↔lo<=n/\n<=hi:=by simp[inB]
theorem xi1 {n lo hi:Int}:inB n lo hi=false↔¬(lo<=n/\n<=hi):=by rw[<- qm0]; simp
abbrev q9p:qc0:=qg7 true none [qd6,qd6,qd6] [.bool] (λ_=>True) (λx=>(inB x.1 x.2.1 x.2.2.1,()))
theorem qy2:qd7 Tryz.prog 90 q9p:=by
 refine meets (snd (SpecsOk.nil _)) Tryz.func90 rfl rfl (λ_ _=>none) (λ_=>by kernel_rfl) (by decide) ?_
 rintro⟨n,lo,hi,⟨⟩⟩ -
 revert n lo hi
 intro(n:Int) (lo:Int) (hi:Int)
 refine @qe1 _ ((decide (lo<=n)=true->decide (n<=hi)=inB n lo hi)/\(decide (lo<=n)=false->false=inB n lo hi)) (by kernel_rfl) ?_
 try simp only[z0,z1,z2,z3,z4,z5,z6,z7,z8,z9,z10,Int.reduceEq,z11,z12,z13,z14,z15,z16,z17,z18,z19,z20,z21,z22,z23,z24,z25,z26,z27,z28,z29,z30,Int.reduceLE,Int.reduceLT,z31,z32,z33,z34,qa4]
 try simp only[qb3,qb4,qb9,List.set_cons_zero,List.cons.injEq,and_true,true_and]
 constructor
 ·intro h1
  simp[inB,h1]
 ·intro h1
  have:¬lo<=n:=by omega
  simp[inB,this]
theorem qy3:qd7 Tryz.prog 84 q9p:=by
 refine meets (snd (SpecsOk.nil _)) Tryz.func84 rfl rfl (λ_ _=>none) (λ_=>by kernel_rfl) (by decide) ?_
 rintro⟨n,lo,hi,⟨⟩⟩ -
 revert n lo hi
 intro(n:Int) (lo:Int) (hi:Int)
 refine @qe1 _ ((decide (lo<=n)=true->decide (n<=hi)=inB n lo hi)/\(decide (lo<=n)=false->false=inB n lo hi)) (by kernel_rfl) ?_
 try simp only[z0,z1,z2,z3,z4,z5,z6,z7,z8,z9,z10,Int.reduceEq,z11,z12,z13,z14,z15,z16,z17,z18,z19,z20,z21,z22,z23,z24,z25,z26,z27,z28,z29,z30,Int.reduceLE,Int.reduceLT,z31,z32,z33,z34,qa4]
 try simp only[qb3,qb4,qb9,List.set_cons_zero,List.cons.injEq,and_true,true_and]
 constructor
 ·intro h1
  simp[inB,h1]
 ·intro h1
  have:¬lo<=n:=by omega
  simp[inB,this]
theorem q2v:qd7 Tryz.prog 95 q9p:=by
 refine meets (snd (SpecsOk.nil _)) Tryz.func95 rfl rfl (λ_ _=>none) (λ_=>by kernel_rfl) (by decide) ?_
 rintro⟨n,lo,hi,⟨⟩⟩ -
 revert n lo hi
 intro(n:Int) (lo:Int) (hi:Int)
 refine @qe1 _ ((decide (lo<=n)=true->decide (n<=hi)=inB n lo hi)/\(decide (lo<=n)=false->false=inB n lo hi)) (by kernel_rfl) ?_
 try simp only[z0,z1,z2,z3,z4,z5,z6,z7,z8,z9,z10,Int.reduceEq,z11,z12,z13,z14,z15,z16,z17,z18,z19,z20,z21,z22,z23,z24,z25,z26,z27,z28,z29,z30,Int.reduceLE,Int.reduceLT,z31,z32,z33,z34,qa4]
 try simp only[qb3,qb4,qb9,List.set_cons_zero,List.cons.injEq,and_true,true_and]
 constructor
 ·intro h1
  simp[inB,h1]
 ·intro h1
  have:¬lo<=n:=by omega
  simp[inB,this]
theorem q9q:qd7 Tryz.prog 108 q9p:=by
 refine meets (snd (SpecsOk.nil _)) Tryz.func108 rfl rfl (λ_ _=>none) (λ_=>by kernel_rfl) (by decide) ?_
 rintro⟨n,lo,hi,⟨⟩⟩ -
 revert n lo hi
 intro(n:Int) (lo:Int) (hi:Int)
 refine @qe1 _ ((decide (lo<=n)=true->decide (n<=hi)=inB n lo hi)/\(decide (lo<=n)=false->false=inB n lo hi)) (by kernel_rfl) ?_
 try simp only[z0,z1,z2,z3,z4,z5,z6,z7,z8,z9,z10,Int.reduceEq,z11,z12,z13,z14,z15,z16,z17,z18,z19,z20,z21,z22,z23,z24,z25,z26,z27,z28,z29,z30,Int.reduceLE,Int.reduceLT,z31,z32,z33,z34,qa4]
 try simp only[qb3,qb4,qb9,List.set_cons_zero,List.cons.injEq,and_true,true_and]
 constructor
 ·intro h1
  simp[inB,h1]
 ·intro h1
  have:¬lo<=n:=by omega
  simp[inB,this]
abbrev xb8 (fs:List (Nat × qc0)):qc0:=hspec fs true none [.d qd6,.capfn [qd6] .bool] [.bool] (λx=>x.2.1.1 (x.1,())) (λx=>(!(x.2.1.2 (x.1,())),()))
theorem wo8 {fs:List (Nat × qc0)} (hfs:SpecsOk Tryz.prog fs):qd7 Tryz.prog 151 (xb8 fs):=by
 refine qu0 hfs (snd (SpecsOk.nil _)) Tryz.func151 rfl rfl (λ_ _=>none) (λ_=>by kernel_rfl) (by decide) ?_
 rintro⟨n,⟨p,f⟩,⟨⟩⟩ h
 revert n p f
 intro(n:Int) (p:qa6 [.int .i64]->Prop) (f:qa6 [.int .i64]->Bool) (h:p (n,()))
 refine @qe1 _ (p (n,())/\(!f (n,()))=!f (n,())) (by kernel_rfl) ?_
 try simp only[z0,z1,z2,z3,z4,z5,z6,z7,z8,z9,z10,Int.reduceEq,z11,z12,z13,z14,z15,z16,z17,z18,z19,z20,z21,z22,z23,z24,z25,z26,z27,z28,z29,z30,Int.reduceLE,Int.reduceLT,z31,z32,z33,z34,qa4]
 try simp only[qb3,qb4,qb9,List.set_cons_zero,List.cons.injEq,and_true,true_and]
 exact h
abbrev xb9 (fs:List (Nat × qc0)):qc0:=hspec fs true none [.d qf2,.capfn [qf2] .bool] [.bool] (λx=>x.2.1.1 (x.1,())) (λx=>(!(x.2.1.2 (x.1,())),()))
theorem wo9 {fs:List (Nat × qc0)} (hfs:SpecsOk Tryz.prog fs):qd7 Tryz.prog 122 (xb9 fs):=by
 refine qu0 hfs (snd (SpecsOk.nil _)) Tryz.func122 rfl rfl (λ_ _=>none) (λ_=>by kernel_rfl) (by decide) ?_
 rintro⟨n,⟨p,f⟩,⟨⟩⟩ h
 revert n p f
 intro(n:List Int) (p:qa6 [.list (.int .i64)]->Prop) (f:qa6 [.list (.int .i64)]->Bool) (h:p (n,()))
 refine @qe1 _ (p (n,())/\(!f (n,()))=!f (n,())) (by kernel_rfl) ?_
 try simp only[z0,z1,z2,z3,z4,z5,z6,z7,z8,z9,z10,Int.reduceEq,z11,z12,z13,z14,z15,z16,z17,z18,z19,z20,z21,z22,z23,z24,z25,z26,z27,z28,z29,z30,Int.reduceLE,Int.reduceLT,z31,z32,z33,z34,qa4]
 try simp only[qb3,qb4,qb9,List.set_cons_zero,List.cons.injEq,and_true,true_and]
 exact h
abbrev fsI (fs:List (Nat × qc0)):List (Nat × qc0):=[(151,xb8 fs)]
abbrev fsL (fs:List (Nat × qc0)):List (Nat × qc0):=[(122,xb9 fs)]
abbrev x0g (fs:List (Nat × qc0)):qc0:=hspec fs true none [.d qf2,.fn [qd6] .bool] [.bool] (λx=>x.1.length<=1000000/\∀i,i<x.1.length->x.2.1.1 (nI x.1 i,())) (λx=>(x.1.all λe=>x.2.1.2 (e,()),()))
abbrev x0h (fs:List (Nat × qc0)):qc0:=hspec fs true none [.d qk0,.fn [qf2] .bool] [.bool] (λx=>x.1.length<=1000000/\∀i,i<x.1.length->x.2.1.1 (nL x.1 i,())) (λx=>(x.1.all λe=>x.2.1.2 (e,()),()))
theorem w1i {fs:List (Nat × qc0)} (hfs:SpecsOk Tryz.prog fs):qd7 Tryz.prog 123 (x0g fs):=by
 refine qu0 hfs (snd (SpecsOk.cons (q51 (fs:=fsI fs) (SpecsOk.cons (wo8 hfs) (SpecsOk.nil _))) (SpecsOk.nil _))) Tryz.func123 rfl rfl (λ_ _=>none) (λ_=>by kernel_rfl) (by decide) ?_
 rintro⟨l,⟨p,f⟩,⟨⟩⟩ h
 revert l p f
 intro(l:List Int) (p:qa6 [.int .i64]->Prop) (f:qa6 [.int .i64]->Bool) (h:l.length<=1000000/\∀i,i<l.length->p (nI l i,()))
 refine @qe1 _ (∃(v0:qa6 [Ty.int .i64]->Prop),∃(v1:qa6 [Ty.int .i64]->Bool),(∀(v2:Int × qa6._f [] PUnit.unit),v0 v2->∃(v4:qa6 [qd6]->Prop),∃(v5:qa6 [qd6]->Bool),([qd6]=[qd6]/\Ty.bool=Ty.bool/\p ≍ v4/\f ≍ v5)/\v4 (Prod.fst v2,())/\(!v5 (Prod.fst v2,()))=v1 v2)/\(List.length l<=(1000000:Nat)/\∀(v2:Nat),v2<List.length l->v0 (qa1 (Ty.int .i64) l v2,()))/\(!List.any l λ(v2:Int)=>v1 (v2,()))=List.all l λ(v2:Int)=>f (v2,())) (by kernel_rfl) ?_
 try simp only[z0,z1,z2,z3,z4,z5,z6,z7,z8,z9,z10,Int.reduceEq,z11,z12,z13,z14,z15,z16,z17,z18,z19,z20,z21,z22,z23,z24,z25,z26,z27,z28,z29,z30,Int.reduceLE,Int.reduceLT,z31,z32,z33,z34,qa4]
 try simp only[qb3,qb4,qb9,List.set_cons_zero,List.cons.injEq,and_true,true_and]
 exact⟨p,λx=>!f x,λx hx=>⟨p,f,⟨HEq.rfl,HEq.rfl⟩,hx,(Bool.not_not (f x)).symm⟩,h,by simp[List.not_all_eq_any_not]⟩
theorem w1j {fs:List (Nat × qc0)} (hfs:SpecsOk Tryz.prog fs):qd7 Tryz.prog 91 (x0h fs):=by
 refine qu0 hfs (snd (SpecsOk.cons (w4w (fs:=fsL fs) (SpecsOk.cons (wo9 hfs) (SpecsOk.nil _))) (SpecsOk.nil _))) Tryz.func91 rfl rfl (λ_ _=>none) (λ_=>by kernel_rfl) (by decide) ?_
 rintro⟨l,⟨p,f⟩,⟨⟩⟩ h
 revert l p f
 intro(l:List (List Int)) (p:qa6 [.list (.int .i64)]->Prop) (f:qa6 [.list (.int .i64)]->Bool) (h:l.length<=1000000/\∀i,i<l.length->p (nL l i,()))
 refine @qe1 _ (∃(v0:qa6 [Ty.list (Ty.int .i64)]->Prop),∃(v1:qa6 [Ty.list (Ty.int .i64)]->Bool),(∀(v2:List Int × qa6._f [] PUnit.unit),v0 v2->∃(v4:qa6 [qf2]->Prop),∃(v5:qa6 [qf2]->Bool),([qf2]=[qf2]/\Ty.bool=Ty.bool/\p ≍ v4/\f ≍ v5)/\v4 (Prod.fst v2,())/\(!v5 (Prod.fst v2,()))=v1 v2)/\(List.length l<=(1000000:Nat)/\∀(v2:Nat),v2<List.length l->v0 (qa1 (Ty.list (Ty.int .i64)) l v2,()))/\(!List.any l λ(v2:List Int)=>v1 (v2,()))=List.all l λ(v2:List Int)=>f (v2,())) (by kernel_rfl) ?_
 try simp only[z0,z1,z2,z3,z4,z5,z6,z7,z8,z9,z10,Int.reduceEq,z11,z12,z13,z14,z15,z16,z17,z18,z19,z20,z21,z22,z23,z24,z25,z26,z27,z28,z29,z30,Int.reduceLE,Int.reduceLT,z31,z32,z33,z34,qa4]
 try simp only[qb3,qb4,qb9,List.set_cons_zero,List.cons.injEq,and_true,true_and]
 exact⟨p,λx=>!f x,λx hx=>⟨p,f,⟨HEq.rfl,HEq.rfl⟩,hx,(Bool.not_not (f x)).symm⟩,h,by simp[List.not_all_eq_any_not]⟩
abbrev xr2:qc0:=qg7 true none [qd6] [.bool] (λ_=>True) (λx=>(inB x.1 (-1) 1,()))
theorem w1k:qd7 Tryz.prog 124 xr2:=by
 refine meets (snd (SpecsOk.cons qy2 (SpecsOk.nil _))) Tryz.func124 rfl rfl (λ_ _=>none) (λ_=>by kernel_rfl) (by decide) ?_
 rintro⟨n,⟨⟩⟩ -
 revert n
 intro(n:Int)
 refine @qe1 _ (True/\inB n (-1:Int) (1:Int)=inB n (-1:Int) (1:Int)) (by kernel_rfl) ?_
 try simp only[z0,z1,z2,z3,z4,z5,z6,z7,z8,z9,z10,Int.reduceEq,z11,z12,z13,z14,z15,z16,z17,z18,z19,z20,z21,z22,z23,z24,z25,z26,z27,z28,z29,z30,Int.reduceLE,Int.reduceLT,z31,z32,z33,z34,qa4]
 try simp only[qb3,qb4,qb9,List.set_cons_zero,List.cons.injEq,and_true,true_and]
def rowB (l:List Int):Bool:=inB l.length 1 10 && l.all λn=>inB n (-1) 1
abbrev x4e:qc0:=qg7 true none [qf2] [.bool] (λ_=>True) (λx=>(rowB x.1,()))
theorem w4x:qd7 Tryz.prog 93 x4e:=by
 refine meets (snd (SpecsOk.cons qy2 (SpecsOk.cons (w1i (fs:=[(124,xr2)]) (SpecsOk.cons w1k (SpecsOk.nil _))) (SpecsOk.nil _)))) Tryz.func93 rfl rfl (λ_ _=>none) (λ_=>by kernel_rfl) (by decide) ?_
 rintro⟨l,⟨⟩⟩ -
 revert l
 intro(l:List Int)
 refine @qe1 _ (True/\(inB (↑(List.length l):Int) (1:Int) (10:Int)=true->∃(v1:qa6 [qd6]->Prop),∃(v2:qa6 [qd6]->Bool),(∀(v3:Int × qa6._f [] PUnit.unit),v1 v3->True/\inB (Prod.fst v3) (-1:Int) (1:Int)=v2 v3)/\(List.length l<=(1000000:Nat)/\∀(v3:Nat),v3<List.length l->v1 (nI l v3,()))/\(List.all l λ(v3:Int)=>v2 (v3,()))=rowB l)/\(inB (↑(List.length l):Int) (1:Int) (10:Int)=false->false=rowB l)) (by kernel_rfl) ?_
 try simp only[z0,z1,z2,z3,z4,z5,z6,z7,z8,z9,z10,Int.reduceEq,z11,z12,z13,z14,z15,z16,z17,z18,z19,z20,z21,z22,z23,z24,z25,z26,z27,z28,z29,z30,Int.reduceLE,Int.reduceLT,z31,z32,z33,z34,qa4]
 try simp only[qb3,qb4,qb9,List.set_cons_zero,List.cons.injEq,and_true,true_and]
 refine⟨λh=>⟨λ_=>True,λx=>inB x.1 (-1) 1,λ_ _=>rfl,⟨by rw[qm0] at h; omega,λ_ _=>trivial⟩,by simp[rowB,h]⟩,λh=>by simp[rowB,h]⟩
abbrev x2n:qc0:=hspec [] true none [.d qf2,.cap qk0] [.bool] (λx=>0<x.2.1.length) (λx=>(decide (x.1.length=(nL x.2.1 0).length) && rowB x.1,()))
theorem w4y:qd7 Tryz.prog 92 x2n:=by
 refine qu0 (SpecsOk.nil _) (snd (SpecsOk.cons w4x (SpecsOk.nil _))) Tryz.func92 rfl rfl (λ_ _=>none) (λ_=>by kernel_rfl) (by decide) ?_
 rintro⟨l,m,⟨⟩⟩ h
 revert l m
 intro(l:List Int) (m:List (List Int)) (h:0<m.length)
 refine @qe1 _ (((0:Int)<=(0:Int)/\(0:Int)<(↑(List.length m):Int))/\(((↑(List.length l):Int)==(↑(List.length (qa1 (Ty.list (Ty.int .i64)) m (0:Nat))):Int))=true->True/\rowB l=(decide (List.length l=List.length (nL m (0:Nat))) && rowB l))/\(((↑(List.length l):Int)==(↑(List.length (qa1 (Ty.list (Ty.int .i64)) m (0:Nat))):Int))=false->false=(decide (List.length l=List.length (nL m (0:Nat))) && rowB l))) (by kernel_rfl) ?_
 try simp only[z0,z1,z2,z3,z4,z5,z6,z7,z8,z9,z10,Int.reduceEq,z11,z12,z13,z14,z15,z16,z17,z18,z19,z20,z21,z22,z23,z24,z25,z26,z27,z28,z29,z30,Int.reduceLE,Int.reduceLT,z31,z32,z33,z34,qa4]
 try simp only[qb3,qb4,qb9,List.set_cons_zero,List.cons.injEq,and_true,true_and]
 refine⟨by omega,λh1=>?_,λh1=>?_⟩
 ·rw[decide_eq_true (Int.ofNat.inj h1)]; simp
 ·rw[decide_eq_false λe=>h1 (congrArg _ e)]; simp
def qc8 (m:List (List Int)):Bool:=inB m.length 1 6 && m.all λl=>decide (l.length=(nL m 0).length) && rowB l
abbrev sMV:qc0:=qg7 true none [qk0] [.bool] (λ_=>True) (λx=>(qc8 x.1,()))
theorem q4r:qd7 Tryz.prog 49 sMV:=by
 refine meets (snd (SpecsOk.cons qy2 (SpecsOk.cons (w1j (fs:=[(92,x2n)]) (SpecsOk.cons w4y (SpecsOk.nil _))) (SpecsOk.nil _)))) Tryz.func49 rfl rfl (λ_ _=>none) (λ_=>by kernel_rfl) (by decide) ?_
 rintro⟨m,⟨⟩⟩ -
 revert m
 intro(m:List (List Int))
 refine @qe1 _ (True/\(inB (↑(List.length m):Int) (1:Int) (6:Int)=true->∃(v1:qa6 [qf2]->Prop),∃(v2:qa6 [qf2]->Bool),(∀(v3:List Int × qa6._f [] PUnit.unit),v1 v3->(0:Nat)<List.length m/\(decide (List.length (Prod.fst v3)=List.length (nL m (0:Nat))) && rowB (Prod.fst v3))=v2 v3)/\(List.length m<=(1000000:Nat)/\∀(v3:Nat),v3<List.length m->v1 (nL m v3,()))/\(List.all m λ(v3:List Int)=>v2 (v3,()))=qc8 m)/\(inB (↑(List.length m):Int) (1:Int) (6:Int)=false->false=qc8 m)) (by kernel_rfl) ?_
 try simp only[z0,z1,z2,z3,z4,z5,z6,z7,z8,z9,z10,Int.reduceEq,z11,z12,z13,z14,z15,z16,z17,z18,z19,z20,z21,z22,z23,z24,z25,z26,z27,z28,z29,z30,Int.reduceLE,Int.reduceLT,z31,z32,z33,z34,qa4]
 try simp only[qb3,qb4,qb9,List.set_cons_zero,List.cons.injEq,and_true,true_and]
 refine⟨λh=>?_,λh=>by simp[qc8,h]⟩
 have hm:=qm0.1 h
 exact⟨λ_=>True,λx=>decide (x.1.length=(nL m 0).length) && rowB x.1,λx _=>⟨by omega,rfl⟩,⟨by omega,λ_ _=>trivial⟩,by simp[qc8,h]⟩
end Go.Proofs.YtempacilejhbgaaGreat
