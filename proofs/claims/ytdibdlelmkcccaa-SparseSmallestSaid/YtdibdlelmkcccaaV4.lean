/- Masks, and the errors of masks, readings and pixels: contracts by the engine. No condition. -/
import Derived.Test.YtdibdlelmkcccaaV3
set_option linter.unusedVariables false
set_option linter.unusedSimpArgs false
namespace Go.Proofs.Ytdibdlelmkcccaa
open Go Go.RowKit Eng
def inB (n lo hi:Int):Bool:=decide (lo<=n) && decide (n<=hi)
theorem qu6 {n lo hi:Int}:inB n lo hi=true↔lo<=n/\n<=hi:=by simp[inB]
abbrev q90:qc7:=qg3 true none [qg4,qg4,qg4] [.bool] (λ_=>True) (λx=>(inB x.1 x.2.1 x.2.2.1,()))
theorem qx7:qd8 Try.prog 100 q90:=by
 refine meets (snd (SpecsOk.nil _)) Try.func100 rfl rfl (λ_ _=>none) (λ_=>by kernel_rfl) (by decide) ?_
 rintro⟨n,lo,hi,⟨⟩⟩ -
 revert n lo hi
 intro(n:Int) (lo:Int) (hi:Int)
 refine @qe0 _ ((decide (lo<=n)=true->decide (n<=hi)=inB n lo hi)/\(decide (lo<=n)=false->false=inB n lo hi)) (by kernel_rfl) ?_
 try simp only[z0,z1,z2,z3,z4,z5,z6,z7,z8,z9,z10,Int.reduceEq,z11,z12,z13,z14,z15,z16,z17,z18,z19,z20,z21,z22,z23,z24,z25,z26,z27,z28,z29,z30,Int.reduceLE,Int.reduceLT,z31,z32,z33,z34,qa3]
 try simp only[qb3,qb4,qc8,List.set_cons_zero,List.cons.injEq,and_true,true_and]
 constructor
 ·intro h1
  simp[inB,h1]
 ·intro h1
  have:¬lo<=n:=by omega
  simp[inB,this]
theorem qx8:qd8 Try.prog 45 q90:=by
 refine meets (snd (SpecsOk.nil _)) Try.func45 rfl rfl (λ_ _=>none) (λ_=>by kernel_rfl) (by decide) ?_
 rintro⟨n,lo,hi,⟨⟩⟩ -
 revert n lo hi
 intro(n:Int) (lo:Int) (hi:Int)
 refine @qe0 _ ((decide (lo<=n)=true->decide (n<=hi)=inB n lo hi)/\(decide (lo<=n)=false->false=inB n lo hi)) (by kernel_rfl) ?_
 try simp only[z0,z1,z2,z3,z4,z5,z6,z7,z8,z9,z10,Int.reduceEq,z11,z12,z13,z14,z15,z16,z17,z18,z19,z20,z21,z22,z23,z24,z25,z26,z27,z28,z29,z30,Int.reduceLE,Int.reduceLT,z31,z32,z33,z34,qa3]
 try simp only[qb3,qb4,qc8,List.set_cons_zero,List.cons.injEq,and_true,true_and]
 constructor
 ·intro h1
  simp[inB,h1]
 ·intro h1
  have:¬lo<=n:=by omega
  simp[inB,this]
theorem q2s:qd8 Try.prog 98 q90:=by
 refine meets (snd (SpecsOk.nil _)) Try.func98 rfl rfl (λ_ _=>none) (λ_=>by kernel_rfl) (by decide) ?_
 rintro⟨n,lo,hi,⟨⟩⟩ -
 revert n lo hi
 intro(n:Int) (lo:Int) (hi:Int)
 refine @qe0 _ ((decide (lo<=n)=true->decide (n<=hi)=inB n lo hi)/\(decide (lo<=n)=false->false=inB n lo hi)) (by kernel_rfl) ?_
 try simp only[z0,z1,z2,z3,z4,z5,z6,z7,z8,z9,z10,Int.reduceEq,z11,z12,z13,z14,z15,z16,z17,z18,z19,z20,z21,z22,z23,z24,z25,z26,z27,z28,z29,z30,Int.reduceLE,Int.reduceLT,z31,z32,z33,z34,qa3]
 try simp only[qb3,qb4,qc8,List.set_cons_zero,List.cons.injEq,and_true,true_and]
 constructor
 ·intro h1
  simp[inB,h1]
 ·intro h1
  have:¬lo<=n:=by omega
  simp[inB,this]
theorem q2t:qd8 Try.prog 87 q90:=by
 refine meets (snd (SpecsOk.nil _)) Try.func87 rfl rfl (λ_ _=>none) (λ_=>by kernel_rfl) (by decide) ?_
 rintro⟨n,lo,hi,⟨⟩⟩ -
 revert n lo hi
 intro(n:Int) (lo:Int) (hi:Int)
 refine @qe0 _ ((decide (lo<=n)=true->decide (n<=hi)=inB n lo hi)/\(decide (lo<=n)=false->false=inB n lo hi)) (by kernel_rfl) ?_
 try simp only[z0,z1,z2,z3,z4,z5,z6,z7,z8,z9,z10,Int.reduceEq,z11,z12,z13,z14,z15,z16,z17,z18,z19,z20,z21,z22,z23,z24,z25,z26,z27,z28,z29,z30,Int.reduceLE,Int.reduceLT,z31,z32,z33,z34,qa3]
 try simp only[qb3,qb4,qc8,List.set_cons_zero,List.cons.injEq,and_true,true_and]
 constructor
 ·intro h1
  simp[inB,h1]
 ·intro h1
  have:¬lo<=n:=by omega
  simp[inB,this]
abbrev xe3 (fs:List (Nat × qc7)):qc7:=hspec fs true none [.d qg4,.capfn [qg4] .bool] [.bool] (λx=>x.2.1.1 (x.1,())) (λx=>(!(x.2.1.2 (x.1,())),()))
theorem wo4 {fs:List (Nat × qc7)} (hfs:SpecsOk Try.prog fs):qd8 Try.prog 153 (xe3 fs):=by
 refine qs5 hfs (snd (SpecsOk.nil _)) Try.func153 rfl rfl (λ_ _=>none) (λ_=>by kernel_rfl) (by decide) ?_
 rintro⟨n,⟨p,f⟩,⟨⟩⟩ h
 revert n p f
 intro(n:Int) (p:qa6 [.int .i64]->Prop) (f:qa6 [.int .i64]->Bool) (h:p (n,()))
 refine @qe0 _ (p (n,())/\(!f (n,()))=!f (n,())) (by kernel_rfl) ?_
 try simp only[z0,z1,z2,z3,z4,z5,z6,z7,z8,z9,z10,Int.reduceEq,z11,z12,z13,z14,z15,z16,z17,z18,z19,z20,z21,z22,z23,z24,z25,z26,z27,z28,z29,z30,Int.reduceLE,Int.reduceLT,z31,z32,z33,z34,qa3]
 try simp only[qb3,qb4,qc8,List.set_cons_zero,List.cons.injEq,and_true,true_and]
 exact h
abbrev xe4 (fs:List (Nat × qc7)):qc7:=hspec fs true none [.d qf7,.capfn [qf7] .bool] [.bool] (λx=>x.2.1.1 (x.1,())) (λx=>(!(x.2.1.2 (x.1,())),()))
theorem wo5 {fs:List (Nat × qc7)} (hfs:SpecsOk Try.prog fs):qd8 Try.prog 131 (xe4 fs):=by
 refine qs5 hfs (snd (SpecsOk.nil _)) Try.func131 rfl rfl (λ_ _=>none) (λ_=>by kernel_rfl) (by decide) ?_
 rintro⟨n,⟨p,f⟩,⟨⟩⟩ h
 revert n p f
 intro(n:List Int) (p:qa6 [.list (.int .i64)]->Prop) (f:qa6 [.list (.int .i64)]->Bool) (h:p (n,()))
 refine @qe0 _ (p (n,())/\(!f (n,()))=!f (n,())) (by kernel_rfl) ?_
 try simp only[z0,z1,z2,z3,z4,z5,z6,z7,z8,z9,z10,Int.reduceEq,z11,z12,z13,z14,z15,z16,z17,z18,z19,z20,z21,z22,z23,z24,z25,z26,z27,z28,z29,z30,Int.reduceLE,Int.reduceLT,z31,z32,z33,z34,qa3]
 try simp only[qb3,qb4,qc8,List.set_cons_zero,List.cons.injEq,and_true,true_and]
 exact h
abbrev fsI (fs:List (Nat × qc7)):List (Nat × qc7):=[(153,xe3 fs)]
abbrev fsL (fs:List (Nat × qc7)):List (Nat × qc7):=[(131,xe4 fs)]
abbrev x1u (fs:List (Nat × qc7)):qc7:=hspec fs true none [.d qf7,.fn [qg4] .bool] [.bool] (λx=>x.1.length<=1000000/\∀i,i<x.1.length->x.2.1.1 (nI x.1 i,())) (λx=>(x.1.all λe=>x.2.1.2 (e,()),()))
abbrev x1v (fs:List (Nat × qc7)):qc7:=hspec fs true none [.d ql6,.fn [qf7] .bool] [.bool] (λx=>x.1.length<=1000000/\∀i,i<x.1.length->x.2.1.1 (nL x.1 i,())) (λx=>(x.1.all λe=>x.2.1.2 (e,()),()))
theorem w1u {fs:List (Nat × qc7)} (hfs:SpecsOk Try.prog fs):qd8 Try.prog 132 (x1u fs):=by
 refine qs5 hfs (snd (SpecsOk.cons (q50 (fs:=fsI fs) (SpecsOk.cons (wo4 hfs) (SpecsOk.nil _))) (SpecsOk.nil _))) Try.func132 rfl rfl (λ_ _=>none) (λ_=>by kernel_rfl) (by decide) ?_
 rintro⟨l,⟨p,f⟩,⟨⟩⟩ h
 revert l p f
 intro(l:List Int) (p:qa6 [.int .i64]->Prop) (f:qa6 [.int .i64]->Bool) (h:l.length<=1000000/\∀i,i<l.length->p (nI l i,()))
 refine @qe0 _ (∃(v0:qa6 [Ty.int .i64]->Prop),∃(v1:qa6 [Ty.int .i64]->Bool),(∀(v2:Int × qa6._f [] PUnit.unit),v0 v2->∃(v4:qa6 [qg4]->Prop),∃(v5:qa6 [qg4]->Bool),([qg4]=[qg4]/\Ty.bool=Ty.bool/\p ≍ v4/\f ≍ v5)/\v4 (Prod.fst v2,())/\(!v5 (Prod.fst v2,()))=v1 v2)/\(List.length l<=(1000000:Nat)/\∀(v2:Nat),v2<List.length l->v0 (qa1 (Ty.int .i64) l v2,()))/\(!List.any l λ(v2:Int)=>v1 (v2,()))=List.all l λ(v2:Int)=>f (v2,())) (by kernel_rfl) ?_
 try simp only[z0,z1,z2,z3,z4,z5,z6,z7,z8,z9,z10,Int.reduceEq,z11,z12,z13,z14,z15,z16,z17,z18,z19,z20,z21,z22,z23,z24,z25,z26,z27,z28,z29,z30,Int.reduceLE,Int.reduceLT,z31,z32,z33,z34,qa3]
 try simp only[qb3,qb4,qc8,List.set_cons_zero,List.cons.injEq,and_true,true_and]
 exact⟨p,λx=>!f x,λx hx=>⟨p,f,⟨HEq.rfl,HEq.rfl⟩,hx,(Bool.not_not (f x)).symm⟩,h,by simp[List.not_all_eq_any_not]⟩
theorem w1w {fs:List (Nat × qc7)} (hfs:SpecsOk Try.prog fs):qd8 Try.prog 101 (x1v fs):=by
 refine qs5 hfs (snd (SpecsOk.cons (w5k (fs:=fsL fs) (SpecsOk.cons (wo5 hfs) (SpecsOk.nil _))) (SpecsOk.nil _))) Try.func101 rfl rfl (λ_ _=>none) (λ_=>by kernel_rfl) (by decide) ?_
 rintro⟨l,⟨p,f⟩,⟨⟩⟩ h
 revert l p f
 intro(l:List (List Int)) (p:qa6 [.list (.int .i64)]->Prop) (f:qa6 [.list (.int .i64)]->Bool) (h:l.length<=1000000/\∀i,i<l.length->p (nL l i,()))
 refine @qe0 _ (∃(v0:qa6 [Ty.list (Ty.int .i64)]->Prop),∃(v1:qa6 [Ty.list (Ty.int .i64)]->Bool),(∀(v2:List Int × qa6._f [] PUnit.unit),v0 v2->∃(v4:qa6 [qf7]->Prop),∃(v5:qa6 [qf7]->Bool),([qf7]=[qf7]/\Ty.bool=Ty.bool/\p ≍ v4/\f ≍ v5)/\v4 (Prod.fst v2,())/\(!v5 (Prod.fst v2,()))=v1 v2)/\(List.length l<=(1000000:Nat)/\∀(v2:Nat),v2<List.length l->v0 (qa1 (Ty.list (Ty.int .i64)) l v2,()))/\(!List.any l λ(v2:List Int)=>v1 (v2,()))=List.all l λ(v2:List Int)=>f (v2,())) (by kernel_rfl) ?_
 try simp only[z0,z1,z2,z3,z4,z5,z6,z7,z8,z9,z10,Int.reduceEq,z11,z12,z13,z14,z15,z16,z17,z18,z19,z20,z21,z22,z23,z24,z25,z26,z27,z28,z29,z30,Int.reduceLE,Int.reduceLT,z31,z32,z33,z34,qa3]
 try simp only[qb3,qb4,qc8,List.set_cons_zero,List.cons.injEq,and_true,true_and]
 exact⟨p,λx=>!f x,λx hx=>⟨p,f,⟨HEq.rfl,HEq.rfl⟩,hx,(Bool.not_not (f x)).symm⟩,h,by simp[List.not_all_eq_any_not]⟩
abbrev xt9:qc7:=qg3 true none [qg4] [.bool] (λ_=>True) (λx=>(inB x.1 (-1) 1,()))
theorem w1x:qd8 Try.prog 133 xt9:=by
 refine meets (snd (SpecsOk.cons qx7 (SpecsOk.nil _))) Try.func133 rfl rfl (λ_ _=>none) (λ_=>by kernel_rfl) (by decide) ?_
 rintro⟨n,⟨⟩⟩ -
 revert n
 intro(n:Int)
 refine @qe0 _ (True/\inB n (-1:Int) (1:Int)=inB n (-1:Int) (1:Int)) (by kernel_rfl) ?_
 try simp only[z0,z1,z2,z3,z4,z5,z6,z7,z8,z9,z10,Int.reduceEq,z11,z12,z13,z14,z15,z16,z17,z18,z19,z20,z21,z22,z23,z24,z25,z26,z27,z28,z29,z30,Int.reduceLE,Int.reduceLT,z31,z32,z33,z34,qa3]
 try simp only[qb3,qb4,qc8,List.set_cons_zero,List.cons.injEq,and_true,true_and]
def rowB (l:List Int):Bool:=inB l.length 1 10 && l.all λn=>inB n (-1) 1
abbrev x6f:qc7:=qg3 true none [qf7] [.bool] (λ_=>True) (λx=>(rowB x.1,()))
theorem w5l:qd8 Try.prog 103 x6f:=by
 refine meets (snd (SpecsOk.cons qx7 (SpecsOk.cons (w1u (fs:=[(133,xt9)]) (SpecsOk.cons w1x (SpecsOk.nil _))) (SpecsOk.nil _)))) Try.func103 rfl rfl (λ_ _=>none) (λ_=>by kernel_rfl) (by decide) ?_
 rintro⟨l,⟨⟩⟩ -
 revert l
 intro(l:List Int)
 refine @qe0 _ (True/\(inB (↑(List.length l):Int) (1:Int) (10:Int)=true->∃(v1:qa6 [qg4]->Prop),∃(v2:qa6 [qg4]->Bool),(∀(v3:Int × qa6._f [] PUnit.unit),v1 v3->True/\inB (Prod.fst v3) (-1:Int) (1:Int)=v2 v3)/\(List.length l<=(1000000:Nat)/\∀(v3:Nat),v3<List.length l->v1 (nI l v3,()))/\(List.all l λ(v3:Int)=>v2 (v3,()))=rowB l)/\(inB (↑(List.length l):Int) (1:Int) (10:Int)=false->false=rowB l)) (by kernel_rfl) ?_
 try simp only[z0,z1,z2,z3,z4,z5,z6,z7,z8,z9,z10,Int.reduceEq,z11,z12,z13,z14,z15,z16,z17,z18,z19,z20,z21,z22,z23,z24,z25,z26,z27,z28,z29,z30,Int.reduceLE,Int.reduceLT,z31,z32,z33,z34,qa3]
 try simp only[qb3,qb4,qc8,List.set_cons_zero,List.cons.injEq,and_true,true_and]
 refine⟨λh=>⟨λ_=>True,λx=>inB x.1 (-1) 1,λ_ _=>rfl,⟨by rw[qu6] at h; omega,λ_ _=>trivial⟩,by simp[rowB,h]⟩,λh=>by simp[rowB,h]⟩
abbrev x4o:qc7:=hspec [] true none [.d qf7,.cap ql6] [.bool] (λx=>0<x.2.1.length) (λx=>(decide (x.1.length=(nL x.2.1 0).length) && rowB x.1,()))
theorem w5m:qd8 Try.prog 102 x4o:=by
 refine qs5 (SpecsOk.nil _) (snd (SpecsOk.cons w5l (SpecsOk.nil _))) Try.func102 rfl rfl (λ_ _=>none) (λ_=>by kernel_rfl) (by decide) ?_
 rintro⟨l,m,⟨⟩⟩ h
 revert l m
 intro(l:List Int) (m:List (List Int)) (h:0<m.length)
 refine @qe0 _ (((0:Int)<=(0:Int)/\(0:Int)<(↑(List.length m):Int))/\(((↑(List.length l):Int)==(↑(List.length (qa1 (Ty.list (Ty.int .i64)) m (0:Nat))):Int))=true->True/\rowB l=(decide (List.length l=List.length (nL m (0:Nat))) && rowB l))/\(((↑(List.length l):Int)==(↑(List.length (qa1 (Ty.list (Ty.int .i64)) m (0:Nat))):Int))=false->false=(decide (List.length l=List.length (nL m (0:Nat))) && rowB l))) (by kernel_rfl) ?_
 try simp only[z0,z1,z2,z3,z4,z5,z6,z7,z8,z9,z10,Int.reduceEq,z11,z12,z13,z14,z15,z16,z17,z18,z19,z20,z21,z22,z23,z24,z25,z26,z27,z28,z29,z30,Int.reduceLE,Int.reduceLT,z31,z32,z33,z34,qa3]
 try simp only[qb3,qb4,qc8,List.set_cons_zero,List.cons.injEq,and_true,true_and]
 refine⟨by omega,λh1=>?_,λh1=>?_⟩
 ·rw[decide_eq_true (Int.ofNat.inj h1)]; simp
 ·rw[decide_eq_false λe=>h1 (congrArg _ e)]; simp
def qe7 (m:List (List Int)):Bool:=inB m.length 1 6 && m.all λl=>decide (l.length=(nL m 0).length) && rowB l
abbrev sMV:qc7:=qg3 true none [ql6] [.bool] (λ_=>True) (λx=>(qe7 x.1,()))
theorem q4q:qd8 Try.prog 68 sMV:=by
 refine meets (snd (SpecsOk.cons qx7 (SpecsOk.cons (w1w (fs:=[(102,x4o)]) (SpecsOk.cons w5m (SpecsOk.nil _))) (SpecsOk.nil _)))) Try.func68 rfl rfl (λ_ _=>none) (λ_=>by kernel_rfl) (by decide) ?_
 rintro⟨m,⟨⟩⟩ -
 revert m
 intro(m:List (List Int))
 refine @qe0 _ (True/\(inB (↑(List.length m):Int) (1:Int) (6:Int)=true->∃(v1:qa6 [qf7]->Prop),∃(v2:qa6 [qf7]->Bool),(∀(v3:List Int × qa6._f [] PUnit.unit),v1 v3->(0:Nat)<List.length m/\(decide (List.length (Prod.fst v3)=List.length (nL m (0:Nat))) && rowB (Prod.fst v3))=v2 v3)/\(List.length m<=(1000000:Nat)/\∀(v3:Nat),v3<List.length m->v1 (nL m v3,()))/\(List.all m λ(v3:List Int)=>v2 (v3,()))=qe7 m)/\(inB (↑(List.length m):Int) (1:Int) (6:Int)=false->false=qe7 m)) (by kernel_rfl) ?_
 try simp only[z0,z1,z2,z3,z4,z5,z6,z7,z8,z9,z10,Int.reduceEq,z11,z12,z13,z14,z15,z16,z17,z18,z19,z20,z21,z22,z23,z24,z25,z26,z27,z28,z29,z30,Int.reduceLE,Int.reduceLT,z31,z32,z33,z34,qa3]
 try simp only[qb3,qb4,qc8,List.set_cons_zero,List.cons.injEq,and_true,true_and]
 refine⟨λh=>?_,λh=>by simp[qe7,h]⟩
 have hm:=qu6.1 h
 exact⟨λ_=>True,λx=>decide (x.1.length=(nL m 0).length) && rowB x.1,λx _=>⟨by omega,rfl⟩,⟨by omega,λ_ _=>trivial⟩,by simp[qe7,h]⟩
end Go.Proofs.Ytdibdlelmkcccaa
