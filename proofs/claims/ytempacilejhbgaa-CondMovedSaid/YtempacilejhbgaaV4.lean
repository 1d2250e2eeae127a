/- Masks, and the errors of masks, readings and pixels: contracts by the engine. No condition. -/
import Derived.Test.YtempacilejhbgaaV3
set_option linter.unusedVariables false
set_option linter.unusedSimpArgs false
namespace Go.Proofs.Ytempacilejhbgaa
open Go Go.RowKit Eng
def inB (n lo hi:Int):Bool:=decide (lo<=n) && decide (n<=hi)
theorem qn3 {n lo hi:Int}:inB n lo hi=true↔lo<=n/\n<=hi:=by simp[inB]
abbrev wl1:qc7:=qi1 true none [qe4,qe4,qe4] [.bool] (λ_=>True) (λx=>(inB x.1 x.2.1 x.2.2.1,()))
theorem qw8:qe7 Try.prog 26 wl1:=by
 refine meets (snd (SpecsOk.nil _)) Try.func26 rfl rfl (λ_ _=>none) (λ_=>by kernel_rfl) (by decide) ?_
 rintro⟨n,lo,hi,⟨⟩⟩ -
 revert n lo hi
 intro(n:Int) (lo:Int) (hi:Int)
 refine @qf1 _ ((decide (lo<=n)=true->decide (n<=hi)=inB n lo hi)/\(decide (lo<=n)=false->false=inB n lo hi)) (by kernel_rfl) ?_
 try simp only[z0,z1,z2,z3,z4,z5,z6,z7,z8,z9,z10,Int.reduceEq,z11,z12,z13,z14,z15,z16,z17,z18,z19,z20,z21,z22,z23,z24,z25,z26,z27,z28,z29,z30,Int.reduceLE,Int.reduceLT,z31,z32,z33,z34,qa6]
 try simp only[qb6,qb7,qd0,List.set_cons_zero,List.cons.injEq,and_true,true_and]
 constructor
 ·intro h1
  simp[inB,h1]
 ·intro h1
  have:¬lo<=n:=by omega
  simp[inB,this]
theorem q82:qe7 Try.prog 31 wl1:=by
 refine meets (snd (SpecsOk.nil _)) Try.func31 rfl rfl (λ_ _=>none) (λ_=>by kernel_rfl) (by decide) ?_
 rintro⟨n,lo,hi,⟨⟩⟩ -
 revert n lo hi
 intro(n:Int) (lo:Int) (hi:Int)
 refine @qf1 _ ((decide (lo<=n)=true->decide (n<=hi)=inB n lo hi)/\(decide (lo<=n)=false->false=inB n lo hi)) (by kernel_rfl) ?_
 try simp only[z0,z1,z2,z3,z4,z5,z6,z7,z8,z9,z10,Int.reduceEq,z11,z12,z13,z14,z15,z16,z17,z18,z19,z20,z21,z22,z23,z24,z25,z26,z27,z28,z29,z30,Int.reduceLE,Int.reduceLT,z31,z32,z33,z34,qa6]
 try simp only[qb6,qb7,qd0,List.set_cons_zero,List.cons.injEq,and_true,true_and]
 constructor
 ·intro h1
  simp[inB,h1]
 ·intro h1
  have:¬lo<=n:=by omega
  simp[inB,this]
theorem qw9:qe7 Try.prog 36 wl1:=by
 refine meets (snd (SpecsOk.nil _)) Try.func36 rfl rfl (λ_ _=>none) (λ_=>by kernel_rfl) (by decide) ?_
 rintro⟨n,lo,hi,⟨⟩⟩ -
 revert n lo hi
 intro(n:Int) (lo:Int) (hi:Int)
 refine @qf1 _ ((decide (lo<=n)=true->decide (n<=hi)=inB n lo hi)/\(decide (lo<=n)=false->false=inB n lo hi)) (by kernel_rfl) ?_
 try simp only[z0,z1,z2,z3,z4,z5,z6,z7,z8,z9,z10,Int.reduceEq,z11,z12,z13,z14,z15,z16,z17,z18,z19,z20,z21,z22,z23,z24,z25,z26,z27,z28,z29,z30,Int.reduceLE,Int.reduceLT,z31,z32,z33,z34,qa6]
 try simp only[qb6,qb7,qd0,List.set_cons_zero,List.cons.injEq,and_true,true_and]
 constructor
 ·intro h1
  simp[inB,h1]
 ·intro h1
  have:¬lo<=n:=by omega
  simp[inB,this]
abbrev w9f (fs:List (Nat × qc7)):qc7:=hspec fs true none [.d qe4,.capfn [qe4] .bool] [.bool] (λx=>x.2.1.1 (x.1,())) (λx=>(!(x.2.1.2 (x.1,())),()))
theorem wl2 {fs:List (Nat × qc7)} (hfs:SpecsOk Try.prog fs):qe7 Try.prog 60 (w9f fs):=by
 refine qx6 hfs (snd (SpecsOk.nil _)) Try.func60 rfl rfl (λ_ _=>none) (λ_=>by kernel_rfl) (by decide) ?_
 rintro⟨n,⟨p,f⟩,⟨⟩⟩ h
 revert n p f
 intro(n:Int) (p:qa5 [.int .i64]->Prop) (f:qa5 [.int .i64]->Bool) (h:p (n,()))
 refine @qf1 _ (p (n,())/\(!f (n,()))=!f (n,())) (by kernel_rfl) ?_
 try simp only[z0,z1,z2,z3,z4,z5,z6,z7,z8,z9,z10,Int.reduceEq,z11,z12,z13,z14,z15,z16,z17,z18,z19,z20,z21,z22,z23,z24,z25,z26,z27,z28,z29,z30,Int.reduceLE,Int.reduceLT,z31,z32,z33,z34,qa6]
 try simp only[qb6,qb7,qd0,List.set_cons_zero,List.cons.injEq,and_true,true_and]
 exact h
abbrev w9g (fs:List (Nat × qc7)):qc7:=hspec fs true none [.d qf7,.capfn [qf7] .bool] [.bool] (λx=>x.2.1.1 (x.1,())) (λx=>(!(x.2.1.2 (x.1,())),()))
theorem wl3 {fs:List (Nat × qc7)} (hfs:SpecsOk Try.prog fs):qe7 Try.prog 40 (w9g fs):=by
 refine qx6 hfs (snd (SpecsOk.nil _)) Try.func40 rfl rfl (λ_ _=>none) (λ_=>by kernel_rfl) (by decide) ?_
 rintro⟨n,⟨p,f⟩,⟨⟩⟩ h
 revert n p f
 intro(n:List Int) (p:qa5 [.list (.int .i64)]->Prop) (f:qa5 [.list (.int .i64)]->Bool) (h:p (n,()))
 refine @qf1 _ (p (n,())/\(!f (n,()))=!f (n,())) (by kernel_rfl) ?_
 try simp only[z0,z1,z2,z3,z4,z5,z6,z7,z8,z9,z10,Int.reduceEq,z11,z12,z13,z14,z15,z16,z17,z18,z19,z20,z21,z22,z23,z24,z25,z26,z27,z28,z29,z30,Int.reduceLE,Int.reduceLT,z31,z32,z33,z34,qa6]
 try simp only[qb6,qb7,qd0,List.set_cons_zero,List.cons.injEq,and_true,true_and]
 exact h
abbrev fsI (fs:List (Nat × qc7)):List (Nat × qc7):=[(60,w9f fs)]
abbrev fsL (fs:List (Nat × qc7)):List (Nat × qc7):=[(40,w9g fs)]
abbrev xs2 (fs:List (Nat × qc7)):qc7:=hspec fs true none [.d qf7,.fn [qe4] .bool] [.bool] (λx=>x.1.length<=1000000/\∀i,i<x.1.length->x.2.1.1 (nI x.1 i,())) (λx=>(x.1.all λe=>x.2.1.2 (e,()),()))
abbrev xs3 (fs:List (Nat × qc7)):qc7:=hspec fs true none [.d ql9,.fn [qf7] .bool] [.bool] (λx=>x.1.length<=1000000/\∀i,i<x.1.length->x.2.1.1 (nL x.1 i,())) (λx=>(x.1.all λe=>x.2.1.2 (e,()),()))
theorem w0f {fs:List (Nat × qc7)} (hfs:SpecsOk Try.prog fs):qe7 Try.prog 41 (xs2 fs):=by
 refine qx6 hfs (snd (SpecsOk.cons (w3q (fs:=fsI fs) (SpecsOk.cons (wl2 hfs) (SpecsOk.nil _))) (SpecsOk.nil _))) Try.func41 rfl rfl (λ_ _=>none) (λ_=>by kernel_rfl) (by decide) ?_
 rintro⟨l,⟨p,f⟩,⟨⟩⟩ h
 revert l p f
 intro(l:List Int) (p:qa5 [.int .i64]->Prop) (f:qa5 [.int .i64]->Bool) (h:l.length<=1000000/\∀i,i<l.length->p (nI l i,()))
 refine @qf1 _ (∃(v0:qa5 [Ty.int .i64]->Prop),∃(v1:qa5 [Ty.int .i64]->Bool),(∀(v2:Int × qa5._f [] PUnit.unit),v0 v2->∃(v4:qa5 [qe4]->Prop),∃(v5:qa5 [qe4]->Bool),([qe4]=[qe4]/\Ty.bool=Ty.bool/\p ≍ v4/\f ≍ v5)/\v4 (Prod.fst v2,())/\(!v5 (Prod.fst v2,()))=v1 v2)/\(List.length l<=(1000000:Nat)/\∀(v2:Nat),v2<List.length l->v0 (qa3 (Ty.int .i64) l v2,()))/\(!List.any l λ(v2:Int)=>v1 (v2,()))=List.all l λ(v2:Int)=>f (v2,())) (by kernel_rfl) ?_
 try simp only[z0,z1,z2,z3,z4,z5,z6,z7,z8,z9,z10,Int.reduceEq,z11,z12,z13,z14,z15,z16,z17,z18,z19,z20,z21,z22,z23,z24,z25,z26,z27,z28,z29,z30,Int.reduceLE,Int.reduceLT,z31,z32,z33,z34,qa6]
 try simp only[qb6,qb7,qd0,List.set_cons_zero,List.cons.injEq,and_true,true_and]
 exact⟨p,λx=>!f x,λx hx=>⟨p,f,⟨HEq.rfl,HEq.rfl⟩,hx,(Bool.not_not (f x)).symm⟩,h,by simp[List.not_all_eq_any_not]⟩
theorem w0g {fs:List (Nat × qc7)} (hfs:SpecsOk Try.prog fs):qe7 Try.prog 27 (xs3 fs):=by
 refine qx6 hfs (snd (SpecsOk.cons (w3p (fs:=fsL fs) (SpecsOk.cons (wl3 hfs) (SpecsOk.nil _))) (SpecsOk.nil _))) Try.func27 rfl rfl (λ_ _=>none) (λ_=>by kernel_rfl) (by decide) ?_
 rintro⟨l,⟨p,f⟩,⟨⟩⟩ h
 revert l p f
 intro(l:List (List Int)) (p:qa5 [.list (.int .i64)]->Prop) (f:qa5 [.list (.int .i64)]->Bool) (h:l.length<=1000000/\∀i,i<l.length->p (nL l i,()))
 refine @qf1 _ (∃(v0:qa5 [Ty.list (Ty.int .i64)]->Prop),∃(v1:qa5 [Ty.list (Ty.int .i64)]->Bool),(∀(v2:List Int × qa5._f [] PUnit.unit),v0 v2->∃(v4:qa5 [qf7]->Prop),∃(v5:qa5 [qf7]->Bool),([qf7]=[qf7]/\Ty.bool=Ty.bool/\p ≍ v4/\f ≍ v5)/\v4 (Prod.fst v2,())/\(!v5 (Prod.fst v2,()))=v1 v2)/\(List.length l<=(1000000:Nat)/\∀(v2:Nat),v2<List.length l->v0 (qa3 (Ty.list (Ty.int .i64)) l v2,()))/\(!List.any l λ(v2:List Int)=>v1 (v2,()))=List.all l λ(v2:List Int)=>f (v2,())) (by kernel_rfl) ?_
 try simp only[z0,z1,z2,z3,z4,z5,z6,z7,z8,z9,z10,Int.reduceEq,z11,z12,z13,z14,z15,z16,z17,z18,z19,z20,z21,z22,z23,z24,z25,z26,z27,z28,z29,z30,Int.reduceLE,Int.reduceLT,z31,z32,z33,z34,qa6]
 try simp only[qb6,qb7,qd0,List.set_cons_zero,List.cons.injEq,and_true,true_and]
 exact⟨p,λx=>!f x,λx hx=>⟨p,f,⟨HEq.rfl,HEq.rfl⟩,hx,(Bool.not_not (f x)).symm⟩,h,by simp[List.not_all_eq_any_not]⟩
abbrev xl1:qc7:=qi1 true none [qe4] [.bool] (λ_=>True) (λx=>(inB x.1 (-1) 1,()))
theorem w0h:qe7 Try.prog 42 xl1:=by
 refine meets (snd (SpecsOk.cons qw8 (SpecsOk.nil _))) Try.func42 rfl rfl (λ_ _=>none) (λ_=>by kernel_rfl) (by decide) ?_
 rintro⟨n,⟨⟩⟩ -
 revert n
 intro(n:Int)
 refine @qf1 _ (True/\inB n (-1:Int) (1:Int)=inB n (-1:Int) (1:Int)) (by kernel_rfl) ?_
 try simp only[z0,z1,z2,z3,z4,z5,z6,z7,z8,z9,z10,Int.reduceEq,z11,z12,z13,z14,z15,z16,z17,z18,z19,z20,z21,z22,z23,z24,z25,z26,z27,z28,z29,z30,Int.reduceLE,Int.reduceLT,z31,z32,z33,z34,qa6]
 try simp only[qb6,qb7,qd0,List.set_cons_zero,List.cons.injEq,and_true,true_and]
def rowB (l:List Int):Bool:=inB l.length 1 10 && l.all λn=>inB n (-1) 1
abbrev x04:qc7:=qi1 true none [qf7] [.bool] (λ_=>True) (λx=>(rowB x.1,()))
theorem w3r:qe7 Try.prog 29 x04:=by
 refine meets (snd (SpecsOk.cons qw8 (SpecsOk.cons (w0f (fs:=[(42,xl1)]) (SpecsOk.cons w0h (SpecsOk.nil _))) (SpecsOk.nil _)))) Try.func29 rfl rfl (λ_ _=>none) (λ_=>by kernel_rfl) (by decide) ?_
 rintro⟨l,⟨⟩⟩ -
 revert l
 intro(l:List Int)
 refine @qf1 _ (True/\(inB (↑(List.length l):Int) (1:Int) (10:Int)=true->∃(v1:qa5 [qe4]->Prop),∃(v2:qa5 [qe4]->Bool),(∀(v3:Int × qa5._f [] PUnit.unit),v1 v3->True/\inB (Prod.fst v3) (-1:Int) (1:Int)=v2 v3)/\(List.length l<=(1000000:Nat)/\∀(v3:Nat),v3<List.length l->v1 (nI l v3,()))/\(List.all l λ(v3:Int)=>v2 (v3,()))=rowB l)/\(inB (↑(List.length l):Int) (1:Int) (10:Int)=false->false=rowB l)) (by kernel_rfl) ?_
 try simp only[z0,z1,z2,z3,z4,z5,z6,z7,z8,z9,z10,Int.reduceEq,z11,z12,z13,z14,z15,z16,z17,z18,z19,z20,z21,z22,z23,z24,z25,z26,z27,z28,z29,z30,Int.reduceLE,Int.reduceLT,z31,z32,z33,z34,qa6]
 try simp only[qb6,qb7,qd0,List.set_cons_zero,List.cons.injEq,and_true,true_and]
 refine⟨λh=>⟨λ_=>True,λx=>inB x.1 (-1) 1,λ_ _=>rfl,⟨by rw[qn3] at h; omega,λ_ _=>trivial⟩,by simp[rowB,h]⟩,λh=>by simp[rowB,h]⟩
abbrev xx5:qc7:=hspec [] true none [.d qf7,.cap ql9] [.bool] (λx=>0<x.2.1.length) (λx=>(decide (x.1.length=(nL x.2.1 0).length) && rowB x.1,()))
theorem w3s:qe7 Try.prog 28 xx5:=by
 refine qx6 (SpecsOk.nil _) (snd (SpecsOk.cons w3r (SpecsOk.nil _))) Try.func28 rfl rfl (λ_ _=>none) (λ_=>by kernel_rfl) (by decide) ?_
 rintro⟨l,m,⟨⟩⟩ h
 revert l m
 intro(l:List Int) (m:List (List Int)) (h:0<m.length)
 refine @qf1 _ (((0:Int)<=(0:Int)/\(0:Int)<(↑(List.length m):Int))/\(((↑(List.length l):Int)==(↑(List.length (qa3 (Ty.list (Ty.int .i64)) m (0:Nat))):Int))=true->True/\rowB l=(decide (List.length l=List.length (nL m (0:Nat))) && rowB l))/\(((↑(List.length l):Int)==(↑(List.length (qa3 (Ty.list (Ty.int .i64)) m (0:Nat))):Int))=false->false=(decide (List.length l=List.length (nL m (0:Nat))) && rowB l))) (by kernel_rfl) ?_
 try simp only[z0,z1,z2,z3,z4,z5,z6,z7,z8,z9,z10,Int.reduceEq,z11,z12,z13,z14,z15,z16,z17,z18,z19,z20,z21,z22,z23,z24,z25,z26,z27,z28,z29,z30,Int.reduceLE,Int.reduceLT,z31,z32,z33,z34,qa6]
 try simp only[qb6,qb7,qd0,List.set_cons_zero,List.cons.injEq,and_true,true_and]
 refine⟨by omega,λh1=>?_,λh1=>?_⟩
 ·rw[decide_eq_true (Int.ofNat.inj h1)]; simp
 ·rw[decide_eq_false λe=>h1 (congrArg _ e)]; simp
def qb9 (m:List (List Int)):Bool:=inB m.length 1 6 && m.all λl=>decide (l.length=(nL m 0).length) && rowB l
abbrev sMV:qc7:=qi1 true none [ql9] [.bool] (λ_=>True) (λx=>(qb9 x.1,()))
theorem q83:qe7 Try.prog 14 sMV:=by
 refine meets (snd (SpecsOk.cons qw8 (SpecsOk.cons (w0g (fs:=[(28,xx5)]) (SpecsOk.cons w3s (SpecsOk.nil _))) (SpecsOk.nil _)))) Try.func14 rfl rfl (λ_ _=>none) (λ_=>by kernel_rfl) (by decide) ?_
 rintro⟨m,⟨⟩⟩ -
 revert m
 intro(m:List (List Int))
 refine @qf1 _ (True/\(inB (↑(List.length m):Int) (1:Int) (6:Int)=true->∃(v1:qa5 [qf7]->Prop),∃(v2:qa5 [qf7]->Bool),(∀(v3:List Int × qa5._f [] PUnit.unit),v1 v3->(0:Nat)<List.length m/\(decide (List.length (Prod.fst v3)=List.length (nL m (0:Nat))) && rowB (Prod.fst v3))=v2 v3)/\(List.length m<=(1000000:Nat)/\∀(v3:Nat),v3<List.length m->v1 (nL m v3,()))/\(List.all m λ(v3:List Int)=>v2 (v3,()))=qb9 m)/\(inB (↑(List.length m):Int) (1:Int) (6:Int)=false->false=qb9 m)) (by kernel_rfl) ?_
 try simp only[z0,z1,z2,z3,z4,z5,z6,z7,z8,z9,z10,Int.reduceEq,z11,z12,z13,z14,z15,z16,z17,z18,z19,z20,z21,z22,z23,z24,z25,z26,z27,z28,z29,z30,Int.reduceLE,Int.reduceLT,z31,z32,z33,z34,qa6]
 try simp only[qb6,qb7,qd0,List.set_cons_zero,List.cons.injEq,and_true,true_and]
 refine⟨λh=>?_,λh=>by simp[qb9,h]⟩
 have hm:=qn3.1 h
 exact⟨λ_=>True,λx=>decide (x.1.length=(nL m 0).length) && rowB x.1,λx _=>⟨by omega,rfl⟩,⟨by omega,λ_ _=>trivial⟩,by simp[qb9,h]⟩
end Go.Proofs.Ytempacilejhbgaa
