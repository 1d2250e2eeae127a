/- The errors of masks, readings and pixels: contracts by the engine. No condition. -/
import Derived.Test.YtmijnbjlhnpokaaGreatV3
set_option linter.unusedVariables false
set_option linter.unusedSimpArgs false
namespace Go.Proofs.YtmijnbjlhnpokaaGreat
open Go Go.RowKit Eng
def inB (n lo hi:Int):Bool:=decide (lo<=n) && decide (n<=hi)
theorem qv5 {n lo hi:Int}:inB n lo hi=true↔lo<=n/\n<=hi:=by simp[inB]
abbrev wb8:qc7:=qg0 true none [qf8,qf8,qf8] [.bool] (λ_=>True) (λx=>(inB x.1 x.2.1 x.2.2.1,()))
theorem qy9:Meets Tryz.prog 121 wb8:=by
 refine meets (snd (SpecsOk.nil _)) Tryz.func121 rfl rfl (λ_ _=>none) (λ_=>by kernel_rfl) (by decide) ?_
 rintro⟨n,lo,hi,⟨⟩⟩ -
 revert n lo hi
 intro(n:Int) (lo:Int) (hi:Int)
 refine @qe0 _ ((decide (lo<=n)=true->decide (n<=hi)=inB n lo hi)/\(decide (lo<=n)=false->false=inB n lo hi)) (by kernel_rfl) ?_
 try simp only[z0,z1,z2,z3,z4,z5,z6,z7,z8,z9,z10,Int.reduceEq,z11,z12,z13,z14,z15,z16,z17,z18,z19,z20,z21,z22,z23,z24,z25,z26,z27,z28,z29,z30,Int.reduceLE,Int.reduceLT,z31,z32,z33,z34,qa1]
 try simp only[qb4,qb5,qc8,z31,z32,z2,z1]
 constructor
 ·intro h1
  simp[inB,h1]
 ·intro h1
  have:¬lo<=n:=by omega
  simp[inB,this]
theorem q3c:Meets Tryz.prog 191 wb8:=by
 refine meets (snd (SpecsOk.nil _)) Tryz.func191 rfl rfl (λ_ _=>none) (λ_=>by kernel_rfl) (by decide) ?_
 rintro⟨n,lo,hi,⟨⟩⟩ -
 revert n lo hi
 intro(n:Int) (lo:Int) (hi:Int)
 refine @qe0 _ ((decide (lo<=n)=true->decide (n<=hi)=inB n lo hi)/\(decide (lo<=n)=false->false=inB n lo hi)) (by kernel_rfl) ?_
 try simp only[z0,z1,z2,z3,z4,z5,z6,z7,z8,z9,z10,Int.reduceEq,z11,z12,z13,z14,z15,z16,z17,z18,z19,z20,z21,z22,z23,z24,z25,z26,z27,z28,z29,z30,Int.reduceLE,Int.reduceLT,z31,z32,z33,z34,qa1]
 try simp only[qb4,qb5,qc8,z31,z32,z2,z1]
 constructor
 ·intro h1
  simp[inB,h1]
 ·intro h1
  have:¬lo<=n:=by omega
  simp[inB,this]
theorem qz0:Meets Tryz.prog 75 wb8:=by
 refine meets (snd (SpecsOk.nil _)) Tryz.func75 rfl rfl (λ_ _=>none) (λ_=>by kernel_rfl) (by decide) ?_
 rintro⟨n,lo,hi,⟨⟩⟩ -
 revert n lo hi
 intro(n:Int) (lo:Int) (hi:Int)
 refine @qe0 _ ((decide (lo<=n)=true->decide (n<=hi)=inB n lo hi)/\(decide (lo<=n)=false->false=inB n lo hi)) (by kernel_rfl) ?_
 try simp only[z0,z1,z2,z3,z4,z5,z6,z7,z8,z9,z10,Int.reduceEq,z11,z12,z13,z14,z15,z16,z17,z18,z19,z20,z21,z22,z23,z24,z25,z26,z27,z28,z29,z30,Int.reduceLE,Int.reduceLT,z31,z32,z33,z34,qa1]
 try simp only[qb4,qb5,qc8,z31,z32,z2,z1]
 constructor
 ·intro h1
  simp[inB,h1]
 ·intro h1
  have:¬lo<=n:=by omega
  simp[inB,this]
theorem q3d:Meets Tryz.prog 141 wb8:=by
 refine meets (snd (SpecsOk.nil _)) Tryz.func141 rfl rfl (λ_ _=>none) (λ_=>by kernel_rfl) (by decide) ?_
 rintro⟨n,lo,hi,⟨⟩⟩ -
 revert n lo hi
 intro(n:Int) (lo:Int) (hi:Int)
 refine @qe0 _ ((decide (lo<=n)=true->decide (n<=hi)=inB n lo hi)/\(decide (lo<=n)=false->false=inB n lo hi)) (by kernel_rfl) ?_
 try simp only[z0,z1,z2,z3,z4,z5,z6,z7,z8,z9,z10,Int.reduceEq,z11,z12,z13,z14,z15,z16,z17,z18,z19,z20,z21,z22,z23,z24,z25,z26,z27,z28,z29,z30,Int.reduceLE,Int.reduceLT,z31,z32,z33,z34,qa1]
 try simp only[qb4,qb5,qc8,z31,z32,z2,z1]
 constructor
 ·intro h1
  simp[inB,h1]
 ·intro h1
  have:¬lo<=n:=by omega
  simp[inB,this]
abbrev xf7 (fs:List (Nat × qc7)):qc7:=hspec fs true none [.d qf8,.capfn [qf8] .bool] [.bool] (λx=>x.2.1.1 (x.1,())) (λx=>(!(x.2.1.2 (x.1,())),()))
theorem wq6 {fs:List (Nat × qc7)} (hfs:SpecsOk Tryz.prog fs):Meets Tryz.prog 226 (xf7 fs):=by
 refine qs2 hfs (snd (SpecsOk.nil _)) Tryz.func226 rfl rfl (λ_ _=>none) (λ_=>by kernel_rfl) (by decide) ?_
 rintro⟨n,⟨p,f⟩,⟨⟩⟩ h
 revert n p f
 intro(n:Int) (p:qa5 [.int .i64]->Prop) (f:qa5 [.int .i64]->Bool) (h:p (n,()))
 refine @qe0 _ (p (n,())/\(!f (n,()))=!f (n,())) (by kernel_rfl) ?_
 try simp only[z0,z1,z2,z3,z4,z5,z6,z7,z8,z9,z10,Int.reduceEq,z11,z12,z13,z14,z15,z16,z17,z18,z19,z20,z21,z22,z23,z24,z25,z26,z27,z28,z29,z30,Int.reduceLE,Int.reduceLT,z31,z32,z33,z34,qa1]
 try simp only[qb4,qb5,qc8,z31,z32,z2,z1]
 exact h
abbrev xf8 (fs:List (Nat × qc7)):qc7:=hspec fs true none [.d qd4,.capfn [qd4] .bool] [.bool] (λx=>x.2.1.1 (x.1,())) (λx=>(!(x.2.1.2 (x.1,())),()))
theorem wq7 {fs:List (Nat × qc7)} (hfs:SpecsOk Tryz.prog fs):Meets Tryz.prog 180 (xf8 fs):=by
 refine qs2 hfs (snd (SpecsOk.nil _)) Tryz.func180 rfl rfl (λ_ _=>none) (λ_=>by kernel_rfl) (by decide) ?_
 rintro⟨n,⟨p,f⟩,⟨⟩⟩ h
 revert n p f
 intro(n:List Int) (p:qa5 [.list (.int .i64)]->Prop) (f:qa5 [.list (.int .i64)]->Bool) (h:p (n,()))
 refine @qe0 _ (p (n,())/\(!f (n,()))=!f (n,())) (by kernel_rfl) ?_
 try simp only[z0,z1,z2,z3,z4,z5,z6,z7,z8,z9,z10,Int.reduceEq,z11,z12,z13,z14,z15,z16,z17,z18,z19,z20,z21,z22,z23,z24,z25,z26,z27,z28,z29,z30,Int.reduceLE,Int.reduceLT,z31,z32,z33,z34,qa1]
 try simp only[qb4,qb5,qc8,z31,z32,z2,z1]
 exact h
abbrev fsI (fs:List (Nat × qc7)):List (Nat × qc7):=[(226,xf7 fs)]
abbrev fsL (fs:List (Nat × qc7)):List (Nat × qc7):=[(180,xf8 fs)]
abbrev x1y (fs:List (Nat × qc7)):qc7:=hspec fs true none [.d qd4,.fn [qf8] .bool] [.bool] (λx=>x.1.length<=1000000/\∀i,i<x.1.length->x.2.1.1 (nI x.1 i,())) (λx=>(x.1.all λe=>x.2.1.2 (e,()),()))
abbrev x1z (fs:List (Nat × qc7)):qc7:=hspec fs true none [.d qk2,.fn [qd4] .bool] [.bool] (λx=>x.1.length<=1000000/\∀i,i<x.1.length->x.2.1.1 (nL x.1 i,())) (λx=>(x.1.all λe=>x.2.1.2 (e,()),()))
theorem w15 {fs:List (Nat × qc7)} (hfs:SpecsOk Tryz.prog fs):Meets Tryz.prog 181 (x1y fs):=by
 refine qs2 hfs (snd (SpecsOk.cons (q3b (fs:=fsI fs) (SpecsOk.cons (wq6 hfs) (SpecsOk.nil _))) (SpecsOk.nil _))) Tryz.func181 rfl rfl (λ_ _=>none) (λ_=>by kernel_rfl) (by decide) ?_
 rintro⟨l,⟨p,f⟩,⟨⟩⟩ h
 revert l p f
 intro(l:List Int) (p:qa5 [.int .i64]->Prop) (f:qa5 [.int .i64]->Bool) (h:l.length<=1000000/\∀i,i<l.length->p (nI l i,()))
 refine @qe0 _ (∃(v0:qa5 [Ty.int .i64]->Prop),∃(v1:qa5 [Ty.int .i64]->Bool),(∀(v2:Int × qa5._f [] PUnit.unit),v0 v2->∃(v4:qa5 [qf8]->Prop),∃(v5:qa5 [qf8]->Bool),([qf8]=[qf8]/\Ty.bool=Ty.bool/\p ≍ v4/\f ≍ v5)/\v4 (v2.1,())/\(!v5 (v2.1,()))=v1 v2)/\(l.length<=(1000000:Nat)/\∀(v2:Nat),v2<l.length->v0 (nI l v2,()))/\(!List.any l λ(v2:Int)=>v1 (v2,()))=List.all l λ(v2:Int)=>f (v2,())) (by kernel_rfl) ?_
 try simp only[z0,z1,z2,z3,z4,z5,z6,z7,z8,z9,z10,Int.reduceEq,z11,z12,z13,z14,z15,z16,z17,z18,z19,z20,z21,z22,z23,z24,z25,z26,z27,z28,z29,z30,Int.reduceLE,Int.reduceLT,z31,z32,z33,z34,qa1]
 try simp only[qb4,qb5,qc8,z31,z32,z2,z1]
 exact⟨p,λx=>!f x,λx hx=>⟨p,f,⟨HEq.rfl,HEq.rfl⟩,hx,(Bool.not_not (f x)).symm⟩,h,by simp[List.not_all_eq_any_not]⟩
theorem w17 {fs:List (Nat × qc7)} (hfs:SpecsOk Tryz.prog fs):Meets Tryz.prog 122 (x1z fs):=by
 refine qs2 hfs (snd (SpecsOk.cons (w5s (fs:=fsL fs) (SpecsOk.cons (wq7 hfs) (SpecsOk.nil _))) (SpecsOk.nil _))) Tryz.func122 rfl rfl (λ_ _=>none) (λ_=>by kernel_rfl) (by decide) ?_
 rintro⟨l,⟨p,f⟩,⟨⟩⟩ h
 revert l p f
 intro(l:List (List Int)) (p:qa5 [.list (.int .i64)]->Prop) (f:qa5 [.list (.int .i64)]->Bool) (h:l.length<=1000000/\∀i,i<l.length->p (nL l i,()))
 refine @qe0 _ (∃(v0:qa5 [Ty.list (Ty.int .i64)]->Prop),∃(v1:qa5 [Ty.list (Ty.int .i64)]->Bool),(∀(v2:List Int × qa5._f [] PUnit.unit),v0 v2->∃(v4:qa5 [qd4]->Prop),∃(v5:qa5 [qd4]->Bool),([qd4]=[qd4]/\Ty.bool=Ty.bool/\p ≍ v4/\f ≍ v5)/\v4 (v2.1,())/\(!v5 (v2.1,()))=v1 v2)/\(l.length<=(1000000:Nat)/\∀(v2:Nat),v2<l.length->v0 (nL l v2,()))/\(!List.any l λ(v2:List Int)=>v1 (v2,()))=List.all l λ(v2:List Int)=>f (v2,())) (by kernel_rfl) ?_
 try simp only[z0,z1,z2,z3,z4,z5,z6,z7,z8,z9,z10,Int.reduceEq,z11,z12,z13,z14,z15,z16,z17,z18,z19,z20,z21,z22,z23,z24,z25,z26,z27,z28,z29,z30,Int.reduceLE,Int.reduceLT,z31,z32,z33,z34,qa1]
 try simp only[qb4,qb5,qc8,z31,z32,z2,z1]
 exact⟨p,λx=>!f x,λx hx=>⟨p,f,⟨HEq.rfl,HEq.rfl⟩,hx,(Bool.not_not (f x)).symm⟩,h,by simp[List.not_all_eq_any_not]⟩
abbrev xu0:qc7:=qg0 true none [qf8] [.bool] (λ_=>True) (λx=>(inB x.1 (-1) 1,()))
theorem w18:Meets Tryz.prog 182 xu0:=by
 refine meets (snd (SpecsOk.cons qy9 (SpecsOk.nil _))) Tryz.func182 rfl rfl (λ_ _=>none) (λ_=>by kernel_rfl) (by decide) ?_
 rintro⟨n,⟨⟩⟩ -
 revert n
 intro(n:Int)
 refine @qe0 _ (True/\inB n (-1:Int) (1:Int)=inB n (-1:Int) (1:Int)) (by kernel_rfl) ?_
 try simp only[z0,z1,z2,z3,z4,z5,z6,z7,z8,z9,z10,Int.reduceEq,z11,z12,z13,z14,z15,z16,z17,z18,z19,z20,z21,z22,z23,z24,z25,z26,z27,z28,z29,z30,Int.reduceLE,Int.reduceLT,z31,z32,z33,z34,qa1]
 try simp only[qb4,qb5,qc8,z31,z32,z2,z1]
def rowB (l:List Int):Bool:=inB l.length 1 10 && l.all λn=>inB n (-1) 1
abbrev x6j:qc7:=qg0 true none [qd4] [.bool] (λ_=>True) (λx=>(rowB x.1,()))
theorem w5u:Meets Tryz.prog 124 x6j:=by
 refine meets (snd (SpecsOk.cons qy9 (SpecsOk.cons (w15 (fs:=[(182,xu0)]) (SpecsOk.cons w18 (SpecsOk.nil _))) (SpecsOk.nil _)))) Tryz.func124 rfl rfl (λ_ _=>none) (λ_=>by kernel_rfl) (by decide) ?_
 rintro⟨l,⟨⟩⟩ -
 revert l
 intro(l:List Int)
 refine @qe0 _ (True/\(inB (↑l.length:Int) (1:Int) (10:Int)=true->∃(v1:qa5 [qf8]->Prop),∃(v2:qa5 [qf8]->Bool),(∀(v3:Int × qa5._f [] PUnit.unit),v1 v3->True/\inB v3.1 (-1:Int) (1:Int)=v2 v3)/\(l.length<=(1000000:Nat)/\∀(v3:Nat),v3<l.length->v1 (nI l v3,()))/\(List.all l λ(v3:Int)=>v2 (v3,()))=rowB l)/\(inB (↑l.length:Int) (1:Int) (10:Int)=false->false=rowB l)) (by kernel_rfl) ?_
 try simp only[z0,z1,z2,z3,z4,z5,z6,z7,z8,z9,z10,Int.reduceEq,z11,z12,z13,z14,z15,z16,z17,z18,z19,z20,z21,z22,z23,z24,z25,z26,z27,z28,z29,z30,Int.reduceLE,Int.reduceLT,z31,z32,z33,z34,qa1]
 try simp only[qb4,qb5,qc8,z31,z32,z2,z1]
 refine⟨λh=>⟨λ_=>True,λx=>inB x.1 (-1) 1,λ_ _=>rfl,⟨by rw[qv5] at h; omega,λ_ _=>trivial⟩,by simp[rowB,h]⟩,λh=>by simp[rowB,h]⟩
abbrev x4y:qc7:=hspec [] true none [.d qd4,.cap qk2] [.bool] (λx=>0<x.2.1.length) (λx=>(decide (x.1.length=(nL x.2.1 0).length) && rowB x.1,()))
theorem w5v:Meets Tryz.prog 123 x4y:=by
 refine qs2 (SpecsOk.nil _) (snd (SpecsOk.cons w5u (SpecsOk.nil _))) Tryz.func123 rfl rfl (λ_ _=>none) (λ_=>by kernel_rfl) (by decide) ?_
 rintro⟨l,m,⟨⟩⟩ h
 revert l m
 intro(l:List Int) (m:List (List Int)) (h:0<m.length)
 refine @qe0 _ (((0:Int)<=(0:Int)/\(0:Int)<(↑m.length:Int))/\(((↑l.length:Int)==(↑(nL m (0:Nat)).length:Int))=true->True/\rowB l=(decide (l.length=(nL m (0:Nat)).length) && rowB l))/\(((↑l.length:Int)==(↑(nL m (0:Nat)).length:Int))=false->false=(decide (l.length=(nL m (0:Nat)).length) && rowB l))) (by kernel_rfl) ?_
 try simp only[z0,z1,z2,z3,z4,z5,z6,z7,z8,z9,z10,Int.reduceEq,z11,z12,z13,z14,z15,z16,z17,z18,z19,z20,z21,z22,z23,z24,z25,z26,z27,z28,z29,z30,Int.reduceLE,Int.reduceLT,z31,z32,z33,z34,qa1]
 try simp only[qb4,qb5,qc8,z31,z32,z2,z1]
 refine⟨by omega,λh1=>?_,λh1=>?_⟩
 ·rw[decide_eq_true (Int.ofNat.inj h1)]; simp
 ·rw[decide_eq_false λe=>h1 (congrArg _ e)]; simp
def qe6 (m:List (List Int)):Bool:=inB m.length 1 6 && m.all λl=>decide (l.length=(nL m 0).length) && rowB l
abbrev sMV:qc7:=qg0 true none [qk2] [.bool] (λ_=>True) (λx=>(qe6 x.1,()))
theorem wb9:Meets Tryz.prog 65 sMV:=by
 refine meets (snd (SpecsOk.cons qy9 (SpecsOk.cons (w17 (fs:=[(123,x4y)]) (SpecsOk.cons w5v (SpecsOk.nil _))) (SpecsOk.nil _)))) Tryz.func65 rfl rfl (λ_ _=>none) (λ_=>by kernel_rfl) (by decide) ?_
 rintro⟨m,⟨⟩⟩ -
 revert m
 intro(m:List (List Int))
 refine @qe0 _ (True/\(inB (↑m.length:Int) (1:Int) (6:Int)=true->∃(v1:qa5 [qd4]->Prop),∃(v2:qa5 [qd4]->Bool),(∀(v3:List Int × qa5._f [] PUnit.unit),v1 v3->(0:Nat)<m.length/\(decide (v3.1.length=(nL m (0:Nat)).length) && rowB v3.1)=v2 v3)/\(m.length<=(1000000:Nat)/\∀(v3:Nat),v3<m.length->v1 (nL m v3,()))/\(List.all m λ(v3:List Int)=>v2 (v3,()))=qe6 m)/\(inB (↑m.length:Int) (1:Int) (6:Int)=false->false=qe6 m)) (by kernel_rfl) ?_
 try simp only[z0,z1,z2,z3,z4,z5,z6,z7,z8,z9,z10,Int.reduceEq,z11,z12,z13,z14,z15,z16,z17,z18,z19,z20,z21,z22,z23,z24,z25,z26,z27,z28,z29,z30,Int.reduceLE,Int.reduceLT,z31,z32,z33,z34,qa1]
 try simp only[qb4,qb5,qc8,z31,z32,z2,z1]
 refine⟨λh=>?_,λh=>by simp[qe6,h]⟩
 have hm:=qv5.1 h
 exact⟨λ_=>True,λx=>decide (x.1.length=(nL m 0).length) && rowB x.1,λx _=>⟨by omega,rfl⟩,⟨by omega,λ_ _=>trivial⟩,by simp[qe6,h]⟩
abbrev xu1:qc7:=hspec [] true none [.d qf8,.cap qf8] [.bool] (λx=>0<=x.2.1/\x.2.1<=BIG) (λx=>(!(inB x.1 (0-x.2.1) x.2.1),()))
theorem w19:Meets Tryz.prog 190 xu1:=by
 refine qs2 (SpecsOk.nil _) (snd (SpecsOk.cons q3c (SpecsOk.nil _))) Tryz.func190 rfl rfl (λ_ _=>none) (λ_=>by kernel_rfl) (by decide) ?_
 rintro⟨n,k,⟨⟩⟩ h
 revert n k
 intro(n:Int) (k:Int) (h:0<=k/\k<=BIG)
 refine @qe0 _ (fits .i64 ((0:Int)-k)/\True/\(!inB n ((0:Int)-k) k)=!inB n ((0:Int)-k) k) (by kernel_rfl) ?_
 try simp only[z0,z1,z2,z3,z4,z5,z6,z7,z8,z9,z10,Int.reduceEq,z11,z12,z13,z14,z15,z16,z17,z18,z19,z20,z21,z22,z23,z24,z25,z26,z27,z28,z29,z30,Int.reduceLE,Int.reduceLT,z31,z32,z33,z34,qa1]
 try simp only[qb4,qb5,qc8,z31,z32,z2,z1]
 unfold BIG at h
 exact qa7 (by omega) (by omega)
abbrev x6k:qc7:=w9m false none [qf8] (λ_=>True) (λx=>.clo 190 (.cons (.imm (.cons (.lit (.int .i64 x.1)) .nil) 0) .nil))
theorem w5w:Meets Tryz.prog 133 x6k:=by
 refine wy7 (snd (SpecsOk.nil _)) Tryz.func133 rfl rfl (λ_ _=>none) (λ_=>by kernel_rfl) (by decide) ?_
 rintro⟨m,⟨⟩⟩ -
 revert m
 intro(m:Int)
 refine @qe0 _ (((m=m/\True)/\(0:Nat)=(0:Nat))/\True) (by kernel_rfl) ?_
 try simp only[z0,z1,z2,z3,z4,z5,z6,z7,z8,z9,z10,Int.reduceEq,z11,z12,z13,z14,z15,z16,z17,z18,z19,z20,z21,z22,z23,z24,z25,z26,z27,z28,z29,z30,Int.reduceLE,Int.reduceLT,z31,z32,z33,z34,qa1]
 try simp only[qb4,qb5,qc8,z31,z32,z2,z1]
abbrev xu2:qc7:=hspec [] true none [.d qf8,.cap qf8] [.bool] (λx=>0<=x.2.1/\x.2.1<=BIG) (λx=>(!(inB x.1 0 (x.2.1-1)),()))
theorem w2a:Meets Tryz.prog 229 xu2:=by
 refine qs2 (SpecsOk.nil _) (snd (SpecsOk.cons q3c (SpecsOk.nil _))) Tryz.func229 rfl rfl (λ_ _=>none) (λ_=>by kernel_rfl) (by decide) ?_
 rintro⟨n,k,⟨⟩⟩ h
 revert n k
 intro(n:Int) (k:Int) (h:0<=k/\k<=BIG)
 refine @qe0 _ (fits .i64 (k-(1:Int))/\True/\(!inB n (0:Int) (k-(1:Int)))=!inB n (0:Int) (k-(1:Int))) (by kernel_rfl) ?_
 try simp only[z0,z1,z2,z3,z4,z5,z6,z7,z8,z9,z10,Int.reduceEq,z11,z12,z13,z14,z15,z16,z17,z18,z19,z20,z21,z22,z23,z24,z25,z26,z27,z28,z29,z30,Int.reduceLE,Int.reduceLT,z31,z32,z33,z34,qa1]
 try simp only[qb4,qb5,qc8,z31,z32,z2,z1]
 unfold BIG at h
 exact qa7 (by omega) (by omega)
def w3d (l:List Int):Bool:=(List.range l.length).all λi=>decide (i=0) || decide (nI l (i-1)<nI l i)
def q4y (n:Int) (l:List Int):Int:=if w3d l=false then 7 else if l.any (λp=>!(inB p 0 (n-1))) then 5 else 0
theorem wc0 {l:List Int}:w3d l=true↔∀i,0<i->i<l.length->nI l (i-1)<nI l i:=by
 unfold w3d
 rw[List.all_eq_true]
 constructor
 ·intro h i h0 hi
  have:=h i (List.mem_range.2 hi)
  simp only[Bool.or_eq_true,decide_eq_true_eq] at this
  exact this.resolve_left (by omega)
 ·intro h i hi
  simp only[Bool.or_eq_true,decide_eq_true_eq]
  by_cases e:i=0
  ·exact .inl e
  ·exact .inr (h i (by omega) (List.mem_range.1 hi))
structure AscTo (l:List Int) (k:Nat):Prop where
 le:k<=l.length
 lt:∀i,0<i->i<k->nI l (i-1)<nI l i
theorem AscTo.step {l:List Int} {k:Nat} (h:AscTo l k) (hk:k<l.length) (h1:k=0\/nI l (k-1)<nI l k):AscTo l (k+1):=
 ⟨hk,λi h0 hi=>by
  by_cases e:i=k
  ·subst e; exact h1.resolve_left (by omega)
  ·exact h.lt i h0 (by omega)⟩
theorem AscTo.all {l:List Int} (h:AscTo l l.length):w3d l=true:=wc0.2 h.lt
theorem w0e {l:List Int} {k:Nat} (h0:0<k) (hk:k<l.length) (h:nI l k<=nI l (k-1)):w3d l=false:=by
 cases e:w3d l with
 | false=>rfl
 | true=>have:=wc0.1 e k h0 hk; omega
def x13 (n:Int) (l:List Int):Nat->Option Inv
 | 0=>some (Inv.of [9] 1 (λk:Nat=>[(9,.lit (.int .i64 k))]) (λ_=>[.box 3 (.cons (.lit (.int .i64 n)) .nil)]) (λk=>AscTo l k) (λk=>l.length-k))
 | _=>none
abbrev x6l:qc7:=qg0 true none [qf8,qd4] [qf8] (λx=>(0<=x.1/\x.1<=BIG)/\x.2.1.length<=1000000) (λx=>(q4y x.1 x.2.1,()))
theorem w5x:Meets Tryz.prog 192 x6l:=by
 refine meets (snd (SpecsOk.cons (q3b (fs:=[(229,xu2)]) (SpecsOk.cons w2a (SpecsOk.nil _))) (SpecsOk.nil _))) Tryz.func192 rfl rfl (λx=>x13 x.1 x.2.1) (λ_=>by kernel_rfl) (by decide) ?_
 rintro⟨n,l,⟨⟩⟩ h
 revert n l
 intro(n:Int) (l:List Int) (h:(0<=n/\n<=BIG)/\l.length<=1000000)
 refine @qe0 _ (∃(v0:Unit),∃(v1:Nat),AscTo l v1/\(((0:Int)=(↑v1:Int)/\True)/\(n=n/\True)/\True)/\∀(v2:Nat),AscTo l v2->(decide ((↑v2:Int)<(↑l.length:Int))=true->((0:Int)<=(↑v2:Int)/\(↑v2:Int)<(↑l.length:Int))/\(decide ((0:Int)<(↑v2:Int))=true->fits .i64 ((↑v2:Int)-(1:Int))/\((0:Int)<=(↑v2:Int)-(1:Int)/\(↑v2:Int)-(1:Int)<(↑l.length:Int))/\(decide (nI l v2<=nI l ((↑v2:Int)-(1:Int)).toNat)=true->(7:Int)=q4y n l)/\(decide (nI l v2<=nI l ((↑v2:Int)-(1:Int)).toNat)=false->fits .i64 ((↑v2:Int)+(1:Int))/\∃(v7:Nat),AscTo l v7/\l.length-v7<l.length-v2/\((↑v2:Int)+(1:Int)=(↑v7:Int)/\True)/\(n=n/\True)/\True))/\(decide ((0:Int)<(↑v2:Int))=false->fits .i64 ((↑v2:Int)+(1:Int))/\∃(v6:Nat),AscTo l v6/\l.length-v6<l.length-v2/\((↑v2:Int)+(1:Int)=(↑v6:Int)/\True)/\(n=n/\True)/\True))/\(decide ((↑v2:Int)<(↑l.length:Int))=false->∃(v5:qa5 [Ty.int .i64]->Prop),∃(v6:qa5 [Ty.int .i64]->Bool),(∀(v7:Int × qa5._f [] PUnit.unit),v5 v7->((0:PTy.den (PTy.cap qf8))<=n/\n<=BIG)/\(!inB v7.1 (0:Int) (n-(1:Int)))=v6 v7)/\(l.length<=(1000000:Nat)/\∀(v7:Nat),v7<l.length->v5 (nI l v7,()))/\((List.any l λ(v8:Int)=>v6 (v8,()))=true->(5:Int)=q4y n l)/\((List.any l λ(v8:Int)=>v6 (v8,()))=false->(0:Int)=q4y n l))) (by kernel_rfl) ?_
 try simp only[z0,z1,z2,z3,z4,z5,z6,z7,z8,z9,z10,Int.reduceEq,z11,z12,z13,z14,z15,z16,z17,z18,z19,z20,z21,z22,z23,z24,z25,z26,z27,z28,z29,z30,Int.reduceLE,Int.reduceLT,z31,z32,z33,z34,qa1]
 try simp only[qb4,qb5,qc8,z31,z32,z2,z1]
 obtain⟨hn,hl⟩:=h
 refine⟨(),0,⟨Nat.zero_le _,λi h0 hi=>by omega⟩,rfl,λk hk=>⟨λhlt=>⟨hlt,λh0=>?_,λh0=>⟨qa7 (by omega) (by omega),k+1,hk.step hlt (.inl (by omega)),by omega,by omega⟩⟩,λhge=>?_⟩⟩
 ·have e:((k:Int)-1).toNat=k-1:=by omega
  rw[e]
  refine⟨qa7 (by omega) (by omega),by omega,λh1=>?_,λh1=>⟨qa7 (by omega) (by omega),k+1,hk.step hlt (.inr h1),by omega,by omega⟩⟩
  unfold q4y
  rw[if_pos (w0e (by omega) hlt h1)]
 ·obtain rfl:k=l.length:=by have:=hk.le; omega
  refine⟨λ_=>True,λx=>!(inB x.1 0 (n-1)),λx _=>⟨hn,by simp⟩,⟨hl,λ_ _=>trivial⟩,λh1=>?_,λh1=>?_⟩
  ·unfold q4y
   rw[if_neg (by simp[hk.all]),if_pos h1]
  ·unfold q4y
   rw[if_neg (by simp[hk.all]),if_neg (by rw[h1]; decide)]
end Go.Proofs.YtmijnbjlhnpokaaGreat
