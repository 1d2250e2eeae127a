/- The greatest share of a mask, and its order: contracts by the engine. No condition. -/
import Derived.Test.YtempacilejhbgaaGreatDoorQ7
import Derived.Test.YtempacilejhbgaaGreatDoorEngT2
set_option linter.unusedVariables false
set_option linter.unusedSimpArgs false
namespace Go.Proofs.YtempacilejhbgaaGreatDoor
open Go Go.RowKit Eng
structure q6t (l:List (List Int)) (k:Int):Prop where
 len:l.length<=1000000
 lar:∀i,i<l.length->w9r (nL l i) k
 shr:∀i,i<l.length->wq1 (nL l i) (q1g (nL l i) k.toNat)
def w9u (l:List (List Int)) (k:Nat):List (List Int × (Int × Int)):=l.map λh=>(h,shR h (q1g h k))
theorem xd8 {l:List (List Int)} {k i:Nat} (h:i<l.length):((w9u l k).map λq=>((q.1,q.2,()):qa4 [tInts,q05]))[i]? = some (nL l i,shR (nL l i) (q1g (nL l i) k),()):=by
 unfold w9u
 rw[List.map_map,List.getElem?_map,List.getElem?_eq_getElem h,ql4 l i h]
 rfl
abbrev x1j:q1l:=w8x [tMask,tInt] [tInts,q05] (λx=>q6t x.1 x.2.1) (λx=>(w9u x.1 x.2.1.toNat).map λq=>(q.1,q.2,()))
def x1k (l:List (List Int)):Nat->Option Inv
 | 0=>some (Inv.of [8] 1 (λi:Nat=>[(8,.lit (.int .i64 i))]) (λi=>[.cnt (some i)]) (λi=>i<=l.length) (λi=>l.length-i))
 | _=>none
theorem w56:qy7 Tryz.prog 50 x1j:=by
 refine x1i (snd (SpecsOk.cons w55 (SpecsOk.cons w2k (SpecsOk.nil _)))) rfl Tryz.func50 rfl rfl rfl [12] 6 (λx=>[(7,.lit (.int .i64 (x.1:List (List Int)).length)),(8,.lit (.int .i64 0))]) (λx=>x1k x.1) (by kernel_rfl) (by kernel_rfl) (λ_=>by kernel_rfl) (by decide) (λx l A cp=>⟨rfl,rfl,rfl,rfl,trivial⟩) ?_
 rintro⟨l,k,⟨⟩⟩ q h
 revert l k
 intro(l:List (List Int)) (k:Int) (h:q6t l k)
 refine @qe7 _ (let Q0:=w9u l k.toNat; let Q1:=(l,k,PUnit.unit); ∃(v0:Unit),∃(v1:Nat),Nat.le v1 l.length/\(((0:Int)=(↑v1:Int)/\True)/\some (0:Nat)=some v1/\True)/\∀(v2:Nat),Nat.le v2 l.length->(decide ((↑v2:Int)<(↑l.length:Int))=true->((0:Int)<=(↑v2:Int)/\(↑v2:Int)<(↑l.length:Int))/\w9r (nL l v2) k/\wq1 (nL l v2) (q1g (nL l v2) k.toNat)/\Value.func (Fn.yield q) #[] #[]=Value.func (Fn.yield (qj5.l (q6s (Ty.list (Ty.int .i64)) [tInt] [tInts,q05] [(12:Nat)] (6:Nat) Q1 (List.map (λ(v5:List Int × Int × Int)=>(v5.1,v5.2,())) Q0) q))) #[] #[]/\(qj5.L (q6s (Ty.list (Ty.int .i64)) [tInt] [tInts,q05] [(12:Nat)] (6:Nat) Q1 (List.map (λ(v5:List Int × Int × Int)=>(v5.1,v5.2,())) Q0) q))[v2]?=some (nL l v2,((shR (nL l v2) (q1g (nL l v2) k.toNat)).1,(shR (nL l v2) (q1g (nL l v2) k.toNat)).2),())/\(fits .i64 ((↑v2:Int)+(1:Int))/\∃(v5:Nat),Nat.le v5 l.length/\l.length-v5<l.length-v2/\((↑v2:Int)+(1:Int)=(↑v5:Int)/\True)/\some (v2+(1:Nat))=some v5/\True)/\True)/\(decide ((↑v2:Int)<(↑l.length:Int))=false->v2=(qj5.L (q6s (Ty.list (Ty.int .i64)) [tInt] [tInts,q05] [(12:Nat)] (6:Nat) Q1 (List.map (λ(v5:List Int × Int × Int)=>(v5.1,v5.2,())) Q0) q)).length)) (by kernel_rfl) ?_
 try simp only[z0,z1,z2,z3,z4,z5,z6,z7,z8,z9,z10,Int.reduceEq,z11,z12,z13,z14,z15,z16,z17,z18,z19,z20,z21,z22,z23,z24,z25,z26,z27,z28,z29,z30,Int.reduceLE,Int.reduceLT,z31,z32,z33,z34,qa3]
 try simp only[qb6,qb7,qc7,z31,z32,z2,z1]
 have hl:=h.len
 refine⟨(),0,Nat.zero_le _,⟨rfl,rfl⟩,λi hi=>⟨λhlt=>⟨hlt,h.lar i hlt,h.shr i hlt,rfl,xd8 hlt,qa7 (by omega) (by omega),i+1,hlt,by omega,by push_cast; rfl,rfl⟩,λhge=>?_⟩⟩
 obtain rfl:i=l.length:=by omega
 show _=((w9u l k.toNat).map λq=>((q.1,q.2,()):qa4 [tInts,q05])).length
 rw[List.length_map]; exact(List.length_map _).symm
abbrev x5n:qb9:=w4z false none [tMask,tInt] (λ_=>True) (λx=>.clo 50 (.cons (.imm (.cons (.dat (.list (.int .i64)) x.1) .nil) 0) (.cons (.imm (.cons (.lit (.int .i64 x.2.1)) .nil) 0) .nil)))
theorem w57:Meets Tryz.prog 26 x5n:=by
 refine wx5 (snd (SpecsOk.nil _)) Tryz.func26 rfl rfl (λ_ _=>none) (λ_=>by kernel_rfl) (by decide) ?_
 rintro⟨l,k,⟨⟩⟩ -
 revert l k
 intro(l:List (List Int)) (k:Int)
 refine @qe7 _ (((l=l/\True)/\(0:Nat)=(0:Nat))/\((k=k/\True)/\(0:Nat)=(0:Nat))/\True) (by kernel_rfl) ?_
 try simp only[z0,z1,z2,z3,z4,z5,z6,z7,z8,z9,z10,Int.reduceEq,z11,z12,z13,z14,z15,z16,z17,z18,z19,z20,z21,z22,z23,z24,z25,z26,z27,z28,z29,z30,Int.reduceLE,Int.reduceLT,z31,z32,z33,z34,qa3]
 try simp only[qb6,qb7,qc7,z31,z32,z2,z1]
def qg5 (l:List (List Int)) (k:Nat):Nat->Int × Int
 | 0=>(0,1)
 | i+1=>wm2 (qg5 l k i) (shR (nL l i) (q1g (nL l i) k))
theorem qt0 {l:List (List Int)} {k:Int} (h:q6t l k):∀i,i<=l.length->qt4 (qg5 l k.toNat i)
 | 0,_=>w5z
 | i+1,hi=>w50 (qt0 h i (by omega)) (q6p (h.shr i (by omega)))
abbrev xx3:AV:=.cons (.lit (.int .i64 0)) (.cons (.lit (.int .i64 0)) .nil)
def x1l (l:List (List Int)) (k:Int):Nat->Option Inv
 | 0=>some (Inv.of [] 3 (λ_:Nat=>[]) (λi=>[.box 29 xx3,.box 29 (.cons (.lit (.int .i64 (qg5 l k.toNat i).1)) (.cons (.lit (.int .i64 (qg5 l k.toNat i).2)) .nil)),.box 56 (.cons (.clo 47 (.cons (.box 1 0) .nil)) .nil)]) (λi=>i<=l.length) (λi=>i))
 | _=>none
abbrev x5o:qb9:=qg6 true none [tMask,tInt] [q05] (λx=>q6t x.1 x.2.1) (λx=>(qg5 x.1 x.2.1.toNat x.1.length,()))
theorem q6u:Meets Tryz.prog 12 x5o:=by
 refine meets (x49 (SpecsOk.cons w5y (SpecsOk.cons w57 (SpecsOk.cons w2m (SpecsOk.nil _)))) (ItsOk.cons w56 ItsOk.nil) (BxsOk.cons w2l BxsOk.nil)) Tryz.func12 rfl rfl (λx=>x1l x.1 x.2.1) (λ_=>by kernel_rfl) (by decide) ?_
 rintro⟨l,k,⟨⟩⟩ h
 revert l k
 intro(l:List (List Int)) (k:Int) (h:q6t l k)
 refine @qe7 _ (let Q0:=qg5 l k.toNat l.length; True/\True/\q6t l k/\∃(v0:Unit),∃(v1:Nat),Nat.le v1 l.length/\v1=(0:Nat)/\(((0:Int)=(0:Int)/\(0:Int)=(0:Int)/\True)/\((0:Int)=(qg5 l k.toNat v1).1/\(1:Int)=(qg5 l k.toNat v1).2/\True)/\((True/\True)/\True)/\True)/\∀(v2:Nat),Nat.le v2 l.length->(∀(v4:List Int × qa4._f [q05] ⟨qa4._f [] PUnit.unit,PUnit.unit⟩),(List.map (λ(v6:List Int × Int × Int)=>(v6.1,v6.2,())) (w9u l k.toNat))[v2]?=some v4->(qt4 ((qg5 l k.toNat v2).1,(qg5 l k.toNat v2).2)/\qt4 (v4.2.1.1,v4.2.1.2))/\∃(v6:Nat),Nat.le v6 l.length/\v6=v2+(1:Nat)/\((0:Int)=(0:Int)/\(0:Int)=(0:Int)/\True)/\((wm2 ((qg5 l k.toNat v2).1,(qg5 l k.toNat v2).2) (v4.2.1.1,v4.2.1.2)).1=(qg5 l k.toNat v6).1/\(wm2 ((qg5 l k.toNat v2).1,(qg5 l k.toNat v2).2) (v4.2.1.1,v4.2.1.2)).2=(qg5 l k.toNat v6).2/\True)/\((True/\True)/\True)/\True)/\(v2=(List.map (λ(v5:List Int × Int × Int)=>(v5.1,v5.2,())) (w9u l k.toNat)).length->True/\(qg5 l k.toNat v2).1=Q0.1/\(qg5 l k.toNat v2).2=Q0.2/\True)) (by kernel_rfl) ?_
 try simp only[z0,z1,z2,z3,z4,z5,z6,z7,z8,z9,z10,Int.reduceEq,z11,z12,z13,z14,z15,z16,z17,z18,z19,z20,z21,z22,z23,z24,z25,z26,z27,z28,z29,z30,Int.reduceLE,Int.reduceLT,z31,z32,z33,z34,qa3]
 try simp only[qb6,qb7,qc7,z31,z32,z2,z1]
 refine⟨h,(),0,Nat.zero_le _,rfl,⟨rfl,rfl⟩,λi hi=>⟨λd hd=>?_,λhe=>?_⟩⟩
 ·have hd:((w9u l k.toNat).map λq=>((q.1,q.2,()):qa4 [tInts,q05]))[i]? = some d:=hd
  have hlt:i<l.length:=by
   have:=(List.getElem?_eq_some_iff.1 hd).1
   rw[List.length_map] at this
   exact Nat.lt_of_lt_of_eq this (List.length_map _)
  rw[xd8 hlt] at hd
  obtain rfl:=Option.some.inj hd
  exact⟨⟨qt0 h i hi,q6p (h.shr i hlt)⟩,i+1,hlt,rfl,rfl,rfl⟩
 ·have he:i=((w9u l k.toNat).map λq=>((q.1,q.2,()):qa4 [tInts,q05])).length:=he
  rw[List.length_map] at he
  obtain rfl:i=l.length:=he.trans (List.length_map _)
  exact⟨rfl,rfl⟩
def wj7 (m:List (List Int)) (k least:Int):Int:=if validB m=false then 1 else if inB k least (nL m 0).length=false then 7 else 0
abbrev x1m:qb9:=qg6 true none [tMask,tInt,tInt] [tInt] (λ_=>True) (λx=>(wj7 x.1 x.2.1 x.2.2.1,()))
theorem w2p:Meets Tryz.prog 19 x1m:=by
 refine meets (snd (SpecsOk.cons q40 (SpecsOk.cons q91 (SpecsOk.nil _)))) Tryz.func19 rfl rfl (λ_ _=>none) (λ_=>by kernel_rfl) (by decide) ?_
 rintro⟨m,k,q,⟨⟩⟩ -
 revert m k q
 intro(m:List (List Int)) (k:Int) (q:Int)
 refine @qe7 _ (True/\((!validB m)=true->(1:Int)=wj7 m k q)/\((!validB m)=false->((0:Int)<=(0:Int)/\(0:Int)<(↑m.length:Int))/\True/\((!inB k q (↑(nL m (0:Nat)).length:Int))=true->(7:Int)=wj7 m k q)/\((!inB k q (↑(nL m (0:Nat)).length:Int))=false->(0:Int)=wj7 m k q))) (by kernel_rfl) ?_
 try simp only[z0,z1,z2,z3,z4,z5,z6,z7,z8,z9,z10,Int.reduceEq,z11,z12,z13,z14,z15,z16,z17,z18,z19,z20,z21,z22,z23,z24,z25,z26,z27,z28,z29,z30,Int.reduceLE,Int.reduceLT,z31,z32,z33,z34,qa3]
 try simp only[qb6,qb7,qc7,z31,z32,z2,z1]
 refine⟨λhv=>(if_pos hv).symm,λhv=>⟨by have:=(Mk.of hv).rows1; omega,λhb=>?_,λhb=>?_⟩⟩
 ·unfold wj7; rw[hv,hb]; rfl
 ·unfold wj7; rw[hv,hb]; rfl
structure wy9 (m:List (List Int)):Prop where
 cir:validB m=true->q7o m
 shs:validB m=true->∀k:Nat,k<=(nL m 0).length->q6t (qc9 m).1 k
def grQ (m:List (List Int)) (k:Int):Int × Int:=if wj7 m k 0=0 then qg5 (qc9 m).1 k.toNat (qc9 m).1.length else(0,0)
theorem xl0 {m:List (List Int)} {k q:Int} (h:wj7 m k q=0) (hq:0<=q:=by decide):validB m=true/\∃n:Nat,k=n/\n<=(nL m 0).length:=by
 unfold wj7 at h
 split at h
 ·cases h
 ·rename_i hv
  split at h
  ·cases h
  ·rename_i hb
   have hb:=inB_iff.1 (by cases e:inB k q (nL m 0).length with | true=>rfl | false=>exact absurd e hb)
   exact⟨by cases e:validB m with | true=>rfl | false=>exact absurd e hv,k.toNat,by omega,by omega⟩
abbrev xu1:qb9:=qg6 true none [tMask,tInt] [q05,tInt] (λx=>wy9 x.1) (λx=>(grQ x.1 x.2.1,wj7 x.1 x.2.1 0,()))
theorem wq7:Meets Tryz.prog 8 xu1:=by
 refine meets (snd (SpecsOk.cons w2p (SpecsOk.cons q3x (SpecsOk.cons q6u (SpecsOk.nil _))))) Tryz.func8 rfl rfl (λ_ _=>none) (λ_=>by kernel_rfl) (by decide) ?_
 rintro⟨m,k,⟨⟩⟩ h
 revert m k
 intro(m:List (List Int)) (k:Int) (h:wy9 m)
 refine @qe7 _ (let Q0:=qg5 (qc9 m).1 k.toNat (qc9 m).1.length; True/\((wj7 m k (0:Int) != (0:Int))=true->((0:Int)=(grQ m k).1/\(0:Int)=(grQ m k).2/\True)/\wj7 m k (0:Int)=wj7 m k (0:Int)/\True)/\((wj7 m k (0:Int) != (0:Int))=false->(validB m=true->q7o m)/\q6t (qc9 m).1 k/\(Q0.1=(grQ m k).1/\Q0.2=(grQ m k).2/\True)/\(0:Int)=wj7 m k (0:Int)/\True)) (by kernel_rfl) ?_
 try simp only[z0,z1,z2,z3,z4,z5,z6,z7,z8,z9,z10,Int.reduceEq,z11,z12,z13,z14,z15,z16,z17,z18,z19,z20,z21,z22,z23,z24,z25,z26,z27,z28,z29,z30,Int.reduceLE,Int.reduceLT,z31,z32,z33,z34,qa3]
 try simp only[qb6,qb7,qc7,z31,z32,z2,z1]
 refine⟨λhe=>?_,λhe=>?_⟩
 ·unfold grQ; rw[if_neg he]; exact⟨rfl,rfl⟩
 ·obtain⟨hv,n,rfl,hn⟩:=xl0 he
  unfold grQ; rw[if_pos he]
  exact⟨h.cir,h.shs hv n hn,⟨rfl,rfl⟩,he.symm⟩
def hlf (r:Int × Int):Bool:=decide (r.2<=2*r.1)
abbrev x1n:qb9:=qg6 true none [q05] [.bool] (λx=>qt4 x.1) (λx=>(hlf x.1,()))
theorem w2q:Meets Tryz.prog 29 x1n:=by
 refine meets (snd (SpecsOk.nil _)) Tryz.func29 rfl rfl (λ_ _=>none) (λ_=>by kernel_rfl) (by decide) ?_
 rintro⟨⟨a,b⟩,⟨⟩⟩ h
 revert a b
 intro(a:Int) (b:Int) (h:qt4 (a,b))
 refine @qe7 _ (fits .i64 ((2:Int)*a)/\decide (b<=(2:Int)*a)=hlf (a,b)) (by kernel_rfl) ?_
 try simp only[z0,z1,z2,z3,z4,z5,z6,z7,z8,z9,z10,Int.reduceEq,z11,z12,z13,z14,z15,z16,z17,z18,z19,z20,z21,z22,z23,z24,z25,z26,z27,z28,z29,z30,Int.reduceLE,Int.reduceLT,z31,z32,z33,z34,qa3]
 try simp only[qb6,qb7,qc7,z31,z32,z2,z1]
 have h1:=h.n
 obtain⟨h1,h2⟩:=h1
 dsimp only at h1 h2
 exact⟨qa7 (by omega) (by omega),rfl⟩
def ordF (l:List (List Int)):Nat->Nat->Nat
 | 0,k=>k
 | f+1,k=>if hlf (qg5 l (k+1) l.length)=false then ordF l f (k+1) else k
def ordL (m:List (List Int)):Nat:=ordF (qc9 m).1 (nL m 0).length 0
theorem q99 {l:List (List Int)} {n k:Nat} (h:k<n):ordF l (n-k) k=if hlf (qg5 l (k+1) l.length)=false then ordF l (n-(k+1)) (k+1) else k:=by
 obtain⟨f,hf⟩:∃f,n-k=f+1:=⟨n-k-1,by omega⟩
 rw[hf,show n-(k+1)=f by omega,ordF]
structure wj8 (l:List (List Int)) (n k:Nat):Prop where
 le:k<=n
 eq:ordF l n 0=ordF l (n-k) k
def x1o (l:List (List Int)) (n:Nat):Nat->Option Inv
 | 0=>some (Inv.of [4] 0 (λk:Nat=>[(4,.lit (.int .i64 k))]) (λ_=>[]) (λk=>wj8 l n k) (λk=>n-k))
 | _=>none
abbrev w9v:qb9:=qg6 true none [tMask] [tInt] (λx=>validB x.1=true/\wy9 x.1) (λx=>((ordL x.1:Nat),()))
theorem q3d:Meets Tryz.prog 16 w9v:=by
 refine meets (snd (SpecsOk.cons q3x (SpecsOk.cons q6u (SpecsOk.cons w2q (SpecsOk.nil _))))) Tryz.func16 rfl rfl (λx=>x1o (qc9 x.1).1 (nL x.1 0).length) (λ_=>by kernel_rfl) (by decide) ?_
 rintro⟨m,⟨⟩⟩ h
 revert m
 intro(m:List (List Int)) (h:validB m=true/\wy9 m)
 refine @qe7 _ ((validB m=true->q7o m)/\∃(v0:Unit),∃(v1:Nat),wj8 (qc9 m).1 (nL m (0:Nat)).length v1/\(((0:Int)=(↑v1:Int)/\True)/\True)/\∀(v2:Nat),wj8 (qc9 m).1 (nL m (0:Nat)).length v2->((0:Int)<=(0:Int)/\(0:Int)<(↑m.length:Int))/\(decide ((↑v2:Int)<(↑(nL m (0:Nat)).length:Int))=true->fits .i64 ((↑v2:Int)+(1:Int))/\q6t (qc9 m).1 ((↑v2:Int)+(1:Int))/\qt4 ((qg5 (qc9 m).1 ((↑v2:Int)+(1:Int)).toNat (qc9 m).1.length).1,(qg5 (qc9 m).1 ((↑v2:Int)+(1:Int)).toNat (qc9 m).1.length).2)/\((!hlf ((qg5 (qc9 m).1 ((↑v2:Int)+(1:Int)).toNat (qc9 m).1.length).1,(qg5 (qc9 m).1 ((↑v2:Int)+(1:Int)).toNat (qc9 m).1.length).2))=true->fits .i64 ((↑v2:Int)+(1:Int))/\∃(v6:Nat),wj8 (qc9 m).1 (nL m (0:Nat)).length v6/\(nL m (0:Nat)).length-v6<(nL m (0:Nat)).length-v2/\((↑v2:Int)+(1:Int)=(↑v6:Int)/\True)/\True)/\((!hlf ((qg5 (qc9 m).1 ((↑v2:Int)+(1:Int)).toNat (qc9 m).1.length).1,(qg5 (qc9 m).1 ((↑v2:Int)+(1:Int)).toNat (qc9 m).1.length).2))=false->(↑v2:Int)=(↑(ordL m):Int)))/\(decide ((↑v2:Int)<(↑(nL m (0:Nat)).length:Int))=false->(↑v2:Int)=(↑(ordL m):Int))) (by kernel_rfl) ?_
 try simp only[z0,z1,z2,z3,z4,z5,z6,z7,z8,z9,z10,Int.reduceEq,z11,z12,z13,z14,z15,z16,z17,z18,z19,z20,z21,z22,z23,z24,z25,z26,z27,z28,z29,z30,Int.reduceLE,Int.reduceLT,z31,z32,z33,z34,qa3]
 try simp only[qb6,qb7,qc7,z31,z32,z2,z1]
 have hM:=Mk.of h.1
 have m1:=hM.rows1
 have m10:=hM.pix10
 have hc:=h.2.shs h.1
 refine⟨h.2.cir,(),0,⟨Nat.zero_le _,rfl⟩,rfl,λk hk=>⟨by omega,λhlt=>?_,λhge=>?_⟩⟩
 ·have e:((k:Int)+1).toNat=k+1:=by omega
  have e2:((k:Int)+1)=((k+1:Nat):Int):=by push_cast; rfl
  have hs:=hc (k+1) (by omega)
  have hl:=qt0 hs (qc9 m).1.length (Nat.le_refl _)
  rw[Int.toNat_natCast] at hl
  rw[e,e2]
  refine⟨qa7 (by omega) (by omega),hs,hl,λhf=>⟨qa7 (by omega) (by omega),k+1,⟨by omega,?_⟩,by omega,rfl⟩,λhf=>?_⟩
  ·rw[hk.eq,q99 hlt]
   exact if_pos hf
  ·have:ordL m=k:=by
    unfold ordL
    rw[hk.eq,q99 hlt,if_neg (by rw[show hlf (qg5 (qc9 m).1 (k+1) (qc9 m).1.length)=true from hf]; simp)]
   rw[this]
 ·have hle:=hk.le
  have e:k=(nL m 0).length:=by omega
  have:ordL m=k:=by
   unfold ordL
   rw[hk.eq,e,Nat.sub_self]; rfl
  rw[this]
def qy4 (m:List (List Int)):Int × Int:=if validB m=true then((ordL m:Nat),0) else(0,1)
abbrev xu2:qb9:=qg6 true none [tMask] [tInt,tInt] (λx=>wy9 x.1) (λx=>((qy4 x.1).1,(qy4 x.1).2,()))
theorem wq8:Meets Tryz.prog 9 xu2:=by
 refine meets (snd (SpecsOk.cons q40 (SpecsOk.cons q3d (SpecsOk.nil _)))) Tryz.func9 rfl rfl (λ_ _=>none) (λ_=>by kernel_rfl) (by decide) ?_
 rintro⟨m,⟨⟩⟩ h
 revert m
 intro(m:List (List Int)) (h:wy9 m)
 refine @qe7 _ (True/\((!validB m)=true->(0:Int)=(qy4 m).1/\(1:Int)=(qy4 m).2/\True)/\((!validB m)=false->(validB m=true/\wy9 m)/\(↑(ordL m):Int)=(qy4 m).1/\(0:Int)=(qy4 m).2/\True)) (by kernel_rfl) ?_
 try simp only[z0,z1,z2,z3,z4,z5,z6,z7,z8,z9,z10,Int.reduceEq,z11,z12,z13,z14,z15,z16,z17,z18,z19,z20,z21,z22,z23,z24,z25,z26,z27,z28,z29,z30,Int.reduceLE,Int.reduceLT,z31,z32,z33,z34,qa3]
 try simp only[qb6,qb7,qc7,z31,z32,z2,z1]
 refine⟨λhv=>?_,λhv=>⟨⟨hv,h⟩,?_⟩⟩
 ·unfold qy4; rw[hv]; exact⟨rfl,rfl⟩
 ·unfold qy4; rw[if_pos hv]; exact⟨rfl,rfl⟩
def xl1 (l:List Int):Bool:=(decide (7<l.length) && decide (l.length<=10)) || decide (20<l.length)
def w2r (m:List (List Int)):Bool:=!(m.any xl1) && decide (m.length<=8)
structure w2s (m:List (List Int)) (k:Nat):Prop where
 le:k<=m.length
 ok:∀i,i<k->xl1 (nL m i)=false
def xu3 (m:List (List Int)):Nat->Option Inv
 | 0=>some (Inv.of [7] 0 (λk:Nat=>[(7,.lit (.int .i64 k))]) (λ_=>[]) (λk=>w2s m k) (λk=>m.length-k))
 | _=>none
abbrev x1p:qb9:=qg6 true none [tMask] [.bool] (λx=>x.1.length<=9223372036854775807) (λx=>(w2r x.1,()))
theorem w2t:Meets Tryz.prog 4 x1p:=by
 refine meets (snd (SpecsOk.nil _)) Tryz.func4 rfl rfl (λx=>xu3 x.1) (λ_=>by kernel_rfl) (by decide) ?_
 rintro⟨m,⟨⟩⟩ h
 revert m
 intro(m:List (List Int)) (h:m.length<=9223372036854775807)
 refine @qe7 _ (∃(v0:Unit),∃(v1:Nat),w2s m v1/\(((0:Int)=(↑v1:Int)/\True)/\True)/\∀(v2:Nat),w2s m v2->(decide ((↑v2:Int)<(↑m.length:Int))=true->((0:Int)<=(↑v2:Int)/\(↑v2:Int)<(↑m.length:Int))/\(decide ((7:Int)<(↑(nL m v2).length:Int))=true->(decide ((↑(nL m v2).length:Int)<=(10:Int))=true->false=w2r m)/\(decide ((↑(nL m v2).length:Int)<=(10:Int))=false->(decide ((20:Int)<(↑(nL m v2).length:Int))=true->false=w2r m)/\(decide ((20:Int)<(↑(nL m v2).length:Int))=false->fits .i64 ((↑v2:Int)+(1:Int))/\∃(v8:Nat),w2s m v8/\m.length-v8<m.length-v2/\((↑v2:Int)+(1:Int)=(↑v8:Int)/\True)/\True)))/\(decide ((7:Int)<(↑(nL m v2).length:Int))=false->(decide ((20:Int)<(↑(nL m v2).length:Int))=true->false=w2r m)/\(decide ((20:Int)<(↑(nL m v2).length:Int))=false->fits .i64 ((↑v2:Int)+(1:Int))/\∃(v7:Nat),w2s m v7/\m.length-v7<m.length-v2/\((↑v2:Int)+(1:Int)=(↑v7:Int)/\True)/\True)))/\(decide ((↑v2:Int)<(↑m.length:Int))=false->decide ((↑m.length:Int)<=(8:Int))=w2r m)) (by kernel_rfl) ?_
 try simp only[z0,z1,z2,z3,z4,z5,z6,z7,z8,z9,z10,Int.reduceEq,z11,z12,z13,z14,z15,z16,z17,z18,z19,z20,z21,z22,z23,z24,z25,z26,z27,z28,z29,z30,Int.reduceLE,Int.reduceLT,z31,z32,z33,z34,qa3]
 try simp only[qb6,qb7,qc7,z31,z32,z2,z1]
 refine⟨(),0,⟨Nat.zero_le _,λi hi=>by omega⟩,rfl,λk hk=>⟨λhlt=>?_,λhge=>?_⟩⟩
 ·have bad:xl1 (nL m k)=true->false=w2r m:=λq=>by
   unfold w2r
   rw[List.any_eq_true.2 ⟨nL m k,qk1 m k hlt,q⟩]; rfl
  have good:xl1 (nL m k)=false->fits IntKind.i64 (↑k+1)/\∃v8,w2s m v8/\m.length-v8<m.length-k/\(↑k+1:Int)=↑v8:=λq=>⟨qa7 (by omega) (by omega),k+1,⟨hlt,λi hi=>by
   by_cases e:i=k
   ·subst e; exact q
   ·exact hk.ok i (by omega)⟩,by omega,by push_cast; rfl⟩
  refine⟨hlt,λh7=>⟨λh10=>bad ?_,λh10=>⟨λh20=>bad ?_,λh20=>good ?_⟩⟩,λh7=>⟨λh20=>bad ?_,λh20=>good ?_⟩⟩ <;> (unfold xl1; simp; omega)
 ·have hle:=hk.le
  have e:m.any xl1=false:=by
   rw[List.any_eq_false]
   intro x hx
   obtain⟨i,hi,rfl⟩:=List.mem_iff_getElem.1 hx
   have:=hk.ok i (by omega)
   rw[ql4 _ _ hi] at this
   rw[this]; simp
  unfold w2r
  rw[e]
  simp only[Bool.not_false,Bool.true_and]
  congr 1
  apply propext
  constructor <;> intro q <;> omega
end Go.Proofs.YtempacilejhbgaaGreatDoor
