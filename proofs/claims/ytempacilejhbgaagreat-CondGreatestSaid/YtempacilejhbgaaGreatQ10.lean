/- Masks on top of each other, as the document says: contracts by the engine. No condition. -/
import Derived.Test.YtempacilejhbgaaGreatQ7
import Derived.Test.YtempacilejhbgaaGreatEngT2
set_option linter.unusedVariables false
set_option linter.unusedSimpArgs false
namespace Go.Proofs.YtempacilejhbgaaGreat
open Go Go.RowKit Eng
structure q40 (l:List (List Int)) (k:Int):Prop where
 len:l.length<=1000000
 lar:∀i,i<l.length->xb0 (nL l i) k
 shr:∀i,i<l.length->wb4 (nL l i) (qu3 (nL l i) k.toNat)
def w3q (l:List (List Int)) (k:Nat):List (List Int × (Int × Int)):=l.map λh=>(h,shR h (qu3 h k))
theorem w6t {l:List (List Int)} {k i:Nat} (h:i<l.length):((w3q l k).map λq=>((q.1,q.2,()):qa6 [tInts,qz1]))[i]? = some (nL l i,shR (nL l i) (qu3 (nL l i) k),()):=by
 unfold w3q
 rw[List.map_map,List.getElem?_map,List.getElem?_eq_getElem h,qk3 l i h]
 rfl
abbrev x2t:q1k:=w9o [tMask,tInt] [tInts,qz1] (λx=>q40 x.1 x.2.1) (λx=>(w3q x.1 x.2.1.toNat).map λq=>(q.1,q.2,()))
def x2u (l:List (List Int)):Nat->Option Inv
 | 0=>some (Inv.of [8] 1 (λi:Nat=>[(8,.lit (.int .i64 i))]) (λi=>[.cnt (some i)]) (λi=>i<=l.length) (λi=>l.length-i))
 | _=>none
theorem wl8:qy9 Tryz.prog 109 x2t:=by
 refine x2s (snd (SpecsOk.cons w6s (SpecsOk.cons q39 (SpecsOk.nil _)))) rfl Tryz.func109 rfl rfl rfl [12] 6 (λx=>[(7,.lit (.int .i64 (x.1:List (List Int)).length)),(8,.lit (.int .i64 0))]) (λx=>x2u x.1) (by kernel_rfl) (by kernel_rfl) (λ_=>by kernel_rfl) (by decide) (λx l A cp=>⟨rfl,rfl,rfl,rfl,trivial⟩) ?_
 rintro⟨l,k,⟨⟩⟩ q h
 revert l k
 intro(l:List (List Int)) (k:Int) (h:q40 l k)
 refine @qd8 _ (let Q0:=w3q l k.toNat; let Q1:=(l,k,PUnit.unit); ∃(v0:Unit),∃(v1:Nat),Nat.le v1 l.length/\(((0:Int)=(↑v1:Int)/\True)/\some (0:Nat)=some v1/\True)/\∀(v2:Nat),Nat.le v2 l.length->(decide ((↑v2:Int)<(↑l.length:Int))=true->((0:Int)<=(↑v2:Int)/\(↑v2:Int)<(↑l.length:Int))/\xb0 (nL l v2) k/\wb4 (nL l v2) (qu3 (nL l v2) k.toNat)/\Value.func (Fn.yield q) #[] #[]=Value.func (Fn.yield (qj5.l (q64 (Ty.list (Ty.int .i64)) [tInt] [tInts,qz1] [(12:Nat)] (6:Nat) Q1 (List.map (λ(v5:List Int × Int × Int)=>(v5.1,v5.2,())) Q0) q))) #[] #[]/\(qj5.L (q64 (Ty.list (Ty.int .i64)) [tInt] [tInts,qz1] [(12:Nat)] (6:Nat) Q1 (List.map (λ(v5:List Int × Int × Int)=>(v5.1,v5.2,())) Q0) q))[v2]?=some (nL l v2,((shR (nL l v2) (qu3 (nL l v2) k.toNat)).1,(shR (nL l v2) (qu3 (nL l v2) k.toNat)).2),())/\(fits .i64 ((↑v2:Int)+(1:Int))/\∃(v5:Nat),Nat.le v5 l.length/\l.length-v5<l.length-v2/\((↑v2:Int)+(1:Int)=(↑v5:Int)/\True)/\some (v2+(1:Nat))=some v5/\True)/\True)/\(decide ((↑v2:Int)<(↑l.length:Int))=false->v2=(qj5.L (q64 (Ty.list (Ty.int .i64)) [tInt] [tInts,qz1] [(12:Nat)] (6:Nat) Q1 (List.map (λ(v5:List Int × Int × Int)=>(v5.1,v5.2,())) Q0) q)).length)) (by kernel_rfl) ?_
 try simp only[z0,z1,z2,z3,z4,z5,z6,z7,z8,z9,z10,Int.reduceEq,z11,z12,z13,z14,z15,z16,z17,z18,z19,z20,z21,z22,z23,z24,z25,z26,z27,z28,z29,z30,Int.reduceLE,Int.reduceLT,z31,z32,z33,z34,qa3]
 try simp only[qb3,qb4,qc7,z31,z32,z2,z1]
 have hl:=h.len
 refine⟨(),0,Nat.zero_le _,⟨rfl,rfl⟩,λi hi=>⟨λhlt=>⟨hlt,h.lar i hlt,h.shr i hlt,rfl,w6t hlt,qa7 (by omega) (by omega),i+1,hlt,by omega,by push_cast; rfl,rfl⟩,λhge=>?_⟩⟩
 obtain rfl:i=l.length:=by omega
 show _=((w3q l k.toNat).map λq=>((q.1,q.2,()):qa6 [tInts,qz1])).length
 rw[List.length_map]; exact(List.length_map _).symm
abbrev x6x:qb9:=w5l false none [tMask,tInt] (λ_=>True) (λx=>.clo 109 (.cons (.imm (.cons (.dat (.list (.int .i64)) x.1) .nil) 0) (.cons (.imm (.cons (.lit (.int .i64 x.2.1)) .nil) 0) .nil)))
theorem wl9:Meets Tryz.prog 72 x6x:=by
 refine wi9 (snd (SpecsOk.nil _)) Tryz.func72 rfl rfl (λ_ _=>none) (λ_=>by kernel_rfl) (by decide) ?_
 rintro⟨l,k,⟨⟩⟩ -
 revert l k
 intro(l:List (List Int)) (k:Int)
 refine @qd8 _ (((l=l/\True)/\(0:Nat)=(0:Nat))/\((k=k/\True)/\(0:Nat)=(0:Nat))/\True) (by kernel_rfl) ?_
 try simp only[z0,z1,z2,z3,z4,z5,z6,z7,z8,z9,z10,Int.reduceEq,z11,z12,z13,z14,z15,z16,z17,z18,z19,z20,z21,z22,z23,z24,z25,z26,z27,z28,z29,z30,Int.reduceLE,Int.reduceLT,z31,z32,z33,z34,qa3]
 try simp only[qb3,qb4,qc7,z31,z32,z2,z1]
def qg6 (l:List (List Int)) (k:Nat):Nat->Int × Int
 | 0=>(0,1)
 | i+1=>wo7 (qg6 l k i) (shR (nL l i) (qu3 (nL l i) k))
theorem qo0 {l:List (List Int)} {k:Int} (h:q40 l k):∀i,i<=l.length->qs7 (qg6 l k.toNat i)
 | 0,_=>w6m
 | i+1,hi=>w6n (qo0 h i (by omega)) (q61 (h.shr i (by omega)))
abbrev x0h:AV:=.cons (.lit (.int .i64 0)) (.cons (.lit (.int .i64 0)) .nil)
def x2v (l:List (List Int)) (k:Int):Nat->Option Inv
 | 0=>some (Inv.of [] 3 (λ_:Nat=>[]) (λi=>[.box 34 x0h,.box 34 (.cons (.lit (.int .i64 (qg6 l k.toNat i).1)) (.cons (.lit (.int .i64 (qg6 l k.toNat i).2)) .nil)),.box 56 (.cons (.clo 130 (.cons (.box 1 0) .nil)) .nil)]) (λi=>i<=l.length) (λi=>i))
 | _=>none
abbrev x6y:qb9:=qg2 true none [tMask,tInt] [qz1] (λx=>q40 x.1 x.2.1) (λx=>(qg6 x.1 x.2.1.toNat x.1.length,()))
theorem q65:Meets Tryz.prog 70 x6y:=by
 refine meets (x6k (SpecsOk.cons w6l (SpecsOk.cons wl9 (SpecsOk.cons w26 (SpecsOk.nil _)))) (ItsOk.cons wl8 ItsOk.nil) (BxsOk.cons w25 BxsOk.nil)) Tryz.func70 rfl rfl (λx=>x2v x.1 x.2.1) (λ_=>by kernel_rfl) (by decide) ?_
 rintro⟨l,k,⟨⟩⟩ h
 revert l k
 intro(l:List (List Int)) (k:Int) (h:q40 l k)
 refine @qd8 _ (let Q0:=qg6 l k.toNat l.length; True/\True/\q40 l k/\∃(v0:Unit),∃(v1:Nat),Nat.le v1 l.length/\v1=(0:Nat)/\(((0:Int)=(0:Int)/\(0:Int)=(0:Int)/\True)/\((0:Int)=(qg6 l k.toNat v1).1/\(1:Int)=(qg6 l k.toNat v1).2/\True)/\((True/\True)/\True)/\True)/\∀(v2:Nat),Nat.le v2 l.length->(∀(v4:List Int × qa6._f [qz1] ⟨qa6._f [] PUnit.unit,PUnit.unit⟩),(List.map (λ(v6:List Int × Int × Int)=>(v6.1,v6.2,())) (w3q l k.toNat))[v2]?=some v4->(qs7 ((qg6 l k.toNat v2).1,(qg6 l k.toNat v2).2)/\qs7 (v4.2.1.1,v4.2.1.2))/\∃(v6:Nat),Nat.le v6 l.length/\v6=v2+(1:Nat)/\((0:Int)=(0:Int)/\(0:Int)=(0:Int)/\True)/\((wo7 ((qg6 l k.toNat v2).1,(qg6 l k.toNat v2).2) (v4.2.1.1,v4.2.1.2)).1=(qg6 l k.toNat v6).1/\(wo7 ((qg6 l k.toNat v2).1,(qg6 l k.toNat v2).2) (v4.2.1.1,v4.2.1.2)).2=(qg6 l k.toNat v6).2/\True)/\((True/\True)/\True)/\True)/\(v2=(List.map (λ(v5:List Int × Int × Int)=>(v5.1,v5.2,())) (w3q l k.toNat)).length->True/\(qg6 l k.toNat v2).1=Q0.1/\(qg6 l k.toNat v2).2=Q0.2/\True)) (by kernel_rfl) ?_
 try simp only[z0,z1,z2,z3,z4,z5,z6,z7,z8,z9,z10,Int.reduceEq,z11,z12,z13,z14,z15,z16,z17,z18,z19,z20,z21,z22,z23,z24,z25,z26,z27,z28,z29,z30,Int.reduceLE,Int.reduceLT,z31,z32,z33,z34,qa3]
 try simp only[qb3,qb4,qc7,z31,z32,z2,z1]
 refine⟨h,(),0,Nat.zero_le _,rfl,⟨rfl,rfl⟩,λi hi=>⟨λd hd=>?_,λhe=>?_⟩⟩
 ·have hd:((w3q l k.toNat).map λq=>((q.1,q.2,()):qa6 [tInts,qz1]))[i]? = some d:=hd
  have hlt:i<l.length:=by
   have:=(List.getElem?_eq_some_iff.1 hd).1
   rw[List.length_map] at this
   exact Nat.lt_of_lt_of_eq this (List.length_map _)
  rw[w6t hlt] at hd
  obtain rfl:=Option.some.inj hd
  exact⟨⟨qo0 h i hi,q61 (h.shr i hlt)⟩,i+1,hlt,rfl,rfl,rfl⟩
 ·have he:i=((w3q l k.toNat).map λq=>((q.1,q.2,()):qa6 [tInts,qz1])).length:=he
  rw[List.length_map] at he
  obtain rfl:i=l.length:=he.trans (List.length_map _)
  exact⟨rfl,rfl⟩
def qm9 (m:List (List Int)) (k least:Int):Int:=if validB m=false then 1 else if inB k least (nL m 0).length=false then 7 else 0
abbrev x2w:qb9:=qg2 true none [tMask,tInt,tInt] [tInt] (λ_=>True) (λx=>(qm9 x.1 x.2.1 x.2.2.1,()))
theorem q81:Meets Tryz.prog 69 x2w:=by
 refine meets (snd (SpecsOk.cons wa5 (SpecsOk.cons qy1 (SpecsOk.nil _)))) Tryz.func69 rfl rfl (λ_ _=>none) (λ_=>by kernel_rfl) (by decide) ?_
 rintro⟨m,k,q,⟨⟩⟩ -
 revert m k q
 intro(m:List (List Int)) (k:Int) (q:Int)
 refine @qd8 _ (True/\((!validB m)=true->(1:Int)=qm9 m k q)/\((!validB m)=false->((0:Int)<=(0:Int)/\(0:Int)<(↑m.length:Int))/\True/\((!inB k q (↑(nL m (0:Nat)).length:Int))=true->(7:Int)=qm9 m k q)/\((!inB k q (↑(nL m (0:Nat)).length:Int))=false->(0:Int)=qm9 m k q))) (by kernel_rfl) ?_
 try simp only[z0,z1,z2,z3,z4,z5,z6,z7,z8,z9,z10,Int.reduceEq,z11,z12,z13,z14,z15,z16,z17,z18,z19,z20,z21,z22,z23,z24,z25,z26,z27,z28,z29,z30,Int.reduceLE,Int.reduceLT,z31,z32,z33,z34,qa3]
 try simp only[qb3,qb4,qc7,z31,z32,z2,z1]
 refine⟨λhv=>(if_pos hv).symm,λhv=>⟨by have:=(Mk.of hv).rows1; omega,λhb=>?_,λhb=>?_⟩⟩
 ·unfold qm9; rw[hv,hb]; rfl
 ·unfold qm9; rw[hv,hb]; rfl
structure wo8 (m:List (List Int)):Prop where
 cir:validB m=true->q7y m
 shs:validB m=true->∀k:Nat,k<=(nL m 0).length->q40 (qc0 m).1 k
def grQ (m:List (List Int)) (k:Int):Int × Int:=if qm9 m k 0=0 then qg6 (qc0 m).1 k.toNat (qc0 m).1.length else(0,0)
theorem q4c {m:List (List Int)} {k q:Int} (h:qm9 m k q=0) (hq:0<=q:=by decide):validB m=true/\∃n:Nat,k=n/\n<=(nL m 0).length:=by
 unfold qm9 at h
 split at h
 ·cases h
 ·rename_i hv
  split at h
  ·cases h
  ·rename_i hb
   have hb:=inB_iff.1 (by cases e:inB k q (nL m 0).length with | true=>rfl | false=>exact absurd e hb)
   exact⟨by cases e:validB m with | true=>rfl | false=>exact absurd e hv,k.toNat,by omega,by omega⟩
abbrev xx6:qb9:=qg2 true none [tMask,tInt] [qz1,tInt] (λx=>wo8 x.1) (λx=>(grQ x.1 x.2.1,qm9 x.1 x.2.1 0,()))
theorem q66:Meets Tryz.prog 24 xx6:=by
 refine meets (snd (SpecsOk.cons q81 (SpecsOk.cons q4a (SpecsOk.cons q65 (SpecsOk.nil _))))) Tryz.func24 rfl rfl (λ_ _=>none) (λ_=>by kernel_rfl) (by decide) ?_
 rintro⟨m,k,⟨⟩⟩ h
 revert m k
 intro(m:List (List Int)) (k:Int) (h:wo8 m)
 refine @qd8 _ (let Q0:=qg6 (qc0 m).1 k.toNat (qc0 m).1.length; True/\((qm9 m k (0:Int) != (0:Int))=true->((0:Int)=(grQ m k).1/\(0:Int)=(grQ m k).2/\True)/\qm9 m k (0:Int)=qm9 m k (0:Int)/\True)/\((qm9 m k (0:Int) != (0:Int))=false->(validB m=true->q7y m)/\q40 (qc0 m).1 k/\(Q0.1=(grQ m k).1/\Q0.2=(grQ m k).2/\True)/\(0:Int)=qm9 m k (0:Int)/\True)) (by kernel_rfl) ?_
 try simp only[z0,z1,z2,z3,z4,z5,z6,z7,z8,z9,z10,Int.reduceEq,z11,z12,z13,z14,z15,z16,z17,z18,z19,z20,z21,z22,z23,z24,z25,z26,z27,z28,z29,z30,Int.reduceLE,Int.reduceLT,z31,z32,z33,z34,qa3]
 try simp only[qb3,qb4,qc7,z31,z32,z2,z1]
 refine⟨λhe=>?_,λhe=>?_⟩
 ·unfold grQ; rw[if_neg he]; exact⟨rfl,rfl⟩
 ·obtain⟨hv,n,rfl,hn⟩:=q4c he
  unfold grQ; rw[if_pos he]
  exact⟨h.cir,h.shs hv n hn,⟨rfl,rfl⟩,he.symm⟩
def hlf (r:Int × Int):Bool:=decide (r.2<=2*r.1)
abbrev x2x:qb9:=qg2 true none [qz1] [.bool] (λx=>qs7 x.1) (λx=>(hlf x.1,()))
theorem w29:Meets Tryz.prog 47 x2x:=by
 refine meets (snd (SpecsOk.nil _)) Tryz.func47 rfl rfl (λ_ _=>none) (λ_=>by kernel_rfl) (by decide) ?_
 rintro⟨⟨a,b⟩,⟨⟩⟩ h
 revert a b
 intro(a:Int) (b:Int) (h:qs7 (a,b))
 refine @qd8 _ (fits .i64 ((2:Int)*a)/\decide (b<=(2:Int)*a)=hlf (a,b)) (by kernel_rfl) ?_
 try simp only[z0,z1,z2,z3,z4,z5,z6,z7,z8,z9,z10,Int.reduceEq,z11,z12,z13,z14,z15,z16,z17,z18,z19,z20,z21,z22,z23,z24,z25,z26,z27,z28,z29,z30,Int.reduceLE,Int.reduceLT,z31,z32,z33,z34,qa3]
 try simp only[qb3,qb4,qc7,z31,z32,z2,z1]
 have h1:=h.n
 obtain⟨h1,h2⟩:=h1
 dsimp only at h1 h2
 exact⟨qa7 (by omega) (by omega),rfl⟩
def ordF (l:List (List Int)):Nat->Nat->Nat
 | 0,k=>k
 | f+1,k=>if hlf (qg6 l (k+1) l.length)=false then ordF l f (k+1) else k
def ordL (m:List (List Int)):Nat:=ordF (qc0 m).1 (nL m 0).length 0
theorem w0n {l:List (List Int)} {n k:Nat} (h:k<n):ordF l (n-k) k=if hlf (qg6 l (k+1) l.length)=false then ordF l (n-(k+1)) (k+1) else k:=by
 obtain⟨f,hf⟩:∃f,n-k=f+1:=⟨n-k-1,by omega⟩
 rw[hf,show n-(k+1)=f by omega,ordF]
structure xb4 (l:List (List Int)) (n k:Nat):Prop where
 le:k<=n
 eq:ordF l n 0=ordF l (n-k) k
def x2y (l:List (List Int)) (n:Nat):Nat->Option Inv
 | 0=>some (Inv.of [4] 0 (λk:Nat=>[(4,.lit (.int .i64 k))]) (λ_=>[]) (λk=>xb4 l n k) (λk=>n-k))
 | _=>none
abbrev xb5:qb9:=qg2 true none [tMask] [tInt] (λx=>validB x.1=true/\wo8 x.1) (λx=>((ordL x.1:Nat),()))
theorem wb6:Meets Tryz.prog 50 xb5:=by
 refine meets (snd (SpecsOk.cons q4a (SpecsOk.cons q65 (SpecsOk.cons w29 (SpecsOk.nil _))))) Tryz.func50 rfl rfl (λx=>x2y (qc0 x.1).1 (nL x.1 0).length) (λ_=>by kernel_rfl) (by decide) ?_
 rintro⟨m,⟨⟩⟩ h
 revert m
 intro(m:List (List Int)) (h:validB m=true/\wo8 m)
 refine @qd8 _ ((validB m=true->q7y m)/\∃(v0:Unit),∃(v1:Nat),xb4 (qc0 m).1 (nL m (0:Nat)).length v1/\(((0:Int)=(↑v1:Int)/\True)/\True)/\∀(v2:Nat),xb4 (qc0 m).1 (nL m (0:Nat)).length v2->((0:Int)<=(0:Int)/\(0:Int)<(↑m.length:Int))/\(decide ((↑v2:Int)<(↑(nL m (0:Nat)).length:Int))=true->fits .i64 ((↑v2:Int)+(1:Int))/\q40 (qc0 m).1 ((↑v2:Int)+(1:Int))/\qs7 ((qg6 (qc0 m).1 ((↑v2:Int)+(1:Int)).toNat (qc0 m).1.length).1,(qg6 (qc0 m).1 ((↑v2:Int)+(1:Int)).toNat (qc0 m).1.length).2)/\((!hlf ((qg6 (qc0 m).1 ((↑v2:Int)+(1:Int)).toNat (qc0 m).1.length).1,(qg6 (qc0 m).1 ((↑v2:Int)+(1:Int)).toNat (qc0 m).1.length).2))=true->fits .i64 ((↑v2:Int)+(1:Int))/\∃(v6:Nat),xb4 (qc0 m).1 (nL m (0:Nat)).length v6/\(nL m (0:Nat)).length-v6<(nL m (0:Nat)).length-v2/\((↑v2:Int)+(1:Int)=(↑v6:Int)/\True)/\True)/\((!hlf ((qg6 (qc0 m).1 ((↑v2:Int)+(1:Int)).toNat (qc0 m).1.length).1,(qg6 (qc0 m).1 ((↑v2:Int)+(1:Int)).toNat (qc0 m).1.length).2))=false->(↑v2:Int)=(↑(ordL m):Int)))/\(decide ((↑v2:Int)<(↑(nL m (0:Nat)).length:Int))=false->(↑v2:Int)=(↑(ordL m):Int))) (by kernel_rfl) ?_
 try simp only[z0,z1,z2,z3,z4,z5,z6,z7,z8,z9,z10,Int.reduceEq,z11,z12,z13,z14,z15,z16,z17,z18,z19,z20,z21,z22,z23,z24,z25,z26,z27,z28,z29,z30,Int.reduceLE,Int.reduceLT,z31,z32,z33,z34,qa3]
 try simp only[qb3,qb4,qc7,z31,z32,z2,z1]
 have hM:=Mk.of h.1
 have m1:=hM.rows1
 have m10:=hM.pix10
 have hc:=h.2.shs h.1
 refine⟨h.2.cir,(),0,⟨Nat.zero_le _,rfl⟩,rfl,λk hk=>⟨by omega,λhlt=>?_,λhge=>?_⟩⟩
 ·have e:((k:Int)+1).toNat=k+1:=by omega
  have e2:((k:Int)+1)=((k+1:Nat):Int):=by push_cast; rfl
  have hs:=hc (k+1) (by omega)
  have hl:=qo0 hs (qc0 m).1.length (Nat.le_refl _)
  rw[Int.toNat_natCast] at hl
  rw[e,e2]
  refine⟨qa7 (by omega) (by omega),hs,hl,λhf=>⟨qa7 (by omega) (by omega),k+1,⟨by omega,?_⟩,by omega,rfl⟩,λhf=>?_⟩
  ·rw[hk.eq,w0n hlt]
   exact if_pos hf
  ·have:ordL m=k:=by
    unfold ordL
    rw[hk.eq,w0n hlt,if_neg (by rw[show hlf (qg6 (qc0 m).1 (k+1) (qc0 m).1.length)=true from hf]; simp)]
   rw[this]
 ·have hle:=hk.le
  have e:k=(nL m 0).length:=by omega
  have:ordL m=k:=by
   unfold ordL
   rw[hk.eq,e,Nat.sub_self]; rfl
  rw[this]
def w3r (m:List (List Int)):Int × Int:=if validB m=true then((ordL m:Nat),0) else(0,1)
abbrev xx7:qb9:=qg2 true none [tMask] [tInt,tInt] (λx=>wo8 x.1) (λx=>((w3r x.1).1,(w3r x.1).2,()))
theorem wt4:Meets Tryz.prog 13 xx7:=by
 refine meets (snd (SpecsOk.cons wa5 (SpecsOk.cons wb6 (SpecsOk.nil _)))) Tryz.func13 rfl rfl (λ_ _=>none) (λ_=>by kernel_rfl) (by decide) ?_
 rintro⟨m,⟨⟩⟩ h
 revert m
 intro(m:List (List Int)) (h:wo8 m)
 refine @qd8 _ (True/\((!validB m)=true->(0:Int)=(w3r m).1/\(1:Int)=(w3r m).2/\True)/\((!validB m)=false->(validB m=true/\wo8 m)/\(↑(ordL m):Int)=(w3r m).1/\(0:Int)=(w3r m).2/\True)) (by kernel_rfl) ?_
 try simp only[z0,z1,z2,z3,z4,z5,z6,z7,z8,z9,z10,Int.reduceEq,z11,z12,z13,z14,z15,z16,z17,z18,z19,z20,z21,z22,z23,z24,z25,z26,z27,z28,z29,z30,Int.reduceLE,Int.reduceLT,z31,z32,z33,z34,qa3]
 try simp only[qb3,qb4,qc7,z31,z32,z2,z1]
 refine⟨λhv=>?_,λhv=>⟨⟨hv,h⟩,?_⟩⟩
 ·unfold w3r; rw[hv]; exact⟨rfl,rfl⟩
 ·unfold w3r; rw[if_pos hv]; exact⟨rfl,rfl⟩
def xn8 (l:List Int):Bool:=(decide (7<l.length) && decide (l.length<=10)) || decide (20<l.length)
def w3s (m:List (List Int)):Bool:=!(m.any xn8) && decide (m.length<=8)
structure w3a (m:List (List Int)) (k:Nat):Prop where
 le:k<=m.length
 ok:∀i,i<k->xn8 (nL m i)=false
def xx8 (m:List (List Int)):Nat->Option Inv
 | 0=>some (Inv.of [7] 0 (λk:Nat=>[(7,.lit (.int .i64 k))]) (λ_=>[]) (λk=>w3a m k) (λk=>m.length-k))
 | _=>none
abbrev x2z:qb9:=qg2 true none [tMask] [.bool] (λx=>x.1.length<=9223372036854775807) (λx=>(w3s x.1,()))
theorem w3b:Meets Tryz.prog 9 x2z:=by
 refine meets (snd (SpecsOk.nil _)) Tryz.func9 rfl rfl (λx=>xx8 x.1) (λ_=>by kernel_rfl) (by decide) ?_
 rintro⟨m,⟨⟩⟩ h
 revert m
 intro(m:List (List Int)) (h:m.length<=9223372036854775807)
 refine @qd8 _ (∃(v0:Unit),∃(v1:Nat),w3a m v1/\(((0:Int)=(↑v1:Int)/\True)/\True)/\∀(v2:Nat),w3a m v2->(decide ((↑v2:Int)<(↑m.length:Int))=true->((0:Int)<=(↑v2:Int)/\(↑v2:Int)<(↑m.length:Int))/\(decide ((7:Int)<(↑(nL m v2).length:Int))=true->(decide ((↑(nL m v2).length:Int)<=(10:Int))=true->false=w3s m)/\(decide ((↑(nL m v2).length:Int)<=(10:Int))=false->(decide ((20:Int)<(↑(nL m v2).length:Int))=true->false=w3s m)/\(decide ((20:Int)<(↑(nL m v2).length:Int))=false->fits .i64 ((↑v2:Int)+(1:Int))/\∃(v8:Nat),w3a m v8/\m.length-v8<m.length-v2/\((↑v2:Int)+(1:Int)=(↑v8:Int)/\True)/\True)))/\(decide ((7:Int)<(↑(nL m v2).length:Int))=false->(decide ((20:Int)<(↑(nL m v2).length:Int))=true->false=w3s m)/\(decide ((20:Int)<(↑(nL m v2).length:Int))=false->fits .i64 ((↑v2:Int)+(1:Int))/\∃(v7:Nat),w3a m v7/\m.length-v7<m.length-v2/\((↑v2:Int)+(1:Int)=(↑v7:Int)/\True)/\True)))/\(decide ((↑v2:Int)<(↑m.length:Int))=false->decide ((↑m.length:Int)<=(8:Int))=w3s m)) (by kernel_rfl) ?_
 try simp only[z0,z1,z2,z3,z4,z5,z6,z7,z8,z9,z10,Int.reduceEq,z11,z12,z13,z14,z15,z16,z17,z18,z19,z20,z21,z22,z23,z24,z25,z26,z27,z28,z29,z30,Int.reduceLE,Int.reduceLT,z31,z32,z33,z34,qa3]
 try simp only[qb3,qb4,qc7,z31,z32,z2,z1]
 refine⟨(),0,⟨Nat.zero_le _,λi hi=>by omega⟩,rfl,λk hk=>⟨λhlt=>?_,λhge=>?_⟩⟩
 ·have bad:xn8 (nL m k)=true->false=w3s m:=λq=>by
   unfold w3s
   rw[List.any_eq_true.2 ⟨nL m k,qj4 m k hlt,q⟩]; rfl
  have good:xn8 (nL m k)=false->fits IntKind.i64 (↑k+1)/\∃v8,w3a m v8/\m.length-v8<m.length-k/\(↑k+1:Int)=↑v8:=λq=>⟨qa7 (by omega) (by omega),k+1,⟨hlt,λi hi=>by
   by_cases e:i=k
   ·subst e; exact q
   ·exact hk.ok i (by omega)⟩,by omega,by push_cast; rfl⟩
  refine⟨hlt,λh7=>⟨λh10=>bad ?_,λh10=>⟨λh20=>bad ?_,λh20=>good ?_⟩⟩,λh7=>⟨λh20=>bad ?_,λh20=>good ?_⟩⟩ <;> (unfold xn8; simp; omega)
 ·have hle:=hk.le
  have e:m.any xn8=false:=by
   rw[List.any_eq_false]
   intro x hx
   obtain⟨i,hi,rfl⟩:=List.mem_iff_getElem.1 hx
   have:=hk.ok i (by omega)
   rw[qk3 _ _ hi] at this
   rw[this]; simp
  unfold w3s
  rw[e]
  simp only[Bool.not_false,Bool.true_and]
  congr 1
  apply propext
  constructor <;> intro q <;> omega
def q4d (a b:Int × Int):Bool:=decide (a.1*b.2<b.1*a.2)
abbrev x21:qb9:=qg2 true none [qz1,qz1] [.bool] (λx=>qs7 x.1/\qs7 x.2.1) (λx=>(q4d x.1 x.2.1,()))
theorem q82:Meets Tryz.prog 23 x21:=by
 refine meets (snd (SpecsOk.nil _)) Tryz.func23 rfl rfl (λ_ _=>none) (λ_=>by kernel_rfl) (by decide) ?_
 rintro⟨⟨a,b⟩,⟨c,d⟩,⟨⟩⟩ h
 revert a b c d
 intro(a:Int) (b:Int) (c:Int) (d:Int) (h:qs7 (a,b)/\qs7 (c,d))
 refine @qd8 _ (fits .i64 (a*d)/\fits .i64 (c*b)/\decide (a*d<c*b)=q4d (a,b) (c,d)) (by kernel_rfl) ?_
 try simp only[z0,z1,z2,z3,z4,z5,z6,z7,z8,z9,z10,Int.reduceEq,z11,z12,z13,z14,z15,z16,z17,z18,z19,z20,z21,z22,z23,z24,z25,z26,z27,z28,z29,z30,Int.reduceLE,Int.reduceLT,z31,z32,z33,z34,qa3]
 try simp only[qb3,qb4,qc7,z31,z32,z2,z1]
 have h1:0<=a*d/\a*d<=4000000000000000000:=wr6 h.1.n h.2.d
 have h2:0<=c*b/\c*b<=4000000000000000000:=wr6 h.2.n h.1.d
 exact⟨qa7 (by omega) (by omega),qa7 (by omega) (by omega),rfl⟩
end Go.Proofs.YtempacilejhbgaaGreat
