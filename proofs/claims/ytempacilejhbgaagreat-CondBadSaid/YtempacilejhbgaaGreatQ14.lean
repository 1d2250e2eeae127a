/- The document's shares: contracts by the engine. No condition. -/
import Derived.Test.YtempacilejhbgaaGreatQ7
import Derived.Test.YtempacilejhbgaaGreatEngT2
set_option linter.unusedVariables false
set_option linter.unusedSimpArgs false
namespace Go.Proofs.YtempacilejhbgaaGreat
open Go Go.RowKit Eng
structure q7u (l:List (List Int)) (k:Int):Prop where
 len:l.length<=1000000
 lar:∀i,i<l.length->w7f (nL l i) k
 shr:∀i,i<l.length->wi0 (nL l i) (qi0 (nL l i) k.toNat)
def w4i (l:List (List Int)) (k:Nat):List (List Int × (Int × Int)):=l.map λh=>(h,shR h (qi0 h k))
theorem w7h {l:List (List Int)} {k i:Nat} (h:i<l.length):((w4i l k).map λq=>((q.1,q.2,()):qa6 [tInts,qz6]))[i]? = some (nL l i,shR (nL l i) (qi0 (nL l i) k),()):=by
 unfold w4i
 rw[List.map_map,List.getElem?_map,List.getElem?_eq_getElem h,qk5 l i h]
 rfl
abbrev x37:q0k:=xb3 [tMask,tInt] [tInts,qz6] (λx=>q7u x.1 x.2.1) (λx=>(w4i x.1 x.2.1.toNat).map λq=>(q.1,q.2,()))
def x4a (l:List (List Int)):Nat->Option Inv
 | 0=>some (Inv.of [8] 1 (λi:Nat=>[(8,.lit (.int .i64 i))]) (λi=>[.cnt (some i)]) (λi=>i<=l.length) (λi=>l.length-i))
 | _=>none
theorem wp0:q2a Tryz.prog 109 x37:=by
 refine x36 (snd (SpecsOk.cons wo9 (SpecsOk.cons q9r (SpecsOk.nil _)))) rfl Tryz.func109 rfl rfl rfl [12] 6 (λx=>[(7,.lit (.int .i64 (x.1:List (List Int)).length)),(8,.lit (.int .i64 0))]) (λx=>x4a x.1) (by kernel_rfl) (by kernel_rfl) (λ_=>by kernel_rfl) (by decide) (λx l A cp=>⟨rfl,rfl,rfl,rfl,trivial⟩) ?_
 rintro⟨l,k,⟨⟩⟩ q h
 revert l k
 intro(l:List (List Int)) (k:Int) (h:q7u l k)
 refine @qd4 _ (let Q0:=w4i l k.toNat; let Q1:=(l,k,PUnit.unit); ∃(v0:Unit),∃(v1:Nat),Nat.le v1 l.length/\(((0:Int)=(↑v1:Int)/\True)/\some (0:Nat)=some v1/\True)/\∀(v2:Nat),Nat.le v2 l.length->(decide ((↑v2:Int)<(↑l.length:Int))=true->((0:Int)<=(↑v2:Int)/\(↑v2:Int)<(↑l.length:Int))/\w7f (nL l v2) k/\wi0 (nL l v2) (qi0 (nL l v2) k.toNat)/\Value.func (Fn.yield q) #[] #[]=Value.func (Fn.yield (qk0.l (q7t (Ty.list (Ty.int .i64)) [tInt] [tInts,qz6] [(12:Nat)] (6:Nat) Q1 (List.map (λ(v5:List Int × Int × Int)=>(v5.1,v5.2,())) Q0) q))) #[] #[]/\(qk0.L (q7t (Ty.list (Ty.int .i64)) [tInt] [tInts,qz6] [(12:Nat)] (6:Nat) Q1 (List.map (λ(v5:List Int × Int × Int)=>(v5.1,v5.2,())) Q0) q))[v2]?=some (nL l v2,((shR (nL l v2) (qi0 (nL l v2) k.toNat)).1,(shR (nL l v2) (qi0 (nL l v2) k.toNat)).2),())/\(fits .i64 ((↑v2:Int)+(1:Int))/\∃(v5:Nat),Nat.le v5 l.length/\l.length-v5<l.length-v2/\((↑v2:Int)+(1:Int)=(↑v5:Int)/\True)/\some (v2+(1:Nat))=some v5/\True)/\True)/\(decide ((↑v2:Int)<(↑l.length:Int))=false->v2=(qk0.L (q7t (Ty.list (Ty.int .i64)) [tInt] [tInts,qz6] [(12:Nat)] (6:Nat) Q1 (List.map (λ(v5:List Int × Int × Int)=>(v5.1,v5.2,())) Q0) q)).length)) (by kernel_rfl) ?_
 try simp only[z0,z1,z2,z3,z4,z5,z6,z7,z8,z9,z10,Int.reduceEq,z11,z12,z13,z14,z15,z16,z17,z18,z19,z20,z21,z22,z23,z24,z25,z26,z27,z28,z29,z30,Int.reduceLE,Int.reduceLT,z31,z32,z33,z34,qa1]
 try simp only[qb3,qb4,qb9,z31,z32,z2,z1]
 have hl:=h.len
 refine⟨(),0,Nat.zero_le _,⟨rfl,rfl⟩,λi hi=>⟨λhlt=>⟨hlt,h.lar i hlt,h.shr i hlt,rfl,w7h hlt,qa5 (by omega) (by omega),i+1,hlt,by omega,by push_cast; rfl,rfl⟩,λhge=>?_⟩⟩
 obtain rfl:i=l.length:=by omega
 show _=((w4i l k.toNat).map λq=>((q.1,q.2,()):qa6 [tInts,qz6])).length
 rw[List.length_map]; exact(List.length_map _).symm
abbrev x8p:qc0:=w6b false none [tMask,tInt] (λ_=>True) (λx=>.clo 109 (.cons (.imm (.cons (.dat (.list (.int .i64)) x.1) .nil) 0) (.cons (.imm (.cons (.lit (.int .i64 x.2.1)) .nil) 0) .nil)))
theorem wp1:qd2 Tryz.prog 72 x8p:=by
 refine wl7 (snd (SpecsOk.nil _)) Tryz.func72 rfl rfl (λ_ _=>none) (λ_=>by kernel_rfl) (by decide) ?_
 rintro⟨l,k,⟨⟩⟩ -
 revert l k
 intro(l:List (List Int)) (k:Int)
 refine @qd4 _ (((l=l/\True)/\(0:Nat)=(0:Nat))/\((k=k/\True)/\(0:Nat)=(0:Nat))/\True) (by kernel_rfl) ?_
 try simp only[z0,z1,z2,z3,z4,z5,z6,z7,z8,z9,z10,Int.reduceEq,z11,z12,z13,z14,z15,z16,z17,z18,z19,z20,z21,z22,z23,z24,z25,z26,z27,z28,z29,z30,Int.reduceLE,Int.reduceLT,z31,z32,z33,z34,qa1]
 try simp only[qb3,qb4,qb9,z31,z32,z2,z1]
def qh8 (l:List (List Int)) (k:Nat):Nat->Int × Int
 | 0=>(0,1)
 | i+1=>q8o (qh8 l k i) (shR (nL l i) (qi0 (nL l i) k))
theorem qm6 {l:List (List Int)} {k:Int} (h:q7u l k):∀i,i<=l.length->qr4 (qh8 l k.toNat i)
 | 0,_=>w69
 | i+1,hi=>w7a (qm6 h i (by omega)) (q2d (h.shr i (by omega)))
abbrev x0d:AV:=.cons (.lit (.int .i64 0)) (.cons (.lit (.int .i64 0)) .nil)
def x4b (l:List (List Int)) (k:Int):Nat->Option Inv
 | 0=>some (Inv.of [] 3 (λ_:Nat=>[]) (λi=>[.box 34 x0d,.box 34 (.cons (.lit (.int .i64 (qh8 l k.toNat i).1)) (.cons (.lit (.int .i64 (qh8 l k.toNat i).2)) .nil)),.box 56 (.cons (.clo 130 (.cons (.box 1 0) .nil)) .nil)]) (λi=>i<=l.length) (λi=>i))
 | _=>none
abbrev x8q:qc0:=qf3 true none [tMask,tInt] [qz6] (λx=>q7u x.1 x.2.1) (λx=>(qh8 x.1 x.2.1.toNat x.1.length,()))
theorem wp2:qd2 Tryz.prog 70 x8q:=by
 refine meets (x5y (SpecsOk.cons wo7 (SpecsOk.cons wp1 (SpecsOk.cons q9t (SpecsOk.nil _)))) (ItsOk.cons wp0 ItsOk.nil) (BxsOk.cons q9s BxsOk.nil)) Tryz.func70 rfl rfl (λx=>x4b x.1 x.2.1) (λ_=>by kernel_rfl) (by decide) ?_
 rintro⟨l,k,⟨⟩⟩ h
 revert l k
 intro(l:List (List Int)) (k:Int) (h:q7u l k)
 refine @qd4 _ (let Q0:=qh8 l k.toNat l.length; True/\True/\q7u l k/\∃(v0:Unit),∃(v1:Nat),Nat.le v1 l.length/\v1=(0:Nat)/\(((0:Int)=(0:Int)/\(0:Int)=(0:Int)/\True)/\((0:Int)=(qh8 l k.toNat v1).1/\(1:Int)=(qh8 l k.toNat v1).2/\True)/\((True/\True)/\True)/\True)/\∀(v2:Nat),Nat.le v2 l.length->(∀(v4:List Int × qa6._f [qz6] ⟨qa6._f [] PUnit.unit,PUnit.unit⟩),(List.map (λ(v6:List Int × Int × Int)=>(v6.1,v6.2,())) (w4i l k.toNat))[v2]?=some v4->(qr4 ((qh8 l k.toNat v2).1,(qh8 l k.toNat v2).2)/\qr4 (v4.2.1.1,v4.2.1.2))/\∃(v6:Nat),Nat.le v6 l.length/\v6=v2+(1:Nat)/\((0:Int)=(0:Int)/\(0:Int)=(0:Int)/\True)/\((q8o ((qh8 l k.toNat v2).1,(qh8 l k.toNat v2).2) (v4.2.1.1,v4.2.1.2)).1=(qh8 l k.toNat v6).1/\(q8o ((qh8 l k.toNat v2).1,(qh8 l k.toNat v2).2) (v4.2.1.1,v4.2.1.2)).2=(qh8 l k.toNat v6).2/\True)/\((True/\True)/\True)/\True)/\(v2=(List.map (λ(v5:List Int × Int × Int)=>(v5.1,v5.2,())) (w4i l k.toNat)).length->True/\(qh8 l k.toNat v2).1=Q0.1/\(qh8 l k.toNat v2).2=Q0.2/\True)) (by kernel_rfl) ?_
 try simp only[z0,z1,z2,z3,z4,z5,z6,z7,z8,z9,z10,Int.reduceEq,z11,z12,z13,z14,z15,z16,z17,z18,z19,z20,z21,z22,z23,z24,z25,z26,z27,z28,z29,z30,Int.reduceLE,Int.reduceLT,z31,z32,z33,z34,qa1]
 try simp only[qb3,qb4,qb9,z31,z32,z2,z1]
 refine⟨h,(),0,Nat.zero_le _,rfl,⟨rfl,rfl⟩,λi hi=>⟨λd hd=>?_,λhe=>?_⟩⟩
 ·have hd:((w4i l k.toNat).map λq=>((q.1,q.2,()):qa6 [tInts,qz6]))[i]? = some d:=hd
  have hlt:i<l.length:=by
   have:=(List.getElem?_eq_some_iff.1 hd).1
   rw[List.length_map] at this
   exact Nat.lt_of_lt_of_eq this (List.length_map _)
  rw[w7h hlt] at hd
  obtain rfl:=Option.some.inj hd
  exact⟨⟨qm6 h i hi,q2d (h.shr i hlt)⟩,i+1,hlt,rfl,rfl,rfl⟩
 ·have he:i=((w4i l k.toNat).map λq=>((q.1,q.2,()):qa6 [tInts,qz6])).length:=he
  rw[List.length_map] at he
  obtain rfl:i=l.length:=he.trans (List.length_map _)
  exact⟨rfl,rfl⟩
def qo7 (m:List (List Int)) (k least:Int):Int:=if validB m=false then 1 else if inB k least (nL m 0).length=false then 7 else 0
abbrev x4c:qc0:=qf3 true none [tMask,tInt,tInt] [tInt] (λ_=>True) (λx=>(qo7 x.1 x.2.1 x.2.2.1,()))
theorem q1v:qd2 Tryz.prog 69 x4c:=by
 refine meets (snd (SpecsOk.cons q51 (SpecsOk.cons wd5 (SpecsOk.nil _)))) Tryz.func69 rfl rfl (λ_ _=>none) (λ_=>by kernel_rfl) (by decide) ?_
 rintro⟨m,k,q,⟨⟩⟩ -
 revert m k q
 intro(m:List (List Int)) (k:Int) (q:Int)
 refine @qd4 _ (True/\((!validB m)=true->(1:Int)=qo7 m k q)/\((!validB m)=false->((0:Int)<=(0:Int)/\(0:Int)<(↑m.length:Int))/\True/\((!inB k q (↑(nL m (0:Nat)).length:Int))=true->(7:Int)=qo7 m k q)/\((!inB k q (↑(nL m (0:Nat)).length:Int))=false->(0:Int)=qo7 m k q))) (by kernel_rfl) ?_
 try simp only[z0,z1,z2,z3,z4,z5,z6,z7,z8,z9,z10,Int.reduceEq,z11,z12,z13,z14,z15,z16,z17,z18,z19,z20,z21,z22,z23,z24,z25,z26,z27,z28,z29,z30,Int.reduceLE,Int.reduceLT,z31,z32,z33,z34,qa1]
 try simp only[qb3,qb4,qb9,z31,z32,z2,z1]
 refine⟨λhv=>(if_pos hv).symm,λhv=>⟨by have:=(Mk.of hv).rows1; omega,λhb=>?_,λhb=>?_⟩⟩
 ·unfold qo7; rw[hv,hb]; rfl
 ·unfold qo7; rw[hv,hb]; rfl
structure w7i (m:List (List Int)):Prop where
 cir:validB m=true->q5m m
 shs:validB m=true->∀k:Nat,k<=(nL m 0).length->q7u (qa9 m).1 k
def grQ (m:List (List Int)) (k:Int):Int × Int:=if qo7 m k 0=0 then qh8 (qa9 m).1 k.toNat (qa9 m).1.length else(0,0)
theorem q07 {m:List (List Int)} {k q:Int} (h:qo7 m k q=0) (hq:0<=q:=by decide):validB m=true/\∃n:Nat,k=n/\n<=(nL m 0).length:=by
 unfold qo7 at h
 split at h
 ·cases h
 ·rename_i hv
  split at h
  ·cases h
  ·rename_i hb
   have hb:=inB_iff.1 (by cases e:inB k q (nL m 0).length with | true=>rfl | false=>exact absurd e hb)
   exact⟨by cases e:validB m with | true=>rfl | false=>exact absurd e hv,k.toNat,by omega,by omega⟩
abbrev x0e:qc0:=qf3 true none [tMask,tInt] [qz6,tInt] (λx=>w7i x.1) (λx=>(grQ x.1 x.2.1,qo7 x.1 x.2.1 0,()))
theorem ww5:qd2 Tryz.prog 24 x0e:=by
 refine meets (snd (SpecsOk.cons q1v (SpecsOk.cons qx1 (SpecsOk.cons wp2 (SpecsOk.nil _))))) Tryz.func24 rfl rfl (λ_ _=>none) (λ_=>by kernel_rfl) (by decide) ?_
 rintro⟨m,k,⟨⟩⟩ h
 revert m k
 intro(m:List (List Int)) (k:Int) (h:w7i m)
 refine @qd4 _ (let Q0:=qh8 (qa9 m).1 k.toNat (qa9 m).1.length; True/\((qo7 m k (0:Int) != (0:Int))=true->((0:Int)=(grQ m k).1/\(0:Int)=(grQ m k).2/\True)/\qo7 m k (0:Int)=qo7 m k (0:Int)/\True)/\((qo7 m k (0:Int) != (0:Int))=false->(validB m=true->q5m m)/\q7u (qa9 m).1 k/\(Q0.1=(grQ m k).1/\Q0.2=(grQ m k).2/\True)/\(0:Int)=qo7 m k (0:Int)/\True)) (by kernel_rfl) ?_
 try simp only[z0,z1,z2,z3,z4,z5,z6,z7,z8,z9,z10,Int.reduceEq,z11,z12,z13,z14,z15,z16,z17,z18,z19,z20,z21,z22,z23,z24,z25,z26,z27,z28,z29,z30,Int.reduceLE,Int.reduceLT,z31,z32,z33,z34,qa1]
 try simp only[qb3,qb4,qb9,z31,z32,z2,z1]
 refine⟨λhe=>?_,λhe=>?_⟩
 ·unfold grQ; rw[if_neg he]; exact⟨rfl,rfl⟩
 ·obtain⟨hv,n,rfl,hn⟩:=q07 he
  unfold grQ; rw[if_pos he]
  exact⟨h.cir,h.shs hv n hn,⟨rfl,rfl⟩,he.symm⟩
def hlf (r:Int × Int):Bool:=decide (r.2<=2*r.1)
abbrev x4d:qc0:=qf3 true none [qz6] [.bool] (λx=>qr4 x.1) (λx=>(hlf x.1,()))
theorem q40:qd2 Tryz.prog 47 x4d:=by
 refine meets (snd (SpecsOk.nil _)) Tryz.func47 rfl rfl (λ_ _=>none) (λ_=>by kernel_rfl) (by decide) ?_
 rintro⟨⟨a,b⟩,⟨⟩⟩ h
 revert a b
 intro(a:Int) (b:Int) (h:qr4 (a,b))
 refine @qd4 _ (fits .i64 ((2:Int)*a)/\decide (b<=(2:Int)*a)=hlf (a,b)) (by kernel_rfl) ?_
 try simp only[z0,z1,z2,z3,z4,z5,z6,z7,z8,z9,z10,Int.reduceEq,z11,z12,z13,z14,z15,z16,z17,z18,z19,z20,z21,z22,z23,z24,z25,z26,z27,z28,z29,z30,Int.reduceLE,Int.reduceLT,z31,z32,z33,z34,qa1]
 try simp only[qb3,qb4,qb9,z31,z32,z2,z1]
 have h1:=h.n
 obtain⟨h1,h2⟩:=h1
 dsimp only at h1 h2
 exact⟨qa5 (by omega) (by omega),rfl⟩
def ordF (l:List (List Int)):Nat->Nat->Nat
 | 0,k=>k
 | f+1,k=>if hlf (qh8 l (k+1) l.length)=false then ordF l f (k+1) else k
def ordL (m:List (List Int)):Nat:=ordF (qa9 m).1 (nL m 0).length 0
theorem we8 {l:List (List Int)} {n k:Nat} (h:k<n):ordF l (n-k) k=if hlf (qh8 l (k+1) l.length)=false then ordF l (n-(k+1)) (k+1) else k:=by
 obtain⟨f,hf⟩:∃f,n-k=f+1:=⟨n-k-1,by omega⟩
 rw[hf,show n-(k+1)=f by omega,ordF]
structure wp3 (l:List (List Int)) (n k:Nat):Prop where
 le:k<=n
 eq:ordF l n 0=ordF l (n-k) k
def x4e (l:List (List Int)) (n:Nat):Nat->Option Inv
 | 0=>some (Inv.of [4] 0 (λk:Nat=>[(4,.lit (.int .i64 k))]) (λ_=>[]) (λk=>wp3 l n k) (λk=>n-k))
 | _=>none
abbrev xe5:qc0:=qf3 true none [tMask] [tInt] (λx=>validB x.1=true/\w7i x.1) (λx=>((ordL x.1:Nat),()))
theorem we9:qd2 Tryz.prog 50 xe5:=by
 refine meets (snd (SpecsOk.cons qx1 (SpecsOk.cons wp2 (SpecsOk.cons q40 (SpecsOk.nil _))))) Tryz.func50 rfl rfl (λx=>x4e (qa9 x.1).1 (nL x.1 0).length) (λ_=>by kernel_rfl) (by decide) ?_
 rintro⟨m,⟨⟩⟩ h
 revert m
 intro(m:List (List Int)) (h:validB m=true/\w7i m)
 refine @qd4 _ ((validB m=true->q5m m)/\∃(v0:Unit),∃(v1:Nat),wp3 (qa9 m).1 (nL m (0:Nat)).length v1/\(((0:Int)=(↑v1:Int)/\True)/\True)/\∀(v2:Nat),wp3 (qa9 m).1 (nL m (0:Nat)).length v2->((0:Int)<=(0:Int)/\(0:Int)<(↑m.length:Int))/\(decide ((↑v2:Int)<(↑(nL m (0:Nat)).length:Int))=true->fits .i64 ((↑v2:Int)+(1:Int))/\q7u (qa9 m).1 ((↑v2:Int)+(1:Int))/\qr4 ((qh8 (qa9 m).1 ((↑v2:Int)+(1:Int)).toNat (qa9 m).1.length).1,(qh8 (qa9 m).1 ((↑v2:Int)+(1:Int)).toNat (qa9 m).1.length).2)/\((!hlf ((qh8 (qa9 m).1 ((↑v2:Int)+(1:Int)).toNat (qa9 m).1.length).1,(qh8 (qa9 m).1 ((↑v2:Int)+(1:Int)).toNat (qa9 m).1.length).2))=true->fits .i64 ((↑v2:Int)+(1:Int))/\∃(v6:Nat),wp3 (qa9 m).1 (nL m (0:Nat)).length v6/\(nL m (0:Nat)).length-v6<(nL m (0:Nat)).length-v2/\((↑v2:Int)+(1:Int)=(↑v6:Int)/\True)/\True)/\((!hlf ((qh8 (qa9 m).1 ((↑v2:Int)+(1:Int)).toNat (qa9 m).1.length).1,(qh8 (qa9 m).1 ((↑v2:Int)+(1:Int)).toNat (qa9 m).1.length).2))=false->(↑v2:Int)=(↑(ordL m):Int)))/\(decide ((↑v2:Int)<(↑(nL m (0:Nat)).length:Int))=false->(↑v2:Int)=(↑(ordL m):Int))) (by kernel_rfl) ?_
 try simp only[z0,z1,z2,z3,z4,z5,z6,z7,z8,z9,z10,Int.reduceEq,z11,z12,z13,z14,z15,z16,z17,z18,z19,z20,z21,z22,z23,z24,z25,z26,z27,z28,z29,z30,Int.reduceLE,Int.reduceLT,z31,z32,z33,z34,qa1]
 try simp only[qb3,qb4,qb9,z31,z32,z2,z1]
 have hM:=Mk.of h.1
 have m1:=hM.rows1
 have m10:=hM.pix10
 have hc:=h.2.shs h.1
 refine⟨h.2.cir,(),0,⟨Nat.zero_le _,rfl⟩,rfl,λk hk=>⟨by omega,λhlt=>?_,λhge=>?_⟩⟩
 ·have e:((k:Int)+1).toNat=k+1:=by omega
  have e2:((k:Int)+1)=((k+1:Nat):Int):=by push_cast; rfl
  have hs:=hc (k+1) (by omega)
  have hl:=qm6 hs (qa9 m).1.length (Nat.le_refl _)
  rw[Int.toNat_natCast] at hl
  rw[e,e2]
  refine⟨qa5 (by omega) (by omega),hs,hl,λhf=>⟨qa5 (by omega) (by omega),k+1,⟨by omega,?_⟩,by omega,rfl⟩,λhf=>?_⟩
  ·rw[hk.eq,we8 hlt]
   exact if_pos hf
  ·have:ordL m=k:=by
    unfold ordL
    rw[hk.eq,we8 hlt,if_neg (by rw[show hlf (qh8 (qa9 m).1 (k+1) (qa9 m).1.length)=true from hf]; simp)]
   rw[this]
 ·have hle:=hk.le
  have e:k=(nL m 0).length:=by omega
  have:ordL m=k:=by
   unfold ordL
   rw[hk.eq,e,Nat.sub_self]; rfl
  rw[this]
def q4g (m:List (List Int)):Int × Int:=if validB m=true then((ordL m:Nat),0) else(0,1)
abbrev x0f:qc0:=qf3 true none [tMask] [tInt,tInt] (λx=>w7i x.1) (λx=>((q4g x.1).1,(q4g x.1).2,()))
theorem ww6:qd2 Tryz.prog 13 x0f:=by
 refine meets (snd (SpecsOk.cons q51 (SpecsOk.cons we9 (SpecsOk.nil _)))) Tryz.func13 rfl rfl (λ_ _=>none) (λ_=>by kernel_rfl) (by decide) ?_
 rintro⟨m,⟨⟩⟩ h
 revert m
 intro(m:List (List Int)) (h:w7i m)
 refine @qd4 _ (True/\((!validB m)=true->(0:Int)=(q4g m).1/\(1:Int)=(q4g m).2/\True)/\((!validB m)=false->(validB m=true/\w7i m)/\(↑(ordL m):Int)=(q4g m).1/\(0:Int)=(q4g m).2/\True)) (by kernel_rfl) ?_
 try simp only[z0,z1,z2,z3,z4,z5,z6,z7,z8,z9,z10,Int.reduceEq,z11,z12,z13,z14,z15,z16,z17,z18,z19,z20,z21,z22,z23,z24,z25,z26,z27,z28,z29,z30,Int.reduceLE,Int.reduceLT,z31,z32,z33,z34,qa1]
 try simp only[qb3,qb4,qb9,z31,z32,z2,z1]
 refine⟨λhv=>?_,λhv=>⟨⟨hv,h⟩,?_⟩⟩
 ·unfold q4g; rw[hv]; exact⟨rfl,rfl⟩
 ·unfold q4g; rw[if_pos hv]; exact⟨rfl,rfl⟩
def xr1 (l:List Int):Bool:=(decide (7<l.length) && decide (l.length<=10)) || decide (20<l.length)
def w4j (m:List (List Int)):Bool:=!(m.any xr1) && decide (m.length<=8)
structure w3t (m:List (List Int)) (k:Nat):Prop where
 le:k<=m.length
 ok:∀i,i<k->xr1 (nL m i)=false
def x0g (m:List (List Int)):Nat->Option Inv
 | 0=>some (Inv.of [7] 0 (λk:Nat=>[(7,.lit (.int .i64 k))]) (λ_=>[]) (λk=>w3t m k) (λk=>m.length-k))
 | _=>none
abbrev x4f:qc0:=qf3 true none [tMask] [.bool] (λx=>x.1.length<=9223372036854775807) (λx=>(w4j x.1,()))
theorem w3u:qd2 Tryz.prog 9 x4f:=by
 refine meets (snd (SpecsOk.nil _)) Tryz.func9 rfl rfl (λx=>x0g x.1) (λ_=>by kernel_rfl) (by decide) ?_
 rintro⟨m,⟨⟩⟩ h
 revert m
 intro(m:List (List Int)) (h:m.length<=9223372036854775807)
 refine @qd4 _ (∃(v0:Unit),∃(v1:Nat),w3t m v1/\(((0:Int)=(↑v1:Int)/\True)/\True)/\∀(v2:Nat),w3t m v2->(decide ((↑v2:Int)<(↑m.length:Int))=true->((0:Int)<=(↑v2:Int)/\(↑v2:Int)<(↑m.length:Int))/\(decide ((7:Int)<(↑(nL m v2).length:Int))=true->(decide ((↑(nL m v2).length:Int)<=(10:Int))=true->false=w4j m)/\(decide ((↑(nL m v2).length:Int)<=(10:Int))=false->(decide ((20:Int)<(↑(nL m v2).length:Int))=true->false=w4j m)/\(decide ((20:Int)<(↑(nL m v2).length:Int))=false->fits .i64 ((↑v2:Int)+(1:Int))/\∃(v8:Nat),w3t m v8/\m.length-v8<m.length-v2/\((↑v2:Int)+(1:Int)=(↑v8:Int)/\True)/\True)))/\(decide ((7:Int)<(↑(nL m v2).length:Int))=false->(decide ((20:Int)<(↑(nL m v2).length:Int))=true->false=w4j m)/\(decide ((20:Int)<(↑(nL m v2).length:Int))=false->fits .i64 ((↑v2:Int)+(1:Int))/\∃(v7:Nat),w3t m v7/\m.length-v7<m.length-v2/\((↑v2:Int)+(1:Int)=(↑v7:Int)/\True)/\True)))/\(decide ((↑v2:Int)<(↑m.length:Int))=false->decide ((↑m.length:Int)<=(8:Int))=w4j m)) (by kernel_rfl) ?_
 try simp only[z0,z1,z2,z3,z4,z5,z6,z7,z8,z9,z10,Int.reduceEq,z11,z12,z13,z14,z15,z16,z17,z18,z19,z20,z21,z22,z23,z24,z25,z26,z27,z28,z29,z30,Int.reduceLE,Int.reduceLT,z31,z32,z33,z34,qa1]
 try simp only[qb3,qb4,qb9,z31,z32,z2,z1]
 refine⟨(),0,⟨Nat.zero_le _,λi hi=>by omega⟩,rfl,λk hk=>⟨λhlt=>?_,λhge=>?_⟩⟩
 ·have bad:xr1 (nL m k)=true->false=w4j m:=λq=>by
   unfold w4j
   rw[List.any_eq_true.2 ⟨nL m k,qj4 m k hlt,q⟩]; rfl
  have good:xr1 (nL m k)=false->fits IntKind.i64 (↑k+1)/\∃v8,w3t m v8/\m.length-v8<m.length-k/\(↑k+1:Int)=↑v8:=λq=>⟨qa5 (by omega) (by omega),k+1,⟨hlt,λi hi=>by
   by_cases e:i=k
   ·subst e; exact q
   ·exact hk.ok i (by omega)⟩,by omega,by push_cast; rfl⟩
  refine⟨hlt,λh7=>⟨λh10=>bad ?_,λh10=>⟨λh20=>bad ?_,λh20=>good ?_⟩⟩,λh7=>⟨λh20=>bad ?_,λh20=>good ?_⟩⟩ <;> (unfold xr1; simp; omega)
 ·have hle:=hk.le
  have e:m.any xr1=false:=by
   rw[List.any_eq_false]
   intro x hx
   obtain⟨i,hi,rfl⟩:=List.mem_iff_getElem.1 hx
   have:=hk.ok i (by omega)
   rw[qk5 _ _ hi] at this
   rw[this]; simp
  unfold w4j
  rw[e]
  simp only[Bool.not_false,Bool.true_and]
  congr 1
  apply propext
  constructor <;> intro q <;> omega
def q34 (a b:Int × Int):Bool:=decide (a.1*b.2<b.1*a.2)
abbrev x4g:qc0:=qf3 true none [qz6,qz6] [.bool] (λx=>qr4 x.1/\qr4 x.2.1) (λx=>(q34 x.1 x.2.1,()))
theorem q9u:qd2 Tryz.prog 23 x4g:=by
 refine meets (snd (SpecsOk.nil _)) Tryz.func23 rfl rfl (λ_ _=>none) (λ_=>by kernel_rfl) (by decide) ?_
 rintro⟨⟨a,b⟩,⟨c,d⟩,⟨⟩⟩ h
 revert a b c d
 intro(a:Int) (b:Int) (c:Int) (d:Int) (h:qr4 (a,b)/\qr4 (c,d))
 refine @qd4 _ (fits .i64 (a*d)/\fits .i64 (c*b)/\decide (a*d<c*b)=q34 (a,b) (c,d)) (by kernel_rfl) ?_
 try simp only[z0,z1,z2,z3,z4,z5,z6,z7,z8,z9,z10,Int.reduceEq,z11,z12,z13,z14,z15,z16,z17,z18,z19,z20,z21,z22,z23,z24,z25,z26,z27,z28,z29,z30,Int.reduceLE,Int.reduceLT,z31,z32,z33,z34,qa1]
 try simp only[qb3,qb4,qb9,z31,z32,z2,z1]
 have h1:0<=a*d/\a*d<=4000000000000000000:=wu6 h.1.n h.2.d
 have h2:0<=c*b/\c*b<=4000000000000000000:=wu6 h.2.n h.1.d
 exact⟨qa5 (by omega) (by omega),qa5 (by omega) (by omega),rfl⟩
abbrev x4h:qc0:=qf3 true none [tInt] [tInt] (λx=>qd5 1000000000 x.1) (λx=>(qp1 x.1,()))
theorem q9v:qd2 Tryz.prog 103 x4h:=by
 refine meets (snd (SpecsOk.nil _)) Tryz.func103 rfl rfl (λ_ _=>none) (λ_=>by kernel_rfl) (by decide) ?_
 rintro⟨x,⟨⟩⟩ h
 revert x
 intro(x:Int) (h:qd5 1000000000 x)
 refine @qd4 _ ((decide (x<(0:Int))=true->fits .i64 ((0:Int)-x)/\(0:Int)-x=qp1 x)/\(decide (x<(0:Int))=false->x=qp1 x)) (by kernel_rfl) ?_
 try simp only[z0,z1,z2,z3,z4,z5,z6,z7,z8,z9,z10,Int.reduceEq,z11,z12,z13,z14,z15,z16,z17,z18,z19,z20,z21,z22,z23,z24,z25,z26,z27,z28,z29,z30,Int.reduceLE,Int.reduceLT,z31,z32,z33,z34,qa1]
 try simp only[qb3,qb4,qb9,z31,z32,z2,z1]
 unfold qd5 at h
 unfold qp1
 exact⟨λq=>⟨qa5 (by omega) (by omega),by omega⟩,λq=>by omega⟩
def x0h (n d:Int):Nat->Option Inv
 | 0=>some (Inv.of [5,6] 1 (λs:Int × Int=>[(5,.lit (.int .i64 s.1)),(6,.lit (.int .i64 s.2))]) (λ_=>[.box 34 x0d]) (λs=>((0<=s.1/\s.1<=BIG)/\0<=s.2/\s.2<=BIG)/\gcdI s.1 s.2=gcdI n d) (λs=>s.2.toNat))
 | _=>none
abbrev x4i:qc0:=qf3 true none [tInt,tInt] [qz6] (λx=>(0<=x.1/\x.1<=BIG)/\0<x.2.1/\x.2.1<=BIG) (λx=>(ofR x.1 x.2.1,()))
theorem w3v:qd2 Tryz.prog 104 x4i:=by
 refine meets (snd (SpecsOk.nil _)) Tryz.func104 rfl rfl (λx=>x0h x.1 x.2.1) (λ_=>by kernel_rfl) (by decide) ?_
 rintro⟨n,d,⟨⟩⟩ h
 revert n d
 intro(n:Int) (d:Int) (h:(0<=n/\n<=BIG)/\0<d/\d<=BIG)
 refine @qd4 _ (∃(v0:Unit),∃(v1:Int × Int),((((0:Int)<=v1.1/\v1.1<=BIG)/\(0:Int)<=v1.2/\v1.2<=BIG)/\gcdI v1.1 v1.2=gcdI n d)/\((n=v1.1/\d=v1.2/\True)/\((0:Int)=(0:Int)/\(0:Int)=(0:Int)/\True)/\True)/\∀(v2:Int × Int),(((0:Int)<=v2.1/\v2.1<=BIG)/\(0:Int)<=v2.2/\v2.2<=BIG)/\gcdI v2.1 v2.2=gcdI n d->(decide ((0:Int)<v2.2)=true->v2.2≠(0:Int)/\∃(v5:Int × Int),((((0:Int)<=v5.1/\v5.1<=BIG)/\(0:Int)<=v5.2/\v5.2<=BIG)/\gcdI v5.1 v5.2=gcdI n d)/\v5.2.toNat<v2.2.toNat/\(v2.2=v5.1/\Int.tmod v2.1 v2.2=v5.2/\True)/\((0:Int)=(0:Int)/\(0:Int)=(0:Int)/\True)/\True)/\(decide ((0:Int)<v2.2)=false->v2.1≠(0:Int)/\fits .i64 (Int.tdiv n v2.1)/\v2.1≠(0:Int)/\fits .i64 (Int.tdiv d v2.1)/\Int.tdiv n v2.1=(ofR n d).1/\Int.tdiv d v2.1=(ofR n d).2/\True)) (by kernel_rfl) ?_
 try simp only[z0,z1,z2,z3,z4,z5,z6,z7,z8,z9,z10,Int.reduceEq,z11,z12,z13,z14,z15,z16,z17,z18,z19,z20,z21,z22,z23,z24,z25,z26,z27,z28,z29,z30,Int.reduceLE,Int.reduceLT,z31,z32,z33,z34,qa1]
 try simp only[qb3,qb4,qb9,z31,z32,z2,z1]
 have hB:BIG=4000000000000000000:=rfl
 refine⟨(),(n,d),⟨⟨⟨by dsimp only; omega,by dsimp only; omega⟩,by dsimp only; omega,by dsimp only; omega⟩,rfl⟩,⟨rfl,rfl⟩,?_⟩
 rintro⟨x,y⟩ ⟨⟨⟨h1,h2⟩,h3,h4⟩,h5⟩
 dsimp only at h1 h2 h3 h4 h5 ⊢
 refine⟨λhy=>⟨by omega,(y,x.tmod y),⟨⟨⟨h3,h4⟩,?_,?_⟩,?_⟩,?_,rfl,rfl⟩,λhy=>?_⟩
 ·rw[Int.tmod_eq_emod_of_nonneg h1]
  exact Int.emod_nonneg x (by omega)
 ·rw[Int.tmod_eq_emod_of_nonneg h1]
  have k2:=Int.emod_lt_of_pos x hy
  dsimp only; omega
 ·exact(wm2 h1 h3).trans h5
 ·rw[Int.tmod_eq_emod_of_nonneg h1]
  have k1:=Int.emod_nonneg x (b:=y) (by omega)
  have k2:=Int.emod_lt_of_pos x hy
  dsimp only; omega
 ·obtain rfl:y=0:=by omega
  rw[wm3 x h1] at h5
  have hp:=qq4 (a:=n) (b:=d) (.inr (by omega))
  have q1:=qk2 (g:=x) (a:=n) (K:=BIG) (by omega)
  have q2:=qk2 (g:=x) (a:=d) (K:=BIG) (by omega)
  have e:ofR n d=(n.tdiv x,d.tdiv x):=by unfold ofR; rw[if_neg (by omega),h5]
  rw[e]
  exact⟨by omega,qa5 (by omega) (by omega),by omega,qa5 (by omega) (by omega),rfl,rfl⟩
structure w1f (n:Int) (l:List Int) (k:Nat):Prop where
 le:k<=l.length
 ok:∀i,i<k->inB (nI l i) 0 (n-1)=true
def x0i (n:Int) (l:List Int):Nat->Option Inv
 | 0=>some (Inv.of [5] 0 (λk:Nat=>[(5,.lit (.int .i64 k))]) (λ_=>[]) (λk=>1<=k/\(AscTo l k\/(k=1/\l=[]))) (λk=>l.length-k))
 | 1=>some (Inv.of [26] 0 (λk:Nat=>[(26,.lit (.int .i64 k))]) (λ_=>[]) (λk=>w1f n l k) (λk=>l.length-k))
 | _=>none
abbrev x4j:qc0:=qf3 true none [tInts,tInt] [tInt] (λx=>x.1.length<=1000000) (λx=>(wh8 x.2.1 x.1,()))
theorem w3w:qd2 Tryz.prog 60 x4j:=by
 refine meets (snd (SpecsOk.nil _)) Tryz.func60 rfl rfl (λx=>x0i x.2.1 x.1) (λ_=>by kernel_rfl) (by decide) ?_
 rintro⟨l,n,⟨⟩⟩ hl
 revert l n
 intro(l:List Int) (n:Int) (hl:l.length<=1000000)
 refine @qd4 _ (∃(v0:Unit),∃(v1:Nat),((1:Nat)<=v1/\(AscTo l v1\/v1=(1:Nat)/\l=[]))/\(((1:Int)=(↑v1:Int)/\True)/\True)/\∀(v2:Nat),(1:Nat)<=v2/\(AscTo l v2\/v2=(1:Nat)/\l=[])->(decide ((↑v2:Int)<(↑l.length:Int))=true->((0:Int)<=(↑v2:Int)/\(↑v2:Int)<(↑l.length:Int))/\fits .i64 ((↑v2:Int)-(1:Int))/\((0:Int)<=(↑v2:Int)-(1:Int)/\(↑v2:Int)-(1:Int)<(↑l.length:Int))/\(decide (nI l v2<=nI l ((↑v2:Int)-(1:Int)).toNat)=true->(7:Int)=wh8 n l)/\(decide (nI l v2<=nI l ((↑v2:Int)-(1:Int)).toNat)=false->fits .i64 ((↑v2:Int)+(1:Int))/\∃(v6:Nat),((1:Nat)<=v6/\(AscTo l v6\/v6=(1:Nat)/\l=[]))/\l.length-v6<l.length-v2/\((↑v2:Int)+(1:Int)=(↑v6:Int)/\True)/\True))/\(decide ((↑v2:Int)<(↑l.length:Int))=false->∃(v5:Unit),∃(v6:Nat),w1f n l v6/\(((0:Int)=(↑v6:Int)/\True)/\True)/\∀(v7:Nat),w1f n l v7->(decide ((↑v7:Int)<(↑l.length:Int))=true->((0:Int)<=(↑v7:Int)/\(↑v7:Int)<(↑l.length:Int))/\(decide (nI l v7<(0:Int))=true->(5:Int)=wh8 n l)/\(decide (nI l v7<(0:Int))=false->(decide (n<=nI l v7)=true->(5:Int)=wh8 n l)/\(decide (n<=nI l v7)=false->fits .i64 ((↑v7:Int)+(1:Int))/\∃(v12:Nat),w1f n l v12/\l.length-v12<l.length-v7/\((↑v7:Int)+(1:Int)=(↑v12:Int)/\True)/\True)))/\(decide ((↑v7:Int)<(↑l.length:Int))=false->(0:Int)=wh8 n l))) (by kernel_rfl) ?_
 try simp only[z0,z1,z2,z3,z4,z5,z6,z7,z8,z9,z10,Int.reduceEq,z11,z12,z13,z14,z15,z16,z17,z18,z19,z20,z21,z22,z23,z24,z25,z26,z27,z28,z29,z30,Int.reduceLE,Int.reduceLT,z31,z32,z33,z34,qa1]
 try simp only[qb3,qb4,qb9,z31,z32,z2,z1]
 refine⟨(),1,⟨Nat.le_refl _,?_⟩,rfl,λk ⟨h1,hk⟩=>⟨λhlt=>?_,λhge=>?_⟩⟩
 ·cases l with
  | nil=>exact .inr ⟨rfl,rfl⟩
  | cons a l=>exact .inl ⟨by simp,λi h0 hi=>by omega⟩
 ·have hk:AscTo l k:=hk.resolve_right λ⟨_,e⟩=>by subst e; simp at hlt
  have e:((k:Int)-1).toNat=k-1:=by omega
  rw[e]
  exact⟨hlt,qa5 (by omega) (by omega),⟨by omega,by omega⟩,λh2=>by unfold wh8; rw[if_pos (xc1 (by omega) hlt h2)],λh2=>⟨qa5 (by omega) (by omega),k+1,⟨by omega,.inl (hk.step hlt (.inr h2))⟩,by omega,by omega⟩⟩
 ·have ha:xc0 l=true:=by
   rcases hk with hk | ⟨_,rfl⟩
   ·obtain rfl:k=l.length:=by have:=hk.le; omega
    exact hk.all
   ·rfl
  refine⟨(),0,⟨Nat.zero_le _,λi hi=>by omega⟩,rfl,λj hj=>⟨λhlt=>?_,λhge2=>?_⟩⟩
  ·have bad:¬(0<=nI l j/\nI l j<=n-1)->5=wh8 n l:=λq=>by
    have:(l.any λp=>!(inB p 0 (n-1)))=true:=by
     rw[List.any_eq_true]
     exact⟨nI l j,by rw[qf6 l j hlt]; exact List.getElem_mem hlt,by rw[xp9.2 q]; rfl⟩
    simp[wh8,ha,this]
   refine⟨hlt,λh0=>bad λq=>Int.not_lt.2 q.1 h0,λh0=>⟨λh2=>bad λq=>absurd (show n<=nI l j from h2) (by omega),λh2=>⟨qa5 (by omega) (by omega),j+1,⟨hlt,λi hi=>?_⟩,by omega,by omega⟩⟩⟩
   by_cases e:i=j
   ·subst e; exact inB_iff.2 ⟨h0,by omega⟩
   ·exact hj.ok i (by omega)
  ·obtain rfl:j=l.length:=by have:=hj.le; omega
   have:(l.any λp=>!(inB p 0 (n-1)))=false:=by
    rw[List.any_eq_false]
    intro x hx
    obtain⟨i,hi,rfl⟩:=List.getElem_of_mem hx
    have:=hj.ok i hi
    rw[qf6 l i hi] at this
    rw[this]; simp
   simp[wh8,ha,this]
def x0j (h pix:List Int):Nat->Option Inv
 | 0=>some (Inv.of [6,13] 1 (λk:Nat=>[(6,.lit (.int .i64 (q17 h k))),(13,.lit (.int .i64 k))]) (λ_=>[.box 34 x0d]) (λk=>k<=h.length) (λk=>h.length-k))
 | 1=>some (Inv.of [5,24] 1 (λk:Nat=>[(5,.lit (.int .i64 (qm5 h pix k))),(24,.lit (.int .i64 k))]) (λ_=>[.box 34 x0d]) (λk=>k<=pix.length) (λk=>pix.length-k))
 | _=>none
abbrev x4k:qc0:=qf3 true none [tInts,tInts] [qz6] (λx=>wi0 x.1 x.2.1) (λx=>(shR x.1 x.2.1,()))
theorem q9w:qd2 Tryz.prog 61 x4k:=by
 refine meets (snd (SpecsOk.cons q9v (SpecsOk.cons w3v (SpecsOk.nil _)))) Tryz.func61 rfl rfl (λx=>x0j x.1 x.2.1) (λ_=>by kernel_rfl) (by decide) ?_
 rintro⟨h,p,⟨⟩⟩ hh
 revert h p
 intro(h:List Int) (p:List Int) (hh:wi0 h p)
 refine @qd4 _ (∃(v0:Unit),∃(v1:Nat),Nat.le v1 h.length/\(((0:Int)=q17 h v1/\(0:Int)=(↑v1:Int)/\True)/\((0:Int)=(0:Int)/\(0:Int)=(0:Int)/\True)/\True)/\∀(v2:Nat),Nat.le v2 h.length->(decide ((↑v2:Int)<(↑h.length:Int))=true->((0:Int)<=(↑v2:Int)/\(↑v2:Int)<(↑h.length:Int))/\qd5 (1000000000:Int) (nI h v2)/\fits .i64 (q17 h v2+qp1 (nI h v2))/\fits .i64 ((↑v2:Int)+(1:Int))/\∃(v5:Nat),Nat.le v5 h.length/\h.length-v5<h.length-v2/\(q17 h v2+qp1 (nI h v2)=q17 h v5/\(↑v2:Int)+(1:Int)=(↑v5:Int)/\True)/\((0:Int)=(0:Int)/\(0:Int)=(0:Int)/\True)/\True)/\(decide ((↑v2:Int)<(↑h.length:Int))=false->∃(v5:Unit),∃(v6:Nat),Nat.le v6 p.length/\(((0:Int)=qm5 h p v6/\(0:Int)=(↑v6:Int)/\True)/\((0:Int)=(0:Int)/\(0:Int)=(0:Int)/\True)/\True)/\∀(v7:Nat),Nat.le v7 p.length->(decide ((↑v7:Int)<(↑p.length:Int))=true->((0:Int)<=(↑v7:Int)/\(↑v7:Int)<(↑p.length:Int))/\((0:Int)<=nI p v7/\nI p v7<(↑h.length:Int))/\qd5 (1000000000:Int) (nI h (nI p v7).toNat)/\fits .i64 (qm5 h p v7+qp1 (nI h (nI p v7).toNat))/\fits .i64 ((↑v7:Int)+(1:Int))/\∃(v10:Nat),Nat.le v10 p.length/\p.length-v10<p.length-v7/\(qm5 h p v7+qp1 (nI h (nI p v7).toNat)=qm5 h p v10/\(↑v7:Int)+(1:Int)=(↑v10:Int)/\True)/\((0:Int)=(0:Int)/\(0:Int)=(0:Int)/\True)/\True)/\(decide ((↑v7:Int)<(↑p.length:Int))=false->(((0:Ty.den tInt)<=qm5 h p v7/\qm5 h p v7<=BIG)/\(0:Ty.den tInt)<q17 h v2/\q17 h v2<=BIG)/\(ofR (qm5 h p v7) (q17 h v2)).1=(shR h p).1/\(ofR (qm5 h p v7) (q17 h v2)).2=(shR h p).2/\True))) (by kernel_rfl) ?_
 try simp only[z0,z1,z2,z3,z4,z5,z6,z7,z8,z9,z10,Int.reduceEq,z11,z12,z13,z14,z15,z16,z17,z18,z19,z20,z21,z22,z23,z24,z25,z26,z27,z28,z29,z30,Int.reduceLE,Int.reduceLT,z31,z32,z33,z34,qa1]
 try simp only[qb3,qb4,qb9,z31,z32,z2,z1]
 have hl:=hh.len
 have hb:=hh.ok.len
 refine⟨(),0,Nat.zero_le _,⟨rfl,rfl⟩,λk hk=>⟨λhlt=>?_,λhge=>?_⟩⟩
 ·have h1:=q0a hh.ok k
  have h2:=q0a hh.ok (k+1)
  have h3:=hh.ok.sm k
  unfold qd5 at h3
  have e:q17 h k+qp1 (nI h k)=q17 h (k+1):=rfl
  exact⟨hlt,by unfold qd5; omega,qa5 (by omega) (by omega),qa5 (by omega) (by omega),k+1,hlt,by omega,e,by push_cast; rfl⟩
 obtain rfl:k=h.length:=by omega
 refine⟨(),0,Nat.zero_le _,⟨rfl,rfl⟩,λk hk=>⟨λhlt=>?_,λhge=>?_⟩⟩
 ·have h1:=q0b (pix:=p) hh.ok k
  have h2:=q0b (pix:=p) hh.ok (k+1)
  have h3:=hh.ok.sm (nI p k).toNat
  have h4:=hh.at_ k hlt
  unfold qd5 at h3
  have e:qm5 h p k+qp1 (nI h (nI p k).toNat)=qm5 h p (k+1):=rfl
  exact⟨hlt,h4,by unfold qd5; omega,qa5 (by omega) (by omega),qa5 (by omega) (by omega),k+1,hlt,by omega,e,by push_cast; rfl⟩
 ·obtain rfl:k=p.length:=by omega
  have h1:=q0b (pix:=p) hh.ok p.length
  have h2:=q0a hh.ok h.length
  have h3:=q2x hh.ok hh.ne
  unfold szL at h3
  have hB:BIG=4000000000000000000:=rfl
  exact⟨⟨⟨h1.1,by omega⟩,h3,by omega⟩,rfl,rfl⟩
end Go.Proofs.YtempacilejhbgaaGreat
