/- The greatest share of a mask, and its order: contracts by the engine. No condition. -/
import Derived.Test.YtempacilejhbgaaGreatQ7
import Derived.Test.YtempacilejhbgaaGreatEngT2
set_option linter.unusedVariables false
set_option linter.unusedSimpArgs false
namespace Go.Proofs.YtempacilejhbgaaGreat
open Go Go.RowKit Eng
structure q8h (l:List (List Int)) (k:Int):Prop where
 len:l.length<=1000000
 lar:∀i,i<l.length->xe1 (nL l i) k
 shr:∀i,i<l.length->wo1 (nL l i) (q1o (nL l i) k.toNat)
def xe4 (l:List (List Int)) (k:Nat):List (List Int × (Int × Int)):=l.map λh=>(h,shR h (q1o h k))
theorem xl3 {l:List (List Int)} {k i:Nat} (h:i<l.length):((xe4 l k).map λq=>((q.1,q.2,()):qa5 [tInts,q0c]))[i]? = some (nL l i,shR (nL l i) (q1o (nL l i) k),()):=by
 unfold xe4
 rw[List.map_map,List.getElem?_map,List.getElem?_eq_getElem h,qk2 l i h]
 rfl
abbrev x4s:q1x:=xa9 [tMask,tInt] [tInts,q0c] (λx=>q8h x.1 x.2.1) (λx=>(xe4 x.1 x.2.1.toNat).map λq=>(q.1,q.2,()))
def x4t (l:List (List Int)):Nat->Option Inv
 | 0=>some (Inv.of [8] 1 (λi:Nat=>[(8,.lit (.int .i64 i))]) (λi=>[.cnt (some i)]) (λi=>i<=l.length) (λi=>l.length-i))
 | _=>none
theorem w7f:q1s Tryz.prog 109 x4s:=by
 refine x4r (snd (SpecsOk.cons w7e (SpecsOk.cons q9g (SpecsOk.nil _)))) rfl Tryz.func109 rfl rfl rfl [12] 6 (λx=>[(7,.lit (.int .i64 (x.1:List (List Int)).length)),(8,.lit (.int .i64 0))]) (λx=>x4t x.1) (by kernel_rfl) (by kernel_rfl) (λ_=>by kernel_rfl) (by decide) (λx l A cp=>⟨rfl,rfl,rfl,rfl,trivial⟩) ?_
 rintro⟨l,k,⟨⟩⟩ q h
 revert l k
 intro(l:List (List Int)) (k:Int) (h:q8h l k)
 refine @qd9 _ (let Q0:=xe4 l k.toNat; let Q1:=(l,k,PUnit.unit); ∃(v0:Unit),∃(v1:Nat),Nat.le v1 l.length/\(((0:Int)=(↑v1:Int)/\True)/\some (0:Nat)=some v1/\True)/\∀(v2:Nat),Nat.le v2 l.length->(decide ((↑v2:Int)<(↑l.length:Int))=true->((0:Int)<=(↑v2:Int)/\(↑v2:Int)<(↑l.length:Int))/\xe1 (nL l v2) k/\wo1 (nL l v2) (q1o (nL l v2) k.toNat)/\Value.func (Fn.yield q) #[] #[]=Value.func (Fn.yield (qk0.l (q7f (Ty.list (Ty.int .i64)) [tInt] [tInts,q0c] [(12:Nat)] (6:Nat) Q1 (List.map (λ(v5:List Int × Int × Int)=>(v5.1,v5.2,())) Q0) q))) #[] #[]/\(qk0.L (q7f (Ty.list (Ty.int .i64)) [tInt] [tInts,q0c] [(12:Nat)] (6:Nat) Q1 (List.map (λ(v5:List Int × Int × Int)=>(v5.1,v5.2,())) Q0) q))[v2]?=some (nL l v2,((shR (nL l v2) (q1o (nL l v2) k.toNat)).1,(shR (nL l v2) (q1o (nL l v2) k.toNat)).2),())/\(fits .i64 ((↑v2:Int)+(1:Int))/\∃(v5:Nat),Nat.le v5 l.length/\l.length-v5<l.length-v2/\((↑v2:Int)+(1:Int)=(↑v5:Int)/\True)/\some (v2+(1:Nat))=some v5/\True)/\True)/\(decide ((↑v2:Int)<(↑l.length:Int))=false->v2=(qk0.L (q7f (Ty.list (Ty.int .i64)) [tInt] [tInts,q0c] [(12:Nat)] (6:Nat) Q1 (List.map (λ(v5:List Int × Int × Int)=>(v5.1,v5.2,())) Q0) q)).length)) (by kernel_rfl) ?_
 try simp only[z0,z1,z2,z3,z4,z5,z6,z7,z8,z9,z10,Int.reduceEq,z11,z12,z13,z14,z15,z16,z17,z18,z19,z20,z21,z22,z23,z24,z25,z26,z27,z28,z29,z30,Int.reduceLE,Int.reduceLT,z31,z32,z33,z34,qa3]
 try simp only[qb4,qb5,qc0,z31,z32,z2,z1]
 have hl:=h.len
 refine⟨(),0,Nat.zero_le _,⟨rfl,rfl⟩,λi hi=>⟨λhlt=>⟨hlt,h.lar i hlt,h.shr i hlt,rfl,xl3 hlt,qa6 (by omega) (by omega),i+1,hlt,by omega,by push_cast; rfl,rfl⟩,λhge=>?_⟩⟩
 obtain rfl:i=l.length:=by omega
 show _=((xe4 l k.toNat).map λq=>((q.1,q.2,()):qa5 [tInts,q0c])).length
 rw[List.length_map]; exact(List.length_map _).symm
abbrev x8v:qb9:=w58 false none [tMask,tInt] (λ_=>True) (λx=>.clo 109 (.cons (.imm (.cons (.dat (.list (.int .i64)) x.1) .nil) 0) (.cons (.imm (.cons (.lit (.int .i64 x.2.1)) .nil) 0) .nil)))
theorem w7g:qd6 Tryz.prog 72 x8v:=by
 refine w0y (snd (SpecsOk.nil _)) Tryz.func72 rfl rfl (λ_ _=>none) (λ_=>by kernel_rfl) (by decide) ?_
 rintro⟨l,k,⟨⟩⟩ -
 revert l k
 intro(l:List (List Int)) (k:Int)
 refine @qd9 _ (((l=l/\True)/\(0:Nat)=(0:Nat))/\((k=k/\True)/\(0:Nat)=(0:Nat))/\True) (by kernel_rfl) ?_
 try simp only[z0,z1,z2,z3,z4,z5,z6,z7,z8,z9,z10,Int.reduceEq,z11,z12,z13,z14,z15,z16,z17,z18,z19,z20,z21,z22,z23,z24,z25,z26,z27,z28,z29,z30,Int.reduceLE,Int.reduceLT,z31,z32,z33,z34,qa3]
 try simp only[qb4,qb5,qc0,z31,z32,z2,z1]
def qj6 (l:List (List Int)) (k:Nat):Nat->Int × Int
 | 0=>(0,1)
 | i+1=>q8g (qj6 l k i) (shR (nL l i) (q1o (nL l i) k))
theorem qw5 {l:List (List Int)} {k:Int} (h:q8h l k):∀i,i<=l.length->qr5 (qj6 l k.toNat i)
 | 0,_=>w67
 | i+1,hi=>w68 (qw5 h i (by omega)) (q3q (h.shr i (by omega)))
abbrev x0v:AV:=.cons (.lit (.int .i64 0)) (.cons (.lit (.int .i64 0)) .nil)
def x4u (l:List (List Int)) (k:Int):Nat->Option Inv
 | 0=>some (Inv.of [] 3 (λ_:Nat=>[]) (λi=>[.box 34 x0v,.box 34 (.cons (.lit (.int .i64 (qj6 l k.toNat i).1)) (.cons (.lit (.int .i64 (qj6 l k.toNat i).2)) .nil)),.box 56 (.cons (.clo 130 (.cons (.box 1 0) .nil)) .nil)]) (λi=>i<=l.length) (λi=>i))
 | _=>none
abbrev x8w:qb9:=qg1 true none [tMask,tInt] [q0c] (λx=>q8h x.1 x.2.1) (λx=>(qj6 x.1 x.2.1.toNat x.1.length,()))
theorem wo5:qd6 Tryz.prog 70 x8w:=by
 refine meets (x6d (SpecsOk.cons wo3 (SpecsOk.cons w7g (SpecsOk.cons q9i (SpecsOk.nil _)))) (ItsOk.cons w7f ItsOk.nil) (BxsOk.cons q9h BxsOk.nil)) Tryz.func70 rfl rfl (λx=>x4u x.1 x.2.1) (λ_=>by kernel_rfl) (by decide) ?_
 rintro⟨l,k,⟨⟩⟩ h
 revert l k
 intro(l:List (List Int)) (k:Int) (h:q8h l k)
 refine @qd9 _ (let Q0:=qj6 l k.toNat l.length; True/\True/\q8h l k/\∃(v0:Unit),∃(v1:Nat),Nat.le v1 l.length/\v1=(0:Nat)/\(((0:Int)=(0:Int)/\(0:Int)=(0:Int)/\True)/\((0:Int)=(qj6 l k.toNat v1).1/\(1:Int)=(qj6 l k.toNat v1).2/\True)/\((True/\True)/\True)/\True)/\∀(v2:Nat),Nat.le v2 l.length->(∀(v4:List Int × qa5._f [q0c] ⟨qa5._f [] PUnit.unit,PUnit.unit⟩),(List.map (λ(v6:List Int × Int × Int)=>(v6.1,v6.2,())) (xe4 l k.toNat))[v2]?=some v4->(qr5 ((qj6 l k.toNat v2).1,(qj6 l k.toNat v2).2)/\qr5 (v4.2.1.1,v4.2.1.2))/\∃(v6:Nat),Nat.le v6 l.length/\v6=v2+(1:Nat)/\((0:Int)=(0:Int)/\(0:Int)=(0:Int)/\True)/\((q8g ((qj6 l k.toNat v2).1,(qj6 l k.toNat v2).2) (v4.2.1.1,v4.2.1.2)).1=(qj6 l k.toNat v6).1/\(q8g ((qj6 l k.toNat v2).1,(qj6 l k.toNat v2).2) (v4.2.1.1,v4.2.1.2)).2=(qj6 l k.toNat v6).2/\True)/\((True/\True)/\True)/\True)/\(v2=(List.map (λ(v5:List Int × Int × Int)=>(v5.1,v5.2,())) (xe4 l k.toNat)).length->True/\(qj6 l k.toNat v2).1=Q0.1/\(qj6 l k.toNat v2).2=Q0.2/\True)) (by kernel_rfl) ?_
 try simp only[z0,z1,z2,z3,z4,z5,z6,z7,z8,z9,z10,Int.reduceEq,z11,z12,z13,z14,z15,z16,z17,z18,z19,z20,z21,z22,z23,z24,z25,z26,z27,z28,z29,z30,Int.reduceLE,Int.reduceLT,z31,z32,z33,z34,qa3]
 try simp only[qb4,qb5,qc0,z31,z32,z2,z1]
 refine⟨h,(),0,Nat.zero_le _,rfl,⟨rfl,rfl⟩,λi hi=>⟨λd hd=>?_,λhe=>?_⟩⟩
 ·have hd:((xe4 l k.toNat).map λq=>((q.1,q.2,()):qa5 [tInts,q0c]))[i]? = some d:=hd
  have hlt:i<l.length:=by
   have:=(List.getElem?_eq_some_iff.1 hd).1
   rw[List.length_map] at this
   exact Nat.lt_of_lt_of_eq this (List.length_map _)
  rw[xl3 hlt] at hd
  obtain rfl:=Option.some.inj hd
  exact⟨⟨qw5 h i hi,q3q (h.shr i hlt)⟩,i+1,hlt,rfl,rfl,rfl⟩
 ·have he:i=((xe4 l k.toNat).map λq=>((q.1,q.2,()):qa5 [tInts,q0c])).length:=he
  rw[List.length_map] at he
  obtain rfl:i=l.length:=he.trans (List.length_map _)
  exact⟨rfl,rfl⟩
def wo6 (m:List (List Int)) (k least:Int):Int:=if validB m=false then 1 else if inB k least (nL m 0).length=false then 7 else 0
abbrev x4v:qb9:=qg1 true none [tMask,tInt,tInt] [tInt] (λ_=>True) (λx=>(wo6 x.1 x.2.1 x.2.2.1,()))
theorem w3r:qd6 Tryz.prog 69 x4v:=by
 refine meets (snd (SpecsOk.cons qy9 (SpecsOk.cons q3g (SpecsOk.nil _)))) Tryz.func69 rfl rfl (λ_ _=>none) (λ_=>by kernel_rfl) (by decide) ?_
 rintro⟨m,k,q,⟨⟩⟩ -
 revert m k q
 intro(m:List (List Int)) (k:Int) (q:Int)
 refine @qd9 _ (True/\((!validB m)=true->(1:Int)=wo6 m k q)/\((!validB m)=false->((0:Int)<=(0:Int)/\(0:Int)<(↑m.length:Int))/\True/\((!inB k q (↑(nL m (0:Nat)).length:Int))=true->(7:Int)=wo6 m k q)/\((!inB k q (↑(nL m (0:Nat)).length:Int))=false->(0:Int)=wo6 m k q))) (by kernel_rfl) ?_
 try simp only[z0,z1,z2,z3,z4,z5,z6,z7,z8,z9,z10,Int.reduceEq,z11,z12,z13,z14,z15,z16,z17,z18,z19,z20,z21,z22,z23,z24,z25,z26,z27,z28,z29,z30,Int.reduceLE,Int.reduceLT,z31,z32,z33,z34,qa3]
 try simp only[qb4,qb5,qc0,z31,z32,z2,z1]
 refine⟨λhv=>(if_pos hv).symm,λhv=>⟨by have:=(Mk.of hv).rows1; omega,λhb=>?_,λhb=>?_⟩⟩
 ·unfold wo6; rw[hv,hb]; rfl
 ·unfold wo6; rw[hv,hb]; rfl
structure wv7 (m:List (List Int)):Prop where
 cir:validB m=true->q8f m
 shs:validB m=true->∀k:Nat,k<=(nL m 0).length->q8h (qc8 m).1 k
def grQ (m:List (List Int)) (k:Int):Int × Int:=if wo6 m k 0=0 then qj6 (qc8 m).1 k.toNat (qc8 m).1.length else(0,0)
theorem xs5 {m:List (List Int)} {k q:Int} (h:wo6 m k q=0) (hq:0<=q:=by decide):validB m=true/\∃n:Nat,k=n/\n<=(nL m 0).length:=by
 unfold wo6 at h
 split at h
 ·cases h
 ·rename_i hv
  split at h
  ·cases h
  ·rename_i hb
   have hb:=inB_iff.1 (by cases e:inB k q (nL m 0).length with | true=>rfl | false=>exact absurd e hb)
   exact⟨by cases e:validB m with | true=>rfl | false=>exact absurd e hv,k.toNat,by omega,by omega⟩
abbrev x0w:qb9:=qg1 true none [tMask,tInt] [q0c,tInt] (λx=>wv7 x.1) (λx=>(grQ x.1 x.2.1,wo6 x.1 x.2.1 0,()))
theorem wv8:qd6 Tryz.prog 24 x0w:=by
 refine meets (snd (SpecsOk.cons w3r (SpecsOk.cons q4m (SpecsOk.cons wo5 (SpecsOk.nil _))))) Tryz.func24 rfl rfl (λ_ _=>none) (λ_=>by kernel_rfl) (by decide) ?_
 rintro⟨m,k,⟨⟩⟩ h
 revert m k
 intro(m:List (List Int)) (k:Int) (h:wv7 m)
 refine @qd9 _ (let Q0:=qj6 (qc8 m).1 k.toNat (qc8 m).1.length; True/\((wo6 m k (0:Int) != (0:Int))=true->((0:Int)=(grQ m k).1/\(0:Int)=(grQ m k).2/\True)/\wo6 m k (0:Int)=wo6 m k (0:Int)/\True)/\((wo6 m k (0:Int) != (0:Int))=false->(validB m=true->q8f m)/\q8h (qc8 m).1 k/\(Q0.1=(grQ m k).1/\Q0.2=(grQ m k).2/\True)/\(0:Int)=wo6 m k (0:Int)/\True)) (by kernel_rfl) ?_
 try simp only[z0,z1,z2,z3,z4,z5,z6,z7,z8,z9,z10,Int.reduceEq,z11,z12,z13,z14,z15,z16,z17,z18,z19,z20,z21,z22,z23,z24,z25,z26,z27,z28,z29,z30,Int.reduceLE,Int.reduceLT,z31,z32,z33,z34,qa3]
 try simp only[qb4,qb5,qc0,z31,z32,z2,z1]
 refine⟨λhe=>?_,λhe=>?_⟩
 ·unfold grQ; rw[if_neg he]; exact⟨rfl,rfl⟩
 ·obtain⟨hv,n,rfl,hn⟩:=xs5 he
  unfold grQ; rw[if_pos he]
  exact⟨h.cir,h.shs hv n hn,⟨rfl,rfl⟩,he.symm⟩
def hlf (r:Int × Int):Bool:=decide (r.2<=2*r.1)
abbrev x4w:qb9:=qg1 true none [q0c] [.bool] (λx=>qr5 x.1) (λx=>(hlf x.1,()))
theorem q9j:qd6 Tryz.prog 47 x4w:=by
 refine meets (snd (SpecsOk.nil _)) Tryz.func47 rfl rfl (λ_ _=>none) (λ_=>by kernel_rfl) (by decide) ?_
 rintro⟨⟨a,b⟩,⟨⟩⟩ h
 revert a b
 intro(a:Int) (b:Int) (h:qr5 (a,b))
 refine @qd9 _ (fits .i64 ((2:Int)*a)/\decide (b<=(2:Int)*a)=hlf (a,b)) (by kernel_rfl) ?_
 try simp only[z0,z1,z2,z3,z4,z5,z6,z7,z8,z9,z10,Int.reduceEq,z11,z12,z13,z14,z15,z16,z17,z18,z19,z20,z21,z22,z23,z24,z25,z26,z27,z28,z29,z30,Int.reduceLE,Int.reduceLT,z31,z32,z33,z34,qa3]
 try simp only[qb4,qb5,qc0,z31,z32,z2,z1]
 have h1:=h.n
 obtain⟨h1,h2⟩:=h1
 dsimp only at h1 h2
 exact⟨qa6 (by omega) (by omega),rfl⟩
def ordF (l:List (List Int)):Nat->Nat->Nat
 | 0,k=>k
 | f+1,k=>if hlf (qj6 l (k+1) l.length)=false then ordF l f (k+1) else k
def ordL (m:List (List Int)):Nat:=ordF (qc8 m).1 (nL m 0).length 0
theorem wd9 {l:List (List Int)} {n k:Nat} (h:k<n):ordF l (n-k) k=if hlf (qj6 l (k+1) l.length)=false then ordF l (n-(k+1)) (k+1) else k:=by
 obtain⟨f,hf⟩:∃f,n-k=f+1:=⟨n-k-1,by omega⟩
 rw[hf,show n-(k+1)=f by omega,ordF]
structure wo7 (l:List (List Int)) (n k:Nat):Prop where
 le:k<=n
 eq:ordF l n 0=ordF l (n-k) k
def x4x (l:List (List Int)) (n:Nat):Nat->Option Inv
 | 0=>some (Inv.of [4] 0 (λk:Nat=>[(4,.lit (.int .i64 k))]) (λ_=>[]) (λk=>wo7 l n k) (λk=>n-k))
 | _=>none
abbrev xe5:qb9:=qg1 true none [tMask] [tInt] (λx=>validB x.1=true/\wv7 x.1) (λx=>((ordL x.1:Nat),()))
theorem qz4:qd6 Tryz.prog 50 xe5:=by
 refine meets (snd (SpecsOk.cons q4m (SpecsOk.cons wo5 (SpecsOk.cons q9j (SpecsOk.nil _))))) Tryz.func50 rfl rfl (λx=>x4x (qc8 x.1).1 (nL x.1 0).length) (λ_=>by kernel_rfl) (by decide) ?_
 rintro⟨m,⟨⟩⟩ h
 revert m
 intro(m:List (List Int)) (h:validB m=true/\wv7 m)
 refine @qd9 _ ((validB m=true->q8f m)/\∃(v0:Unit),∃(v1:Nat),wo7 (qc8 m).1 (nL m (0:Nat)).length v1/\(((0:Int)=(↑v1:Int)/\True)/\True)/\∀(v2:Nat),wo7 (qc8 m).1 (nL m (0:Nat)).length v2->((0:Int)<=(0:Int)/\(0:Int)<(↑m.length:Int))/\(decide ((↑v2:Int)<(↑(nL m (0:Nat)).length:Int))=true->fits .i64 ((↑v2:Int)+(1:Int))/\q8h (qc8 m).1 ((↑v2:Int)+(1:Int))/\qr5 ((qj6 (qc8 m).1 ((↑v2:Int)+(1:Int)).toNat (qc8 m).1.length).1,(qj6 (qc8 m).1 ((↑v2:Int)+(1:Int)).toNat (qc8 m).1.length).2)/\((!hlf ((qj6 (qc8 m).1 ((↑v2:Int)+(1:Int)).toNat (qc8 m).1.length).1,(qj6 (qc8 m).1 ((↑v2:Int)+(1:Int)).toNat (qc8 m).1.length).2))=true->fits .i64 ((↑v2:Int)+(1:Int))/\∃(v6:Nat),wo7 (qc8 m).1 (nL m (0:Nat)).length v6/\(nL m (0:Nat)).length-v6<(nL m (0:Nat)).length-v2/\((↑v2:Int)+(1:Int)=(↑v6:Int)/\True)/\True)/\((!hlf ((qj6 (qc8 m).1 ((↑v2:Int)+(1:Int)).toNat (qc8 m).1.length).1,(qj6 (qc8 m).1 ((↑v2:Int)+(1:Int)).toNat (qc8 m).1.length).2))=false->(↑v2:Int)=(↑(ordL m):Int)))/\(decide ((↑v2:Int)<(↑(nL m (0:Nat)).length:Int))=false->(↑v2:Int)=(↑(ordL m):Int))) (by kernel_rfl) ?_
 try simp only[z0,z1,z2,z3,z4,z5,z6,z7,z8,z9,z10,Int.reduceEq,z11,z12,z13,z14,z15,z16,z17,z18,z19,z20,z21,z22,z23,z24,z25,z26,z27,z28,z29,z30,Int.reduceLE,Int.reduceLT,z31,z32,z33,z34,qa3]
 try simp only[qb4,qb5,qc0,z31,z32,z2,z1]
 have hM:=Mk.of h.1
 have m1:=hM.rows1
 have m10:=hM.pix10
 have hc:=h.2.shs h.1
 refine⟨h.2.cir,(),0,⟨Nat.zero_le _,rfl⟩,rfl,λk hk=>⟨by omega,λhlt=>?_,λhge=>?_⟩⟩
 ·have e:((k:Int)+1).toNat=k+1:=by omega
  have e2:((k:Int)+1)=((k+1:Nat):Int):=by push_cast; rfl
  have hs:=hc (k+1) (by omega)
  have hl:=qw5 hs (qc8 m).1.length (Nat.le_refl _)
  rw[Int.toNat_natCast] at hl
  rw[e,e2]
  refine⟨qa6 (by omega) (by omega),hs,hl,λhf=>⟨qa6 (by omega) (by omega),k+1,⟨by omega,?_⟩,by omega,rfl⟩,λhf=>?_⟩
  ·rw[hk.eq,wd9 hlt]
   exact if_pos hf
  ·have:ordL m=k:=by
    unfold ordL
    rw[hk.eq,wd9 hlt,if_neg (by rw[show hlf (qj6 (qc8 m).1 (k+1) (qc8 m).1.length)=true from hf]; simp)]
   rw[this]
 ·have hle:=hk.le
  have e:k=(nL m 0).length:=by omega
  have:ordL m=k:=by
   unfold ordL
   rw[hk.eq,e,Nat.sub_self]; rfl
  rw[this]
def qu8 (m:List (List Int)):Int × Int:=if validB m=true then((ordL m:Nat),0) else(0,1)
abbrev x0x:qb9:=qg1 true none [tMask] [tInt,tInt] (λx=>wv7 x.1) (λx=>((qu8 x.1).1,(qu8 x.1).2,()))
theorem wv9:qd6 Tryz.prog 13 x0x:=by
 refine meets (snd (SpecsOk.cons qy9 (SpecsOk.cons qz4 (SpecsOk.nil _)))) Tryz.func13 rfl rfl (λ_ _=>none) (λ_=>by kernel_rfl) (by decide) ?_
 rintro⟨m,⟨⟩⟩ h
 revert m
 intro(m:List (List Int)) (h:wv7 m)
 refine @qd9 _ (True/\((!validB m)=true->(0:Int)=(qu8 m).1/\(1:Int)=(qu8 m).2/\True)/\((!validB m)=false->(validB m=true/\wv7 m)/\(↑(ordL m):Int)=(qu8 m).1/\(0:Int)=(qu8 m).2/\True)) (by kernel_rfl) ?_
 try simp only[z0,z1,z2,z3,z4,z5,z6,z7,z8,z9,z10,Int.reduceEq,z11,z12,z13,z14,z15,z16,z17,z18,z19,z20,z21,z22,z23,z24,z25,z26,z27,z28,z29,z30,Int.reduceLE,Int.reduceLT,z31,z32,z33,z34,qa3]
 try simp only[qb4,qb5,qc0,z31,z32,z2,z1]
 refine⟨λhv=>?_,λhv=>⟨⟨hv,h⟩,?_⟩⟩
 ·unfold qu8; rw[hv]; exact⟨rfl,rfl⟩
 ·unfold qu8; rw[if_pos hv]; exact⟨rfl,rfl⟩
def xs6 (l:List Int):Bool:=(decide (7<l.length) && decide (l.length<=10)) || decide (20<l.length)
def w4h (m:List (List Int)):Bool:=!(m.any xs6) && decide (m.length<=8)
structure w3s (m:List (List Int)) (k:Nat):Prop where
 le:k<=m.length
 ok:∀i,i<k->xs6 (nL m i)=false
def x0y (m:List (List Int)):Nat->Option Inv
 | 0=>some (Inv.of [7] 0 (λk:Nat=>[(7,.lit (.int .i64 k))]) (λ_=>[]) (λk=>w3s m k) (λk=>m.length-k))
 | _=>none
abbrev x4y:qb9:=qg1 true none [tMask] [.bool] (λx=>x.1.length<=9223372036854775807) (λx=>(w4h x.1,()))
theorem w3t:qd6 Tryz.prog 9 x4y:=by
 refine meets (snd (SpecsOk.nil _)) Tryz.func9 rfl rfl (λx=>x0y x.1) (λ_=>by kernel_rfl) (by decide) ?_
 rintro⟨m,⟨⟩⟩ h
 revert m
 intro(m:List (List Int)) (h:m.length<=9223372036854775807)
 refine @qd9 _ (∃(v0:Unit),∃(v1:Nat),w3s m v1/\(((0:Int)=(↑v1:Int)/\True)/\True)/\∀(v2:Nat),w3s m v2->(decide ((↑v2:Int)<(↑m.length:Int))=true->((0:Int)<=(↑v2:Int)/\(↑v2:Int)<(↑m.length:Int))/\(decide ((7:Int)<(↑(nL m v2).length:Int))=true->(decide ((↑(nL m v2).length:Int)<=(10:Int))=true->false=w4h m)/\(decide ((↑(nL m v2).length:Int)<=(10:Int))=false->(decide ((20:Int)<(↑(nL m v2).length:Int))=true->false=w4h m)/\(decide ((20:Int)<(↑(nL m v2).length:Int))=false->fits .i64 ((↑v2:Int)+(1:Int))/\∃(v8:Nat),w3s m v8/\m.length-v8<m.length-v2/\((↑v2:Int)+(1:Int)=(↑v8:Int)/\True)/\True)))/\(decide ((7:Int)<(↑(nL m v2).length:Int))=false->(decide ((20:Int)<(↑(nL m v2).length:Int))=true->false=w4h m)/\(decide ((20:Int)<(↑(nL m v2).length:Int))=false->fits .i64 ((↑v2:Int)+(1:Int))/\∃(v7:Nat),w3s m v7/\m.length-v7<m.length-v2/\((↑v2:Int)+(1:Int)=(↑v7:Int)/\True)/\True)))/\(decide ((↑v2:Int)<(↑m.length:Int))=false->decide ((↑m.length:Int)<=(8:Int))=w4h m)) (by kernel_rfl) ?_
 try simp only[z0,z1,z2,z3,z4,z5,z6,z7,z8,z9,z10,Int.reduceEq,z11,z12,z13,z14,z15,z16,z17,z18,z19,z20,z21,z22,z23,z24,z25,z26,z27,z28,z29,z30,Int.reduceLE,Int.reduceLT,z31,z32,z33,z34,qa3]
 try simp only[qb4,qb5,qc0,z31,z32,z2,z1]
 refine⟨(),0,⟨Nat.zero_le _,λi hi=>by omega⟩,rfl,λk hk=>⟨λhlt=>?_,λhge=>?_⟩⟩
 ·have bad:xs6 (nL m k)=true->false=w4h m:=λq=>by
   unfold w4h
   rw[List.any_eq_true.2 ⟨nL m k,qi9 m k hlt,q⟩]; rfl
  have good:xs6 (nL m k)=false->fits IntKind.i64 (↑k+1)/\∃v8,w3s m v8/\m.length-v8<m.length-k/\(↑k+1:Int)=↑v8:=λq=>⟨qa6 (by omega) (by omega),k+1,⟨hlt,λi hi=>by
   by_cases e:i=k
   ·subst e; exact q
   ·exact hk.ok i (by omega)⟩,by omega,by push_cast; rfl⟩
  refine⟨hlt,λh7=>⟨λh10=>bad ?_,λh10=>⟨λh20=>bad ?_,λh20=>good ?_⟩⟩,λh7=>⟨λh20=>bad ?_,λh20=>good ?_⟩⟩ <;> (unfold xs6; simp; omega)
 ·have hle:=hk.le
  have e:m.any xs6=false:=by
   rw[List.any_eq_false]
   intro x hx
   obtain⟨i,hi,rfl⟩:=List.mem_iff_getElem.1 hx
   have:=hk.ok i (by omega)
   rw[qk2 _ _ hi] at this
   rw[this]; simp
  unfold w4h
  rw[e]
  simp only[Bool.not_false,Bool.true_and]
  congr 1
  apply propext
  constructor <;> intro q <;> omega
end Go.Proofs.YtempacilejhbgaaGreat
