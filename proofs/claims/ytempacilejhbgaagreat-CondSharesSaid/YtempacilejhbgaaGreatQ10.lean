/- Masks on top of each other, as the document says: contracts by the engine. No condition. -/
import Derived.Test.YtempacilejhbgaaGreatQ7
import Derived.Test.YtempacilejhbgaaGreatEngT2
set_option linter.unusedVariables false
set_option linter.unusedSimpArgs false
namespace Go.Proofs.YtempacilejhbgaaGreat
open Go Go.RowKit Eng
structure q93 (l:List (List Int)) (k:Int):Prop where
 len:l.length<=1000000
 lar:∀i,i<l.length->w9d (nL l i) k
 shr:∀i,i<l.length->wj2 (nL l i) (q6k (nL l i) k.toNat)
def w5t (l:List (List Int)) (k:Nat):List (List Int × (Int × Int)):=l.map λh=>(h,shR h (q6k h k))
theorem xc5 {l:List (List Int)} {k i:Nat} (h:i<l.length):((w5t l k).map λq=>((q.1,q.2,()):qa6 [qf2,qy9]))[i]? = some (nL l i,shR (nL l i) (q6k (nL l i) k),()):=by
 unfold w5t
 rw[List.map_map,List.getElem?_map,List.getElem?_eq_getElem h,ql4 l i h]
 rfl
abbrev x07:q1i:=w8n [qk0,qd6] [qf2,qy9] (λx=>q93 x.1 x.2.1) (λx=>(w5t x.1 x.2.1.toNat).map λq=>(q.1,q.2,()))
def x08 (l:List (List Int)):Nat->Option Inv
 | 0=>some (Inv.of [8] 1 (λi:Nat=>[(8,.lit (.int .i64 i))]) (λi=>[.cnt (some i)]) (λi=>i<=l.length) (λi=>l.length-i))
 | _=>none
theorem w5u:q1f Tryz.prog 109 x07:=by
 refine x06 (snd (SpecsOk.cons w5s (SpecsOk.cons q3p (SpecsOk.nil _)))) rfl Tryz.func109 rfl rfl rfl [12] 6 (λx=>[(7,.lit (.int .i64 (x.1:List (List Int)).length)),(8,.lit (.int .i64 0))]) (λx=>x08 x.1) (by kernel_rfl) (by kernel_rfl) (λ_=>by kernel_rfl) (by decide) (λx l A cp=>⟨rfl,rfl,rfl,rfl,trivial⟩) ?_
 rintro⟨l,k,⟨⟩⟩ q h
 revert l k
 intro(l:List (List Int)) (k:Int) (h:q93 l k)
 refine @qe1 _ (let Q0:=List.length l; let Q1:=Int.toNat k; let Q2:=(l,k,PUnit.unit); ∃(v0:Unit),∃(v1:Nat),Nat.le v1 Q0/\(((0:Int)=(↑v1:Int)/\True)/\some (0:Nat)=some v1/\True)/\∀(v2:Nat),Nat.le v2 Q0->(decide ((↑v2:Int)<(↑Q0:Int))=true->((0:Int)<=(↑v2:Int)/\(↑v2:Int)<(↑Q0:Int))/\w9d (qa1 (Ty.list (Ty.int .i64)) l (Int.toNat (↑v2:Int))) k/\wj2 (qa1 (Ty.list (Ty.int .i64)) l (Int.toNat (↑v2:Int))) (q6k (qa1 (Ty.list (Ty.int .i64)) l (Int.toNat (↑v2:Int))) Q1)/\Value.func (Fn.yield q) #[] #[]=Value.func (Fn.yield (qk2.l (q6m (Ty.list (Ty.int .i64)) [qd6] [qf2,qy9] [(12:Nat)] (6:Nat) Q2 (List.map (λ(v5:List Int × Int × Int)=>(Prod.fst v5,Prod.snd v5,())) (w5t l Q1)) q))) #[] #[]/\(qk2.L (q6m (Ty.list (Ty.int .i64)) [qd6] [qf2,qy9] [(12:Nat)] (6:Nat) Q2 (List.map (λ(v5:List Int × Int × Int)=>(Prod.fst v5,Prod.snd v5,())) (w5t l Q1)) q))[v2]?=some (qa1 (Ty.list (Ty.int .i64)) l (Int.toNat (↑v2:Int)),(Prod.fst (shR (qa1 (Ty.list (Ty.int .i64)) l (Int.toNat (↑v2:Int))) (q6k (qa1 (Ty.list (Ty.int .i64)) l (Int.toNat (↑v2:Int))) Q1)),Prod.snd (shR (qa1 (Ty.list (Ty.int .i64)) l (Int.toNat (↑v2:Int))) (q6k (qa1 (Ty.list (Ty.int .i64)) l (Int.toNat (↑v2:Int))) Q1))),())/\(fits .i64 ((↑v2:Int)+(1:Int))/\∃(v5:Nat),Nat.le v5 Q0/\List.length l-v5<List.length l-v2/\((↑v2:Int)+(1:Int)=(↑v5:Int)/\True)/\some (v2+(1:Nat))=some v5/\True)/\True)/\(decide ((↑v2:Int)<(↑Q0:Int))=false->v2=List.length (qk2.L (q6m (Ty.list (Ty.int .i64)) [qd6] [qf2,qy9] [(12:Nat)] (6:Nat) Q2 (List.map (λ(v5:List Int × Int × Int)=>(Prod.fst v5,Prod.snd v5,())) (w5t l Q1)) q)))) (by kernel_rfl) ?_
 try simp only[z0,z1,z2,z3,z4,z5,z6,z7,z8,z9,z10,Int.reduceEq,z11,z12,z13,z14,z15,z16,z17,z18,z19,z20,z21,z22,z23,z24,z25,z26,z27,z28,z29,z30,Int.reduceLE,Int.reduceLT,z31,z32,z33,z34,qa4]
 try simp only[qb3,qb4,qb9,List.set_cons_zero,List.cons.injEq,and_true,true_and]
 have hl:=h.len
 refine⟨(),0,Nat.zero_le _,⟨rfl,rfl⟩,λi hi=>⟨λhlt=>⟨hlt,h.lar i hlt,h.shr i hlt,rfl,xc5 hlt,qa7 (by omega) (by omega),i+1,hlt,by omega,by push_cast; rfl,rfl⟩,λhge=>?_⟩⟩
 obtain rfl:i=l.length:=by omega
 show _=((w5t l k.toNat).map λq=>((q.1,q.2,()):qa6 [qf2,qy9])).length
 rw[List.length_map]; exact(List.length_map _).symm
abbrev x5e:qc0:=w8j false none [qk0,qd6] (λ_=>True) (λx=>.clo 109 (.cons (.imm (.cons (.dat (.list (.int .i64)) x.1) .nil) 0) (.cons (.imm (.cons (.lit (.int .i64 x.2.1)) .nil) 0) .nil)))
theorem w5v:qd7 Tryz.prog 72 x5e:=by
 refine ww4 (snd (SpecsOk.nil _)) Tryz.func72 rfl rfl (λ_ _=>none) (λ_=>by kernel_rfl) (by decide) ?_
 rintro⟨l,k,⟨⟩⟩ -
 revert l k
 intro(l:List (List Int)) (k:Int)
 refine @qe1 _ (((l=l/\True)/\(0:Nat)=(0:Nat))/\((k=k/\True)/\(0:Nat)=(0:Nat))/\True) (by kernel_rfl) ?_
 try simp only[z0,z1,z2,z3,z4,z5,z6,z7,z8,z9,z10,Int.reduceEq,z11,z12,z13,z14,z15,z16,z17,z18,z19,z20,z21,z22,z23,z24,z25,z26,z27,z28,z29,z30,Int.reduceLE,Int.reduceLT,z31,z32,z33,z34,qa4]
 try simp only[qb3,qb4,qb9,List.set_cons_zero,List.cons.injEq,and_true,true_and]
def qm7 (l:List (List Int)) (k:Nat):Nat->Int × Int
 | 0=>(0,1)
 | i+1=>q7f (qm7 l k i) (shR (nL l i) (q6k (nL l i) k))
theorem q6n {l:List (List Int)} {k:Int} (h:q93 l k):∀i,i<=l.length->qu2 (qm7 l k.toNat i)
 | 0,_=>xc4
 | i+1,hi=>w5l (q6n h i (by omega)) (q4e (h.shr i (by omega)))
abbrev xn1:AV:=.cons (.lit (.int .i64 0)) (.cons (.lit (.int .i64 0)) .nil)
def x1a (l:List (List Int)) (k:Int):Nat->Option Inv
 | 0=>some (Inv.of [] 3 (λ_:Nat=>[]) (λi=>[.box 34 xn1,.box 34 (.cons (.lit (.int .i64 (qm7 l k.toNat i).1)) (.cons (.lit (.int .i64 (qm7 l k.toNat i).2)) .nil)),.box 56 (.cons (.clo 130 (.cons (.box 1 0) .nil)) .nil)]) (λi=>i<=l.length) (λi=>i))
 | _=>none
abbrev x5f:qc0:=qg7 true none [qk0,qd6] [qy9] (λx=>q93 x.1 x.2.1) (λx=>(qm7 x.1 x.2.1.toNat x.1.length,()))
theorem wj6:qd7 Tryz.prog 70 x5f:=by
 refine meets (x2p (SpecsOk.cons wj4 (SpecsOk.cons w5v (SpecsOk.cons q8f (SpecsOk.nil _)))) (ItsOk.cons w5u ItsOk.nil) (BxsOk.cons q8e BxsOk.nil)) Tryz.func70 rfl rfl (λx=>x1a x.1 x.2.1) (λ_=>by kernel_rfl) (by decide) ?_
 rintro⟨l,k,⟨⟩⟩ h
 revert l k
 intro(l:List (List Int)) (k:Int) (h:q93 l k)
 refine @qe1 _ (let Q0:=Int.toNat k; let Q1:=List.length l; True/\True/\q93 l k/\∃(v0:Unit),∃(v1:Nat),Nat.le v1 Q1/\v1=(0:Nat)/\(((0:Int)=(0:Int)/\(0:Int)=(0:Int)/\True)/\((0:Int)=Prod.fst (qm7 l Q0 v1)/\(1:Int)=Prod.snd (qm7 l Q0 v1)/\True)/\((True/\True)/\True)/\True)/\∀(v2:Nat),Nat.le v2 Q1->(∀(v4:List Int × qa6._f [qy9] ⟨qa6._f [] PUnit.unit,PUnit.unit⟩),(List.map (λ(v6:List Int × Int × Int)=>(Prod.fst v6,Prod.snd v6,())) (w5t l Q0))[v2]?=some v4->(qu2 (Prod.fst (qm7 l Q0 v2),Prod.snd (qm7 l Q0 v2))/\qu2 (Prod.fst (Prod.fst (Prod.snd v4)),Prod.snd (Prod.fst (Prod.snd v4))))/\∃(v6:Nat),Nat.le v6 Q1/\v6=v2+(1:Nat)/\((0:Int)=(0:Int)/\(0:Int)=(0:Int)/\True)/\(Prod.fst (q7f (Prod.fst (qm7 l Q0 v2),Prod.snd (qm7 l Q0 v2)) (Prod.fst (Prod.fst (Prod.snd v4)),Prod.snd (Prod.fst (Prod.snd v4))))=Prod.fst (qm7 l Q0 v6)/\Prod.snd (q7f (Prod.fst (qm7 l Q0 v2),Prod.snd (qm7 l Q0 v2)) (Prod.fst (Prod.fst (Prod.snd v4)),Prod.snd (Prod.fst (Prod.snd v4))))=Prod.snd (qm7 l Q0 v6)/\True)/\((True/\True)/\True)/\True)/\(v2=List.length (List.map (λ(v5:List Int × Int × Int)=>(Prod.fst v5,Prod.snd v5,())) (w5t l Q0))->True/\Prod.fst (qm7 l Q0 v2)=Prod.fst (qm7 l Q0 Q1)/\Prod.snd (qm7 l Q0 v2)=Prod.snd (qm7 l Q0 Q1)/\True)) (by kernel_rfl) ?_
 try simp only[z0,z1,z2,z3,z4,z5,z6,z7,z8,z9,z10,Int.reduceEq,z11,z12,z13,z14,z15,z16,z17,z18,z19,z20,z21,z22,z23,z24,z25,z26,z27,z28,z29,z30,Int.reduceLE,Int.reduceLT,z31,z32,z33,z34,qa4]
 try simp only[qb3,qb4,qb9,List.set_cons_zero,List.cons.injEq,and_true,true_and]
 refine⟨h,(),0,Nat.zero_le _,rfl,⟨rfl,rfl⟩,λi hi=>⟨λd hd=>?_,λhe=>?_⟩⟩
 ·have hd:((w5t l k.toNat).map λq=>((q.1,q.2,()):qa6 [qf2,qy9]))[i]? = some d:=hd
  have hlt:i<l.length:=by
   have:=(List.getElem?_eq_some_iff.1 hd).1
   rw[List.length_map] at this
   exact Nat.lt_of_lt_of_eq this (List.length_map _)
  rw[xc5 hlt] at hd
  obtain rfl:=Option.some.inj hd
  exact⟨⟨q6n h i hi,q4e (h.shr i hlt)⟩,i+1,hlt,rfl,rfl,rfl⟩
 ·have he:i=((w5t l k.toNat).map λq=>((q.1,q.2,()):qa6 [qf2,qy9])).length:=he
  rw[List.length_map] at he
  obtain rfl:i=l.length:=he.trans (List.length_map _)
  exact⟨rfl,rfl⟩
def wj7 (m:List (List Int)) (k least:Int):Int:=if qc8 m=false then 1 else if inB k least (nL m 0).length=false then 7 else 0
abbrev x1b:qc0:=qg7 true none [qk0,qd6,qd6] [qd6] (λ_=>True) (λx=>(wj7 x.1 x.2.1 x.2.2.1,()))
theorem w2a:qd7 Tryz.prog 69 x1b:=by
 refine meets (snd (SpecsOk.cons q4r (SpecsOk.cons qy3 (SpecsOk.nil _)))) Tryz.func69 rfl rfl (λ_ _=>none) (λ_=>by kernel_rfl) (by decide) ?_
 rintro⟨m,k,q,⟨⟩⟩ -
 revert m k q
 intro(m:List (List Int)) (k:Int) (q:Int)
 refine @qe1 _ (True/\((!qc8 m)=true->(1:Int)=wj7 m k q)/\((!qc8 m)=false->((0:Int)<=(0:Int)/\(0:Int)<(↑(List.length m):Int))/\True/\((!inB k q (↑(List.length (qa1 (Ty.list (Ty.int .i64)) m (0:Nat))):Int))=true->(7:Int)=wj7 m k q)/\((!inB k q (↑(List.length (qa1 (Ty.list (Ty.int .i64)) m (0:Nat))):Int))=false->(0:Int)=wj7 m k q))) (by kernel_rfl) ?_
 try simp only[z0,z1,z2,z3,z4,z5,z6,z7,z8,z9,z10,Int.reduceEq,z11,z12,z13,z14,z15,z16,z17,z18,z19,z20,z21,z22,z23,z24,z25,z26,z27,z28,z29,z30,Int.reduceLE,Int.reduceLT,z31,z32,z33,z34,qa4]
 try simp only[qb3,qb4,qb9,List.set_cons_zero,List.cons.injEq,and_true,true_and]
 refine⟨λhv=>(if_pos hv).symm,λhv=>⟨by have:=(Mk.of hv).rows1; omega,λhb=>?_,λhb=>?_⟩⟩
 ·unfold wj7; rw[hv,hb]; rfl
 ·unfold wj7; rw[hv,hb]; rfl
structure w5w (m:List (List Int)):Prop where
 cir:qc8 m=true->q6f m
 shs:qc8 m=true->∀k:Nat,k<=(nL m 0).length->q93 (qo1 m).1 k
def grQ (m:List (List Int)) (k:Int):Int × Int:=if wj7 m k 0=0 then qm7 (qo1 m).1 k.toNat (qo1 m).1.length else(0,0)
theorem xj5 {m:List (List Int)} {k q:Int} (h:wj7 m k q=0) (hq:0<=q:=by decide):qc8 m=true/\∃n:Nat,k=n/\n<=(nL m 0).length:=by
 unfold wj7 at h
 split at h
 ·cases h
 ·rename_i hv
  split at h
  ·cases h
  ·rename_i hb
   have hb:=qm0.1 (by cases e:inB k q (nL m 0).length with | true=>rfl | false=>exact absurd e hb)
   exact⟨by cases e:qc8 m with | true=>rfl | false=>exact absurd e hv,k.toNat,by omega,by omega⟩
abbrev xt1:qc0:=qg7 true none [qk0,qd6] [qy9,qd6] (λx=>w5w x.1) (λx=>(grQ x.1 x.2.1,wj7 x.1 x.2.1 0,()))
theorem wp9:qd7 Tryz.prog 24 xt1:=by
 refine meets (snd (SpecsOk.cons w2a (SpecsOk.cons q3q (SpecsOk.cons wj6 (SpecsOk.nil _))))) Tryz.func24 rfl rfl (λ_ _=>none) (λ_=>by kernel_rfl) (by decide) ?_
 rintro⟨m,k,⟨⟩⟩ h
 revert m k
 intro(m:List (List Int)) (k:Int) (h:w5w m)
 refine @qe1 _ (let Q0:=qm7 (Prod.fst (qo1 m)) (Int.toNat k) (List.length (Prod.fst (qo1 m))); True/\((wj7 m k (0:Int) != (0:Int))=true->((0:Int)=Prod.fst (grQ m k)/\(0:Int)=Prod.snd (grQ m k)/\True)/\wj7 m k (0:Int)=wj7 m k (0:Int)/\True)/\((wj7 m k (0:Int) != (0:Int))=false->(qc8 m=true->q6f m)/\q93 (Prod.fst (qo1 m)) k/\(Prod.fst Q0=Prod.fst (grQ m k)/\Prod.snd Q0=Prod.snd (grQ m k)/\True)/\(0:Int)=wj7 m k (0:Int)/\True)) (by kernel_rfl) ?_
 try simp only[z0,z1,z2,z3,z4,z5,z6,z7,z8,z9,z10,Int.reduceEq,z11,z12,z13,z14,z15,z16,z17,z18,z19,z20,z21,z22,z23,z24,z25,z26,z27,z28,z29,z30,Int.reduceLE,Int.reduceLT,z31,z32,z33,z34,qa4]
 try simp only[qb3,qb4,qb9,List.set_cons_zero,List.cons.injEq,and_true,true_and]
 refine⟨λhe=>?_,λhe=>?_⟩
 ·unfold grQ; rw[if_neg he]; exact⟨rfl,rfl⟩
 ·obtain⟨hv,n,rfl,hn⟩:=xj5 he
  unfold grQ; rw[if_pos he]
  exact⟨h.cir,h.shs hv n hn,⟨rfl,rfl⟩,he.symm⟩
def hlf (r:Int × Int):Bool:=decide (r.2<=2*r.1)
abbrev x1c:qc0:=qg7 true none [qy9] [.bool] (λx=>qu2 x.1) (λx=>(hlf x.1,()))
theorem w2b:qd7 Tryz.prog 47 x1c:=by
 refine meets (snd (SpecsOk.nil _)) Tryz.func47 rfl rfl (λ_ _=>none) (λ_=>by kernel_rfl) (by decide) ?_
 rintro⟨⟨a,b⟩,⟨⟩⟩ h
 revert a b
 intro(a:Int) (b:Int) (h:qu2 (a,b))
 refine @qe1 _ (fits .i64 ((2:Int)*a)/\decide (b<=(2:Int)*a)=hlf (a,b)) (by kernel_rfl) ?_
 try simp only[z0,z1,z2,z3,z4,z5,z6,z7,z8,z9,z10,Int.reduceEq,z11,z12,z13,z14,z15,z16,z17,z18,z19,z20,z21,z22,z23,z24,z25,z26,z27,z28,z29,z30,Int.reduceLE,Int.reduceLT,z31,z32,z33,z34,qa4]
 try simp only[qb3,qb4,qb9,List.set_cons_zero,List.cons.injEq,and_true,true_and]
 have h1:=h.n
 obtain⟨h1,h2⟩:=h1
 dsimp only at h1 h2
 exact⟨qa7 (by omega) (by omega),rfl⟩
def ordF (l:List (List Int)):Nat->Nat->Nat
 | 0,k=>k
 | f+1,k=>if hlf (qm7 l (k+1) l.length)=false then ordF l f (k+1) else k
def ordL (m:List (List Int)):Nat:=ordF (qo1 m).1 (nL m 0).length 0
theorem wx7 {l:List (List Int)} {n k:Nat} (h:k<n):ordF l (n-k) k=if hlf (qm7 l (k+1) l.length)=false then ordF l (n-(k+1)) (k+1) else k:=by
 obtain⟨f,hf⟩:∃f,n-k=f+1:=⟨n-k-1,by omega⟩
 rw[hf,show n-(k+1)=f by omega,ordF]
structure w9h (l:List (List Int)) (n k:Nat):Prop where
 le:k<=n
 eq:ordF l n 0=ordF l (n-k) k
def x1d (l:List (List Int)) (n:Nat):Nat->Option Inv
 | 0=>some (Inv.of [4] 0 (λk:Nat=>[(4,.lit (.int .i64 k))]) (λ_=>[]) (λk=>w9h l n k) (λk=>n-k))
 | _=>none
abbrev w9i:qc0:=qg7 true none [qk0] [qd6] (λx=>qc8 x.1=true/\w5w x.1) (λx=>((ordL x.1:Nat),()))
theorem q94:qd7 Tryz.prog 50 w9i:=by
 refine meets (snd (SpecsOk.cons q3q (SpecsOk.cons wj6 (SpecsOk.cons w2b (SpecsOk.nil _))))) Tryz.func50 rfl rfl (λx=>x1d (qo1 x.1).1 (nL x.1 0).length) (λ_=>by kernel_rfl) (by decide) ?_
 rintro⟨m,⟨⟩⟩ h
 revert m
 intro(m:List (List Int)) (h:qc8 m=true/\w5w m)
 refine @qe1 _ (let Q0:=Prod.fst (qo1 m); let Q1:=List.length Q0; (qc8 m=true->q6f m)/\∃(v0:Unit),∃(v1:Nat),w9h Q0 (List.length (nL m (0:Nat))) v1/\(((0:Int)=(↑v1:Int)/\True)/\True)/\∀(v2:Nat),w9h Q0 (List.length (nL m (0:Nat))) v2->((0:Int)<=(0:Int)/\(0:Int)<(↑(List.length m):Int))/\(decide ((↑v2:Int)<(↑(List.length (qa1 (Ty.list (Ty.int .i64)) m (0:Nat))):Int))=true->fits .i64 ((↑v2:Int)+(1:Int))/\q93 Q0 ((↑v2:Int)+(1:Int))/\qu2 (Prod.fst (qm7 Q0 (Int.toNat ((↑v2:Int)+(1:Int))) Q1),Prod.snd (qm7 Q0 (Int.toNat ((↑v2:Int)+(1:Int))) Q1))/\((!hlf (Prod.fst (qm7 Q0 (Int.toNat ((↑v2:Int)+(1:Int))) Q1),Prod.snd (qm7 Q0 (Int.toNat ((↑v2:Int)+(1:Int))) Q1)))=true->fits .i64 ((↑v2:Int)+(1:Int))/\∃(v6:Nat),w9h Q0 (List.length (nL m (0:Nat))) v6/\List.length (nL m (0:Nat))-v6<List.length (nL m (0:Nat))-v2/\((↑v2:Int)+(1:Int)=(↑v6:Int)/\True)/\True)/\((!hlf (Prod.fst (qm7 Q0 (Int.toNat ((↑v2:Int)+(1:Int))) Q1),Prod.snd (qm7 Q0 (Int.toNat ((↑v2:Int)+(1:Int))) Q1)))=false->(↑v2:Int)=(↑(ordL m):Int)))/\(decide ((↑v2:Int)<(↑(List.length (qa1 (Ty.list (Ty.int .i64)) m (0:Nat))):Int))=false->(↑v2:Int)=(↑(ordL m):Int))) (by kernel_rfl) ?_
 try simp only[z0,z1,z2,z3,z4,z5,z6,z7,z8,z9,z10,Int.reduceEq,z11,z12,z13,z14,z15,z16,z17,z18,z19,z20,z21,z22,z23,z24,z25,z26,z27,z28,z29,z30,Int.reduceLE,Int.reduceLT,z31,z32,z33,z34,qa4]
 try simp only[qb3,qb4,qb9,List.set_cons_zero,List.cons.injEq,and_true,true_and]
 have hM:=Mk.of h.1
 have m1:=hM.rows1
 have m10:=hM.pix10
 have hc:=h.2.shs h.1
 refine⟨h.2.cir,(),0,⟨Nat.zero_le _,rfl⟩,rfl,λk hk=>⟨by omega,λhlt=>?_,λhge=>?_⟩⟩
 ·have e:((k:Int)+1).toNat=k+1:=by omega
  have e2:((k:Int)+1)=((k+1:Nat):Int):=by push_cast; rfl
  have hs:=hc (k+1) (by omega)
  have hl:=q6n hs (qo1 m).1.length (Nat.le_refl _)
  rw[Int.toNat_natCast] at hl
  rw[e,e2]
  refine⟨qa7 (by omega) (by omega),hs,hl,λhf=>⟨qa7 (by omega) (by omega),k+1,⟨by omega,?_⟩,by omega,rfl⟩,λhf=>?_⟩
  ·rw[hk.eq,wx7 hlt]
   exact if_pos hf
  ·have:ordL m=k:=by
    unfold ordL
    rw[hk.eq,wx7 hlt,if_neg (by rw[show hlf (qm7 (qo1 m).1 (k+1) (qo1 m).1.length)=true from hf]; simp)]
   rw[this]
 ·have hle:=hk.le
  have e:k=(nL m 0).length:=by omega
  have:ordL m=k:=by
   unfold ordL
   rw[hk.eq,e,Nat.sub_self]; rfl
  rw[this]
def w2q (m:List (List Int)):Int × Int:=if qc8 m=true then((ordL m:Nat),0) else(0,1)
abbrev xt2:qc0:=qg7 true none [qk0] [qd6,qd6] (λx=>w5w x.1) (λx=>((w2q x.1).1,(w2q x.1).2,()))
theorem wq0:qd7 Tryz.prog 13 xt2:=by
 refine meets (snd (SpecsOk.cons q4r (SpecsOk.cons q94 (SpecsOk.nil _)))) Tryz.func13 rfl rfl (λ_ _=>none) (λ_=>by kernel_rfl) (by decide) ?_
 rintro⟨m,⟨⟩⟩ h
 revert m
 intro(m:List (List Int)) (h:w5w m)
 refine @qe1 _ (True/\((!qc8 m)=true->(0:Int)=Prod.fst (w2q m)/\(1:Int)=Prod.snd (w2q m)/\True)/\((!qc8 m)=false->(qc8 m=true/\w5w m)/\(↑(ordL m):Int)=Prod.fst (w2q m)/\(0:Int)=Prod.snd (w2q m)/\True)) (by kernel_rfl) ?_
 try simp only[z0,z1,z2,z3,z4,z5,z6,z7,z8,z9,z10,Int.reduceEq,z11,z12,z13,z14,z15,z16,z17,z18,z19,z20,z21,z22,z23,z24,z25,z26,z27,z28,z29,z30,Int.reduceLE,Int.reduceLT,z31,z32,z33,z34,qa4]
 try simp only[qb3,qb4,qb9,List.set_cons_zero,List.cons.injEq,and_true,true_and]
 refine⟨λhv=>?_,λhv=>⟨⟨hv,h⟩,?_⟩⟩
 ·unfold w2q; rw[hv]; exact⟨rfl,rfl⟩
 ·unfold w2q; rw[if_pos hv]; exact⟨rfl,rfl⟩
def xj6 (l:List Int):Bool:=(decide (7<l.length) && decide (l.length<=10)) || decide (20<l.length)
def w2r (m:List (List Int)):Bool:=!(m.any xj6) && decide (m.length<=8)
structure w2c (m:List (List Int)) (k:Nat):Prop where
 le:k<=m.length
 ok:∀i,i<k->xj6 (nL m i)=false
def xt3 (m:List (List Int)):Nat->Option Inv
 | 0=>some (Inv.of [7] 0 (λk:Nat=>[(7,.lit (.int .i64 k))]) (λ_=>[]) (λk=>w2c m k) (λk=>m.length-k))
 | _=>none
abbrev x1e:qc0:=qg7 true none [qk0] [.bool] (λx=>x.1.length<=9223372036854775807) (λx=>(w2r x.1,()))
theorem w2d:qd7 Tryz.prog 9 x1e:=by
 refine meets (snd (SpecsOk.nil _)) Tryz.func9 rfl rfl (λx=>xt3 x.1) (λ_=>by kernel_rfl) (by decide) ?_
 rintro⟨m,⟨⟩⟩ h
 revert m
 intro(m:List (List Int)) (h:m.length<=9223372036854775807)
 refine @qe1 _ (let Q0:=List.length m; ∃(v0:Unit),∃(v1:Nat),w2c m v1/\(((0:Int)=(↑v1:Int)/\True)/\True)/\∀(v2:Nat),w2c m v2->(decide ((↑v2:Int)<(↑Q0:Int))=true->((0:Int)<=(↑v2:Int)/\(↑v2:Int)<(↑Q0:Int))/\(decide ((7:Int)<(↑(List.length (qa1 (Ty.list (Ty.int .i64)) m (Int.toNat (↑v2:Int)))):Int))=true->(decide ((↑(List.length (qa1 (Ty.list (Ty.int .i64)) m (Int.toNat (↑v2:Int)))):Int)<=(10:Int))=true->false=w2r m)/\(decide ((↑(List.length (qa1 (Ty.list (Ty.int .i64)) m (Int.toNat (↑v2:Int)))):Int)<=(10:Int))=false->(decide ((20:Int)<(↑(List.length (qa1 (Ty.list (Ty.int .i64)) m (Int.toNat (↑v2:Int)))):Int))=true->false=w2r m)/\(decide ((20:Int)<(↑(List.length (qa1 (Ty.list (Ty.int .i64)) m (Int.toNat (↑v2:Int)))):Int))=false->fits .i64 ((↑v2:Int)+(1:Int))/\∃(v8:Nat),w2c m v8/\List.length m-v8<List.length m-v2/\((↑v2:Int)+(1:Int)=(↑v8:Int)/\True)/\True)))/\(decide ((7:Int)<(↑(List.length (qa1 (Ty.list (Ty.int .i64)) m (Int.toNat (↑v2:Int)))):Int))=false->(decide ((20:Int)<(↑(List.length (qa1 (Ty.list (Ty.int .i64)) m (Int.toNat (↑v2:Int)))):Int))=true->false=w2r m)/\(decide ((20:Int)<(↑(List.length (qa1 (Ty.list (Ty.int .i64)) m (Int.toNat (↑v2:Int)))):Int))=false->fits .i64 ((↑v2:Int)+(1:Int))/\∃(v7:Nat),w2c m v7/\List.length m-v7<List.length m-v2/\((↑v2:Int)+(1:Int)=(↑v7:Int)/\True)/\True)))/\(decide ((↑v2:Int)<(↑Q0:Int))=false->decide ((↑Q0:Int)<=(8:Int))=w2r m)) (by kernel_rfl) ?_
 try simp only[z0,z1,z2,z3,z4,z5,z6,z7,z8,z9,z10,Int.reduceEq,z11,z12,z13,z14,z15,z16,z17,z18,z19,z20,z21,z22,z23,z24,z25,z26,z27,z28,z29,z30,Int.reduceLE,Int.reduceLT,z31,z32,z33,z34,qa4]
 try simp only[qb3,qb4,qb9,List.set_cons_zero,List.cons.injEq,and_true,true_and]
 refine⟨(),0,⟨Nat.zero_le _,λi hi=>by omega⟩,rfl,λk hk=>⟨λhlt=>?_,λhge=>?_⟩⟩
 ·have bad:xj6 (nL m k)=true->false=w2r m:=λq=>by
   unfold w2r
   rw[List.any_eq_true.2 ⟨nL m k,qn6 m k hlt,q⟩]; rfl
  have good:xj6 (nL m k)=false->fits IntKind.i64 (↑k+1)/\∃v8,w2c m v8/\m.length-v8<m.length-k/\(↑k+1:Int)=↑v8:=λq=>⟨qa7 (by omega) (by omega),k+1,⟨hlt,λi hi=>by
   by_cases e:i=k
   ·subst e; exact q
   ·exact hk.ok i (by omega)⟩,by omega,by push_cast; rfl⟩
  refine⟨hlt,λh7=>⟨λh10=>bad ?_,λh10=>⟨λh20=>bad ?_,λh20=>good ?_⟩⟩,λh7=>⟨λh20=>bad ?_,λh20=>good ?_⟩⟩ <;> (unfold xj6; simp; omega)
 ·have hle:=hk.le
  have e:m.any xj6=false:=by
   rw[List.any_eq_false]
   intro x hx
   obtain⟨i,hi,rfl⟩:=List.mem_iff_getElem.1 hx
   have:=hk.ok i (by omega)
   rw[ql4 _ _ hi] at this
   rw[this]; simp
  unfold w2r
  rw[e]
  simp only[Bool.not_false,Bool.true_and]
  congr 1
  apply propext
  constructor <;> intro q <;> omega
def q6o (a b:Int × Int):Bool:=decide (a.1*b.2<b.1*a.2)
abbrev x1f:qc0:=qg7 true none [qy9,qy9] [.bool] (λx=>qu2 x.1/\qu2 x.2.1) (λx=>(q6o x.1 x.2.1,()))
theorem q8g:qd7 Tryz.prog 23 x1f:=by
 refine meets (snd (SpecsOk.nil _)) Tryz.func23 rfl rfl (λ_ _=>none) (λ_=>by kernel_rfl) (by decide) ?_
 rintro⟨⟨a,b⟩,⟨c,d⟩,⟨⟩⟩ h
 revert a b c d
 intro(a:Int) (b:Int) (c:Int) (d:Int) (h:qu2 (a,b)/\qu2 (c,d))
 refine @qe1 _ (fits .i64 (a*d)/\fits .i64 (c*b)/\decide (a*d<c*b)=q6o (a,b) (c,d)) (by kernel_rfl) ?_
 try simp only[z0,z1,z2,z3,z4,z5,z6,z7,z8,z9,z10,Int.reduceEq,z11,z12,z13,z14,z15,z16,z17,z18,z19,z20,z21,z22,z23,z24,z25,z26,z27,z28,z29,z30,Int.reduceLE,Int.reduceLT,z31,z32,z33,z34,qa4]
 try simp only[qb3,qb4,qb9,List.set_cons_zero,List.cons.injEq,and_true,true_and]
 have h1:0<=a*d/\a*d<=4000000000000000000:=wo5 h.1.n h.2.d
 have h2:0<=c*b/\c*b<=4000000000000000000:=wo5 h.2.n h.1.d
 exact⟨qa7 (by omega) (by omega),qa7 (by omega) (by omega),rfl⟩
end Go.Proofs.YtempacilejhbgaaGreat
