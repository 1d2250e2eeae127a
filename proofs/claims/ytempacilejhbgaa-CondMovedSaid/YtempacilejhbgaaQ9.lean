/- The greatest share of a mask, and its order: contracts by the engine. No condition. -/
import Derived.Test.YtempacilejhbgaaQ7
import Derived.Test.YtempacilejhbgaaEngT2
set_option linter.unusedVariables false
set_option linter.unusedSimpArgs false
namespace Go.Proofs.Ytempacilejhbgaa
open Go Go.RowKit Eng
structure q6u (l:List (List Int)) (k:Int):Prop where
 len:l.length<=1000000
 lar:∀i,i<l.length->w75 (nL l i) k
 shr:∀i,i<l.length->w6a (nL l i) (q0u (nL l i) k.toNat)
def w4k (l:List (List Int)) (k:Nat):List (List Int × (Int × Int)):=l.map λh=>(h,shR h (q0u h k))
theorem w9j {l:List (List Int)} {k i:Nat} (h:i<l.length):((w4k l k).map λq=>((q.1,q.2,()):qa5 [qf7,q2d]))[i]? = some (nL l i,shR (nL l i) (q0u (nL l i) k),()):=by
 unfold w4k
 rw[List.map_map,List.getElem?_map,List.getElem?_eq_getElem h,qk3 l i h]
 rfl
abbrev xu7:q0x:=w7j [ql9,qe4] [qf7,q2d] (λx=>q6u x.1 x.2.1) (λx=>(w4k x.1 x.2.1.toNat).map λq=>(q.1,q.2,()))
def xu8 (l:List (List Int)):Nat->Option Inv
 | 0=>some (Inv.of [8] 1 (λi:Nat=>[(8,.lit (.int .i64 i))]) (λi=>[.cnt (some i)]) (λi=>i<=l.length) (λi=>l.length-i))
 | _=>none
theorem w4l:q0s Try.prog 47 xu7:=by
 refine xu6 (snd (SpecsOk.cons w4j (SpecsOk.cons w0x (SpecsOk.nil _)))) rfl Try.func47 rfl rfl rfl [12] 6 (λx=>[(7,.lit (.int .i64 (x.1:List (List Int)).length)),(8,.lit (.int .i64 0))]) (λx=>xu8 x.1) (by kernel_rfl) (by kernel_rfl) (λ_=>by kernel_rfl) (by decide) (λx l A cp=>⟨rfl,rfl,rfl,rfl,trivial⟩) ?_
 rintro⟨l,k,⟨⟩⟩ q h
 revert l k
 intro(l:List (List Int)) (k:Int) (h:q6u l k)
 refine @qf1 _ (let Q0:=List.length l; let Q1:=Int.toNat k; let Q2:=(l,k,PUnit.unit); ∃(v0:Unit),∃(v1:Nat),Nat.le v1 Q0/\(((0:Int)=(↑v1:Int)/\True)/\some (0:Nat)=some v1/\True)/\∀(v2:Nat),Nat.le v2 Q0->(decide ((↑v2:Int)<(↑Q0:Int))=true->((0:Int)<=(↑v2:Int)/\(↑v2:Int)<(↑Q0:Int))/\w75 (qa3 (Ty.list (Ty.int .i64)) l (Int.toNat (↑v2:Int))) k/\w6a (qa3 (Ty.list (Ty.int .i64)) l (Int.toNat (↑v2:Int))) (q0u (qa3 (Ty.list (Ty.int .i64)) l (Int.toNat (↑v2:Int))) Q1)/\Value.func (Fn.yield q) #[] #[]=Value.func (Fn.yield (qi7.l (q50 (Ty.list (Ty.int .i64)) [qe4] [qf7,q2d] [(12:Nat)] (6:Nat) Q2 (List.map (λ(v5:List Int × Int × Int)=>(Prod.fst v5,Prod.snd v5,())) (w4k l Q1)) q))) #[] #[]/\(qi7.L (q50 (Ty.list (Ty.int .i64)) [qe4] [qf7,q2d] [(12:Nat)] (6:Nat) Q2 (List.map (λ(v5:List Int × Int × Int)=>(Prod.fst v5,Prod.snd v5,())) (w4k l Q1)) q))[v2]?=some (qa3 (Ty.list (Ty.int .i64)) l (Int.toNat (↑v2:Int)),(Prod.fst (shR (qa3 (Ty.list (Ty.int .i64)) l (Int.toNat (↑v2:Int))) (q0u (qa3 (Ty.list (Ty.int .i64)) l (Int.toNat (↑v2:Int))) Q1)),Prod.snd (shR (qa3 (Ty.list (Ty.int .i64)) l (Int.toNat (↑v2:Int))) (q0u (qa3 (Ty.list (Ty.int .i64)) l (Int.toNat (↑v2:Int))) Q1))),())/\(fits .i64 ((↑v2:Int)+(1:Int))/\∃(v5:Nat),Nat.le v5 Q0/\List.length l-v5<List.length l-v2/\((↑v2:Int)+(1:Int)=(↑v5:Int)/\True)/\some (v2+(1:Nat))=some v5/\True)/\True)/\(decide ((↑v2:Int)<(↑Q0:Int))=false->v2=List.length (qi7.L (q50 (Ty.list (Ty.int .i64)) [qe4] [qf7,q2d] [(12:Nat)] (6:Nat) Q2 (List.map (λ(v5:List Int × Int × Int)=>(Prod.fst v5,Prod.snd v5,())) (w4k l Q1)) q)))) (by kernel_rfl) ?_
 try simp only[z0,z1,z2,z3,z4,z5,z6,z7,z8,z9,z10,Int.reduceEq,z11,z12,z13,z14,z15,z16,z17,z18,z19,z20,z21,z22,z23,z24,z25,z26,z27,z28,z29,z30,Int.reduceLE,Int.reduceLT,z31,z32,z33,z34,qa6]
 try simp only[qb6,qb7,qd0,List.set_cons_zero,List.cons.injEq,and_true,true_and]
 have hl:=h.len
 refine⟨(),0,Nat.zero_le _,⟨rfl,rfl⟩,λi hi=>⟨λhlt=>⟨hlt,h.lar i hlt,h.shr i hlt,rfl,w9j hlt,qb8 (by omega) (by omega),i+1,hlt,by omega,by push_cast; rfl,rfl⟩,λhge=>?_⟩⟩
 obtain rfl:i=l.length:=by omega
 show _=((w4k l k.toNat).map λq=>((q.1,q.2,()):qa5 [qf7,q2d])).length
 rw[List.length_map]; exact(List.length_map _).symm
abbrev x1t:qc7:=xd0 false none [ql9,qe4] (λ_=>True) (λx=>.clo 47 (.cons (.imm (.cons (.dat (.list (.int .i64)) x.1) .nil) 0) (.cons (.imm (.cons (.lit (.int .i64 x.2.1)) .nil) 0) .nil)))
theorem w4m:qe7 Try.prog 33 x1t:=by
 refine w3d (snd (SpecsOk.nil _)) Try.func33 rfl rfl (λ_ _=>none) (λ_=>by kernel_rfl) (by decide) ?_
 rintro⟨l,k,⟨⟩⟩ -
 revert l k
 intro(l:List (List Int)) (k:Int)
 refine @qf1 _ (((l=l/\True)/\(0:Nat)=(0:Nat))/\((k=k/\True)/\(0:Nat)=(0:Nat))/\True) (by kernel_rfl) ?_
 try simp only[z0,z1,z2,z3,z4,z5,z6,z7,z8,z9,z10,Int.reduceEq,z11,z12,z13,z14,z15,z16,z17,z18,z19,z20,z21,z22,z23,z24,z25,z26,z27,z28,z29,z30,Int.reduceLE,Int.reduceLT,z31,z32,z33,z34,qa6]
 try simp only[qb6,qb7,qd0,List.set_cons_zero,List.cons.injEq,and_true,true_and]
def qh7 (l:List (List Int)) (k:Nat):Nat->Int × Int
 | 0=>(0,1)
 | i+1=>wl8 (qh7 l k i) (shR (nL l i) (q0u (nL l i) k))
theorem qu6 {l:List (List Int)} {k:Int} (h:q6u l k):∀i,i<=l.length->q0t (qh7 l k.toNat i)
 | 0,_=>xm5
 | i+1,hi=>xe7 (qu6 h i (by omega)) (wf7 (h.shr i (by omega)))
abbrev x1u:AV:=.cons (.lit (.int .i64 0)) (.cons (.lit (.int .i64 0)) .nil)
def xu9 (l:List (List Int)) (k:Int):Nat->Option Inv
 | 0=>some (Inv.of [] 3 (λ_:Nat=>[]) (λi=>[.box 31 x1u,.box 31 (.cons (.lit (.int .i64 (qh7 l k.toNat i).1)) (.cons (.lit (.int .i64 (qh7 l k.toNat i).2)) .nil)),.box 53 (.cons (.clo 44 (.cons (.box 1 0) .nil)) .nil)]) (λi=>i<=l.length) (λi=>i))
 | _=>none
abbrev x1v:qc7:=qi1 true none [ql9,qe4] [q2d] (λx=>q6u x.1 x.2.1) (λx=>(qh7 x.1 x.2.1.toNat x.1.length,()))
theorem wg1:qe7 Try.prog 17 x1v:=by
 refine meets (x1h (SpecsOk.cons w4e (SpecsOk.cons w4m (SpecsOk.cons w0z (SpecsOk.nil _)))) (ItsOk.cons w4l ItsOk.nil) (BxsOk.cons w0y BxsOk.nil)) Try.func17 rfl rfl (λx=>xu9 x.1 x.2.1) (λ_=>by kernel_rfl) (by decide) ?_
 rintro⟨l,k,⟨⟩⟩ h
 revert l k
 intro(l:List (List Int)) (k:Int) (h:q6u l k)
 refine @qf1 _ (let Q0:=Int.toNat k; let Q1:=List.length l; True/\True/\q6u l k/\∃(v0:Unit),∃(v1:Nat),Nat.le v1 Q1/\v1=(0:Nat)/\(((0:Int)=(0:Int)/\(0:Int)=(0:Int)/\True)/\((0:Int)=Prod.fst (qh7 l Q0 v1)/\(1:Int)=Prod.snd (qh7 l Q0 v1)/\True)/\((True/\True)/\True)/\True)/\∀(v2:Nat),Nat.le v2 Q1->(∀(v4:List Int × qa5._f [q2d] ⟨qa5._f [] PUnit.unit,PUnit.unit⟩),(List.map (λ(v6:List Int × Int × Int)=>(Prod.fst v6,Prod.snd v6,())) (w4k l Q0))[v2]?=some v4->(q0t (Prod.fst (qh7 l Q0 v2),Prod.snd (qh7 l Q0 v2))/\q0t (Prod.fst (Prod.fst (Prod.snd v4)),Prod.snd (Prod.fst (Prod.snd v4))))/\∃(v6:Nat),Nat.le v6 Q1/\v6=v2+(1:Nat)/\((0:Int)=(0:Int)/\(0:Int)=(0:Int)/\True)/\(Prod.fst (wl8 (Prod.fst (qh7 l Q0 v2),Prod.snd (qh7 l Q0 v2)) (Prod.fst (Prod.fst (Prod.snd v4)),Prod.snd (Prod.fst (Prod.snd v4))))=Prod.fst (qh7 l Q0 v6)/\Prod.snd (wl8 (Prod.fst (qh7 l Q0 v2),Prod.snd (qh7 l Q0 v2)) (Prod.fst (Prod.fst (Prod.snd v4)),Prod.snd (Prod.fst (Prod.snd v4))))=Prod.snd (qh7 l Q0 v6)/\True)/\((True/\True)/\True)/\True)/\(v2=List.length (List.map (λ(v5:List Int × Int × Int)=>(Prod.fst v5,Prod.snd v5,())) (w4k l Q0))->True/\Prod.fst (qh7 l Q0 v2)=Prod.fst (qh7 l Q0 Q1)/\Prod.snd (qh7 l Q0 v2)=Prod.snd (qh7 l Q0 Q1)/\True)) (by kernel_rfl) ?_
 try simp only[z0,z1,z2,z3,z4,z5,z6,z7,z8,z9,z10,Int.reduceEq,z11,z12,z13,z14,z15,z16,z17,z18,z19,z20,z21,z22,z23,z24,z25,z26,z27,z28,z29,z30,Int.reduceLE,Int.reduceLT,z31,z32,z33,z34,qa6]
 try simp only[qb6,qb7,qd0,List.set_cons_zero,List.cons.injEq,and_true,true_and]
 refine⟨h,(),0,Nat.zero_le _,rfl,⟨rfl,rfl⟩,λi hi=>⟨λd hd=>?_,λhe=>?_⟩⟩
 ·have hd:((w4k l k.toNat).map λq=>((q.1,q.2,()):qa5 [qf7,q2d]))[i]? = some d:=hd
  have hlt:i<l.length:=by
   have:=(List.getElem?_eq_some_iff.1 hd).1
   rw[List.length_map] at this
   exact Nat.lt_of_lt_of_eq this (List.length_map _)
  rw[w9j hlt] at hd
  obtain rfl:=Option.some.inj hd
  exact⟨⟨qu6 h i hi,wf7 (h.shr i hlt)⟩,i+1,hlt,rfl,rfl,rfl⟩
 ·have he:i=((w4k l k.toNat).map λq=>((q.1,q.2,()):qa5 [qf7,q2d])).length:=he
  rw[List.length_map] at he
  obtain rfl:i=l.length:=he.trans (List.length_map _)
  exact⟨rfl,rfl⟩
def q0v (m:List (List Int)) (k least:Int):Int:=if qb9 m=false then 1 else if inB k least (nL m 0).length=false then 7 else 0
abbrev xv0:qc7:=qi1 true none [ql9,qe4,qe4] [qe4] (λ_=>True) (λx=>(q0v x.1 x.2.1 x.2.2.1,()))
theorem w02:qe7 Try.prog 16 xv0:=by
 refine meets (snd (SpecsOk.cons q83 (SpecsOk.cons q82 (SpecsOk.nil _)))) Try.func16 rfl rfl (λ_ _=>none) (λ_=>by kernel_rfl) (by decide) ?_
 rintro⟨m,k,q,⟨⟩⟩ -
 revert m k q
 intro(m:List (List Int)) (k:Int) (q:Int)
 refine @qf1 _ (True/\((!qb9 m)=true->(1:Int)=q0v m k q)/\((!qb9 m)=false->((0:Int)<=(0:Int)/\(0:Int)<(↑(List.length m):Int))/\True/\((!inB k q (↑(List.length (qa3 (Ty.list (Ty.int .i64)) m (0:Nat))):Int))=true->(7:Int)=q0v m k q)/\((!inB k q (↑(List.length (qa3 (Ty.list (Ty.int .i64)) m (0:Nat))):Int))=false->(0:Int)=q0v m k q))) (by kernel_rfl) ?_
 try simp only[z0,z1,z2,z3,z4,z5,z6,z7,z8,z9,z10,Int.reduceEq,z11,z12,z13,z14,z15,z16,z17,z18,z19,z20,z21,z22,z23,z24,z25,z26,z27,z28,z29,z30,Int.reduceLE,Int.reduceLT,z31,z32,z33,z34,qa6]
 try simp only[qb6,qb7,qd0,List.set_cons_zero,List.cons.injEq,and_true,true_and]
 refine⟨λhv=>(if_pos hv).symm,λhv=>⟨by have:=(Mk.of hv).rows1; omega,λhb=>?_,λhb=>?_⟩⟩
 ·unfold q0v; rw[hv,hb]; rfl
 ·unfold q0v; rw[hv,hb]; rfl
structure q7t (m:List (List Int)):Prop where
 cir:qb9 m=true->q9a m
 shs:qb9 m=true->∀k:Nat,k<=(nL m 0).length->q6u (qp1 m).1 k
def grQ (m:List (List Int)) (k:Int):Int × Int:=if q0v m k 0=0 then qh7 (qp1 m).1 k.toNat (qp1 m).1.length else(0,0)
theorem w4n {m:List (List Int)} {k q:Int} (h:q0v m k q=0) (hq:0<=q:=by decide):qb9 m=true/\∃n:Nat,k=n/\n<=(nL m 0).length:=by
 unfold q0v at h
 split at h
 ·cases h
 ·rename_i hv
  split at h
  ·cases h
  ·rename_i hb
   have hb:=qn3.1 (by cases e:inB k q (nL m 0).length with | true=>rfl | false=>exact absurd e hb)
   exact⟨by cases e:qb9 m with | true=>rfl | false=>exact absurd e hv,k.toNat,by omega,by omega⟩
abbrev xm7:qc7:=qi1 true none [ql9,qe4] [q2d,qe4] (λx=>q7t x.1) (λx=>(grQ x.1 x.2.1,q0v x.1 x.2.1 0,()))
theorem q51:qe7 Try.prog 8 xm7:=by
 refine meets (snd (SpecsOk.cons w02 (SpecsOk.cons q7s (SpecsOk.cons wg1 (SpecsOk.nil _))))) Try.func8 rfl rfl (λ_ _=>none) (λ_=>by kernel_rfl) (by decide) ?_
 rintro⟨m,k,⟨⟩⟩ h
 revert m k
 intro(m:List (List Int)) (k:Int) (h:q7t m)
 refine @qf1 _ (let Q0:=qh7 (Prod.fst (qp1 m)) (Int.toNat k) (List.length (Prod.fst (qp1 m))); True/\((q0v m k (0:Int) != (0:Int))=true->((0:Int)=Prod.fst (grQ m k)/\(0:Int)=Prod.snd (grQ m k)/\True)/\q0v m k (0:Int)=q0v m k (0:Int)/\True)/\((q0v m k (0:Int) != (0:Int))=false->(qb9 m=true->q9a m)/\q6u (Prod.fst (qp1 m)) k/\(Prod.fst Q0=Prod.fst (grQ m k)/\Prod.snd Q0=Prod.snd (grQ m k)/\True)/\(0:Int)=q0v m k (0:Int)/\True)) (by kernel_rfl) ?_
 try simp only[z0,z1,z2,z3,z4,z5,z6,z7,z8,z9,z10,Int.reduceEq,z11,z12,z13,z14,z15,z16,z17,z18,z19,z20,z21,z22,z23,z24,z25,z26,z27,z28,z29,z30,Int.reduceLE,Int.reduceLT,z31,z32,z33,z34,qa6]
 try simp only[qb6,qb7,qd0,List.set_cons_zero,List.cons.injEq,and_true,true_and]
 refine⟨λhe=>?_,λhe=>?_⟩
 ·unfold grQ; rw[if_neg he]; exact⟨rfl,rfl⟩
 ·obtain⟨hv,n,rfl,hn⟩:=w4n he
  unfold grQ; rw[if_pos he]
  exact⟨h.cir,h.shs hv n hn,⟨rfl,rfl⟩,he.symm⟩
def hlf (r:Int × Int):Bool:=decide (r.2<=2*r.1)
abbrev xv1:qc7:=qi1 true none [q2d] [.bool] (λx=>q0t x.1) (λx=>(hlf x.1,()))
theorem w03:qe7 Try.prog 30 xv1:=by
 refine meets (snd (SpecsOk.nil _)) Try.func30 rfl rfl (λ_ _=>none) (λ_=>by kernel_rfl) (by decide) ?_
 rintro⟨⟨a,b⟩,⟨⟩⟩ h
 revert a b
 intro(a:Int) (b:Int) (h:q0t (a,b))
 refine @qf1 _ (fits .i64 ((2:Int)*a)/\decide (b<=(2:Int)*a)=hlf (a,b)) (by kernel_rfl) ?_
 try simp only[z0,z1,z2,z3,z4,z5,z6,z7,z8,z9,z10,Int.reduceEq,z11,z12,z13,z14,z15,z16,z17,z18,z19,z20,z21,z22,z23,z24,z25,z26,z27,z28,z29,z30,Int.reduceLE,Int.reduceLT,z31,z32,z33,z34,qa6]
 try simp only[qb6,qb7,qd0,List.set_cons_zero,List.cons.injEq,and_true,true_and]
 have h1:=h.n
 obtain⟨h1,h2⟩:=h1
 dsimp only at h1 h2
 exact⟨qb8 (by omega) (by omega),rfl⟩
def ordF (l:List (List Int)):Nat->Nat->Nat
 | 0,k=>k
 | f+1,k=>if hlf (qh7 l (k+1) l.length)=false then ordF l f (k+1) else k
def ordL (m:List (List Int)):Nat:=ordF (qp1 m).1 (nL m 0).length 0
theorem wt2 {l:List (List Int)} {n k:Nat} (h:k<n):ordF l (n-k) k=if hlf (qh7 l (k+1) l.length)=false then ordF l (n-(k+1)) (k+1) else k:=by
 obtain⟨f,hf⟩:∃f,n-k=f+1:=⟨n-k-1,by omega⟩
 rw[hf,show n-(k+1)=f by omega,ordF]
structure w78 (l:List (List Int)) (n k:Nat):Prop where
 le:k<=n
 eq:ordF l n 0=ordF l (n-k) k
def xv2 (l:List (List Int)) (n:Nat):Nat->Option Inv
 | 0=>some (Inv.of [4] 0 (λk:Nat=>[(4,.lit (.int .i64 k))]) (λ_=>[]) (λk=>w78 l n k) (λk=>n-k))
 | _=>none
abbrev w79:qc7:=qi1 true none [ql9] [qe4] (λx=>qb9 x.1=true/\q7t x.1) (λx=>((ordL x.1:Nat),()))
theorem q9g:qe7 Try.prog 15 w79:=by
 refine meets (snd (SpecsOk.cons q7s (SpecsOk.cons wg1 (SpecsOk.cons w03 (SpecsOk.nil _))))) Try.func15 rfl rfl (λx=>xv2 (qp1 x.1).1 (nL x.1 0).length) (λ_=>by kernel_rfl) (by decide) ?_
 rintro⟨m,⟨⟩⟩ h
 revert m
 intro(m:List (List Int)) (h:qb9 m=true/\q7t m)
 refine @qf1 _ (let Q0:=Prod.fst (qp1 m); let Q1:=List.length Q0; (qb9 m=true->q9a m)/\∃(v0:Unit),∃(v1:Nat),w78 Q0 (List.length (nL m (0:Nat))) v1/\(((0:Int)=(↑v1:Int)/\True)/\True)/\∀(v2:Nat),w78 Q0 (List.length (nL m (0:Nat))) v2->((0:Int)<=(0:Int)/\(0:Int)<(↑(List.length m):Int))/\(decide ((↑v2:Int)<(↑(List.length (qa3 (Ty.list (Ty.int .i64)) m (0:Nat))):Int))=true->fits .i64 ((↑v2:Int)+(1:Int))/\q6u Q0 ((↑v2:Int)+(1:Int))/\q0t (Prod.fst (qh7 Q0 (Int.toNat ((↑v2:Int)+(1:Int))) Q1),Prod.snd (qh7 Q0 (Int.toNat ((↑v2:Int)+(1:Int))) Q1))/\((!hlf (Prod.fst (qh7 Q0 (Int.toNat ((↑v2:Int)+(1:Int))) Q1),Prod.snd (qh7 Q0 (Int.toNat ((↑v2:Int)+(1:Int))) Q1)))=true->fits .i64 ((↑v2:Int)+(1:Int))/\∃(v6:Nat),w78 Q0 (List.length (nL m (0:Nat))) v6/\List.length (nL m (0:Nat))-v6<List.length (nL m (0:Nat))-v2/\((↑v2:Int)+(1:Int)=(↑v6:Int)/\True)/\True)/\((!hlf (Prod.fst (qh7 Q0 (Int.toNat ((↑v2:Int)+(1:Int))) Q1),Prod.snd (qh7 Q0 (Int.toNat ((↑v2:Int)+(1:Int))) Q1)))=false->(↑v2:Int)=(↑(ordL m):Int)))/\(decide ((↑v2:Int)<(↑(List.length (qa3 (Ty.list (Ty.int .i64)) m (0:Nat))):Int))=false->(↑v2:Int)=(↑(ordL m):Int))) (by kernel_rfl) ?_
 try simp only[z0,z1,z2,z3,z4,z5,z6,z7,z8,z9,z10,Int.reduceEq,z11,z12,z13,z14,z15,z16,z17,z18,z19,z20,z21,z22,z23,z24,z25,z26,z27,z28,z29,z30,Int.reduceLE,Int.reduceLT,z31,z32,z33,z34,qa6]
 try simp only[qb6,qb7,qd0,List.set_cons_zero,List.cons.injEq,and_true,true_and]
 have hM:=Mk.of h.1
 have m1:=hM.rows1
 have m10:=hM.pix10
 have hc:=h.2.shs h.1
 refine⟨h.2.cir,(),0,⟨Nat.zero_le _,rfl⟩,rfl,λk hk=>⟨by omega,λhlt=>?_,λhge=>?_⟩⟩
 ·have e:((k:Int)+1).toNat=k+1:=by omega
  have e2:((k:Int)+1)=((k+1:Nat):Int):=by push_cast; rfl
  have hs:=hc (k+1) (by omega)
  have hl:=qu6 hs (qp1 m).1.length (Nat.le_refl _)
  rw[Int.toNat_natCast] at hl
  rw[e,e2]
  refine⟨qb8 (by omega) (by omega),hs,hl,λhf=>⟨qb8 (by omega) (by omega),k+1,⟨by omega,?_⟩,by omega,rfl⟩,λhf=>?_⟩
  ·rw[hk.eq,wt2 hlt]
   exact if_pos hf
  ·have:ordL m=k:=by
    unfold ordL
    rw[hk.eq,wt2 hlt,if_neg (by rw[show hlf (qh7 (qp1 m).1 (k+1) (qp1 m).1.length)=true from hf]; simp)]
   rw[this]
 ·have hle:=hk.le
  have e:k=(nL m 0).length:=by omega
  have:ordL m=k:=by
   unfold ordL
   rw[hk.eq,e,Nat.sub_self]; rfl
  rw[this]
def qx2 (m:List (List Int)):Int × Int:=if qb9 m=true then((ordL m:Nat),0) else(0,1)
abbrev xm8:qc7:=qi1 true none [ql9] [qe4,qe4] (λx=>q7t x.1) (λx=>((qx2 x.1).1,(qx2 x.1).2,()))
theorem q52:qe7 Try.prog 7 xm8:=by
 refine meets (snd (SpecsOk.cons q83 (SpecsOk.cons q9g (SpecsOk.nil _)))) Try.func7 rfl rfl (λ_ _=>none) (λ_=>by kernel_rfl) (by decide) ?_
 rintro⟨m,⟨⟩⟩ h
 revert m
 intro(m:List (List Int)) (h:q7t m)
 refine @qf1 _ (True/\((!qb9 m)=true->(0:Int)=Prod.fst (qx2 m)/\(1:Int)=Prod.snd (qx2 m)/\True)/\((!qb9 m)=false->(qb9 m=true/\q7t m)/\(↑(ordL m):Int)=Prod.fst (qx2 m)/\(0:Int)=Prod.snd (qx2 m)/\True)) (by kernel_rfl) ?_
 try simp only[z0,z1,z2,z3,z4,z5,z6,z7,z8,z9,z10,Int.reduceEq,z11,z12,z13,z14,z15,z16,z17,z18,z19,z20,z21,z22,z23,z24,z25,z26,z27,z28,z29,z30,Int.reduceLE,Int.reduceLT,z31,z32,z33,z34,qa6]
 try simp only[qb6,qb7,qd0,List.set_cons_zero,List.cons.injEq,and_true,true_and]
 refine⟨λhv=>?_,λhv=>⟨⟨hv,h⟩,?_⟩⟩
 ·unfold qx2; rw[hv]; exact⟨rfl,rfl⟩
 ·unfold qx2; rw[if_pos hv]; exact⟨rfl,rfl⟩
def xf1 (l:List Int):Bool:=(decide (7<l.length) && decide (l.length<=10)) || decide (20<l.length)
def w1d (m:List (List Int)):Bool:=!(m.any xf1) && decide (m.length<=8)
structure w04 (m:List (List Int)) (k:Nat):Prop where
 le:k<=m.length
 ok:∀i,i<k->xf1 (nL m i)=false
def xm9 (m:List (List Int)):Nat->Option Inv
 | 0=>some (Inv.of [7] 0 (λk:Nat=>[(7,.lit (.int .i64 k))]) (λ_=>[]) (λk=>w04 m k) (λk=>m.length-k))
 | _=>none
abbrev xv3:qc7:=qi1 true none [ql9] [.bool] (λx=>x.1.length<=9223372036854775807) (λx=>(w1d x.1,()))
theorem w05:qe7 Try.prog 5 xv3:=by
 refine meets (snd (SpecsOk.nil _)) Try.func5 rfl rfl (λx=>xm9 x.1) (λ_=>by kernel_rfl) (by decide) ?_
 rintro⟨m,⟨⟩⟩ h
 revert m
 intro(m:List (List Int)) (h:m.length<=9223372036854775807)
 refine @qf1 _ (let Q0:=List.length m; ∃(v0:Unit),∃(v1:Nat),w04 m v1/\(((0:Int)=(↑v1:Int)/\True)/\True)/\∀(v2:Nat),w04 m v2->(decide ((↑v2:Int)<(↑Q0:Int))=true->((0:Int)<=(↑v2:Int)/\(↑v2:Int)<(↑Q0:Int))/\(decide ((7:Int)<(↑(List.length (qa3 (Ty.list (Ty.int .i64)) m (Int.toNat (↑v2:Int)))):Int))=true->(decide ((↑(List.length (qa3 (Ty.list (Ty.int .i64)) m (Int.toNat (↑v2:Int)))):Int)<=(10:Int))=true->false=w1d m)/\(decide ((↑(List.length (qa3 (Ty.list (Ty.int .i64)) m (Int.toNat (↑v2:Int)))):Int)<=(10:Int))=false->(decide ((20:Int)<(↑(List.length (qa3 (Ty.list (Ty.int .i64)) m (Int.toNat (↑v2:Int)))):Int))=true->false=w1d m)/\(decide ((20:Int)<(↑(List.length (qa3 (Ty.list (Ty.int .i64)) m (Int.toNat (↑v2:Int)))):Int))=false->fits .i64 ((↑v2:Int)+(1:Int))/\∃(v8:Nat),w04 m v8/\List.length m-v8<List.length m-v2/\((↑v2:Int)+(1:Int)=(↑v8:Int)/\True)/\True)))/\(decide ((7:Int)<(↑(List.length (qa3 (Ty.list (Ty.int .i64)) m (Int.toNat (↑v2:Int)))):Int))=false->(decide ((20:Int)<(↑(List.length (qa3 (Ty.list (Ty.int .i64)) m (Int.toNat (↑v2:Int)))):Int))=true->false=w1d m)/\(decide ((20:Int)<(↑(List.length (qa3 (Ty.list (Ty.int .i64)) m (Int.toNat (↑v2:Int)))):Int))=false->fits .i64 ((↑v2:Int)+(1:Int))/\∃(v7:Nat),w04 m v7/\List.length m-v7<List.length m-v2/\((↑v2:Int)+(1:Int)=(↑v7:Int)/\True)/\True)))/\(decide ((↑v2:Int)<(↑Q0:Int))=false->decide ((↑Q0:Int)<=(8:Int))=w1d m)) (by kernel_rfl) ?_
 try simp only[z0,z1,z2,z3,z4,z5,z6,z7,z8,z9,z10,Int.reduceEq,z11,z12,z13,z14,z15,z16,z17,z18,z19,z20,z21,z22,z23,z24,z25,z26,z27,z28,z29,z30,Int.reduceLE,Int.reduceLT,z31,z32,z33,z34,qa6]
 try simp only[qb6,qb7,qd0,List.set_cons_zero,List.cons.injEq,and_true,true_and]
 refine⟨(),0,⟨Nat.zero_le _,λi hi=>by omega⟩,rfl,λk hk=>⟨λhlt=>?_,λhge=>?_⟩⟩
 ·have bad:xf1 (nL m k)=true->false=w1d m:=λq=>by
   unfold w1d
   rw[List.any_eq_true.2 ⟨nL m k,qs7 m k hlt,q⟩]; rfl
  have good:xf1 (nL m k)=false->fits IntKind.i64 (↑k+1)/\∃v8,w04 m v8/\m.length-v8<m.length-k/\(↑k+1:Int)=↑v8:=λq=>⟨qb8 (by omega) (by omega),k+1,⟨hlt,λi hi=>by
   by_cases e:i=k
   ·subst e; exact q
   ·exact hk.ok i (by omega)⟩,by omega,by push_cast; rfl⟩
  refine⟨hlt,λh7=>⟨λh10=>bad ?_,λh10=>⟨λh20=>bad ?_,λh20=>good ?_⟩⟩,λh7=>⟨λh20=>bad ?_,λh20=>good ?_⟩⟩ <;> (unfold xf1; simp; omega)
 ·have hle:=hk.le
  have e:m.any xf1=false:=by
   rw[List.any_eq_false]
   intro x hx
   obtain⟨i,hi,rfl⟩:=List.mem_iff_getElem.1 hx
   have:=hk.ok i (by omega)
   rw[qk3 _ _ hi] at this
   rw[this]; simp
  unfold w1d
  rw[e]
  simp only[Bool.not_false,Bool.true_and]
  congr 1
  apply propext
  constructor <;> intro q <;> omega
end Go.Proofs.Ytempacilejhbgaa
