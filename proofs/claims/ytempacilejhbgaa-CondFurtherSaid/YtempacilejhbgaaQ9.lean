/- The greatest share of a mask, and its order: contracts by the engine. No condition. -/
import Derived.Test.YtempacilejhbgaaQ7
import Derived.Test.YtempacilejhbgaaEngT2
set_option linter.unusedVariables false
set_option linter.unusedSimpArgs false
namespace Go.Proofs.Ytempacilejhbgaa
open Go Go.RowKit Eng
structure q6m (l:List (List Int)) (k:Int):Prop where
 len:l.length<=1000000
 lar:∀i,i<l.length->w7o (nL l i) k
 shr:∀i,i<l.length->w33 (nL l i) (q0i (nL l i) k.toNat)
def w4d (l:List (List Int)) (k:Nat):List (List Int × (Int × Int)):=l.map λh=>(h,shR h (q0i h k))
theorem w8w {l:List (List Int)} {k i:Nat} (h:i<l.length):((w4d l k).map λq=>((q.1,q.2,()):qa5 [qf8,q0h]))[i]? = some (nL l i,shR (nL l i) (q0i (nL l i) k),()):=by
 unfold w4d
 rw[List.map_map,List.getElem?_map,List.getElem?_eq_getElem h,ql9 l i h]
 rfl
abbrev xs0:q0o:=w61 [ql8,qe3] [qf8,q0h] (λx=>q6m x.1 x.2.1) (λx=>(w4d x.1 x.2.1.toNat).map λq=>(q.1,q.2,()))
def xs1 (l:List (List Int)):Nat->Option Inv
 | 0=>some (Inv.of [8] 1 (λi:Nat=>[(8,.lit (.int .i64 i))]) (λi=>[.cnt (some i)]) (λi=>i<=l.length) (λi=>l.length-i))
 | _=>none
theorem w4e:q0k Try.prog 47 xs0:=by
 refine xr9 (snd (SpecsOk.cons w4c (SpecsOk.cons q7k (SpecsOk.nil _)))) rfl Try.func47 rfl rfl rfl [12] 6 (λx=>[(7,.lit (.int .i64 (x.1:List (List Int)).length)),(8,.lit (.int .i64 0))]) (λx=>xs1 x.1) (by kernel_rfl) (by kernel_rfl) (λ_=>by kernel_rfl) (by decide) (λx l A cp=>⟨rfl,rfl,rfl,rfl,trivial⟩) ?_
 rintro⟨l,k,⟨⟩⟩ q h
 revert l k
 intro(l:List (List Int)) (k:Int) (h:q6m l k)
 refine @qe9 _ (let Q0:=List.length l; let Q1:=Int.toNat k; let Q2:=(l,k,PUnit.unit); ∃(v0:Unit),∃(v1:Nat),Nat.le v1 Q0/\(((0:Int)=(↑v1:Int)/\True)/\some (0:Nat)=some v1/\True)/\∀(v2:Nat),Nat.le v2 Q0->(decide ((↑v2:Int)<(↑Q0:Int))=true->((0:Int)<=(↑v2:Int)/\(↑v2:Int)<(↑Q0:Int))/\w7o (qa3 (Ty.list (Ty.int .i64)) l (Int.toNat (↑v2:Int))) k/\w33 (qa3 (Ty.list (Ty.int .i64)) l (Int.toNat (↑v2:Int))) (q0i (qa3 (Ty.list (Ty.int .i64)) l (Int.toNat (↑v2:Int))) Q1)/\Value.func (Fn.yield q) #[] #[]=Value.func (Fn.yield (qi7.l (q5s (Ty.list (Ty.int .i64)) [qe3] [qf8,q0h] [(12:Nat)] (6:Nat) Q2 (List.map (λ(v5:List Int × Int × Int)=>(Prod.fst v5,Prod.snd v5,())) (w4d l Q1)) q))) #[] #[]/\(qi7.L (q5s (Ty.list (Ty.int .i64)) [qe3] [qf8,q0h] [(12:Nat)] (6:Nat) Q2 (List.map (λ(v5:List Int × Int × Int)=>(Prod.fst v5,Prod.snd v5,())) (w4d l Q1)) q))[v2]?=some (qa3 (Ty.list (Ty.int .i64)) l (Int.toNat (↑v2:Int)),(Prod.fst (shR (qa3 (Ty.list (Ty.int .i64)) l (Int.toNat (↑v2:Int))) (q0i (qa3 (Ty.list (Ty.int .i64)) l (Int.toNat (↑v2:Int))) Q1)),Prod.snd (shR (qa3 (Ty.list (Ty.int .i64)) l (Int.toNat (↑v2:Int))) (q0i (qa3 (Ty.list (Ty.int .i64)) l (Int.toNat (↑v2:Int))) Q1))),())/\(fits .i64 ((↑v2:Int)+(1:Int))/\∃(v5:Nat),Nat.le v5 Q0/\List.length l-v5<List.length l-v2/\((↑v2:Int)+(1:Int)=(↑v5:Int)/\True)/\some (v2+(1:Nat))=some v5/\True)/\True)/\(decide ((↑v2:Int)<(↑Q0:Int))=false->v2=List.length (qi7.L (q5s (Ty.list (Ty.int .i64)) [qe3] [qf8,q0h] [(12:Nat)] (6:Nat) Q2 (List.map (λ(v5:List Int × Int × Int)=>(Prod.fst v5,Prod.snd v5,())) (w4d l Q1)) q)))) (by kernel_rfl) ?_
 try simp only[z0,z1,z2,z3,z4,z5,z6,z7,z8,z9,z10,Int.reduceEq,z11,z12,z13,z14,z15,z16,z17,z18,z19,z20,z21,z22,z23,z24,z25,z26,z27,z28,z29,z30,Int.reduceLE,Int.reduceLT,z31,z32,z33,z34,qa6]
 try simp only[qb5,qb6,qd0,List.set_cons_zero,List.cons.injEq,and_true,true_and]
 have hl:=h.len
 refine⟨(),0,Nat.zero_le _,⟨rfl,rfl⟩,λi hi=>⟨λhlt=>⟨hlt,h.lar i hlt,h.shr i hlt,rfl,w8w hlt,qb9 (by omega) (by omega),i+1,hlt,by omega,by push_cast; rfl,rfl⟩,λhge=>?_⟩⟩
 obtain rfl:i=l.length:=by omega
 show _=((w4d l k.toNat).map λq=>((q.1,q.2,()):qa5 [qf8,q0h])).length
 rw[List.length_map]; exact(List.length_map _).symm
abbrev x0w:qc7:=xa1 false none [ql8,qe3] (λ_=>True) (λx=>.clo 47 (.cons (.imm (.cons (.dat (.list (.int .i64)) x.1) .nil) 0) (.cons (.imm (.cons (.lit (.int .i64 x.2.1)) .nil) 0) .nil)))
theorem w4f:qe6 Try.prog 33 x0w:=by
 refine w22 (snd (SpecsOk.nil _)) Try.func33 rfl rfl (λ_ _=>none) (λ_=>by kernel_rfl) (by decide) ?_
 rintro⟨l,k,⟨⟩⟩ -
 revert l k
 intro(l:List (List Int)) (k:Int)
 refine @qe9 _ (((l=l/\True)/\(0:Nat)=(0:Nat))/\((k=k/\True)/\(0:Nat)=(0:Nat))/\True) (by kernel_rfl) ?_
 try simp only[z0,z1,z2,z3,z4,z5,z6,z7,z8,z9,z10,Int.reduceEq,z11,z12,z13,z14,z15,z16,z17,z18,z19,z20,z21,z22,z23,z24,z25,z26,z27,z28,z29,z30,Int.reduceLE,Int.reduceLT,z31,z32,z33,z34,qa6]
 try simp only[qb5,qb6,qd0,List.set_cons_zero,List.cons.injEq,and_true,true_and]
def qi3 (l:List (List Int)) (k:Nat):Nat->Int × Int
 | 0=>(0,1)
 | i+1=>q6l (qi3 l k i) (shR (nL l i) (q0i (nL l i) k))
theorem qo5 {l:List (List Int)} {k:Int} (h:q6m l k):∀i,i<=l.length->qt7 (qi3 l k.toNat i)
 | 0,_=>w8u
 | i+1,hi=>w35 (qo5 h i (by omega)) (q0l (h.shr i (by omega)))
abbrev x0x:AV:=.cons (.lit (.int .i64 0)) (.cons (.lit (.int .i64 0)) .nil)
def xs2 (l:List (List Int)) (k:Int):Nat->Option Inv
 | 0=>some (Inv.of [] 3 (λ_:Nat=>[]) (λi=>[.box 31 x0x,.box 31 (.cons (.lit (.int .i64 (qi3 l k.toNat i).1)) (.cons (.lit (.int .i64 (qi3 l k.toNat i).2)) .nil)),.box 53 (.cons (.clo 44 (.cons (.box 1 0) .nil)) .nil)]) (λi=>i<=l.length) (λi=>i))
 | _=>none
abbrev x0y:qc7:=qh6 true none [ql8,qe3] [q0h] (λx=>q6m x.1 x.2.1) (λx=>(qi3 x.1 x.2.1.toNat x.1.length,()))
theorem we5:qe6 Try.prog 17 x0y:=by
 refine meets (xu3 (SpecsOk.cons we3 (SpecsOk.cons w4f (SpecsOk.cons q7m (SpecsOk.nil _)))) (ItsOk.cons w4e ItsOk.nil) (BxsOk.cons q7l BxsOk.nil)) Try.func17 rfl rfl (λx=>xs2 x.1 x.2.1) (λ_=>by kernel_rfl) (by decide) ?_
 rintro⟨l,k,⟨⟩⟩ h
 revert l k
 intro(l:List (List Int)) (k:Int) (h:q6m l k)
 refine @qe9 _ (let Q0:=Int.toNat k; let Q1:=List.length l; True/\True/\q6m l k/\∃(v0:Unit),∃(v1:Nat),Nat.le v1 Q1/\v1=(0:Nat)/\(((0:Int)=(0:Int)/\(0:Int)=(0:Int)/\True)/\((0:Int)=Prod.fst (qi3 l Q0 v1)/\(1:Int)=Prod.snd (qi3 l Q0 v1)/\True)/\((True/\True)/\True)/\True)/\∀(v2:Nat),Nat.le v2 Q1->(∀(v4:List Int × qa5._f [q0h] ⟨qa5._f [] PUnit.unit,PUnit.unit⟩),(List.map (λ(v6:List Int × Int × Int)=>(Prod.fst v6,Prod.snd v6,())) (w4d l Q0))[v2]?=some v4->(qt7 (Prod.fst (qi3 l Q0 v2),Prod.snd (qi3 l Q0 v2))/\qt7 (Prod.fst (Prod.fst (Prod.snd v4)),Prod.snd (Prod.fst (Prod.snd v4))))/\∃(v6:Nat),Nat.le v6 Q1/\v6=v2+(1:Nat)/\((0:Int)=(0:Int)/\(0:Int)=(0:Int)/\True)/\(Prod.fst (q6l (Prod.fst (qi3 l Q0 v2),Prod.snd (qi3 l Q0 v2)) (Prod.fst (Prod.fst (Prod.snd v4)),Prod.snd (Prod.fst (Prod.snd v4))))=Prod.fst (qi3 l Q0 v6)/\Prod.snd (q6l (Prod.fst (qi3 l Q0 v2),Prod.snd (qi3 l Q0 v2)) (Prod.fst (Prod.fst (Prod.snd v4)),Prod.snd (Prod.fst (Prod.snd v4))))=Prod.snd (qi3 l Q0 v6)/\True)/\((True/\True)/\True)/\True)/\(v2=List.length (List.map (λ(v5:List Int × Int × Int)=>(Prod.fst v5,Prod.snd v5,())) (w4d l Q0))->True/\Prod.fst (qi3 l Q0 v2)=Prod.fst (qi3 l Q0 Q1)/\Prod.snd (qi3 l Q0 v2)=Prod.snd (qi3 l Q0 Q1)/\True)) (by kernel_rfl) ?_
 try simp only[z0,z1,z2,z3,z4,z5,z6,z7,z8,z9,z10,Int.reduceEq,z11,z12,z13,z14,z15,z16,z17,z18,z19,z20,z21,z22,z23,z24,z25,z26,z27,z28,z29,z30,Int.reduceLE,Int.reduceLT,z31,z32,z33,z34,qa6]
 try simp only[qb5,qb6,qd0,List.set_cons_zero,List.cons.injEq,and_true,true_and]
 refine⟨h,(),0,Nat.zero_le _,rfl,⟨rfl,rfl⟩,λi hi=>⟨λd hd=>?_,λhe=>?_⟩⟩
 ·have hd:((w4d l k.toNat).map λq=>((q.1,q.2,()):qa5 [qf8,q0h]))[i]? = some d:=hd
  have hlt:i<l.length:=by
   have:=(List.getElem?_eq_some_iff.1 hd).1
   rw[List.length_map] at this
   exact Nat.lt_of_lt_of_eq this (List.length_map _)
  rw[w8w hlt] at hd
  obtain rfl:=Option.some.inj hd
  exact⟨⟨qo5 h i hi,q0l (h.shr i hlt)⟩,i+1,hlt,rfl,rfl,rfl⟩
 ·have he:i=((w4d l k.toNat).map λq=>((q.1,q.2,()):qa5 [qf8,q0h])).length:=he
  rw[List.length_map] at he
  obtain rfl:i=l.length:=he.trans (List.length_map _)
  exact⟨rfl,rfl⟩
def we6 (m:List (List Int)) (k least:Int):Int:=if qb8 m=false then 1 else if inB k least (nL m 0).length=false then 7 else 0
abbrev xs3:qc7:=qh6 true none [ql8,qe3,qe3] [qe3] (λ_=>True) (λx=>(we6 x.1 x.2.1 x.2.2.1,()))
theorem w0p:qe6 Try.prog 16 xs3:=by
 refine meets (snd (SpecsOk.cons q3u (SpecsOk.cons q1w (SpecsOk.nil _)))) Try.func16 rfl rfl (λ_ _=>none) (λ_=>by kernel_rfl) (by decide) ?_
 rintro⟨m,k,q,⟨⟩⟩ -
 revert m k q
 intro(m:List (List Int)) (k:Int) (q:Int)
 refine @qe9 _ (True/\((!qb8 m)=true->(1:Int)=we6 m k q)/\((!qb8 m)=false->((0:Int)<=(0:Int)/\(0:Int)<(↑(List.length m):Int))/\True/\((!inB k q (↑(List.length (qa3 (Ty.list (Ty.int .i64)) m (0:Nat))):Int))=true->(7:Int)=we6 m k q)/\((!inB k q (↑(List.length (qa3 (Ty.list (Ty.int .i64)) m (0:Nat))):Int))=false->(0:Int)=we6 m k q))) (by kernel_rfl) ?_
 try simp only[z0,z1,z2,z3,z4,z5,z6,z7,z8,z9,z10,Int.reduceEq,z11,z12,z13,z14,z15,z16,z17,z18,z19,z20,z21,z22,z23,z24,z25,z26,z27,z28,z29,z30,Int.reduceLE,Int.reduceLT,z31,z32,z33,z34,qa6]
 try simp only[qb5,qb6,qd0,List.set_cons_zero,List.cons.injEq,and_true,true_and]
 refine⟨λhv=>(if_pos hv).symm,λhv=>⟨by have:=(Mk.of hv).rows1; omega,λhb=>?_,λhb=>?_⟩⟩
 ·unfold we6; rw[hv,hb]; rfl
 ·unfold we6; rw[hv,hb]; rfl
structure w0q (m:List (List Int)):Prop where
 cir:qb8 m=true->q5l m
 shs:qb8 m=true->∀k:Nat,k<=(nL m 0).length->q6m (qk7 m).1 k
def grQ (m:List (List Int)) (k:Int):Int × Int:=if we6 m k 0=0 then qi3 (qk7 m).1 k.toNat (qk7 m).1.length else(0,0)
theorem xc2 {m:List (List Int)} {k q:Int} (h:we6 m k q=0) (hq:0<=q:=by decide):qb8 m=true/\∃n:Nat,k=n/\n<=(nL m 0).length:=by
 unfold we6 at h
 split at h
 ·cases h
 ·rename_i hv
  split at h
  ·cases h
  ·rename_i hb
   have hb:=qs6.1 (by cases e:inB k q (nL m 0).length with | true=>rfl | false=>exact absurd e hb)
   exact⟨by cases e:qb8 m with | true=>rfl | false=>exact absurd e hv,k.toNat,by omega,by omega⟩
abbrev xk4:qc7:=qh6 true none [ql8,qe3] [q0h,qe3] (λx=>w0q x.1) (λx=>(grQ x.1 x.2.1,we6 x.1 x.2.1 0,()))
theorem wl4:qe6 Try.prog 8 xk4:=by
 refine meets (snd (SpecsOk.cons w0p (SpecsOk.cons q2x (SpecsOk.cons we5 (SpecsOk.nil _))))) Try.func8 rfl rfl (λ_ _=>none) (λ_=>by kernel_rfl) (by decide) ?_
 rintro⟨m,k,⟨⟩⟩ h
 revert m k
 intro(m:List (List Int)) (k:Int) (h:w0q m)
 refine @qe9 _ (let Q0:=qi3 (Prod.fst (qk7 m)) (Int.toNat k) (List.length (Prod.fst (qk7 m))); True/\((we6 m k (0:Int) != (0:Int))=true->((0:Int)=Prod.fst (grQ m k)/\(0:Int)=Prod.snd (grQ m k)/\True)/\we6 m k (0:Int)=we6 m k (0:Int)/\True)/\((we6 m k (0:Int) != (0:Int))=false->(qb8 m=true->q5l m)/\q6m (Prod.fst (qk7 m)) k/\(Prod.fst Q0=Prod.fst (grQ m k)/\Prod.snd Q0=Prod.snd (grQ m k)/\True)/\(0:Int)=we6 m k (0:Int)/\True)) (by kernel_rfl) ?_
 try simp only[z0,z1,z2,z3,z4,z5,z6,z7,z8,z9,z10,Int.reduceEq,z11,z12,z13,z14,z15,z16,z17,z18,z19,z20,z21,z22,z23,z24,z25,z26,z27,z28,z29,z30,Int.reduceLE,Int.reduceLT,z31,z32,z33,z34,qa6]
 try simp only[qb5,qb6,qd0,List.set_cons_zero,List.cons.injEq,and_true,true_and]
 refine⟨λhe=>?_,λhe=>?_⟩
 ·unfold grQ; rw[if_neg he]; exact⟨rfl,rfl⟩
 ·obtain⟨hv,n,rfl,hn⟩:=xc2 he
  unfold grQ; rw[if_pos he]
  exact⟨h.cir,h.shs hv n hn,⟨rfl,rfl⟩,he.symm⟩
def hlf (r:Int × Int):Bool:=decide (r.2<=2*r.1)
abbrev xs4:qc7:=qh6 true none [q0h] [.bool] (λx=>qt7 x.1) (λx=>(hlf x.1,()))
theorem w0r:qe6 Try.prog 30 xs4:=by
 refine meets (snd (SpecsOk.nil _)) Try.func30 rfl rfl (λ_ _=>none) (λ_=>by kernel_rfl) (by decide) ?_
 rintro⟨⟨a,b⟩,⟨⟩⟩ h
 revert a b
 intro(a:Int) (b:Int) (h:qt7 (a,b))
 refine @qe9 _ (fits .i64 ((2:Int)*a)/\decide (b<=(2:Int)*a)=hlf (a,b)) (by kernel_rfl) ?_
 try simp only[z0,z1,z2,z3,z4,z5,z6,z7,z8,z9,z10,Int.reduceEq,z11,z12,z13,z14,z15,z16,z17,z18,z19,z20,z21,z22,z23,z24,z25,z26,z27,z28,z29,z30,Int.reduceLE,Int.reduceLT,z31,z32,z33,z34,qa6]
 try simp only[qb5,qb6,qd0,List.set_cons_zero,List.cons.injEq,and_true,true_and]
 have h1:=h.n
 obtain⟨h1,h2⟩:=h1
 dsimp only at h1 h2
 exact⟨qb9 (by omega) (by omega),rfl⟩
def ordF (l:List (List Int)):Nat->Nat->Nat
 | 0,k=>k
 | f+1,k=>if hlf (qi3 l (k+1) l.length)=false then ordF l f (k+1) else k
def ordL (m:List (List Int)):Nat:=ordF (qk7 m).1 (nL m 0).length 0
theorem ws0 {l:List (List Int)} {n k:Nat} (h:k<n):ordF l (n-k) k=if hlf (qi3 l (k+1) l.length)=false then ordF l (n-(k+1)) (k+1) else k:=by
 obtain⟨f,hf⟩:∃f,n-k=f+1:=⟨n-k-1,by omega⟩
 rw[hf,show n-(k+1)=f by omega,ordF]
structure w7r (l:List (List Int)) (n k:Nat):Prop where
 le:k<=n
 eq:ordF l n 0=ordF l (n-k) k
def xs5 (l:List (List Int)) (n:Nat):Nat->Option Inv
 | 0=>some (Inv.of [4] 0 (λk:Nat=>[(4,.lit (.int .i64 k))]) (λ_=>[]) (λk=>w7r l n k) (λk=>n-k))
 | _=>none
abbrev w7s:qc7:=qh6 true none [ql8] [qe3] (λx=>qb8 x.1=true/\w0q x.1) (λx=>((ordL x.1:Nat),()))
theorem q82:qe6 Try.prog 15 w7s:=by
 refine meets (snd (SpecsOk.cons q2x (SpecsOk.cons we5 (SpecsOk.cons w0r (SpecsOk.nil _))))) Try.func15 rfl rfl (λx=>xs5 (qk7 x.1).1 (nL x.1 0).length) (λ_=>by kernel_rfl) (by decide) ?_
 rintro⟨m,⟨⟩⟩ h
 revert m
 intro(m:List (List Int)) (h:qb8 m=true/\w0q m)
 refine @qe9 _ (let Q0:=Prod.fst (qk7 m); let Q1:=List.length Q0; (qb8 m=true->q5l m)/\∃(v0:Unit),∃(v1:Nat),w7r Q0 (List.length (nL m (0:Nat))) v1/\(((0:Int)=(↑v1:Int)/\True)/\True)/\∀(v2:Nat),w7r Q0 (List.length (nL m (0:Nat))) v2->((0:Int)<=(0:Int)/\(0:Int)<(↑(List.length m):Int))/\(decide ((↑v2:Int)<(↑(List.length (qa3 (Ty.list (Ty.int .i64)) m (0:Nat))):Int))=true->fits .i64 ((↑v2:Int)+(1:Int))/\q6m Q0 ((↑v2:Int)+(1:Int))/\qt7 (Prod.fst (qi3 Q0 (Int.toNat ((↑v2:Int)+(1:Int))) Q1),Prod.snd (qi3 Q0 (Int.toNat ((↑v2:Int)+(1:Int))) Q1))/\((!hlf (Prod.fst (qi3 Q0 (Int.toNat ((↑v2:Int)+(1:Int))) Q1),Prod.snd (qi3 Q0 (Int.toNat ((↑v2:Int)+(1:Int))) Q1)))=true->fits .i64 ((↑v2:Int)+(1:Int))/\∃(v6:Nat),w7r Q0 (List.length (nL m (0:Nat))) v6/\List.length (nL m (0:Nat))-v6<List.length (nL m (0:Nat))-v2/\((↑v2:Int)+(1:Int)=(↑v6:Int)/\True)/\True)/\((!hlf (Prod.fst (qi3 Q0 (Int.toNat ((↑v2:Int)+(1:Int))) Q1),Prod.snd (qi3 Q0 (Int.toNat ((↑v2:Int)+(1:Int))) Q1)))=false->(↑v2:Int)=(↑(ordL m):Int)))/\(decide ((↑v2:Int)<(↑(List.length (qa3 (Ty.list (Ty.int .i64)) m (0:Nat))):Int))=false->(↑v2:Int)=(↑(ordL m):Int))) (by kernel_rfl) ?_
 try simp only[z0,z1,z2,z3,z4,z5,z6,z7,z8,z9,z10,Int.reduceEq,z11,z12,z13,z14,z15,z16,z17,z18,z19,z20,z21,z22,z23,z24,z25,z26,z27,z28,z29,z30,Int.reduceLE,Int.reduceLT,z31,z32,z33,z34,qa6]
 try simp only[qb5,qb6,qd0,List.set_cons_zero,List.cons.injEq,and_true,true_and]
 have hM:=Mk.of h.1
 have m1:=hM.rows1
 have m10:=hM.pix10
 have hc:=h.2.shs h.1
 refine⟨h.2.cir,(),0,⟨Nat.zero_le _,rfl⟩,rfl,λk hk=>⟨by omega,λhlt=>?_,λhge=>?_⟩⟩
 ·have e:((k:Int)+1).toNat=k+1:=by omega
  have e2:((k:Int)+1)=((k+1:Nat):Int):=by push_cast; rfl
  have hs:=hc (k+1) (by omega)
  have hl:=qo5 hs (qk7 m).1.length (Nat.le_refl _)
  rw[Int.toNat_natCast] at hl
  rw[e,e2]
  refine⟨qb9 (by omega) (by omega),hs,hl,λhf=>⟨qb9 (by omega) (by omega),k+1,⟨by omega,?_⟩,by omega,rfl⟩,λhf=>?_⟩
  ·rw[hk.eq,ws0 hlt]
   exact if_pos hf
  ·have:ordL m=k:=by
    unfold ordL
    rw[hk.eq,ws0 hlt,if_neg (by rw[show hlf (qi3 (qk7 m).1 (k+1) (qk7 m).1.length)=true from hf]; simp)]
   rw[this]
 ·have hle:=hk.le
  have e:k=(nL m 0).length:=by omega
  have:ordL m=k:=by
   unfold ordL
   rw[hk.eq,e,Nat.sub_self]; rfl
  rw[this]
def q6e (m:List (List Int)):Int × Int:=if qb8 m=true then((ordL m:Nat),0) else(0,1)
abbrev xk5:qc7:=qh6 true none [ql8] [qe3,qe3] (λx=>w0q x.1) (λx=>((q6e x.1).1,(q6e x.1).2,()))
theorem q5t:qe6 Try.prog 7 xk5:=by
 refine meets (snd (SpecsOk.cons q3u (SpecsOk.cons q82 (SpecsOk.nil _)))) Try.func7 rfl rfl (λ_ _=>none) (λ_=>by kernel_rfl) (by decide) ?_
 rintro⟨m,⟨⟩⟩ h
 revert m
 intro(m:List (List Int)) (h:w0q m)
 refine @qe9 _ (True/\((!qb8 m)=true->(0:Int)=Prod.fst (q6e m)/\(1:Int)=Prod.snd (q6e m)/\True)/\((!qb8 m)=false->(qb8 m=true/\w0q m)/\(↑(ordL m):Int)=Prod.fst (q6e m)/\(0:Int)=Prod.snd (q6e m)/\True)) (by kernel_rfl) ?_
 try simp only[z0,z1,z2,z3,z4,z5,z6,z7,z8,z9,z10,Int.reduceEq,z11,z12,z13,z14,z15,z16,z17,z18,z19,z20,z21,z22,z23,z24,z25,z26,z27,z28,z29,z30,Int.reduceLE,Int.reduceLT,z31,z32,z33,z34,qa6]
 try simp only[qb5,qb6,qd0,List.set_cons_zero,List.cons.injEq,and_true,true_and]
 refine⟨λhv=>?_,λhv=>⟨⟨hv,h⟩,?_⟩⟩
 ·unfold q6e; rw[hv]; exact⟨rfl,rfl⟩
 ·unfold q6e; rw[if_pos hv]; exact⟨rfl,rfl⟩
def xc3 (l:List Int):Bool:=(decide (7<l.length) && decide (l.length<=10)) || decide (20<l.length)
def w03 (m:List (List Int)):Bool:=!(m.any xc3) && decide (m.length<=8)
structure w0s (m:List (List Int)) (k:Nat):Prop where
 le:k<=m.length
 ok:∀i,i<k->xc3 (nL m i)=false
def xk6 (m:List (List Int)):Nat->Option Inv
 | 0=>some (Inv.of [7] 0 (λk:Nat=>[(7,.lit (.int .i64 k))]) (λ_=>[]) (λk=>w0s m k) (λk=>m.length-k))
 | _=>none
abbrev xs6:qc7:=qh6 true none [ql8] [.bool] (λx=>x.1.length<=9223372036854775807) (λx=>(w03 x.1,()))
theorem w0t:qe6 Try.prog 5 xs6:=by
 refine meets (snd (SpecsOk.nil _)) Try.func5 rfl rfl (λx=>xk6 x.1) (λ_=>by kernel_rfl) (by decide) ?_
 rintro⟨m,⟨⟩⟩ h
 revert m
 intro(m:List (List Int)) (h:m.length<=9223372036854775807)
 refine @qe9 _ (let Q0:=List.length m; ∃(v0:Unit),∃(v1:Nat),w0s m v1/\(((0:Int)=(↑v1:Int)/\True)/\True)/\∀(v2:Nat),w0s m v2->(decide ((↑v2:Int)<(↑Q0:Int))=true->((0:Int)<=(↑v2:Int)/\(↑v2:Int)<(↑Q0:Int))/\(decide ((7:Int)<(↑(List.length (qa3 (Ty.list (Ty.int .i64)) m (Int.toNat (↑v2:Int)))):Int))=true->(decide ((↑(List.length (qa3 (Ty.list (Ty.int .i64)) m (Int.toNat (↑v2:Int)))):Int)<=(10:Int))=true->false=w03 m)/\(decide ((↑(List.length (qa3 (Ty.list (Ty.int .i64)) m (Int.toNat (↑v2:Int)))):Int)<=(10:Int))=false->(decide ((20:Int)<(↑(List.length (qa3 (Ty.list (Ty.int .i64)) m (Int.toNat (↑v2:Int)))):Int))=true->false=w03 m)/\(decide ((20:Int)<(↑(List.length (qa3 (Ty.list (Ty.int .i64)) m (Int.toNat (↑v2:Int)))):Int))=false->fits .i64 ((↑v2:Int)+(1:Int))/\∃(v8:Nat),w0s m v8/\List.length m-v8<List.length m-v2/\((↑v2:Int)+(1:Int)=(↑v8:Int)/\True)/\True)))/\(decide ((7:Int)<(↑(List.length (qa3 (Ty.list (Ty.int .i64)) m (Int.toNat (↑v2:Int)))):Int))=false->(decide ((20:Int)<(↑(List.length (qa3 (Ty.list (Ty.int .i64)) m (Int.toNat (↑v2:Int)))):Int))=true->false=w03 m)/\(decide ((20:Int)<(↑(List.length (qa3 (Ty.list (Ty.int .i64)) m (Int.toNat (↑v2:Int)))):Int))=false->fits .i64 ((↑v2:Int)+(1:Int))/\∃(v7:Nat),w0s m v7/\List.length m-v7<List.length m-v2/\((↑v2:Int)+(1:Int)=(↑v7:Int)/\True)/\True)))/\(decide ((↑v2:Int)<(↑Q0:Int))=false->decide ((↑Q0:Int)<=(8:Int))=w03 m)) (by kernel_rfl) ?_
 try simp only[z0,z1,z2,z3,z4,z5,z6,z7,z8,z9,z10,Int.reduceEq,z11,z12,z13,z14,z15,z16,z17,z18,z19,z20,z21,z22,z23,z24,z25,z26,z27,z28,z29,z30,Int.reduceLE,Int.reduceLT,z31,z32,z33,z34,qa6]
 try simp only[qb5,qb6,qd0,List.set_cons_zero,List.cons.injEq,and_true,true_and]
 refine⟨(),0,⟨Nat.zero_le _,λi hi=>by omega⟩,rfl,λk hk=>⟨λhlt=>?_,λhge=>?_⟩⟩
 ·have bad:xc3 (nL m k)=true->false=w03 m:=λq=>by
   unfold w03
   rw[List.any_eq_true.2 ⟨nL m k,qr9 m k hlt,q⟩]; rfl
  have good:xc3 (nL m k)=false->fits IntKind.i64 (↑k+1)/\∃v8,w0s m v8/\m.length-v8<m.length-k/\(↑k+1:Int)=↑v8:=λq=>⟨qb9 (by omega) (by omega),k+1,⟨hlt,λi hi=>by
   by_cases e:i=k
   ·subst e; exact q
   ·exact hk.ok i (by omega)⟩,by omega,by push_cast; rfl⟩
  refine⟨hlt,λh7=>⟨λh10=>bad ?_,λh10=>⟨λh20=>bad ?_,λh20=>good ?_⟩⟩,λh7=>⟨λh20=>bad ?_,λh20=>good ?_⟩⟩ <;> (unfold xc3; simp; omega)
 ·have hle:=hk.le
  have e:m.any xc3=false:=by
   rw[List.any_eq_false]
   intro x hx
   obtain⟨i,hi,rfl⟩:=List.mem_iff_getElem.1 hx
   have:=hk.ok i (by omega)
   rw[ql9 _ _ hi] at this
   rw[this]; simp
  unfold w03
  rw[e]
  simp only[Bool.not_false,Bool.true_and]
  congr 1
  apply propext
  constructor <;> intro q <;> omega
end Go.Proofs.Ytempacilejhbgaa
