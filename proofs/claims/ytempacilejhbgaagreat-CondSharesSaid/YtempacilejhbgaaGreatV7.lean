/- Rows with chosen columns: contracts by the engine. No condition. -/
import Derived.Test.YtempacilejhbgaaGreatV4
set_option linter.unusedVariables false
set_option linter.unusedSimpArgs false
namespace Go.Proofs.YtempacilejhbgaaGreat
open Go Go.RowKit Eng
abbrev xr3:qc0:=hspec [] true none [.d qd6,.cap qd6] [.bool] (λx=>0<=x.2.1/\x.2.1<=BIG) (λx=>(!(inB x.1 (0-x.2.1) x.2.1),()))
theorem w1l:qd7 Tryz.prog 99 xr3:=by
 refine qu0 (SpecsOk.nil _) (snd (SpecsOk.cons qy3 (SpecsOk.nil _))) Tryz.func99 rfl rfl (λ_ _=>none) (λ_=>by kernel_rfl) (by decide) ?_
 rintro⟨n,k,⟨⟩⟩ h
 revert n k
 intro(n:Int) (k:Int) (h:0<=k/\k<=BIG)
 refine @qe1 _ (fits .i64 ((0:Int)-k)/\True/\(!inB n ((0:Int)-k) k)=!inB n ((0:Int)-k) k) (by kernel_rfl) ?_
 try simp only[z0,z1,z2,z3,z4,z5,z6,z7,z8,z9,z10,Int.reduceEq,z11,z12,z13,z14,z15,z16,z17,z18,z19,z20,z21,z22,z23,z24,z25,z26,z27,z28,z29,z30,Int.reduceLE,Int.reduceLT,z31,z32,z33,z34,qa4]
 try simp only[qb3,qb4,qb9,List.set_cons_zero,List.cons.injEq,and_true,true_and]
 unfold BIG at h
 exact qa7 (by omega) (by omega)
abbrev x4f:qc0:=w8j false none [qd6] (λ_=>True) (λx=>.clo 99 (.cons (.imm (.cons (.lit (.int .i64 x.1)) .nil) 0) .nil))
theorem w4z:qd7 Tryz.prog 56 x4f:=by
 refine ww4 (snd (SpecsOk.nil _)) Tryz.func56 rfl rfl (λ_ _=>none) (λ_=>by kernel_rfl) (by decide) ?_
 rintro⟨m,⟨⟩⟩ -
 revert m
 intro(m:Int)
 refine @qe1 _ (((m=m/\True)/\(0:Nat)=(0:Nat))/\True) (by kernel_rfl) ?_
 try simp only[z0,z1,z2,z3,z4,z5,z6,z7,z8,z9,z10,Int.reduceEq,z11,z12,z13,z14,z15,z16,z17,z18,z19,z20,z21,z22,z23,z24,z25,z26,z27,z28,z29,z30,Int.reduceLE,Int.reduceLT,z31,z32,z33,z34,qa4]
 try simp only[qb3,qb4,qb9,List.set_cons_zero,List.cons.injEq,and_true,true_and]
abbrev xr4:qc0:=hspec [] true none [.d qd6,.cap qd6] [.bool] (λx=>0<=x.2.1/\x.2.1<=BIG) (λx=>(!(inB x.1 0 (x.2.1-1)),()))
theorem w1m:qd7 Tryz.prog 101 xr4:=by
 refine qu0 (SpecsOk.nil _) (snd (SpecsOk.cons qy3 (SpecsOk.nil _))) Tryz.func101 rfl rfl (λ_ _=>none) (λ_=>by kernel_rfl) (by decide) ?_
 rintro⟨n,k,⟨⟩⟩ h
 revert n k
 intro(n:Int) (k:Int) (h:0<=k/\k<=BIG)
 refine @qe1 _ (fits .i64 (k-(1:Int))/\True/\(!inB n (0:Int) (k-(1:Int)))=!inB n (0:Int) (k-(1:Int))) (by kernel_rfl) ?_
 try simp only[z0,z1,z2,z3,z4,z5,z6,z7,z8,z9,z10,Int.reduceEq,z11,z12,z13,z14,z15,z16,z17,z18,z19,z20,z21,z22,z23,z24,z25,z26,z27,z28,z29,z30,Int.reduceLE,Int.reduceLT,z31,z32,z33,z34,qa4]
 try simp only[qb3,qb4,qb9,List.set_cons_zero,List.cons.injEq,and_true,true_and]
 unfold BIG at h
 exact qa7 (by omega) (by omega)
def xc0 (l:List Int):Bool:=(List.range l.length).all λi=>decide (i=0) || decide (nI l (i-1)<nI l i)
def q1d (n:Int) (l:List Int):Int:=if xc0 l=false then 7 else if l.any (λp=>!(inB p 0 (n-1))) then 5 else 0
theorem q9r {l:List Int}:xc0 l=true↔∀i,0<i->i<l.length->nI l (i-1)<nI l i:=by
 unfold xc0
 rw[List.all_eq_true]
 constructor
 ·intro h i h0 hi
  have:=h i (List.mem_range.2 hi)
  simp only[Bool.or_eq_true,decide_eq_true_eq] at this
  exact this.resolve_left (by omega)
 ·intro h i hi
  simp only[Bool.or_eq_true,decide_eq_true_eq]
  by_cases e:i=0
  ·exact .inl e
  ·exact .inr (h i (by omega) (List.mem_range.1 hi))
structure AscTo (l:List Int) (k:Nat):Prop where
 le:k<=l.length
 lt:∀i,0<i->i<k->nI l (i-1)<nI l i
theorem AscTo.step {l:List Int} {k:Nat} (h:AscTo l k) (hk:k<l.length) (h1:k=0\/nI l (k-1)<nI l k):AscTo l (k+1):=
 ⟨hk,λi h0 hi=>by
  by_cases e:i=k
  ·subst e; exact h1.resolve_left (by omega)
  ·exact h.lt i h0 (by omega)⟩
theorem AscTo.all {l:List Int} (h:AscTo l l.length):xc0 l=true:=q9r.2 h.lt
theorem wx0 {l:List Int} {k:Nat} (h0:0<k) (hk:k<l.length) (h:nI l k<=nI l (k-1)):xc0 l=false:=by
 cases e:xc0 l with
 | false=>rfl
 | true=>have:=q9r.1 e k h0 hk; omega
def x0i (n:Int) (l:List Int):Nat->Option Inv
 | 0=>some (Inv.of [9] 1 (λk:Nat=>[(9,.lit (.int .i64 k))]) (λ_=>[.box 3 (.cons (.lit (.int .i64 n)) .nil)]) (λk=>AscTo l k) (λk=>l.length-k))
 | _=>none
abbrev x4g:qc0:=qg7 true none [qd6,qf2] [qd6] (λx=>(0<=x.1/\x.1<=BIG)/\x.2.1.length<=1000000) (λx=>(q1d x.1 x.2.1,()))
theorem wh4:qd7 Tryz.prog 58 x4g:=by
 refine meets (snd (SpecsOk.cons (q51 (fs:=[(101,xr4)]) (SpecsOk.cons w1m (SpecsOk.nil _))) (SpecsOk.nil _))) Tryz.func58 rfl rfl (λx=>x0i x.1 x.2.1) (λ_=>by kernel_rfl) (by decide) ?_
 rintro⟨n,l,⟨⟩⟩ h
 revert n l
 intro(n:Int) (l:List Int) (h:(0<=n/\n<=BIG)/\l.length<=1000000)
 refine @qe1 _ (let Q0:=List.length l; ∃(v0:Unit),∃(v1:Nat),AscTo l v1/\(((0:Int)=(↑v1:Int)/\True)/\(n=n/\True)/\True)/\∀(v2:Nat),AscTo l v2->(decide ((↑v2:Int)<(↑Q0:Int))=true->((0:Int)<=(↑v2:Int)/\(↑v2:Int)<(↑Q0:Int))/\(decide ((0:Int)<(↑v2:Int))=true->fits .i64 ((↑v2:Int)-(1:Int))/\((0:Int)<=(↑v2:Int)-(1:Int)/\(↑v2:Int)-(1:Int)<(↑Q0:Int))/\(decide (qa1 (Ty.int .i64) l (Int.toNat (↑v2:Int))<=qa1 (Ty.int .i64) l (Int.toNat ((↑v2:Int)-(1:Int))))=true->(7:Int)=q1d n l)/\(decide (qa1 (Ty.int .i64) l (Int.toNat (↑v2:Int))<=qa1 (Ty.int .i64) l (Int.toNat ((↑v2:Int)-(1:Int))))=false->fits .i64 ((↑v2:Int)+(1:Int))/\∃(v7:Nat),AscTo l v7/\List.length l-v7<List.length l-v2/\((↑v2:Int)+(1:Int)=(↑v7:Int)/\True)/\(n=n/\True)/\True))/\(decide ((0:Int)<(↑v2:Int))=false->fits .i64 ((↑v2:Int)+(1:Int))/\∃(v6:Nat),AscTo l v6/\List.length l-v6<List.length l-v2/\((↑v2:Int)+(1:Int)=(↑v6:Int)/\True)/\(n=n/\True)/\True))/\(decide ((↑v2:Int)<(↑Q0:Int))=false->∃(v5:qa6 [Ty.int .i64]->Prop),∃(v6:qa6 [Ty.int .i64]->Bool),(∀(v7:Int × qa6._f [] PUnit.unit),v5 v7->((0:PTy.den (PTy.cap qd6))<=n/\n<=BIG)/\(!inB (Prod.fst v7) (0:Int) (n-(1:Int)))=v6 v7)/\(List.length l<=(1000000:Nat)/\∀(v7:Nat),v7<List.length l->v5 (qa1 (Ty.int .i64) l v7,()))/\((List.any l λ(v8:Int)=>v6 (v8,()))=true->(5:Int)=q1d n l)/\((List.any l λ(v8:Int)=>v6 (v8,()))=false->(0:Int)=q1d n l))) (by kernel_rfl) ?_
 try simp only[z0,z1,z2,z3,z4,z5,z6,z7,z8,z9,z10,Int.reduceEq,z11,z12,z13,z14,z15,z16,z17,z18,z19,z20,z21,z22,z23,z24,z25,z26,z27,z28,z29,z30,Int.reduceLE,Int.reduceLT,z31,z32,z33,z34,qa4]
 try simp only[qb3,qb4,qb9,List.set_cons_zero,List.cons.injEq,and_true,true_and]
 obtain⟨hn,hl⟩:=h
 refine⟨(),0,⟨Nat.zero_le _,λi h0 hi=>by omega⟩,rfl,λk hk=>⟨λhlt=>⟨hlt,λh0=>?_,λh0=>⟨qa7 (by omega) (by omega),k+1,hk.step hlt (.inl (by omega)),by omega,by omega⟩⟩,λhge=>?_⟩⟩
 ·have e:((k:Int)-1).toNat=k-1:=by omega
  rw[e]
  refine⟨qa7 (by omega) (by omega),by omega,λh1=>?_,λh1=>⟨qa7 (by omega) (by omega),k+1,hk.step hlt (.inr h1),by omega,by omega⟩⟩
  unfold q1d
  rw[if_pos (wx0 (by omega) hlt h1)]
 ·obtain rfl:k=l.length:=by have:=hk.le; omega
  refine⟨λ_=>True,λx=>!(inB x.1 0 (n-1)),λx _=>⟨hn,by simp⟩,⟨hl,λ_ _=>trivial⟩,λh1=>?_,λh1=>?_⟩
  ·unfold q1d
   rw[if_neg (by simp[hk.all]),if_pos h1]
  ·unfold q1d
   rw[if_neg (by simp[hk.all]),if_neg (by rw[h1]; decide)]
structure Mk (m:List (List Int)):Prop where
 rows1:1<=m.length
 rows6:m.length<=6
 each:∀i,i<m.length->(nL m i).length=(nL m 0).length
 pix1:1<=(nL m 0).length
 pix10:(nL m 0).length<=10
 small:∀i,i<m.length->∀j,j<(nL m 0).length->-1<=nI (nL m i) j/\nI (nL m i) j<=1
theorem Mk.of {m:List (List Int)} (h:qc8 m=true):Mk m:=by
 unfold qc8 at h
 rw[Bool.and_eq_true,qm0,List.all_eq_true] at h
 obtain⟨h1,h2⟩:=h
 have each:∀i,i<m.length->(nL m i).length=(nL m 0).length/\rowB (nL m i)=true:=λi hi=>by
  have:=h2 (nL m i) (by unfold nL; rw[qu7 (t:=qf2) m i hi]; exact List.getElem_mem hi)
  rw[Bool.and_eq_true,decide_eq_true_eq] at this
  exact this
 have hr:∀i,i<m.length->(1<=(nL m i).length/\(nL m i).length<=10)/\∀j,j<(nL m i).length->-1<=nI (nL m i) j/\nI (nL m i) j<=1:=λi hi=>by
  have:=(each i hi).2
  unfold rowB at this
  rw[Bool.and_eq_true,qm0,List.all_eq_true] at this
  refine⟨by omega,λj hj=>qm0.1 (this.2 _ ?_)⟩
  unfold nI; rw[qu7 (t:=qd6) _ j hj]; exact List.getElem_mem hj
 have h0:=hr 0 (by omega)
 exact⟨by omega,by omega,λi hi=>(each i hi).1,h0.1.1,h0.1.2,λi hi j hj=>(hr i hi).2 j (by rw[(each i hi).1]; exact hj)⟩
def q72 (m:List (List Int)) (l:List Int):Int:=if qc8 m=false then 1 else q1d (nL m 0).length l
abbrev x4h:qc0:=qg7 true none [qk0,qf2] [qd6] (λx=>x.2.1.length<=1000000) (λx=>(q72 x.1 x.2.1,()))
theorem w40:qd7 Tryz.prog 62 x4h:=by
 refine meets (snd (SpecsOk.cons q4r (SpecsOk.cons wh4 (SpecsOk.nil _)))) Tryz.func62 rfl rfl (λ_ _=>none) (λ_=>by kernel_rfl) (by decide) ?_
 rintro⟨m,l,⟨⟩⟩ h
 revert m l
 intro(m:List (List Int)) (l:List Int) (h:l.length<=1000000)
 refine @qe1 _ (True/\((!qc8 m)=true->(1:Int)=q72 m l)/\((!qc8 m)=false->((0:Int)<=(0:Int)/\(0:Int)<(↑(List.length m):Int))/\(((0:Ty.den qd6)<=(↑(List.length (qa1 (Ty.list (Ty.int .i64)) m (0:Nat))):Int)/\(↑(List.length (qa1 (Ty.list (Ty.int .i64)) m (0:Nat))):Int)<=BIG)/\List.length l<=(1000000:Nat))/\q1d (↑(List.length (qa1 (Ty.list (Ty.int .i64)) m (0:Nat))):Int) l=q72 m l)) (by kernel_rfl) ?_
 try simp only[z0,z1,z2,z3,z4,z5,z6,z7,z8,z9,z10,Int.reduceEq,z11,z12,z13,z14,z15,z16,z17,z18,z19,z20,z21,z22,z23,z24,z25,z26,z27,z28,z29,z30,Int.reduceLE,Int.reduceLT,z31,z32,z33,z34,qa4]
 try simp only[qb3,qb4,qb9,List.set_cons_zero,List.cons.injEq,and_true,true_and]
 refine⟨λhv=>by simp[q72,hv],λhv=>?_⟩
 have hM:=Mk.of hv
 have h1:=hM.rows1
 have h2:=hM.pix10
 unfold BIG
 exact⟨by omega,⟨by omega,h⟩,by simp[q72,hv]⟩
def q67 (y:List Int):Bool:=y.any λn=>!(inB n (0-1000000) 1000000)
def x2o (m:List (List Int)) (y l:List Int):Int:=if qc8 m=false then 1 else if ¬y.length=m.length then 9 else if q67 y then 7 else q72 m l
structure wx1 (m:List (List Int)):Prop where
 rows:m.length<=9223372036854775807
 each:∀i,i<m.length->(nL m i).length<=9223372036854775807
structure RowTo (l:List Int) (k:Nat):Prop where
 le:k<=l.length
 ok:∀i,i<k->inB (nI l i) (-1) 1=true
def xr5 (l:List Int):Nat->Option Inv
 | 0=>some (Inv.of [7] 0 (λk:Nat=>[(7,.lit (.int .i64 k))]) (λ_=>[]) (λk=>RowTo l k) (λk=>l.length-k))
 | _=>none
theorem w41 {l:List Int} {k:Nat} (hk:k<l.length) (h:inB (nI l k) (-1) 1=false):rowB l=false:=by
 cases e:rowB l with
 | false=>rfl
 | true=>
  unfold rowB at e
  rw[Bool.and_eq_true,List.all_eq_true] at e
  have:=e.2 (nI l k) (by rw[qg5 l k hk]; exact List.getElem_mem hk)
  rw[h] at this; cases this
theorem RowTo.all {l:List Int} (h:RowTo l l.length):(l.all λn=>inB n (-1) 1)=true:=by
 rw[List.all_eq_true]
 intro x hx
 obtain⟨i,hi,rfl⟩:=List.getElem_of_mem hx
 rw[<- qg5 l i hi]; exact h.ok i hi
abbrev x0j:qc0:=qg7 true none [qf2] [.bool] (λx=>x.1.length<=9223372036854775807) (λx=>(rowB x.1,()))
theorem w1n:qd7 Tryz.prog 94 x0j:=by
 refine meets (snd (SpecsOk.cons q2v (SpecsOk.nil _))) Tryz.func94 rfl rfl (λx=>xr5 x.1) (λ_=>by kernel_rfl) (by decide) ?_
 rintro⟨l,⟨⟩⟩ h
 revert l
 intro(l:List Int) (h:l.length<=9223372036854775807)
 refine @qe1 _ (let Q0:=List.length l; ∃(v0:Unit),∃(v1:Nat),RowTo l v1/\(((0:Int)=(↑v1:Int)/\True)/\True)/\∀(v2:Nat),RowTo l v2->(decide ((↑v2:Int)<(↑Q0:Int))=true->((0:Int)<=(↑v2:Int)/\(↑v2:Int)<(↑Q0:Int))/\True/\((!inB (qa1 (Ty.int .i64) l (Int.toNat (↑v2:Int))) (-1:Int) (1:Int))=true->false=rowB l)/\((!inB (qa1 (Ty.int .i64) l (Int.toNat (↑v2:Int))) (-1:Int) (1:Int))=false->fits .i64 ((↑v2:Int)+(1:Int))/\∃(v6:Nat),RowTo l v6/\List.length l-v6<List.length l-v2/\((↑v2:Int)+(1:Int)=(↑v6:Int)/\True)/\True))/\(decide ((↑v2:Int)<(↑Q0:Int))=false->True/\inB (↑Q0:Int) (1:Int) (10:Int)=rowB l)) (by kernel_rfl) ?_
 try simp only[z0,z1,z2,z3,z4,z5,z6,z7,z8,z9,z10,Int.reduceEq,z11,z12,z13,z14,z15,z16,z17,z18,z19,z20,z21,z22,z23,z24,z25,z26,z27,z28,z29,z30,Int.reduceLE,Int.reduceLT,z31,z32,z33,z34,qa4]
 try simp only[qb3,qb4,qb9,List.set_cons_zero,List.cons.injEq,and_true,true_and]
 refine⟨(),0,⟨Nat.zero_le _,λi hi=>by omega⟩,rfl,λk hk=>⟨λhlt=>⟨hlt,λh1=>(w41 hlt h1).symm,λh1=>⟨qa7 (by omega) (by omega),k+1,⟨hlt,λi hi=>?_⟩,by omega,by omega⟩⟩,λhge=>?_⟩⟩
 ·by_cases e:i=k
  ·subst e; exact h1
  ·exact hk.ok i (by omega)
 ·obtain rfl:k=l.length:=by have:=hk.le; omega
  rw[rowB,hk.all,Bool.and_true]
structure xv8 (m:List (List Int)) (k:Nat):Prop where
 le:k<=m.length
 ok:∀i,i<k->rowB (nL m i)=true/\(nL m i).length=(nL m 0).length
def x4i (m:List (List Int)):Nat->Option Inv
 | 0=>some (Inv.of [7] 0 (λk:Nat=>[(7,.lit (.int .i64 k))]) (λ_=>[]) (λk=>xv8 m k) (λk=>m.length-k))
 | _=>none
theorem q52 {m:List (List Int)} {k:Nat} (hk:k<m.length) (h:rowB (nL m k)=false\/¬(nL m k).length=(nL m 0).length):qc8 m=false:=by
 cases e:qc8 m with
 | false=>rfl
 | true=>
  unfold qc8 at e
  rw[Bool.and_eq_true,List.all_eq_true] at e
  have:=e.2 (nL m k) (by rw[ql4 m k hk]; exact List.getElem_mem hk)
  rw[Bool.and_eq_true,decide_eq_true_eq] at this
  rcases h with h | h
  ·rw[h] at this; cases this.2
  ·exact absurd this.1 h
abbrev sV2:qc0:=qg7 true none [qk0] [.bool] (λx=>wx1 x.1) (λx=>(qc8 x.1,()))
theorem q9s:qd7 Tryz.prog 51 sV2:=by
 refine meets (snd (SpecsOk.cons q2v (SpecsOk.cons w1n (SpecsOk.nil _)))) Tryz.func51 rfl rfl (λx=>x4i x.1) (λ_=>by kernel_rfl) (by decide) ?_
 rintro⟨m,⟨⟩⟩ h
 revert m
 intro(m:List (List Int)) (h:wx1 m)
 refine @qe1 _ (let Q0:=List.length m; ∃(v0:Unit),∃(v1:Nat),xv8 m v1/\(((0:Int)=(↑v1:Int)/\True)/\True)/\∀(v2:Nat),xv8 m v2->(decide ((↑v2:Int)<(↑Q0:Int))=true->((0:Int)<=(↑v2:Int)/\(↑v2:Int)<(↑Q0:Int))/\List.length (qa1 (Ty.list (Ty.int .i64)) m (Int.toNat (↑v2:Int)))<=(9223372036854775807:Nat)/\((!rowB (qa1 (Ty.list (Ty.int .i64)) m (Int.toNat (↑v2:Int))))=true->false=qc8 m)/\((!rowB (qa1 (Ty.list (Ty.int .i64)) m (Int.toNat (↑v2:Int))))=false->((0:Int)<=(0:Int)/\(0:Int)<(↑Q0:Int))/\(((↑(List.length (qa1 (Ty.list (Ty.int .i64)) m (Int.toNat (↑v2:Int)))):Int) != (↑(List.length (qa1 (Ty.list (Ty.int .i64)) m (0:Nat))):Int))=true->false=qc8 m)/\(((↑(List.length (qa1 (Ty.list (Ty.int .i64)) m (Int.toNat (↑v2:Int)))):Int) != (↑(List.length (qa1 (Ty.list (Ty.int .i64)) m (0:Nat))):Int))=false->fits .i64 ((↑v2:Int)+(1:Int))/\∃(v7:Nat),xv8 m v7/\List.length m-v7<List.length m-v2/\((↑v2:Int)+(1:Int)=(↑v7:Int)/\True)/\True)))/\(decide ((↑v2:Int)<(↑Q0:Int))=false->True/\inB (↑Q0:Int) (1:Int) (6:Int)=qc8 m)) (by kernel_rfl) ?_
 try simp only[z0,z1,z2,z3,z4,z5,z6,z7,z8,z9,z10,Int.reduceEq,z11,z12,z13,z14,z15,z16,z17,z18,z19,z20,z21,z22,z23,z24,z25,z26,z27,z28,z29,z30,Int.reduceLE,Int.reduceLT,z31,z32,z33,z34,qa4]
 try simp only[qb3,qb4,qb9,List.set_cons_zero,List.cons.injEq,and_true,true_and]
 have hr:=h.rows
 refine⟨(),0,⟨Nat.zero_le _,λi hi=>by omega⟩,rfl,λk hk=>⟨λhlt=>⟨hlt,h.each k hlt,λh1=>(q52 hlt (.inl h1)).symm,λh1=>⟨by omega,λh2=>(q52 hlt (.inr (by omega))).symm,λh2=>⟨qa7 (by omega) (by omega),k+1,⟨hlt,λi hi=>?_⟩,by omega,by omega⟩⟩⟩,λhge=>?_⟩⟩
 ·by_cases e:i=k
  ·subst e; exact⟨h1,by omega⟩
  ·exact hk.ok i (by omega)
 ·obtain rfl:k=m.length:=by have:=hk.le; omega
  have:(m.all λl=>decide (l.length=(nL m 0).length) && rowB l)=true:=by
   rw[List.all_eq_true]
   intro x hx
   obtain⟨i,hi,rfl⟩:=List.getElem_of_mem hx
   have:=hk.ok i hi
   rw[ql4 m i hi] at this
   rw[this.1,this.2]; simp
  rw[qc8,this,Bool.and_true]
structure w8t (y:List Int) (k:Nat):Prop where
 le:k<=y.length
 ok:∀i,i<k->inB (nI y i) (-1000000) 1000000=true
theorem q53 (l:List Int) (k:Nat) (hk:k<l.length):l.take (k+1)=l.take k++[nI l k]:=by
 rw[List.take_add_one,List.getElem?_eq_getElem hk,qg5 l k hk]; rfl
def qo9 (n:Nat):List Int:=(List.range n).map λi:Nat=>(i:Int)
theorem w42 (n:Nat):qo9 (n+1)=qo9 n++[(n:Int)]:=by simp[qo9,List.range_succ]
theorem qf5 (n:Nat):(qo9 n).length=n:=by simp[qo9]
theorem q0j (n i:Nat) (h:i<n):nI (qo9 n) i=i:=by rw[qg5 _ _ (by rw[qf5]; exact h)]; simp[qo9]
abbrev x4j:qc0:=wn8 (q5u [qd6]) true (some 3) .none (λx=>x.1<=100000) (λx=>.dat (.int .i64) (qo9 x.1.toNat))
def x0k (n:Nat):Nat->Option Inv
 | 0=>some (Inv.of [3,6] 1 (λk:Nat=>[(3,.own 0),(6,.lit (.int .i64 k))]) (λk=>[.vec 3 (.int .i64) (qo9 k)]) (λk=>k<=n) (λk=>n-k))
 | _=>none
theorem q54:qd7 Tryz.prog 111 x4j:=by
 refine ww3 (snd (SpecsOk.nil _)) Tryz.func111 rfl rfl (qx8 [qd6]) (λx=>x0k x.1.toNat) (λ_=>by kernel_rfl) (by decide) ?_
 rintro⟨n,⟨⟩⟩ h
 revert n
 intro(n:Int) (h:n<=100000)
 refine @qe1 _ (let Q0:=Int.toNat n; ∃(v0:Unit),∃(v1:Nat),Nat.le v1 Q0/\((True/\(0:Int)=(↑v1:Int)/\True)/\qo9 v1=[]/\True)/\∀(v2:Nat),Nat.le v2 Q0->(decide ((↑v2:Int)<n)=true->((0:Nat)<List.length [(↑v2:Int)]/\Nat.le (List.length (qo9 v2)+List.length [(↑v2:Int)]) (1000000:Nat))/\fits .i64 ((↑v2:Int)+(1:Int))/\∃(v5:Nat),Nat.le v5 Q0/\Int.toNat n-v5<Int.toNat n-v2/\(True/\(↑v2:Int)+(1:Int)=(↑v5:Int)/\True)/\qo9 v2++[(↑v2:Int)]=qo9 v5/\True)/\(decide ((↑v2:Int)<n)=false->qo9 v2=qo9 Q0)) (by kernel_rfl) ?_
 try simp only[z0,z1,z2,z3,z4,z5,z6,z7,z8,z9,z10,Int.reduceEq,z11,z12,z13,z14,z15,z16,z17,z18,z19,z20,z21,z22,z23,z24,z25,z26,z27,z28,z29,z30,Int.reduceLE,Int.reduceLT,z31,z32,z33,z34,qa4]
 try simp only[qb3,qb4,qb9,List.set_cons_zero,List.cons.injEq,and_true,true_and]
 refine⟨(),0,Nat.zero_le _,⟨rfl,rfl⟩,λk hk=>⟨λhlt=>⟨by rw[qf5]; omega,qa7 (by omega) (by omega),k+1,by omega,by omega,by omega,(w42 k).symm⟩,λhge=>?_⟩⟩
 rw[show n.toNat=k by omega]
abbrev xi2:qc0:=qg7 true none [qd6] [qf2] (λ_=>True) (λ_=>([],()))
theorem q73:qd7 Tryz.prog 155 xi2:=by
 refine meets (snd (SpecsOk.nil _)) Tryz.func155 rfl rfl (λ_ _=>none) (λ_=>by kernel_rfl) (by decide) ?_
 rintro⟨n,⟨⟩⟩ -
 revert n
 intro(n:Int)
 refine @qe1 _ (xn9 Int) (by kernel_rfl) ?_
 try simp only[z0,z1,z2,z3,z4,z5,z6,z7,z8,z9,z10,Int.reduceEq,z11,z12,z13,z14,z15,z16,z17,z18,z19,z20,z21,z22,z23,z24,z25,z26,z27,z28,z29,z30,Int.reduceLE,Int.reduceLT,z31,z32,z33,z34,qa4]
 try simp only[qb3,qb4,qb9,List.set_cons_zero,List.cons.injEq,and_true,true_and]
def qq8 (r pix:List Int):List Int:=pix.map λp=>nI r p.toNat
def qc7 (m:List (List Int)) (pix:List Int) (f:Int->List Int):List (List Int):=(List.range m.length).map λi=>qq8 (nL m i) pix++f i
structure ChoOk (m:List (List Int)) (pix:List Int) (p:qa6 [.int .i64]->Prop) (f:qa6 [.int .i64]->List Int):Prop where
 rows:m.length<=10000
 cols:pix.length<=10000
 at_:∀i,i<m.length->∀j,j<pix.length->0<=nI pix j/\nI pix j<(nL m i).length
 fn:∀i:Nat,i<m.length->p ((i:Int),())/\(f ((i:Int),())).length<=10000
theorem qt1 (r pix:List Int):(qq8 r pix).length=pix.length:=by simp[qq8]
theorem qu3 (r pix:List Int) (j:Nat) (hj:j<pix.length):nI (qq8 r pix) j=nI r (nI pix j).toNat:=by
 rw[qg5 _ _ (by rw[qt1]; exact hj),qg5 pix j hj]; simp[qq8]
theorem q1y (m:List (List Int)) (pix:List Int) (f:Int->List Int):(qc7 m pix f).length=m.length:=by simp[qc7]
theorem w1o (m:List (List Int)) (pix:List Int) (f:Int->List Int) (i:Nat) (hi:i<m.length):nL (qc7 m pix f) i=qq8 (nL m i) pix++f i:=by
 rw[ql4 _ _ (by rw[q1y]; exact hi)]; simp[qc7]
theorem takeL_snoc (m:List (List Int)) (k:Nat) (hk:k<m.length):m.take (k+1)=m.take k++[nL m k]:=by
 rw[List.take_add_one,List.getElem?_eq_getElem hk,ql4 m k hk]; rfl
abbrev x4k (fs:List (Nat × qc0)):qc0:=wn8 (wg1 fs [.d qk0,.d qf2,.fn [qd6] qf2]) true (some 24) (some 3) (λx=>ChoOk x.1 x.2.1 x.2.2.1.1 x.2.2.1.2) (λx=>.dat (.list (.int .i64)) (qc7 x.1 x.2.1 λi=>x.2.2.1.2 (i,())))
def x0l (m:List (List Int)) (pix:List Int) (f:Int->List Int):Nat->Option Inv
 | 0=>some (Inv.of [7,15] 1 (λk:Nat=>[(7,.msl 0 .none),(15,.lit (.int .i64 k))]) (λk=>[.mat 24 3 (.int .i64) ((qc7 m pix f).take k) .none .none]) (λk=>k<=m.length) (λk=>m.length-k))
 | 1=>some (Eng.Inv.mk Nat Nat [7,10,22] 2 (λ_ j=>[(7,.msl 0 .none),(10,.own 1),(22,.lit (.int .i64 j))]) (λk j=>[.mat 24 3 (.int .i64) ((qc7 m pix f).take k) .none .none,.vec 3 (.int .i64) ((qq8 (nL m k) pix).take j)]) (λ_ j=>j<=pix.length) (λ_ j=>pix.length-j))
 | _=>none
theorem wh5 {fs:List (Nat × qc0)} (hfs:SpecsOk Tryz.prog fs):qd7 Tryz.prog 154 (x4k fs):=by
 refine ww3 (xq5 [40] [39] (SpecsOk.nil _)) Tryz.func154 rfl rfl (q2u hfs [.d qk0,.d qf2,.fn [qd6] qf2]) (λx=>x0l x.1 x.2.1 λi=>x.2.2.1.2 (i,())) (λ_=>by kernel_rfl) (show 3<=_ by decide) ?_
 rintro⟨m,pix,⟨p,f⟩,⟨⟩⟩ h
 revert m pix p f
 intro(m:List (List Int)) (pix:List Int) (p:qa6 [.int .i64]->Prop) (f:qa6 [.int .i64]->List Int) (h:ChoOk m pix p f)
 refine @qe1 _ (let Q0:=List.length pix; let Q1:=List.length m; ∃(v0:Unit),∃(v1:Nat),Nat.le v1 Q1/\((True/\(0:Int)=(↑v1:Int)/\True)/\List.take v1 (qc7 m pix λ(v2:Int)=>f (v2,()))=[]/\True)/\∀(v2:Nat),Nat.le v2 Q1->(decide ((↑v2:Int)<(↑Q1:Int))=true->((0:Int)<=(↑v2:Int)/\(↑v2:Int)<(↑Q1:Int))/\∃(v5:Nat),∃(v6:Nat),Nat.le v6 Q0/\((True/\True/\(0:Int)=(↑v6:Int)/\True)/\(List.take v2 (qc7 m pix λ(v7:Int)=>f (v7,()))=List.take v5 (qc7 m pix λ(v7:Int)=>f (v7,()))/\True/\True)/\List.take v6 (qq8 (nL m v5) pix)=[]/\True)/\∀(v7:Nat),Nat.le v7 Q0->(decide ((↑v7:Int)<(↑Q0:Int))=true->((0:Int)<=(↑v7:Int)/\(↑v7:Int)<(↑Q0:Int))/\((0:Int)<=qa1 (Ty.int .i64) pix (Int.toNat (↑v7:Int))/\qa1 (Ty.int .i64) pix (Int.toNat (↑v7:Int))<(↑(List.length (qa1 (Ty.list (Ty.int .i64)) m (Int.toNat (↑v2:Int)))):Int))/\((0:Nat)<List.length [qa1 (Ty.int .i64) (qa1 (Ty.list (Ty.int .i64)) m (Int.toNat (↑v2:Int))) (Int.toNat (qa1 (Ty.int .i64) pix (Int.toNat (↑v7:Int))))]/\Nat.le (List.length (List.take v7 (qq8 (nL m v5) pix))+List.length [qa1 (Ty.int .i64) (qa1 (Ty.list (Ty.int .i64)) m (Int.toNat (↑v2:Int))) (Int.toNat (qa1 (Ty.int .i64) pix (Int.toNat (↑v7:Int))))]) (1000000:Nat))/\fits .i64 ((↑v7:Int)+(1:Int))/\∃(v10:Nat),Nat.le v10 Q0/\List.length pix-v10<List.length pix-v7/\(True/\True/\(↑v7:Int)+(1:Int)=(↑v10:Int)/\True)/\(List.take v5 (qc7 m pix λ(v11:Int)=>f (v11,()))=List.take v5 (qc7 m pix λ(v11:Int)=>f (v11,()))/\True/\True)/\List.take v7 (qq8 (nL m v5) pix)++[qa1 (Ty.int .i64) (qa1 (Ty.list (Ty.int .i64)) m (Int.toNat (↑v2:Int))) (Int.toNat (qa1 (Ty.int .i64) pix (Int.toNat (↑v7:Int))))]=List.take v10 (qq8 (nL m v5) pix)/\True)/\(decide ((↑v7:Int)<(↑Q0:Int))=false->p ((↑v2:Int),())/\Nat.le (List.length (List.take v7 (qq8 (nL m v5) pix))+List.length (f ((↑v2:Int),()))) (1000000:Nat)/\((0:Nat)<(0:Nat)+(1:Nat)/\List.length (List.take v5 (qc7 m pix λ(v10:Int)=>f (v10,())))+((0:Nat)+(1:Nat))<=(1000000:Nat))/\fits .i64 ((↑v2:Int)+(1:Int))/\∃(v10:Nat),Nat.le v10 Q1/\List.length m-v10<List.length m-v2/\(True/\(↑v2:Int)+(1:Int)=(↑v10:Int)/\True)/\(List.take v5 (qc7 m pix λ(v11:Int)=>f (v11,()))++[List.take v7 (qq8 (nL m v5) pix)++f ((↑v2:Int),())]=List.take v10 (qc7 m pix λ(v11:Int)=>f (v11,()))/\True/\True)/\True))/\(decide ((↑v2:Int)<(↑Q1:Int))=false->List.take v2 (qc7 m pix λ(v5:Int)=>f (v5,()))=qc7 m pix λ(v5:Int)=>f (v5,()))) (by kernel_rfl) ?_
 try simp only[z0,z1,z2,z3,z4,z5,z6,z7,z8,z9,z10,Int.reduceEq,z11,z12,z13,z14,z15,z16,z17,z18,z19,z20,z21,z22,z23,z24,z25,z26,z27,z28,z29,z30,Int.reduceLE,Int.reduceLT,z31,z32,z33,z34,qa4]
 try simp only[qb3,qb4,qb9,List.set_cons_zero,List.cons.injEq,and_true,true_and]
 have hr:=h.rows
 have hc:=h.cols
 have hl:=q1y m pix λi=>f (i,())
 refine⟨(),0,Nat.zero_le _,⟨rfl,rfl⟩,λk hk=>⟨λhlt=>⟨hlt,k,0,Nat.zero_le _,⟨rfl,rfl,rfl⟩,λj hj=>⟨λhj2=>?_,λhj2=>?_⟩⟩,λhge=>?_⟩⟩
 ·have h1:=qt1 (nL m k) pix
  refine⟨hj2,h.at_ k hlt j hj2,by rw[List.length_take]; omega,qa7 (by omega) (by omega),j+1,by omega,by omega,by omega,?_⟩
  rw[q53 _ j (by omega),qu3 _ _ _ hj2]
 ·obtain rfl:j=pix.length:=by omega
  have h1:=qt1 (nL m k) pix
  have h2:=h.fn k hlt
  have h3:(qq8 (nL m k) pix).take pix.length=qq8 (nL m k) pix:=List.take_of_length_le (by omega)
  rw[h3]
  refine⟨h2.1,by omega,by rw[List.length_take]; omega,qa7 (by omega) (by omega),k+1,by omega,by omega,by omega,?_⟩
  rw[takeL_snoc _ k (by omega),w1o _ _ _ _ hlt]
 ·rw[List.take_of_length_le (by omega)]
end Go.Proofs.YtempacilejhbgaaGreat
