/- Rows with chosen columns: contracts by the engine. No condition. -/
import Derived.Test.YtempacilejhbgaaV4
set_option linter.unusedVariables false
set_option linter.unusedSimpArgs false
namespace Go.Proofs.Ytempacilejhbgaa
open Go Go.RowKit Eng
def ws5 (l:List Int):Bool:=(List.range l.length).all λi=>decide (i=0) || decide (nI l (i-1)<nI l i)
def xs4 (n:Int) (l:List Int):Int:=if ws5 l=false then 7 else if l.any (λp=>!(inB p 0 (n-1))) then 5 else 0
theorem q84 {l:List Int}:ws5 l=true↔∀i,0<i->i<l.length->nI l (i-1)<nI l i:=by
 unfold ws5
 rw[List.all_eq_true]
 constructor
 ·intro h i h0 hi
  have:=h i (List.mem_range.2 hi)
  simp only[Bool.or_eq_true,decide_eq_true_eq] at this
  exact this.resolve_left (by omega)
 ·intro h i hi
  simp only[Bool.or_eq_true,decide_eq_true_eq]
  by_cases e:i=0
  ·exact .inl e
  ·exact .inr (h i (by omega) (List.mem_range.1 hi))
structure AscTo (l:List Int) (k:Nat):Prop where
 le:k<=l.length
 lt:∀i,0<i->i<k->nI l (i-1)<nI l i
theorem AscTo.step {l:List Int} {k:Nat} (h:AscTo l k) (hk:k<l.length) (h1:k=0\/nI l (k-1)<nI l k):AscTo l (k+1):=
 ⟨hk,λi h0 hi=>by
  by_cases e:i=k
  ·subst e; exact h1.resolve_left (by omega)
  ·exact h.lt i h0 (by omega)⟩
theorem AscTo.all {l:List Int} (h:AscTo l l.length):ws5 l=true:=q84.2 h.lt
theorem w7q {l:List Int} {k:Nat} (h0:0<k) (hk:k<l.length) (h:nI l k<=nI l (k-1)):ws5 l=false:=by
 cases e:ws5 l with
 | false=>rfl
 | true=>have:=q84.1 e k h0 hk; omega
structure Mk (m:List (List Int)):Prop where
 rows1:1<=m.length
 rows6:m.length<=6
 each:∀i,i<m.length->(nL m i).length=(nL m 0).length
 pix1:1<=(nL m 0).length
 pix10:(nL m 0).length<=10
 small:∀i,i<m.length->∀j,j<(nL m 0).length->-1<=nI (nL m i) j/\nI (nL m i) j<=1
theorem Mk.of {m:List (List Int)} (h:qb9 m=true):Mk m:=by
 unfold qb9 at h
 rw[Bool.and_eq_true,qn3,List.all_eq_true] at h
 obtain⟨h1,h2⟩:=h
 have each:∀i,i<m.length->(nL m i).length=(nL m 0).length/\rowB (nL m i)=true:=λi hi=>by
  have:=h2 (nL m i) (by unfold nL; rw[qt2 (t:=qf7) m i hi]; exact List.getElem_mem hi)
  rw[Bool.and_eq_true,decide_eq_true_eq] at this
  exact this
 have hr:∀i,i<m.length->(1<=(nL m i).length/\(nL m i).length<=10)/\∀j,j<(nL m i).length->-1<=nI (nL m i) j/\nI (nL m i) j<=1:=λi hi=>by
  have:=(each i hi).2
  unfold rowB at this
  rw[Bool.and_eq_true,qn3,List.all_eq_true] at this
  refine⟨by omega,λj hj=>qn3.1 (this.2 _ ?_)⟩
  unfold nI; rw[qt2 (t:=qe4) _ j hj]; exact List.getElem_mem hj
 have h0:=hr 0 (by omega)
 exact⟨by omega,by omega,λi hi=>(each i hi).1,h0.1.1,h0.1.2,λi hi j hj=>(hr i hi).2 j (by rw[(each i hi).1]; exact hj)⟩
def xx6 (m:List (List Int)) (l:List Int):Int:=if qb9 m=false then 1 else xs4 (nL m 0).length l
def xs5 (y:List Int):Bool:=y.any λn=>!(inB n (0-1000000) 1000000)
def xx7 (m:List (List Int)) (y l:List Int):Int:=if qb9 m=false then 1 else if ¬y.length=m.length then 9 else if xs5 y then 7 else xx6 m l
structure q85 (m:List (List Int)):Prop where
 rows:m.length<=9223372036854775807
 each:∀i,i<m.length->(nL m i).length<=9223372036854775807
structure RowTo (l:List Int) (k:Nat):Prop where
 le:k<=l.length
 ok:∀i,i<k->inB (nI l i) (-1) 1=true
def xl2 (l:List Int):Nat->Option Inv
 | 0=>some (Inv.of [7] 0 (λk:Nat=>[(7,.lit (.int .i64 k))]) (λ_=>[]) (λk=>RowTo l k) (λk=>l.length-k))
 | _=>none
theorem w3t {l:List Int} {k:Nat} (hk:k<l.length) (h:inB (nI l k) (-1) 1=false):rowB l=false:=by
 cases e:rowB l with
 | false=>rfl
 | true=>
  unfold rowB at e
  rw[Bool.and_eq_true,List.all_eq_true] at e
  have:=e.2 (nI l k) (by rw[qf9 l k hk]; exact List.getElem_mem hk)
  rw[h] at this; cases this
theorem RowTo.all {l:List Int} (h:RowTo l l.length):(l.all λn=>inB n (-1) 1)=true:=by
 rw[List.all_eq_true]
 intro x hx
 obtain⟨i,hi,rfl⟩:=List.getElem_of_mem hx
 rw[<- qf9 l i hi]; exact h.ok i hi
abbrev xs6:qc7:=qi1 true none [qf7] [.bool] (λx=>x.1.length<=9223372036854775807) (λx=>(rowB x.1,()))
theorem w0i:qe7 Try.prog 35 xs6:=by
 refine meets (snd (SpecsOk.cons qw9 (SpecsOk.nil _))) Try.func35 rfl rfl (λx=>xl2 x.1) (λ_=>by kernel_rfl) (by decide) ?_
 rintro⟨l,⟨⟩⟩ h
 revert l
 intro(l:List Int) (h:l.length<=9223372036854775807)
 refine @qf1 _ (let Q0:=List.length l; ∃(v0:Unit),∃(v1:Nat),RowTo l v1/\(((0:Int)=(↑v1:Int)/\True)/\True)/\∀(v2:Nat),RowTo l v2->(decide ((↑v2:Int)<(↑Q0:Int))=true->((0:Int)<=(↑v2:Int)/\(↑v2:Int)<(↑Q0:Int))/\True/\((!inB (qa3 (Ty.int .i64) l (Int.toNat (↑v2:Int))) (-1:Int) (1:Int))=true->false=rowB l)/\((!inB (qa3 (Ty.int .i64) l (Int.toNat (↑v2:Int))) (-1:Int) (1:Int))=false->fits .i64 ((↑v2:Int)+(1:Int))/\∃(v6:Nat),RowTo l v6/\List.length l-v6<List.length l-v2/\((↑v2:Int)+(1:Int)=(↑v6:Int)/\True)/\True))/\(decide ((↑v2:Int)<(↑Q0:Int))=false->True/\inB (↑Q0:Int) (1:Int) (10:Int)=rowB l)) (by kernel_rfl) ?_
 try simp only[z0,z1,z2,z3,z4,z5,z6,z7,z8,z9,z10,Int.reduceEq,z11,z12,z13,z14,z15,z16,z17,z18,z19,z20,z21,z22,z23,z24,z25,z26,z27,z28,z29,z30,Int.reduceLE,Int.reduceLT,z31,z32,z33,z34,qa6]
 try simp only[qb6,qb7,qd0,List.set_cons_zero,List.cons.injEq,and_true,true_and]
 refine⟨(),0,⟨Nat.zero_le _,λi hi=>by omega⟩,rfl,λk hk=>⟨λhlt=>⟨hlt,λh1=>(w3t hlt h1).symm,λh1=>⟨qb8 (by omega) (by omega),k+1,⟨hlt,λi hi=>?_⟩,by omega,by omega⟩⟩,λhge=>?_⟩⟩
 ·by_cases e:i=k
  ·subst e; exact h1
  ·exact hk.ok i (by omega)
 ·obtain rfl:k=l.length:=by have:=hk.le; omega
  rw[rowB,hk.all,Bool.and_true]
structure xp0 (m:List (List Int)) (k:Nat):Prop where
 le:k<=m.length
 ok:∀i,i<k->rowB (nL m i)=true/\(nL m i).length=(nL m 0).length
def x05 (m:List (List Int)):Nat->Option Inv
 | 0=>some (Inv.of [7] 0 (λk:Nat=>[(7,.lit (.int .i64 k))]) (λ_=>[]) (λk=>xp0 m k) (λk=>m.length-k))
 | _=>none
theorem q5h {m:List (List Int)} {k:Nat} (hk:k<m.length) (h:rowB (nL m k)=false\/¬(nL m k).length=(nL m 0).length):qb9 m=false:=by
 cases e:qb9 m with
 | false=>rfl
 | true=>
  unfold qb9 at e
  rw[Bool.and_eq_true,List.all_eq_true] at e
  have:=e.2 (nL m k) (by rw[qk3 m k hk]; exact List.getElem_mem hk)
  rw[Bool.and_eq_true,decide_eq_true_eq] at this
  rcases h with h | h
  ·rw[h] at this; cases this.2
  ·exact absurd this.1 h
abbrev sV2:qc7:=qi1 true none [ql9] [.bool] (λx=>q85 x.1) (λx=>(qb9 x.1,()))
theorem q86:qe7 Try.prog 19 sV2:=by
 refine meets (snd (SpecsOk.cons qw9 (SpecsOk.cons w0i (SpecsOk.nil _)))) Try.func19 rfl rfl (λx=>x05 x.1) (λ_=>by kernel_rfl) (by decide) ?_
 rintro⟨m,⟨⟩⟩ h
 revert m
 intro(m:List (List Int)) (h:q85 m)
 refine @qf1 _ (let Q0:=List.length m; ∃(v0:Unit),∃(v1:Nat),xp0 m v1/\(((0:Int)=(↑v1:Int)/\True)/\True)/\∀(v2:Nat),xp0 m v2->(decide ((↑v2:Int)<(↑Q0:Int))=true->((0:Int)<=(↑v2:Int)/\(↑v2:Int)<(↑Q0:Int))/\List.length (qa3 (Ty.list (Ty.int .i64)) m (Int.toNat (↑v2:Int)))<=(9223372036854775807:Nat)/\((!rowB (qa3 (Ty.list (Ty.int .i64)) m (Int.toNat (↑v2:Int))))=true->false=qb9 m)/\((!rowB (qa3 (Ty.list (Ty.int .i64)) m (Int.toNat (↑v2:Int))))=false->((0:Int)<=(0:Int)/\(0:Int)<(↑Q0:Int))/\(((↑(List.length (qa3 (Ty.list (Ty.int .i64)) m (Int.toNat (↑v2:Int)))):Int) != (↑(List.length (qa3 (Ty.list (Ty.int .i64)) m (0:Nat))):Int))=true->false=qb9 m)/\(((↑(List.length (qa3 (Ty.list (Ty.int .i64)) m (Int.toNat (↑v2:Int)))):Int) != (↑(List.length (qa3 (Ty.list (Ty.int .i64)) m (0:Nat))):Int))=false->fits .i64 ((↑v2:Int)+(1:Int))/\∃(v7:Nat),xp0 m v7/\List.length m-v7<List.length m-v2/\((↑v2:Int)+(1:Int)=(↑v7:Int)/\True)/\True)))/\(decide ((↑v2:Int)<(↑Q0:Int))=false->True/\inB (↑Q0:Int) (1:Int) (6:Int)=qb9 m)) (by kernel_rfl) ?_
 try simp only[z0,z1,z2,z3,z4,z5,z6,z7,z8,z9,z10,Int.reduceEq,z11,z12,z13,z14,z15,z16,z17,z18,z19,z20,z21,z22,z23,z24,z25,z26,z27,z28,z29,z30,Int.reduceLE,Int.reduceLT,z31,z32,z33,z34,qa6]
 try simp only[qb6,qb7,qd0,List.set_cons_zero,List.cons.injEq,and_true,true_and]
 have hr:=h.rows
 refine⟨(),0,⟨Nat.zero_le _,λi hi=>by omega⟩,rfl,λk hk=>⟨λhlt=>⟨hlt,h.each k hlt,λh1=>(q5h hlt (.inl h1)).symm,λh1=>⟨by omega,λh2=>(q5h hlt (.inr (by omega))).symm,λh2=>⟨qb8 (by omega) (by omega),k+1,⟨hlt,λi hi=>?_⟩,by omega,by omega⟩⟩⟩,λhge=>?_⟩⟩
 ·by_cases e:i=k
  ·subst e; exact⟨h1,by omega⟩
  ·exact hk.ok i (by omega)
 ·obtain rfl:k=m.length:=by have:=hk.le; omega
  have:(m.all λl=>decide (l.length=(nL m 0).length) && rowB l)=true:=by
   rw[List.all_eq_true]
   intro x hx
   obtain⟨i,hi,rfl⟩:=List.getElem_of_mem hx
   have:=hk.ok i hi
   rw[qk3 m i hi] at this
   rw[this.1,this.2]; simp
  rw[qb9,this,Bool.and_true]
def xs7 (l:List Int):Nat->Option Inv
 | 0=>some (Inv.of [3] 0 (λk:Nat=>[(3,.lit (.int .i64 k))]) (λ_=>[]) (λk=>1<=k/\(AscTo l k\/(k=1/\l=[]))) (λk=>l.length-k))
 | _=>none
abbrev x06:qc7:=qi1 true none [qf7] [.bool] (λx=>x.1.length<=1000000) (λx=>(ws5 x.1,()))
theorem w3u:qe7 Try.prog 22 x06:=by
 refine meets (snd (SpecsOk.nil _)) Try.func22 rfl rfl (λx=>xs7 x.1) (λ_=>by kernel_rfl) (by decide) ?_
 rintro⟨l,⟨⟩⟩ h
 revert l
 intro(l:List Int) (h:l.length<=1000000)
 refine @qf1 _ (let Q0:=List.length l; ∃(v0:Unit),∃(v1:Nat),((1:Nat)<=v1/\(AscTo l v1\/v1=(1:Nat)/\l=[]))/\(((1:Int)=(↑v1:Int)/\True)/\True)/\∀(v2:Nat),(1:Nat)<=v2/\(AscTo l v2\/v2=(1:Nat)/\l=[])->(decide ((↑v2:Int)<(↑Q0:Int))=true->((0:Int)<=(↑v2:Int)/\(↑v2:Int)<(↑Q0:Int))/\fits .i64 ((↑v2:Int)-(1:Int))/\((0:Int)<=(↑v2:Int)-(1:Int)/\(↑v2:Int)-(1:Int)<(↑Q0:Int))/\(decide (qa3 (Ty.int .i64) l (Int.toNat (↑v2:Int))<=qa3 (Ty.int .i64) l (Int.toNat ((↑v2:Int)-(1:Int))))=true->false=ws5 l)/\(decide (qa3 (Ty.int .i64) l (Int.toNat (↑v2:Int))<=qa3 (Ty.int .i64) l (Int.toNat ((↑v2:Int)-(1:Int))))=false->fits .i64 ((↑v2:Int)+(1:Int))/\∃(v6:Nat),((1:Nat)<=v6/\(AscTo l v6\/v6=(1:Nat)/\l=[]))/\List.length l-v6<List.length l-v2/\((↑v2:Int)+(1:Int)=(↑v6:Int)/\True)/\True))/\(decide ((↑v2:Int)<(↑Q0:Int))=false->true=ws5 l)) (by kernel_rfl) ?_
 try simp only[z0,z1,z2,z3,z4,z5,z6,z7,z8,z9,z10,Int.reduceEq,z11,z12,z13,z14,z15,z16,z17,z18,z19,z20,z21,z22,z23,z24,z25,z26,z27,z28,z29,z30,Int.reduceLE,Int.reduceLT,z31,z32,z33,z34,qa6]
 try simp only[qb6,qb7,qd0,List.set_cons_zero,List.cons.injEq,and_true,true_and]
 refine⟨(),1,⟨Nat.le_refl _,?_⟩,rfl,λk ⟨h1,hk⟩=>⟨λhlt=>?_,λhge=>?_⟩⟩
 ·cases l with
  | nil=>exact .inr ⟨rfl,rfl⟩
  | cons a l=>exact .inl ⟨by simp,λi h0 hi=>by omega⟩
 ·have hk:AscTo l k:=hk.resolve_right λ⟨_,e⟩=>by subst e; simp at hlt
  have e:((k:Int)-1).toNat=k-1:=by omega
  rw[e]
  exact⟨hlt,qb8 (by omega) (by omega),by omega,λh2=>(w7q (by omega) hlt h2).symm,λh2=>⟨qb8 (by omega) (by omega),k+1,⟨by omega,.inl (hk.step hlt (.inr h2))⟩,by omega,by omega⟩⟩
 ·rcases hk with hk | ⟨_,rfl⟩
  ·obtain rfl:k=l.length:=by have:=hk.le; omega
   exact hk.all.symm
  ·rfl
theorem w3v (l:List Int) (k:Nat) (hk:k<l.length):l.take (k+1)=l.take k++[nI l k]:=by
 rw[List.take_add_one,List.getElem?_eq_getElem hk,qf9 l k hk]; rfl
def qm5 (n:Nat):List Int:=(List.range n).map λi:Nat=>(i:Int)
theorem w3w (n:Nat):qm5 (n+1)=qm5 n++[(n:Int)]:=by simp[qm5,List.range_succ]
theorem qe5 (n:Nat):(qm5 n).length=n:=by simp[qm5]
theorem qz3 (n i:Nat) (h:i<n):nI (qm5 n) i=i:=by rw[qf9 _ _ (by rw[qe5]; exact h)]; simp[qm5]
abbrev x07:qc7:=q8z (q2y [qe4]) true (some 3) .none (λx=>x.1<=100000) (λx=>.dat (.int .i64) (qm5 x.1.toNat))
def xs8 (n:Nat):Nat->Option Inv
 | 0=>some (Inv.of [3,6] 1 (λk:Nat=>[(3,.own 0),(6,.lit (.int .i64 k))]) (λk=>[.vec 3 (.int .i64) (qm5 k)]) (λk=>k<=n) (λk=>n-k))
 | _=>none
theorem q5i:qe7 Try.prog 62 x07:=by
 refine q7f (snd (SpecsOk.nil _)) Try.func62 rfl rfl (qp8 [qe4]) (λx=>xs8 x.1.toNat) (λ_=>by kernel_rfl) (by decide) ?_
 rintro⟨n,⟨⟩⟩ h
 revert n
 intro(n:Int) (h:n<=100000)
 refine @qf1 _ (let Q0:=Int.toNat n; ∃(v0:Unit),∃(v1:Nat),Nat.le v1 Q0/\((True/\(0:Int)=(↑v1:Int)/\True)/\qm5 v1=[]/\True)/\∀(v2:Nat),Nat.le v2 Q0->(decide ((↑v2:Int)<n)=true->((0:Nat)<List.length [(↑v2:Int)]/\Nat.le (List.length (qm5 v2)+List.length [(↑v2:Int)]) (1000000:Nat))/\fits .i64 ((↑v2:Int)+(1:Int))/\∃(v5:Nat),Nat.le v5 Q0/\Int.toNat n-v5<Int.toNat n-v2/\(True/\(↑v2:Int)+(1:Int)=(↑v5:Int)/\True)/\qm5 v2++[(↑v2:Int)]=qm5 v5/\True)/\(decide ((↑v2:Int)<n)=false->qm5 v2=qm5 Q0)) (by kernel_rfl) ?_
 try simp only[z0,z1,z2,z3,z4,z5,z6,z7,z8,z9,z10,Int.reduceEq,z11,z12,z13,z14,z15,z16,z17,z18,z19,z20,z21,z22,z23,z24,z25,z26,z27,z28,z29,z30,Int.reduceLE,Int.reduceLT,z31,z32,z33,z34,qa6]
 try simp only[qb6,qb7,qd0,List.set_cons_zero,List.cons.injEq,and_true,true_and]
 refine⟨(),0,Nat.zero_le _,⟨rfl,rfl⟩,λk hk=>⟨λhlt=>⟨by rw[qe5]; omega,qb8 (by omega) (by omega),k+1,by omega,by omega,by omega,(w3w k).symm⟩,λhge=>?_⟩⟩
 rw[show n.toNat=k by omega]
abbrev xe0:qc7:=qi1 true none [qe4] [qf7] (λ_=>True) (λ_=>([],()))
theorem q7j:qe7 Try.prog 68 xe0:=by
 refine meets (snd (SpecsOk.nil _)) Try.func68 rfl rfl (λ_ _=>none) (λ_=>by kernel_rfl) (by decide) ?_
 rintro⟨n,⟨⟩⟩ -
 revert n
 intro(n:Int)
 refine @qf1 _ (xi1 Int) (by kernel_rfl) ?_
 try simp only[z0,z1,z2,z3,z4,z5,z6,z7,z8,z9,z10,Int.reduceEq,z11,z12,z13,z14,z15,z16,z17,z18,z19,z20,z21,z22,z23,z24,z25,z26,z27,z28,z29,z30,Int.reduceLE,Int.reduceLT,z31,z32,z33,z34,qa6]
 try simp only[qb6,qb7,qd0,List.set_cons_zero,List.cons.injEq,and_true,true_and]
def qo4 (r pix:List Int):List Int:=pix.map λp=>nI r p.toNat
def qb5 (m:List (List Int)) (pix:List Int) (f:Int->List Int):List (List Int):=(List.range m.length).map λi=>qo4 (nL m i) pix++f i
structure ChoOk (m:List (List Int)) (pix:List Int) (p:qa5 [.int .i64]->Prop) (f:qa5 [.int .i64]->List Int):Prop where
 rows:m.length<=10000
 cols:pix.length<=10000
 at_:∀i,i<m.length->∀j,j<pix.length->0<=nI pix j/\nI pix j<(nL m i).length
 fn:∀i:Nat,i<m.length->p ((i:Int),())/\(f ((i:Int),())).length<=10000
theorem qo5 (r pix:List Int):(qo4 r pix).length=pix.length:=by simp[qo4]
theorem qq0 (r pix:List Int) (j:Nat) (hj:j<pix.length):nI (qo4 r pix) j=nI r (nI pix j).toNat:=by
 rw[qf9 _ _ (by rw[qo5]; exact hj),qf9 pix j hj]; simp[qo4]
theorem q1d (m:List (List Int)) (pix:List Int) (f:Int->List Int):(qb5 m pix f).length=m.length:=by simp[qb5]
theorem w0j (m:List (List Int)) (pix:List Int) (f:Int->List Int) (i:Nat) (hi:i<m.length):nL (qb5 m pix f) i=qo4 (nL m i) pix++f i:=by
 rw[qk3 _ _ (by rw[q1d]; exact hi)]; simp[qb5]
theorem takeL_snoc (m:List (List Int)) (k:Nat) (hk:k<m.length):m.take (k+1)=m.take k++[nL m k]:=by
 rw[List.take_add_one,List.getElem?_eq_getElem hk,qk3 m k hk]; rfl
abbrev x08 (fs:List (Nat × qc7)):qc7:=q8z (wc4 fs [.d ql9,.d qf7,.fn [qe4] qf7]) true (some 24) (some 3) (λx=>ChoOk x.1 x.2.1 x.2.2.1.1 x.2.2.1.2) (λx=>.dat (.list (.int .i64)) (qb5 x.1 x.2.1 λi=>x.2.2.1.2 (i,())))
def xs9 (m:List (List Int)) (pix:List Int) (f:Int->List Int):Nat->Option Inv
 | 0=>some (Inv.of [7,15] 1 (λk:Nat=>[(7,.msl 0 .none),(15,.lit (.int .i64 k))]) (λk=>[.mat 24 3 (.int .i64) ((qb5 m pix f).take k) .none .none]) (λk=>k<=m.length) (λk=>m.length-k))
 | 1=>some (Eng.Inv.mk Nat Nat [7,10,22] 2 (λ_ j=>[(7,.msl 0 .none),(10,.own 1),(22,.lit (.int .i64 j))]) (λk j=>[.mat 24 3 (.int .i64) ((qb5 m pix f).take k) .none .none,.vec 3 (.int .i64) ((qo4 (nL m k) pix).take j)]) (λ_ j=>j<=pix.length) (λ_ j=>pix.length-j))
 | _=>none
theorem wd5 {fs:List (Nat × qc7)} (hfs:SpecsOk Try.prog fs):qe7 Try.prog 67 (x08 fs):=by
 refine q7f (xr4 [40] [39] (SpecsOk.nil _)) Try.func67 rfl rfl (q2c hfs [.d ql9,.d qf7,.fn [qe4] qf7]) (λx=>xs9 x.1 x.2.1 λi=>x.2.2.1.2 (i,())) (λ_=>by kernel_rfl) (show 3<=_ by decide) ?_
 rintro⟨m,pix,⟨p,f⟩,⟨⟩⟩ h
 revert m pix p f
 intro(m:List (List Int)) (pix:List Int) (p:qa5 [.int .i64]->Prop) (f:qa5 [.int .i64]->List Int) (h:ChoOk m pix p f)
 refine @qf1 _ (let Q0:=List.length pix; let Q1:=List.length m; ∃(v0:Unit),∃(v1:Nat),Nat.le v1 Q1/\((True/\(0:Int)=(↑v1:Int)/\True)/\List.take v1 (qb5 m pix λ(v2:Int)=>f (v2,()))=[]/\True)/\∀(v2:Nat),Nat.le v2 Q1->(decide ((↑v2:Int)<(↑Q1:Int))=true->((0:Int)<=(↑v2:Int)/\(↑v2:Int)<(↑Q1:Int))/\∃(v5:Nat),∃(v6:Nat),Nat.le v6 Q0/\((True/\True/\(0:Int)=(↑v6:Int)/\True)/\(List.take v2 (qb5 m pix λ(v7:Int)=>f (v7,()))=List.take v5 (qb5 m pix λ(v7:Int)=>f (v7,()))/\True/\True)/\List.take v6 (qo4 (nL m v5) pix)=[]/\True)/\∀(v7:Nat),Nat.le v7 Q0->(decide ((↑v7:Int)<(↑Q0:Int))=true->((0:Int)<=(↑v7:Int)/\(↑v7:Int)<(↑Q0:Int))/\((0:Int)<=qa3 (Ty.int .i64) pix (Int.toNat (↑v7:Int))/\qa3 (Ty.int .i64) pix (Int.toNat (↑v7:Int))<(↑(List.length (qa3 (Ty.list (Ty.int .i64)) m (Int.toNat (↑v2:Int)))):Int))/\((0:Nat)<List.length [qa3 (Ty.int .i64) (qa3 (Ty.list (Ty.int .i64)) m (Int.toNat (↑v2:Int))) (Int.toNat (qa3 (Ty.int .i64) pix (Int.toNat (↑v7:Int))))]/\Nat.le (List.length (List.take v7 (qo4 (nL m v5) pix))+List.length [qa3 (Ty.int .i64) (qa3 (Ty.list (Ty.int .i64)) m (Int.toNat (↑v2:Int))) (Int.toNat (qa3 (Ty.int .i64) pix (Int.toNat (↑v7:Int))))]) (1000000:Nat))/\fits .i64 ((↑v7:Int)+(1:Int))/\∃(v10:Nat),Nat.le v10 Q0/\List.length pix-v10<List.length pix-v7/\(True/\True/\(↑v7:Int)+(1:Int)=(↑v10:Int)/\True)/\(List.take v5 (qb5 m pix λ(v11:Int)=>f (v11,()))=List.take v5 (qb5 m pix λ(v11:Int)=>f (v11,()))/\True/\True)/\List.take v7 (qo4 (nL m v5) pix)++[qa3 (Ty.int .i64) (qa3 (Ty.list (Ty.int .i64)) m (Int.toNat (↑v2:Int))) (Int.toNat (qa3 (Ty.int .i64) pix (Int.toNat (↑v7:Int))))]=List.take v10 (qo4 (nL m v5) pix)/\True)/\(decide ((↑v7:Int)<(↑Q0:Int))=false->p ((↑v2:Int),())/\Nat.le (List.length (List.take v7 (qo4 (nL m v5) pix))+List.length (f ((↑v2:Int),()))) (1000000:Nat)/\((0:Nat)<(0:Nat)+(1:Nat)/\List.length (List.take v5 (qb5 m pix λ(v10:Int)=>f (v10,())))+((0:Nat)+(1:Nat))<=(1000000:Nat))/\fits .i64 ((↑v2:Int)+(1:Int))/\∃(v10:Nat),Nat.le v10 Q1/\List.length m-v10<List.length m-v2/\(True/\(↑v2:Int)+(1:Int)=(↑v10:Int)/\True)/\(List.take v5 (qb5 m pix λ(v11:Int)=>f (v11,()))++[List.take v7 (qo4 (nL m v5) pix)++f ((↑v2:Int),())]=List.take v10 (qb5 m pix λ(v11:Int)=>f (v11,()))/\True/\True)/\True))/\(decide ((↑v2:Int)<(↑Q1:Int))=false->List.take v2 (qb5 m pix λ(v5:Int)=>f (v5,()))=qb5 m pix λ(v5:Int)=>f (v5,()))) (by kernel_rfl) ?_
 try simp only[z0,z1,z2,z3,z4,z5,z6,z7,z8,z9,z10,Int.reduceEq,z11,z12,z13,z14,z15,z16,z17,z18,z19,z20,z21,z22,z23,z24,z25,z26,z27,z28,z29,z30,Int.reduceLE,Int.reduceLT,z31,z32,z33,z34,qa6]
 try simp only[qb6,qb7,qd0,List.set_cons_zero,List.cons.injEq,and_true,true_and]
 have hr:=h.rows
 have hc:=h.cols
 have hl:=q1d m pix λi=>f (i,())
 refine⟨(),0,Nat.zero_le _,⟨rfl,rfl⟩,λk hk=>⟨λhlt=>⟨hlt,k,0,Nat.zero_le _,⟨rfl,rfl,rfl⟩,λj hj=>⟨λhj2=>?_,λhj2=>?_⟩⟩,λhge=>?_⟩⟩
 ·have h1:=qo5 (nL m k) pix
  refine⟨hj2,h.at_ k hlt j hj2,by rw[List.length_take]; omega,qb8 (by omega) (by omega),j+1,by omega,by omega,by omega,?_⟩
  rw[w3v _ j (by omega),qq0 _ _ _ hj2]
 ·obtain rfl:j=pix.length:=by omega
  have h1:=qo5 (nL m k) pix
  have h2:=h.fn k hlt
  have h3:(qo4 (nL m k) pix).take pix.length=qo4 (nL m k) pix:=List.take_of_length_le (by omega)
  rw[h3]
  refine⟨h2.1,by omega,by rw[List.length_take]; omega,qb8 (by omega) (by omega),k+1,by omega,by omega,by omega,?_⟩
  rw[takeL_snoc _ k (by omega),w0j _ _ _ _ hlt]
 ·rw[List.take_of_length_le (by omega)]
end Go.Proofs.Ytempacilejhbgaa
