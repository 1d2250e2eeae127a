/- Permuted and signed masks, as the document says: contracts by the engine. No condition. -/
import Derived.Test.YtempacilejhbgaaR4
import Derived.Test.YtempacilejhbgaaW11
set_option linter.unusedVariables false
set_option linter.unusedSimpArgs false
namespace Go.Proofs.Ytempacilejhbgaa
open Go Go.RowKit Eng
def w5s (n:Nat) (p:List Int):Bool:=p.any λj=>!(inB j 0 ((n:Int)-1))
theorem w5t {n:Nat} {p:List Int} {k:Nat} (hk:k<p.length) (h:inB (nI p k) 0 ((n:Int)-1)=false):w5s n p=true:=
 List.any_eq_true.2 ⟨nI p k,q6a hk,by rw[h]; rfl⟩
theorem q6k {n:Nat} {p:List Int} (h:w5s n p=false) {k:Nat} (hk:k<p.length):0<=nI p k/\nI p k<n:=by
 cases e:inB (nI p k) 0 ((n:Int)-1) with
 | true=>have:=qn3.1 e; omega
 | false=>rw[w5t hk e] at h; cases h
theorem w8w {n:Nat} {p:List Int} (h:∀i,i<p.length->inB (nI p i) 0 ((n:Int)-1)=true):w5s n p=false:=by
 unfold w5s
 rw[List.any_eq_false]
 intro x hx
 obtain⟨i,hi,rfl⟩:=List.mem_iff_getElem.1 hx
 have:=h i hi
 rw[qf9 _ _ hi] at this
 rw[this]; simp
theorem q4h {p:List Int}:p.Nodup↔∀a b,b<a->a<p.length->nI p a≠nI p b:=by
 rw[List.Nodup,List.pairwise_iff_getElem]
 constructor
 ·intro h a b hb ha e
  rw[qf9 _ _ ha,qf9 p b (by omega)] at e
  exact h b a (by omega) ha hb e.symm
 ·intro h i j hi hj hij e
  refine h j i hij hj ?_
  rw[qf9 _ _ hj,qf9 _ _ hi]; exact e.symm
theorem ww3 (p:List Int) {a k:Nat} (ha:a<p.length) (hk:a<k):nI (p.take k) a=nI p a:=by
 rw[qf9 _ _ (by rw[List.length_take]; omega),qf9 _ _ ha,List.getElem_take]
theorem w5u {r:List Int} {k:Nat} (hk:k<r.length) (x:Int) (q:Nat):nI (r.set k x) q=if q=k then x else nI r q:=by
 by_cases hq:q<r.length
 ·rw[qf9 _ _ (by rw[List.length_set]; exact hq),qf9 _ _ hq,List.getElem_set]
  by_cases e:k=q
  ·rw[if_pos e,if_pos e.symm]
  ·rw[if_neg e,if_neg λq=>e q.symm]
 ·rw[if_neg (by omega),q1h _ (by rw[List.length_set]; omega),q1h _ (by omega)]
def q9z (m:List (List Int)) (p:List Int):Int:=if qb9 m=false then 1 else if w5s (nL m 0).length p=true then 5 else 0
structure w8x (n:Nat) (p:List Int) (k:Nat):Prop where
 le:k<=p.length
 ok:∀i,i<k->inB (nI p i) 0 ((n:Int)-1)=true
def xo2 (n:Nat) (p:List Int):Nat->Option Inv
 | 0=>some (Inv.of [12] 0 (λk:Nat=>[(12,.lit (.int .i64 k))]) (λ_=>[]) (λk=>w8x n p k) (λk=>p.length-k))
 | _=>none
abbrev xw1:qc7:=qi1 true none [ql9,qf7] [qe4] (λx=>q85 x.1/\x.2.1.length<=9223372036854775807) (λx=>(q9z x.1 x.2.1,()))
theorem q70:qe7 Try.prog 20 xw1:=by
 refine meets (snd (SpecsOk.cons q86 (SpecsOk.cons qw9 (SpecsOk.nil _)))) Try.func20 rfl rfl (λx=>xo2 (nL x.1 0).length x.2.1) (λ_=>by kernel_rfl) (by decide) ?_
 rintro⟨m,p,⟨⟩⟩ h
 revert m p
 intro(m:List (List Int)) (p:List Int) (h:q85 m/\p.length<=9223372036854775807)
 refine @qf1 _ (let Q0:=List.length p; q85 m/\((!qb9 m)=true->(1:Int)=q9z m p)/\((!qb9 m)=false->∃(v1:Unit),∃(v2:Nat),w8x (List.length (nL m (0:Nat))) p v2/\(((0:Int)=(↑v2:Int)/\True)/\True)/\∀(v3:Nat),w8x (List.length (nL m (0:Nat))) p v3->(decide ((↑v3:Int)<(↑Q0:Int))=true->((0:Int)<=(↑v3:Int)/\(↑v3:Int)<(↑Q0:Int))/\((0:Int)<=(0:Int)/\(0:Int)<(↑(List.length m):Int))/\fits .i64 ((↑(List.length (qa3 (Ty.list (Ty.int .i64)) m (0:Nat))):Int)-(1:Int))/\True/\((!inB (qa3 (Ty.int .i64) p (Int.toNat (↑v3:Int))) (0:Int) ((↑(List.length (qa3 (Ty.list (Ty.int .i64)) m (0:Nat))):Int)-(1:Int)))=true->(5:Int)=q9z m p)/\((!inB (qa3 (Ty.int .i64) p (Int.toNat (↑v3:Int))) (0:Int) ((↑(List.length (qa3 (Ty.list (Ty.int .i64)) m (0:Nat))):Int)-(1:Int)))=false->fits .i64 ((↑v3:Int)+(1:Int))/\∃(v7:Nat),w8x (List.length (nL m (0:Nat))) p v7/\List.length p-v7<List.length p-v3/\((↑v3:Int)+(1:Int)=(↑v7:Int)/\True)/\True))/\(decide ((↑v3:Int)<(↑Q0:Int))=false->(0:Int)=q9z m p))) (by kernel_rfl) ?_
 try simp only[z0,z1,z2,z3,z4,z5,z6,z7,z8,z9,z10,Int.reduceEq,z11,z12,z13,z14,z15,z16,z17,z18,z19,z20,z21,z22,z23,z24,z25,z26,z27,z28,z29,z30,Int.reduceLE,Int.reduceLT,z31,z32,z33,z34,qa6]
 try simp only[qb6,qb7,qd0,List.set_cons_zero,List.cons.injEq,and_true,true_and]
 refine⟨h.1,λq=>by unfold q9z; rw[if_pos q],λq=>⟨(),0,⟨Nat.zero_le _,λi hi=>by omega⟩,rfl,λk hk=>⟨λhlt=>?_,λhge=>?_⟩⟩⟩
 ·have hM:=Mk.of q
  have h10:=hM.pix10
  have h1:=hM.rows1
  refine⟨hlt,by omega,qb8 (by omega) (by omega),λhf=>?_,λht=>⟨qb8 (by omega) (by omega),k+1,⟨hlt,λi hi=>?_⟩,by omega,by push_cast; rfl⟩⟩
  ·unfold q9z
   rw[if_neg (by rw[q]; decide),if_pos (w5t hlt hf)]
  ·by_cases e:i=k
   ·subst e; exact ht
   ·exact hk.ok i (by omega)
 ·have hle:=hk.le
  unfold q9z
  rw[if_neg (by rw[q]; decide),if_neg (by rw[w8w λi hi=>hk.ok i (by omega)]; decide)]
theorem w9y {m:List (List Int)} {p:List Int} (hv:qb9 m=true) (h:q9z m p=0):w5s (nL m 0).length p=false:=by
 unfold q9z at h
 rw[if_neg (by rw[hv]; decide)] at h
 split at h
 ·cases h
 ·rename_i q
  exact Bool.eq_false_iff.2 q
theorem w9z {m:List (List Int)} {p:List Int} (hv:qb9 m=true) (h:¬q9z m p=0):w5s (nL m 0).length p=true/\q9z m p=5:=by
 unfold q9z at h ⊢
 rw[if_neg (by rw[hv]; decide)] at h ⊢
 split at h
 ·rename_i q
  exact⟨q,if_pos q⟩
 ·exact absurd rfl h
def qz7 (m:List (List Int)) (p:List Int):List (List Int):=m.map λr=>qo4 r p
theorem qk9 (m:List (List Int)) (p:List Int):(qz7 m p).length=m.length:=by simp[qz7]
theorem q4i {m:List (List Int)} {p:List Int} {i:Nat} (h:i<m.length):nL (qz7 m p) i=qo4 (nL m i) p:=by
 rw[qk3 _ _ (by rw[qk9]; exact h),qk3 m i h]; simp[qz7]
structure xg8 (m:List (List Int)) (p:List Int):Prop where
 rows:m.length<=1000
 cols:p.length<=1000
 at_:∀i,i<m.length->∀j,j<p.length->0<=nI p j/\nI p j<(nL m i).length
abbrev x1z:qc7:=q8z (q2y [ql9,qf7]) true (some 24) (some 3) (λx=>xg8 x.1 x.2.1) (λx=>.dat (.list (.int .i64)) (qz7 x.1 x.2.1))
def xw2 (m:List (List Int)) (p:List Int):Nat->Option Inv
 | 0=>some (Inv.of [5,13] 1 (λk:Nat=>[(5,.msl 0 .none),(13,.lit (.int .i64 k))]) (λk=>[.mat 24 3 (.int .i64) ((qz7 m p).take k) .none .none]) (λk=>k<=m.length) (λk=>m.length-k))
 | 1=>some (Eng.Inv.mk Nat Nat [5,8,19] 2 (λ_ j=>[(5,.msl 0 .none),(8,.own 1),(19,.lit (.int .i64 j))]) (λk j=>[.mat 24 3 (.int .i64) ((qz7 m p).take k) .none .none,.vec 3 (.int .i64) ((qo4 (nL m k) p).take j)]) (λ_ j=>j<=p.length) (λ_ j=>p.length-j))
 | _=>none
theorem w5v:qe7 Try.prog 21 x1z:=by
 refine q7f (xx4 [33] (SpecsOk.nil _)) Try.func21 rfl rfl (qp8 _) (λx=>xw2 x.1 x.2.1) (λ_=>by kernel_rfl) (by decide) ?_
 rintro⟨m,p,⟨⟩⟩ h
 revert m p
 intro(m:List (List Int)) (p:List Int) (h:xg8 m p)
 refine @qf1 _ (let Q0:=qz7 m p; let Q1:=List.length p; let Q2:=List.length m; ∃(v0:Unit),∃(v1:Nat),Nat.le v1 Q2/\((True/\(0:Int)=(↑v1:Int)/\True)/\List.take v1 Q0=[]/\True)/\∀(v2:Nat),Nat.le v2 Q2->(decide ((↑v2:Int)<(↑Q2:Int))=true->((0:Int)<=(↑v2:Int)/\(↑v2:Int)<(↑Q2:Int))/\∃(v5:Nat),∃(v6:Nat),Nat.le v6 Q1/\((True/\True/\(0:Int)=(↑v6:Int)/\True)/\(List.take v2 Q0=List.take v5 Q0/\True/\True)/\List.take v6 (qo4 (nL m v5) p)=[]/\True)/\∀(v7:Nat),Nat.le v7 Q1->(decide ((↑v7:Int)<(↑Q1:Int))=true->((0:Int)<=(↑v7:Int)/\(↑v7:Int)<(↑Q1:Int))/\((0:Int)<=qa3 (Ty.int .i64) p (Int.toNat (↑v7:Int))/\qa3 (Ty.int .i64) p (Int.toNat (↑v7:Int))<(↑(List.length (qa3 (Ty.list (Ty.int .i64)) m (Int.toNat (↑v2:Int)))):Int))/\((0:Nat)<List.length [qa3 (Ty.int .i64) (qa3 (Ty.list (Ty.int .i64)) m (Int.toNat (↑v2:Int))) (Int.toNat (qa3 (Ty.int .i64) p (Int.toNat (↑v7:Int))))]/\Nat.le (List.length (List.take v7 (qo4 (nL m v5) p))+List.length [qa3 (Ty.int .i64) (qa3 (Ty.list (Ty.int .i64)) m (Int.toNat (↑v2:Int))) (Int.toNat (qa3 (Ty.int .i64) p (Int.toNat (↑v7:Int))))]) (1000000:Nat))/\fits .i64 ((↑v7:Int)+(1:Int))/\∃(v10:Nat),Nat.le v10 Q1/\List.length p-v10<List.length p-v7/\(True/\True/\(↑v7:Int)+(1:Int)=(↑v10:Int)/\True)/\(List.take v5 Q0=List.take v5 Q0/\True/\True)/\List.take v7 (qo4 (nL m v5) p)++[qa3 (Ty.int .i64) (qa3 (Ty.list (Ty.int .i64)) m (Int.toNat (↑v2:Int))) (Int.toNat (qa3 (Ty.int .i64) p (Int.toNat (↑v7:Int))))]=List.take v10 (qo4 (nL m v5) p)/\True)/\(decide ((↑v7:Int)<(↑Q1:Int))=false->((0:Nat)<(0:Nat)+(1:Nat)/\List.length (List.take v5 Q0)+((0:Nat)+(1:Nat))<=(1000000:Nat))/\fits .i64 ((↑v2:Int)+(1:Int))/\∃(v10:Nat),Nat.le v10 Q2/\List.length m-v10<List.length m-v2/\(True/\(↑v2:Int)+(1:Int)=(↑v10:Int)/\True)/\(List.take v5 Q0++[List.take v7 (qo4 (nL m v5) p)]=List.take v10 Q0/\True/\True)/\True))/\(decide ((↑v2:Int)<(↑Q2:Int))=false->List.take v2 Q0=qz7 m p)) (by kernel_rfl) ?_
 try simp only[z0,z1,z2,z3,z4,z5,z6,z7,z8,z9,z10,Int.reduceEq,z11,z12,z13,z14,z15,z16,z17,z18,z19,z20,z21,z22,z23,z24,z25,z26,z27,z28,z29,z30,Int.reduceLE,Int.reduceLT,z31,z32,z33,z34,qa6]
 try simp only[qb6,qb7,qd0,List.set_cons_zero,List.cons.injEq,and_true,true_and]
 have c1:=h.cols
 have r1:=h.rows
 refine⟨(),0,Nat.zero_le _,⟨rfl,rfl⟩,λk hk=>⟨λhlt=>⟨hlt,k,0,Nat.zero_le _,⟨rfl,rfl,rfl⟩,λj hj=>⟨λjl=>⟨jl,h.at_ k hlt j jl,by rw[List.length_take]; omega,qb8 (by omega) (by omega),j+1,jl,by omega,by push_cast; rfl,?_⟩,λjge=>⟨by rw[List.length_take]; omega,qb8 (by omega) (by omega),k+1,hlt,by omega,by push_cast; rfl,?_⟩⟩⟩,λhge=>List.take_of_length_le (by rw[qk9]; omega)⟩⟩
 ·rw[w3v _ j (by rw[qo5]; exact jl),qq0 _ _ _ jl]
 ·rw[takeL_snoc _ k (by rw[qk9]; exact hlt),q4i hlt,List.take_of_length_le (l:=qo4 (nL m k) p) (by rw[qo5]; omega)]
def q71 (m:List (List Int)) (p:List Int):Int:=if qb9 m=false then 1 else if ¬p.length=(nL m 0).length then 9 else if w5s (nL m 0).length p=true then 5 else if ¬p.Nodup then 7 else 0
def w1e (m:List (List Int)) (p:List Int):List (List Int):=if q71 m p=0 then qz7 m p else[]
structure Dif (p:List Int) (i:Nat):Prop where
 le:i<=p.length
 ne:∀a b,b<a->a<i->nI p a≠nI p b
structure xp3 (p:List Int) (i k:Nat):Prop where
 le:k<=i
 lt:i<p.length
 ne:∀b,b<k->nI p i≠nI p b
def xw3 (p:List Int):Nat->Option Inv
 | 0=>some (Inv.of [29] 0 (λk:Nat=>[(29,.lit (.int .i64 k))]) (λ_=>[]) (λk=>Dif p k) (λk=>p.length-k))
 | 1=>some (Eng.Inv.mk Nat Nat [38] 0 (λ_ k=>[(38,.lit (.int .i64 k))]) (λ_ _=>[]) (λi k=>xp3 p i k) (λi k=>i-k))
 | _=>none
abbrev x13:qc7:=qi1 true none [ql9,qf7] [ql9,qe4] (λx=>q85 x.1/\x.2.1.length<=9223372036854775807) (λx=>(w1e x.1 x.2.1,q71 x.1 x.2.1,()))
theorem w5w:qe7 Try.prog 9 x13:=by
 refine meets (snd (SpecsOk.cons q86 (SpecsOk.cons q70 (SpecsOk.cons w5v (SpecsOk.nil _))))) Try.func9 rfl rfl (λx=>xw3 x.2.1) (λ_=>by kernel_rfl) (by decide) ?_
 rintro⟨m,p,⟨⟩⟩ h
 revert m p
 intro(m:List (List Int)) (p:List Int) (h:q85 m/\p.length<=9223372036854775807)
 refine @qf1 _ (let Q0:=List.length p; q85 m/\((!qb9 m)=true->w1e m p=[]/\(1:Int)=q71 m p/\True)/\((!qb9 m)=false->((0:Int)<=(0:Int)/\(0:Int)<(↑(List.length m):Int))/\(((↑Q0:Int) != (↑(List.length (qa3 (Ty.list (Ty.int .i64)) m (0:Nat))):Int))=true->w1e m p=[]/\(9:Int)=q71 m p/\True)/\(((↑Q0:Int) != (↑(List.length (qa3 (Ty.list (Ty.int .i64)) m (0:Nat))):Int))=false->(q85 m/\List.length p<=(9223372036854775807:Nat))/\((q9z m p != (0:Int))=true->w1e m p=[]/\q9z m p=q71 m p/\True)/\((q9z m p != (0:Int))=false->∃(v3:Unit),∃(v4:Nat),Dif p v4/\(((0:Int)=(↑v4:Int)/\True)/\True)/\∀(v5:Nat),Dif p v5->(decide ((↑v5:Int)<(↑Q0:Int))=true->((0:Int)<=(↑v5:Int)/\(↑v5:Int)<(↑Q0:Int))/\((0:Int)<=(0:Int)/\(0:Int)<=(↑v5:Int)/\(↑v5:Int)<=(↑Q0:Int))/\∃(v8:Nat),∃(v9:Nat),xp3 p v8 v9/\(((0:Int)=(↑v9:Int)/\True)/\True)/\∀(v10:Nat),xp3 p v8 v10->(decide ((↑v10:Int)<(↑(List.length (List.drop (0:Nat) (List.take (Int.toNat (↑v5:Int)) p))):Int))=true->((0:Int)<=(↑v10:Int)/\(↑v10:Int)<(↑(List.length (List.drop (0:Nat) (List.take (Int.toNat (↑v5:Int)) p))):Int))/\((qa3 (Ty.int .i64) p (Int.toNat (↑v5:Int))==qa3 (Ty.int .i64) (List.drop (0:Nat) (List.take (Int.toNat (↑v5:Int)) p)) (Int.toNat (↑v10:Int)))=true->w1e m p=[]/\(7:Int)=q71 m p/\True)/\((qa3 (Ty.int .i64) p (Int.toNat (↑v5:Int))==qa3 (Ty.int .i64) (List.drop (0:Nat) (List.take (Int.toNat (↑v5:Int)) p)) (Int.toNat (↑v10:Int)))=false->fits .i64 ((↑v10:Int)+(1:Int))/\∃(v14:Nat),xp3 p v8 v14/\v8-v14<v8-v10/\((↑v10:Int)+(1:Int)=(↑v14:Int)/\True)/\True))/\(decide ((↑v10:Int)<(↑(List.length (List.drop (0:Nat) (List.take (Int.toNat (↑v5:Int)) p))):Int))=false->fits .i64 ((↑v5:Int)+(1:Int))/\∃(v13:Nat),Dif p v13/\List.length p-v13<List.length p-v5/\((↑v5:Int)+(1:Int)=(↑v13:Int)/\True)/\True))/\(decide ((↑v5:Int)<(↑Q0:Int))=false->xg8 m p/\q1o (Ty.int .i64) (qz7 m p) none=w1e m p/\(0:Int)=q71 m p/\True))))) (by kernel_rfl) ?_
 try simp only[z0,z1,z2,z3,z4,z5,z6,z7,z8,z9,z10,Int.reduceEq,z11,z12,z13,z14,z15,z16,z17,z18,z19,z20,z21,z22,z23,z24,z25,z26,z27,z28,z29,z30,Int.reduceLE,Int.reduceLT,z31,z32,z33,z34,qa6]
 try simp only[qb6,qb7,qd0,List.set_cons_zero,List.cons.injEq,and_true,true_and]
 have bad:∀e:Int,e≠0->q71 m p=e->w1e m p=[]/\e=q71 m p:=λe he hs=>⟨by unfold w1e; rw[if_neg (by rw[hs]; exact he)],hs.symm⟩
 have l1:=h.2
 refine⟨h.1,λhv=>bad 1 (by decide) (if_pos hv),λhv=>?_⟩
 have hM:=Mk.of hv
 have m1:=hM.rows1
 have m6:=hM.rows6
 have m10:=hM.pix10
 refine⟨by omega,λhne=>bad 9 (by decide) ?_,λhe=>⟨h,λhn=>?_,λhn=>?_⟩⟩
 ·unfold q71; rw[if_neg (by rw[hv]; decide),if_pos (by omega)]
 ·obtain⟨h1,h2⟩:=w9z hv hn
  rw[h2]
  refine bad 5 (by decide) ?_
  unfold q71; rw[if_neg (by rw[hv]; decide),if_neg (by omega),if_pos h1]
 ·have ho:=w9y hv hn
  refine⟨(),0,⟨Nat.zero_le _,λa b _ ha=>by omega⟩,rfl,λk hk=>⟨λhlt=>⟨hlt,by omega,k,0,⟨Nat.zero_le _,hlt,λb hb=>by omega⟩,rfl,λj hj=>?_⟩,λhge=>?_⟩⟩
  ·have hjl:=hj.le
   rw[List.drop_zero,List.length_take]
   refine⟨λjl=>⟨jl,λe=>bad 7 (by decide) ?_,λe=>⟨qb8 (by omega) (by omega),j+1,⟨by omega,hlt,λb hb=>?_⟩,by omega,by push_cast; rfl⟩⟩,λjge=>⟨qb8 (by omega) (by omega),k+1,⟨hlt,λa b hb ha=>?_⟩,by omega,by push_cast; rfl⟩⟩
   ·rw[ww3 p (by omega) (by omega)] at e
    unfold q71; rw[if_neg (by rw[hv]; decide),if_neg (by omega),if_neg (by rw[ho]; decide),if_pos λq=>q4h.1 q k j (by omega) hlt e]
   ·rw[ww3 p (by omega) (by omega)] at e
    by_cases q:b=j
    ·subst q; exact e
    ·exact hj.ne b (by omega)
   ·by_cases q:a=k
    ·subst q; exact hj.ne b (by omega)
    ·exact hk.ne a b hb (by omega)
  ·have hnd:p.Nodup:=q4h.2 λa b hb ha=>hk.ne a b hb (by omega)
   have h0:q71 m p=0:=by
    unfold q71; rw[if_neg (by rw[hv]; decide),if_neg (by omega),if_neg (by rw[ho]; decide),if_neg λq=>q hnd]
   refine⟨⟨by omega,by omega,λi hi j hj=>?_⟩,?_,h0.symm⟩
   ·have:=hM.each i hi
    have:=q6k ho hj
    omega
   ·unfold w1e; rw[if_pos h0]; rfl
theorem w90 {m:List (List Int)} {p:List Int} (h:q71 m p=0):qb9 m=true/\p.length=(nL m 0).length/\w5s (nL m 0).length p=false/\p.Nodup:=by
 unfold q71 at h
 split at h
 ·cases h
 ·rename_i h1
  split at h
  ·cases h
  ·rename_i h2
   split at h
   ·cases h
   ·rename_i h3
    split at h
    ·cases h
    ·rename_i h4
     exact⟨by simpa using h1,Decidable.of_not_not h2,by simpa using h3,Decidable.of_not_not h4⟩
def qs0 (r p:List Int):Nat->List Int
 | 0=>r
 | k+1=>(qs0 r p k).set (nI p k).toNat (0-nI (qs0 r p k) (nI p k).toNat)
theorem qz8 (r p:List Int):∀k,(qs0 r p k).length=r.length
 | 0=>rfl
 | k+1=>by rw[qs0,List.length_set,qz8 r p k]
theorem q6l {r p:List Int} (hr:∀c,c<r.length->-1<=nI r c/\nI r c<=1) (hp:∀i,i<p.length->0<=nI p i/\nI p i<r.length):∀k,k<=p.length->∀c,c<r.length->-1<=nI (qs0 r p k) c/\nI (qs0 r p k) c<=1
 | 0,_,c,hc=>hr c hc
 | k+1,hk,c,hc=>by
  have:=hp k hk
  have ih:=q6l hr hp k (by omega)
  rw[qs0,w5u (by rw[qz8]; omega)]
  split
  ·have:=ih (nI p k).toNat (by omega); omega
  ·exact ih c hc
def xh5 (r p:List Int):List Int:=qs0 r p p.length
def w5x (m:List (List Int)) (p:List Int):List (List Int):=m.map λr=>xh5 r p
def q72 (m:List (List Int)) (p:List Int):Int:=if qb9 m=false then 1 else if ws5 p=false then 7 else if w5s (nL m 0).length p=true then 5 else 0
def w5y (m:List (List Int)) (p:List Int):List (List Int):=if q72 m p=0 then w5x m p else[]
def qq3 (m:List (List Int)) (p:List Int) (k:Nat):List (List Int):=ovr qf7 (λq=>xh5 (nL m q) p) m k
def xw4 (m:List (List Int)) (p:List Int):Nat->Option Inv
 | 0=>some (Inv.of [7,26,28] 1 (λk:Nat=>[(7,.msl 0 .none),(26,.msl 0 .none),(28,.lit (.int .i64 k))]) (λk=>[.mat 24 3 (.int .i64) (qq3 m p k) .none .none]) (λk=>k<=m.length) (λk=>m.length-k))
 | 1=>some (Eng.Inv.mk Nat Nat [7,26,9,34] 1 (λk j=>[(7,.msl 0 .none),(26,.msl 0 .none),(9,.msl 0 (some k)),(34,.lit (.int .i64 j))]) (λk j=>[.mat 24 3 (.int .i64) ((qq3 m p k).set k (qs0 (nL m k) p j)) .none .none]) (λ_ j=>j<=p.length) (λ_ j=>p.length-j))
 | _=>none
abbrev x2a:qc7:=qi1 true none [ql9,qf7] [ql9,qe4] (λx=>q85 x.1/\x.2.1.length<=1000000) (λx=>(w5y x.1 x.2.1,q72 x.1 x.2.1,()))
theorem w5z:qe7 Try.prog 10 x2a:=by
 refine meets (snd (SpecsOk.cons q86 (SpecsOk.cons w3u (SpecsOk.cons q70 (SpecsOk.cons w5r (SpecsOk.nil _)))))) Try.func10 rfl rfl (λx=>xw4 x.1 x.2.1) (λ_=>by kernel_rfl) (by decide) ?_
 rintro⟨m,p,⟨⟩⟩ h
 revert m p
 intro(m:List (List Int)) (p:List Int) (h:q85 m/\p.length<=1000000)
 refine @qf1 _ (let Q0:=List.length p; let Q1:=List.length m; q85 m/\((!qb9 m)=true->w5y m p=[]/\(1:Int)=q72 m p/\True)/\((!qb9 m)=false->List.length p<=(1000000:Nat)/\((!ws5 p)=true->w5y m p=[]/\(7:Int)=q72 m p/\True)/\((!ws5 p)=false->(q85 m/\List.length p<=(9223372036854775807:Nat))/\((q9z m p != (0:Int))=true->w5y m p=[]/\q9z m p=q72 m p/\True)/\((q9z m p != (0:Int))=false->w8t m/\∃(v3:Unit),∃(v4:Nat),Nat.le v4 Q1/\((True/\True/\(0:Int)=(↑v4:Int)/\True)/\(m=qq3 m p v4/\True/\True)/\True)/\∀(v5:Nat),Nat.le v5 Q1->(decide ((↑v5:Int)<(↑(qe3 Q1 none):Int))=true->((0:Int)<=(↑v5:Int)/\(↑v5:Int)<(↑(qe3 (List.length (qq3 m p v5)) none):Int))/\Int.toNat (↑v5:Int)<qe3 (List.length (qq3 m p v5)) none/\∃(v8:Nat),∃(v9:Nat),Nat.le v9 Q0/\((True/\True/\some (qf3 none (Int.toNat (↑v5:Int)))=some v8/\(0:Int)=(↑v9:Int)/\True)/\(qq3 m p v5=List.set (qq3 m p v8) v8 (qs0 (nL m v8) p v9)/\True/\True)/\True)/\∀(v10:Nat),Nat.le v10 Q0->(decide ((↑v10:Int)<(↑Q0:Int))=true->((0:Int)<=(↑v10:Int)/\(↑v10:Int)<(↑Q0:Int))/\((0:Int)<=qa3 (Ty.int .i64) p (Int.toNat (↑v10:Int))/\qa3 (Ty.int .i64) p (Int.toNat (↑v10:Int))<(↑(List.length (qa3 (Ty.list (Ty.int .i64)) (List.set (qq3 m p v8) v8 (qs0 (nL m v8) p v10)) v8)):Int))/\Int.toNat (qa3 (Ty.int .i64) p (Int.toNat (↑v10:Int)))<List.length (qa3 (Ty.list (Ty.int .i64)) (List.set (qq3 m p v8) v8 (qs0 (nL m v8) p v10)) v8)/\fits .i64 ((0:Int)-qa3 (Ty.int .i64) (qa3 (Ty.list (Ty.int .i64)) (List.set (qq3 m p v8) v8 (qs0 (nL m v8) p v10)) v8) (Int.toNat (qa3 (Ty.int .i64) p (Int.toNat (↑v10:Int)))))/\((0:Int)<=qa3 (Ty.int .i64) p (Int.toNat (↑v10:Int))/\qa3 (Ty.int .i64) p (Int.toNat (↑v10:Int))<(↑(List.length (qa3 (Ty.list (Ty.int .i64)) (List.set (qq3 m p v8) v8 (qs0 (nL m v8) p v10)) v8)):Int))/\Int.toNat (qa3 (Ty.int .i64) p (Int.toNat (↑v10:Int)))<List.length (qa3 (Ty.list (Ty.int .i64)) (List.set (qq3 m p v8) v8 (qs0 (nL m v8) p v10)) v8)/\fits .i64 ((↑v10:Int)+(1:Int))/\∃(v13:Nat),Nat.le v13 Q0/\List.length p-v13<List.length p-v10/\(True/\True/\some v8=some v8/\(↑v10:Int)+(1:Int)=(↑v13:Int)/\True)/\(List.set (List.set (qq3 m p v8) v8 (qs0 (nL m v8) p v10)) v8 (List.set (qa3 (Ty.list (Ty.int .i64)) (List.set (qq3 m p v8) v8 (qs0 (nL m v8) p v10)) v8) (Int.toNat (qa3 (Ty.int .i64) p (Int.toNat (↑v10:Int)))) ((0:Int)-qa3 (Ty.int .i64) (qa3 (Ty.list (Ty.int .i64)) (List.set (qq3 m p v8) v8 (qs0 (nL m v8) p v10)) v8) (Int.toNat (qa3 (Ty.int .i64) p (Int.toNat (↑v10:Int))))))=List.set (qq3 m p v8) v8 (qs0 (nL m v8) p v13)/\True/\True)/\True)/\(decide ((↑v10:Int)<(↑Q0:Int))=false->fits .i64 ((↑v5:Int)+(1:Int))/\∃(v13:Nat),Nat.le v13 Q1/\List.length m-v13<List.length m-v5/\(True/\True/\(↑v5:Int)+(1:Int)=(↑v13:Int)/\True)/\(List.set (qq3 m p v8) v8 (qs0 (nL m v8) p v10)=qq3 m p v13/\True/\True)/\True))/\(decide ((↑v5:Int)<(↑(qe3 Q1 none):Int))=false->q1o (Ty.int .i64) (qq3 m p v5) none=w5y m p/\(0:Int)=q72 m p/\True))))) (by kernel_rfl) ?_
 try simp only[z0,z1,z2,z3,z4,z5,z6,z7,z8,z9,z10,Int.reduceEq,z11,z12,z13,z14,z15,z16,z17,z18,z19,z20,z21,z22,z23,z24,z25,z26,z27,z28,z29,z30,Int.reduceLE,Int.reduceLT,z31,z32,z33,z34,qa6]
 try simp only[qb6,qb7,qd0,List.set_cons_zero,List.cons.injEq,and_true,true_and]
 have bad:∀e:Int,e≠0->q72 m p=e->w5y m p=[]/\e=q72 m p:=λe he hs=>⟨by unfold w5y; rw[if_neg (by rw[hs]; exact he)],hs.symm⟩
 have l1:=h.2
 refine⟨h.1,λhv=>bad 1 (by decide) (if_pos hv),λhv=>?_⟩
 have hM:=Mk.of hv
 have m1:=hM.rows1
 have m6:=hM.rows6
 have m10:=hM.pix10
 refine⟨l1,λhne=>bad 7 (by decide) ?_,λhe=>⟨⟨h.1,by omega⟩,λhn=>?_,λhn=>?_⟩⟩
 ·unfold q72; rw[if_neg (by rw[hv]; decide),if_pos hne]
 ·obtain⟨h1,h2⟩:=w9z hv hn
  rw[h2]
  refine bad 5 (by decide) ?_
  unfold q72; rw[if_neg (by rw[hv]; decide),if_neg (by rw[he]; decide),if_pos h1]
 ·have ho:=w9y hv hn
  have hlen:∀k,(qq3 m p k).length=m.length:=λk=>qr3 ..
  refine⟨xv8 hM,(),0,Nat.zero_le _,⟨rfl,(q0j qf7 (λq=>xh5 (nL m q) p) m).symm⟩,λk hk=>⟨λhlt=>?_,λhge=>?_⟩⟩
  ·have hlt:k<m.length:=hlt
   have hat:nL (qq3 m p k) k=nL m k:=by
    show qa3 _ (ovr _ _ _ _) _=_
    rw[q5e _ _ _ _ _ hlt,if_neg (by omega)]
    rfl
   have hat2:∀x,nL ((qq3 m p k).set k x) k=x:=λx=>by rw[q5k _ _ _ _ (by rw[hlen]; exact hlt),if_pos rfl]
   have hx:k<qe3 (qq3 m p k).length none:=by rw[hlen]; exact hlt
   refine⟨hx,hx,k,0,Nat.zero_le _,⟨⟨rfl,rfl⟩,?_⟩,λj hj=>?_⟩
   ·show _=(qq3 m p k).set k (nL m k)
    rw[<- hat,qk3 _ _ (by rw[hlen]; exact hlt),List.set_getElem_self]
   ·rw[hat2,qz8]
    have hr:=hM.each k hlt
    refine⟨λjl=>?_,λjge=>?_⟩
    ·have hb:=q6k ho jl
     have hs:=q6l (r:=nL m k) (p:=p) (λc hc=>hM.small k hlt c (by omega)) (λi hi=>by have:=q6k ho hi; omega) j hj (nI p j).toNat (by omega)
     have hb':0<=nI p j/\nI p j<(nL m k).length:=by omega
     refine⟨jl,hb',by omega,qb8 (by omega) (by omega),hb',by omega,qb8 (by omega) (by omega),j+1,jl,by omega,by push_cast; rfl,?_⟩
     rw[List.set_set]
     rfl
    ·refine⟨qb8 (by omega) (by omega),k+1,hlt,by omega,by push_cast; rfl,?_⟩
     have e:j=p.length:=by omega
     subst e
     exact qw7 qf7 (λq=>xh5 (nL m q) p) m k
  ·have hge:¬k<m.length:=hge
   have h0:q72 m p=0:=by
    unfold q72; rw[if_neg (by rw[hv]; decide),if_neg (by rw[he]; decide),if_neg (by rw[ho]; decide)]
   refine⟨?_,h0.symm⟩
   unfold w5y; rw[if_pos h0]
   show ovr _ _ _ _=_
   rw[q20 _ _ _ _ (by omega)]
   unfold w5x
   apply List.ext_getElem
   ·simp
   ·intro i h1 h2
    have hi:i<m.length:=by simpa using h1
    simp only[List.getElem_map,List.getElem_range]
    rw[qk3 _ _ hi]
theorem w50 {m:List (List Int)} {p:List Int} (h:q72 m p=0):qb9 m=true/\ws5 p=true/\w5s (nL m 0).length p=false:=by
 unfold q72 at h
 split at h
 ·cases h
 ·rename_i h1
  split at h
  ·cases h
  ·rename_i h2
   split at h
   ·cases h
   ·rename_i h3
    exact⟨by simpa using h1,by simpa using h2,by simpa using h3⟩
end Go.Proofs.Ytempacilejhbgaa
