/- Lengths of a slice of slices. No condition. -/
import Derived.Test.YtempacilejhbgaaGreatQ14
import Derived.Test.YtempacilejhbgaaGreatR4
import Derived.Test.YtempacilejhbgaaGreatV22
import Derived.Test.YtempacilejhbgaaGreatRows
import Derived.Test.YtempacilejhbgaaGreatCore
import Derived.ProofKit
import Derived.OpenShut
import Derived.ShutString
import Derived.ChangeOld
import Derived.Below
import Derived.Deep.Matrix
import Derived.Test.YtempacilejhbgaaGreatV7
set_option linter.unusedVariables false
set_option linter.unusedSimpArgs false
namespace Go.Proofs.YtempacilejhbgaaGreat
open Go Go.RowKit Eng
def x1o (y:List Int):Nat->Option Inv
 | 0=>some (Inv.of [7] 0 (λk:Nat=>[(7,.lit (.int .i64 k))]) (λ_=>[]) (λk=>w8t y k) (λk=>y.length-k))
 | _=>none
abbrev x5m:qc0:=qg7 true none [qf2] [.bool] (λx=>x.1.length<=1000000) (λx=>(!q67 x.1,()))
theorem w62:qd7 Tryz.prog 66 x5m:=by
 refine meets (snd (SpecsOk.cons q9q (SpecsOk.nil _))) Tryz.func66 rfl rfl (λx=>x1o x.1) (λ_=>by kernel_rfl) (by decide) ?_
 rintro⟨y,⟨⟩⟩ h
 revert y
 intro(y:List Int) (h:y.length<=1000000)
 refine @qe1 _ (let Q0:=List.length y; ∃(v0:Unit),∃(v1:Nat),w8t y v1/\(((0:Int)=(↑v1:Int)/\True)/\True)/\∀(v2:Nat),w8t y v2->(decide ((↑v2:Int)<(↑Q0:Int))=true->((0:Int)<=(↑v2:Int)/\(↑v2:Int)<(↑Q0:Int))/\True/\((!inB (qa1 (Ty.int .i64) y (Int.toNat (↑v2:Int))) (-1000000:Int) (1000000:Int))=true->false=!q67 y)/\((!inB (qa1 (Ty.int .i64) y (Int.toNat (↑v2:Int))) (-1000000:Int) (1000000:Int))=false->fits .i64 ((↑v2:Int)+(1:Int))/\∃(v6:Nat),w8t y v6/\List.length y-v6<List.length y-v2/\((↑v2:Int)+(1:Int)=(↑v6:Int)/\True)/\True))/\(decide ((↑v2:Int)<(↑Q0:Int))=false->true=!q67 y)) (by kernel_rfl) ?_
 try simp only[z0,z1,z2,z3,z4,z5,z6,z7,z8,z9,z10,Int.reduceEq,z11,z12,z13,z14,z15,z16,z17,z18,z19,z20,z21,z22,z23,z24,z25,z26,z27,z28,z29,z30,Int.reduceLE,Int.reduceLT,z31,z32,z33,z34,qa4]
 try simp only[qb3,qb4,qb9,List.set_cons_zero,List.cons.injEq,and_true,true_and]
 have e0:∀x:Int,inB x (-1000000) 1000000=inB x (0-1000000) 1000000:=λ_=>rfl
 refine⟨(),0,⟨Nat.zero_le _,λi hi=>by omega⟩,rfl,λk hk=>⟨λhlt=>⟨hlt,λh1=>?_,λh1=>⟨qa7 (by omega) (by omega),k+1,⟨hlt,λi hi=>?_⟩,by omega,by omega⟩⟩,λhge=>?_⟩⟩
 ·have:q67 y=true:=by
   unfold q67
   rw[List.any_eq_true]
   exact⟨nI y k,by rw[qg5 y k hlt]; exact List.getElem_mem hlt,by rw[<- e0,h1]; rfl⟩
  simp[this]
 ·by_cases e:i=k
  ·subst e; exact h1
  ·exact hk.ok i (by omega)
 ·obtain rfl:k=y.length:=by have:=hk.le; omega
  have:q67 y=false:=by
   unfold q67
   rw[List.any_eq_false]
   intro x hx
   obtain⟨i,hi,rfl⟩:=List.getElem_of_mem hx
   have:=hk.ok i hi
   rw[qg5 y i hi,e0] at this
   rw[this]; simp
  simp[this]
structure xa1 (h:List Int) (k:Nat):Prop where
 le:k<=h.length
 ok:qs0 h k=true
def x1p (h:List Int):Nat->Option Inv
 | 0=>some (Inv.of [7] 0 (λk:Nat=>[(7,.lit (.int .i64 k))]) (λ_=>[]) (λk=>xa1 h k) (λk=>h.length-k))
 | _=>none
theorem w0h {h:List Int} {k:Nat} (hn:nI h k≠0):∀n,k<n->qs0 h n=false
 | 0,hk=>by omega
 | n+1,hk=>by
  rw[qs0]
  rcases Nat.lt_succ_iff_lt_or_eq.1 hk with q | q
  ·rw[w0h hn n q]; rfl
  ·subst q
   rw[show(nI h k==0)=false from by simpa using hn,Bool.and_false]
abbrev x5n:qc0:=qg7 true none [qf2] [.bool] (λx=>x.1.length<=1000000) (λx=>(qs0 x.1 x.1.length,()))
theorem w63:qd7 Tryz.prog 67 x5n:=by
 refine meets (snd (SpecsOk.nil _)) Tryz.func67 rfl rfl (λx=>x1p x.1) (λ_=>by kernel_rfl) (by decide) ?_
 rintro⟨h,⟨⟩⟩ hl
 revert h
 intro(h:List Int) (hl:h.length<=1000000)
 refine @qe1 _ (let Q0:=List.length h; ∃(v0:Unit),∃(v1:Nat),xa1 h v1/\(((0:Int)=(↑v1:Int)/\True)/\True)/\∀(v2:Nat),xa1 h v2->(decide ((↑v2:Int)<(↑Q0:Int))=true->((0:Int)<=(↑v2:Int)/\(↑v2:Int)<(↑Q0:Int))/\((qa1 (Ty.int .i64) h (Int.toNat (↑v2:Int)) != (0:Int))=true->false=qs0 h Q0)/\((qa1 (Ty.int .i64) h (Int.toNat (↑v2:Int)) != (0:Int))=false->fits .i64 ((↑v2:Int)+(1:Int))/\∃(v6:Nat),xa1 h v6/\List.length h-v6<List.length h-v2/\((↑v2:Int)+(1:Int)=(↑v6:Int)/\True)/\True))/\(decide ((↑v2:Int)<(↑Q0:Int))=false->true=qs0 h Q0)) (by kernel_rfl) ?_
 try simp only[z0,z1,z2,z3,z4,z5,z6,z7,z8,z9,z10,Int.reduceEq,z11,z12,z13,z14,z15,z16,z17,z18,z19,z20,z21,z22,z23,z24,z25,z26,z27,z28,z29,z30,Int.reduceLE,Int.reduceLT,z31,z32,z33,z34,qa4]
 try simp only[qb3,qb4,qb9,List.set_cons_zero,List.cons.injEq,and_true,true_and]
 refine⟨(),0,⟨Nat.zero_le _,rfl⟩,rfl,λk hk=>⟨λhlt=>⟨hlt,λh1=>(w0h h1 _ hlt).symm,λh1=>⟨qa7 (by omega) (by omega),k+1,⟨hlt,by rw[qs0,hk.ok,Bool.true_and]; exact beq_iff_eq.2 h1⟩,by omega,by omega⟩⟩,λhge=>?_⟩⟩
 obtain rfl:k=h.length:=by have:=hk.le; omega
 exact hk.ok.symm
def w2m (m:List (List Int)) (h:List Int):Bool:=(List.range m.length).all λi=>decide (qz1 (nL m i) h (nL m i).length=0)
def wb4 (m:List (List Int)) (h:List Int):Bool:=qc8 m && decide (h.length=(nL m 0).length) && !q67 h && !qs0 h h.length && w2m m h
structure xa2 (m:List (List Int)) (h:List Int) (k:Nat):Prop where
 le:k<=m.length
 ok:∀i,i<k->qz1 (nL m i) h (nL m i).length=0
def x1q (m:List (List Int)) (h:List Int):Nat->Option Inv
 | 0=>some (Inv.of [30] 0 (λk:Nat=>[(30,.lit (.int .i64 k))]) (λ_=>[]) (λk=>xa2 m h k) (λk=>m.length-k))
 | _=>none
abbrev x5o:qc0:=qg7 true none [qk0,qf2] [.bool] (λx=>wx1 x.1/\x.2.1.length<=1000) (λx=>(wb4 x.1 x.2.1,()))
theorem w64:qd7 Tryz.prog 22 x5o:=by
 refine meets (snd (SpecsOk.cons q9s (SpecsOk.cons w62 (SpecsOk.cons w63 (SpecsOk.cons w2k (SpecsOk.nil _)))))) Tryz.func22 rfl rfl (λx=>x1q x.1 x.2.1) (λ_=>by kernel_rfl) (by decide) ?_
 rintro⟨m,h,⟨⟩⟩ hh
 revert m h
 intro(m:List (List Int)) (h:List Int) (hh:wx1 m/\h.length<=1000)
 refine @qe1 _ (let Q0:=List.length m; let Q1:=List.length h; wx1 m/\((!qc8 m)=true->false=wb4 m h)/\((!qc8 m)=false->((0:Int)<=(0:Int)/\(0:Int)<(↑Q0:Int))/\(((↑Q1:Int) != (↑(List.length (qa1 (Ty.list (Ty.int .i64)) m (0:Nat))):Int))=true->false=wb4 m h)/\(((↑Q1:Int) != (↑(List.length (qa1 (Ty.list (Ty.int .i64)) m (0:Nat))):Int))=false->List.length h<=(1000000:Nat)/\((!!q67 h)=true->false=wb4 m h)/\((!!q67 h)=false->List.length h<=(1000000:Nat)/\(qs0 h Q1=true->false=wb4 m h)/\(qs0 h Q1=false->∃(v4:Unit),∃(v5:Nat),xa2 m h v5/\(((0:Int)=(↑v5:Int)/\True)/\True)/\∀(v6:Nat),xa2 m h v6->(decide ((↑v6:Int)<(↑Q0:Int))=true->((0:Int)<=(↑v6:Int)/\(↑v6:Int)<(↑Q0:Int))/\w9t (qa1 (Ty.list (Ty.int .i64)) m (Int.toNat (↑v6:Int))) h/\((qz1 (qa1 (Ty.list (Ty.int .i64)) m (Int.toNat (↑v6:Int))) h (List.length (qa1 (Ty.list (Ty.int .i64)) m (Int.toNat (↑v6:Int)))) != (0:Int))=true->false=wb4 m h)/\((qz1 (qa1 (Ty.list (Ty.int .i64)) m (Int.toNat (↑v6:Int))) h (List.length (qa1 (Ty.list (Ty.int .i64)) m (Int.toNat (↑v6:Int)))) != (0:Int))=false->fits .i64 ((↑v6:Int)+(1:Int))/\∃(v10:Nat),xa2 m h v10/\List.length m-v10<List.length m-v6/\((↑v6:Int)+(1:Int)=(↑v10:Int)/\True)/\True))/\(decide ((↑v6:Int)<(↑Q0:Int))=false->true=wb4 m h)))))) (by kernel_rfl) ?_
 try simp only[z0,z1,z2,z3,z4,z5,z6,z7,z8,z9,z10,Int.reduceEq,z11,z12,z13,z14,z15,z16,z17,z18,z19,z20,z21,z22,z23,z24,z25,z26,z27,z28,z29,z30,Int.reduceLE,Int.reduceLT,z31,z32,z33,z34,qa4]
 try simp only[qb3,qb4,qb9,List.set_cons_zero,List.cons.injEq,and_true,true_and]
 have hl:=hh.2
 refine⟨hh.1,λhv=>by simp[wb4,hv],λhv=>?_⟩
 have hM:=Mk.of hv
 have hm1:=hM.rows1
 have hm6:=hM.rows6
 have hm10:=hM.pix10
 refine⟨by omega,λhn=>?_,λhn=>⟨by omega,λho=>by simp[wb4,ho],λho=>⟨by omega,λhz=>by simp[wb4,hz],λhz=>⟨(),0,⟨Nat.zero_le _,λi hi=>by omega⟩,rfl,λk hk=>⟨λhlt=>?_,λhge=>?_⟩⟩⟩⟩⟩
 ·have hn:¬h.length=(nL m 0).length:=by omega
  simp[wb4,hn]
 ·have hn:h.length=(nL m 0).length:=by omega
  have he:=hM.each k hlt
  refine⟨hlt,⟨by omega,by omega,λi hi=>hM.small k hlt i (by omega),λi hi=>?_⟩,λhd=>?_,λhd=>⟨qa7 (by omega) (by omega),k+1,⟨hlt,λi hi=>?_⟩,by omega,by push_cast; rfl⟩⟩
  ·unfold q67 at ho
   rw[List.any_eq_false] at ho
   have:=ho (nI h i) (by rw[qg5 h i (by omega)]; exact List.getElem_mem _)
   simp only[Bool.not_eq_true,Bool.not_eq_false'] at this
   have:=qm0.1 this
   unfold qe8; omega
  ·have:w2m m h=false:=by
    unfold w2m
    rw[List.all_eq_false]
    exact⟨k,List.mem_range.2 hlt,by simpa using hd⟩
   simp[wb4,this]
  ·by_cases e:i=k
   ·subst e; exact hd
   ·exact hk.ok i (by omega)
 ·obtain rfl:k=m.length:=by have:=hk.le; omega
  have hn:h.length=(nL m 0).length:=by omega
  have:w2m m h=true:=by
   unfold w2m
   rw[List.all_eq_true]
   exact λi hi=>decide_eq_true (hk.ok i (List.mem_range.1 hi))
  unfold wb4
  rw[hv,ho,hz,this,decide_eq_true hn]; rfl
theorem xv2 {m:List (List Int)} (hf:wx1 m) (h7:qc8 m=true->(nL m 0).length<=7):w9u m:=by
 refine⟨hf,λhv=>?_⟩
 have hM:=Mk.of hv
 have h7:=h7 hv
 have h6:=hM.rows6
 refine⟨h7,λs hs hok=>?_⟩
 unfold qz2 at hok
 rw[Bool.and_eq_true,decide_eq_true_eq,decide_eq_true_eq] at hok
 have hn:=wq7 h7 hs
 have hnl:=hn.len
 have hO:=qj8 hM hn (by omega)
 refine⟨hO.krOk,by omega,by omega,λi hi j hj=>?_⟩
 have:=hn.at_ j hj
 rw[hM.each i hi]
 omega
theorem xl9 {m:List (List Int)} (h7:qc8 m=true->(nL m 0).length<=7):q19 m=qo1 m:=by
 by_cases hv:qc8 m=true
 ·have e1:qo1 m=(q1g m (nL m 0).length (q25 m),0):=by simp[qo1,hv]
  have e2:q19 m=(qh1 m (nL m 0).length (qe0 (nL m 0).length) (qe0 (nL m 0).length).length,0):=by simp[q19,hv]
  rw[e1,e2,wz9 hv (h7 hv),w93 (h7 hv)]
 ·have hv:qc8 m=false:=by simpa using hv
  have e1:qo1 m=([],1):=by simp[qo1,hv]
  have e2:q19 m=([],1):=by simp[q19,hv]
  rw[e1,e2]
structure xw2 (m:List (List Int)):Prop where
 fit:wx1 m
 n7:qc8 m=true->(nL m 0).length<=7
abbrev x1r:qc0:=qg7 false none [qk0] [qk0] (λx=>xw2 x.1) (λx=>((qo1 x.1).1,()))
theorem w2n:qd7 Tryz.prog 65 x1r:=by
 refine meets (snd (SpecsOk.cons w59 (SpecsOk.nil _))) Tryz.func65 rfl rfl (λ_ _=>none) (λ_=>by kernel_rfl) (by decide) ?_
 rintro⟨m,⟨⟩⟩ h
 revert m
 intro(m:List (List Int)) (h:xw2 m)
 refine @qe1 _ (w9u m/\Prod.fst (q19 m)=Prod.fst (qo1 m)) (by kernel_rfl) ?_
 try simp only[z0,z1,z2,z3,z4,z5,z6,z7,z8,z9,z10,Int.reduceEq,z11,z12,z13,z14,z15,z16,z17,z18,z19,z20,z21,z22,z23,z24,z25,z26,z27,z28,z29,z30,Int.reduceLE,Int.reduceLT,z31,z32,z33,z34,qa4]
 try simp only[qb3,qb4,qb9,List.set_cons_zero,List.cons.injEq,and_true,true_and]
 rw[xl9 h.n7]
 exact⟨xv2 h.fit h.n7,rfl⟩
theorem xa3 (a b:Int × Int):q7f a b=if q6o a b=true then b else a:=by
 unfold q7f
 by_cases q:a.1*b.2<b.1*a.2
 ·rw[if_pos (q42.2 q),if_pos (show q6o a b=true from decide_eq_true q)]
 ·rw[if_neg λe=>q (q42.1 e),if_neg (by unfold q6o; rw[decide_eq_false q]; decide)]
structure w65 (m:List (List Int)) (p:List Int):Prop where
 fit:xw2 m
 len:p.length<=1000
def x1s (m:List (List Int)) (l:List (List Int)) (pix:List Int):Nat->Option Inv
 | 0=>some (Inv.of [29] 2 (λk:Nat=>[(29,.lit (.int .i64 k))]) (λk=>[.box 34 xn1,.box 34 (.cons (.lit (.int .i64 (qr2 l pix k).1)) (.cons (.lit (.int .i64 (qr2 l pix k).2)) .nil))]) (λk=>k<=l.length) (λk=>l.length-k))
 | _=>none
abbrev x5p:qc0:=qg7 true none [qk0,qf2] [qy9,qd6] (λx=>w65 x.1 x.2.1) (λx=>(ofQ x.1 x.2.1,ofE x.1 x.2.1,()))
theorem w66:qd7 Tryz.prog 21 x5p:=by
 refine meets (snd (SpecsOk.cons q9s (SpecsOk.cons q8h (SpecsOk.cons w2n (SpecsOk.cons q8i (SpecsOk.cons q8g (SpecsOk.nil _))))))) Tryz.func21 rfl rfl (λx=>x1s x.1 (qo1 x.1).1 x.2.1) (λ_=>by kernel_rfl) (by decide) ?_
 rintro⟨m,p,⟨⟩⟩ h
 revert m p
 intro(m:List (List Int)) (p:List Int) (h:w65 m p)
 refine @qe1 _ (let Q0:=Prod.fst (qo1 m); let Q1:=List.length Q0; wx1 m/\((!qc8 m)=true->((0:Int)=Prod.fst (ofQ m p)/\(0:Int)=Prod.snd (ofQ m p)/\True)/\(1:Int)=ofE m p/\True)/\((!qc8 m)=false->((0:Int)<=(0:Int)/\(0:Int)<(↑(List.length m):Int))/\List.length p<=(1000000:Nat)/\((q1d (↑(List.length (qa1 (Ty.list (Ty.int .i64)) m (0:Nat))):Int) p != (0:Int))=true->((0:Int)=Prod.fst (ofQ m p)/\(0:Int)=Prod.snd (ofQ m p)/\True)/\q1d (↑(List.length (qa1 (Ty.list (Ty.int .i64)) m (0:Nat))):Int) p=ofE m p/\True)/\((q1d (↑(List.length (qa1 (Ty.list (Ty.int .i64)) m (0:Nat))):Int) p != (0:Int))=false->xw2 m/\∃(v2:Unit),∃(v3:Nat),Nat.le v3 Q1/\(((0:Int)=(↑v3:Int)/\True)/\((0:Int)=(0:Int)/\(0:Int)=(0:Int)/\True)/\((0:Int)=Prod.fst (qr2 Q0 p v3)/\(1:Int)=Prod.snd (qr2 Q0 p v3)/\True)/\True)/\∀(v4:Nat),Nat.le v4 Q1->(decide ((↑v4:Int)<(↑Q1:Int))=true->((0:Int)<=(↑v4:Int)/\(↑v4:Int)<(↑Q1:Int))/\wj2 (qa1 (Ty.list (Ty.int .i64)) Q0 (Int.toNat (↑v4:Int))) p/\(qu2 (Prod.fst (qr2 Q0 p v4),Prod.snd (qr2 Q0 p v4))/\qu2 (Prod.fst (shR (qa1 (Ty.list (Ty.int .i64)) Q0 (Int.toNat (↑v4:Int))) p),Prod.snd (shR (qa1 (Ty.list (Ty.int .i64)) Q0 (Int.toNat (↑v4:Int))) p)))/\(q6o (Prod.fst (qr2 Q0 p v4),Prod.snd (qr2 Q0 p v4)) (Prod.fst (shR (qa1 (Ty.list (Ty.int .i64)) Q0 (Int.toNat (↑v4:Int))) p),Prod.snd (shR (qa1 (Ty.list (Ty.int .i64)) Q0 (Int.toNat (↑v4:Int))) p))=true->fits .i64 ((↑v4:Int)+(1:Int))/\∃(v8:Nat),Nat.le v8 Q1/\List.length Q0-v8<List.length Q0-v4/\((↑v4:Int)+(1:Int)=(↑v8:Int)/\True)/\((0:Int)=(0:Int)/\(0:Int)=(0:Int)/\True)/\(Prod.fst (shR (qa1 (Ty.list (Ty.int .i64)) Q0 (Int.toNat (↑v4:Int))) p)=Prod.fst (qr2 Q0 p v8)/\Prod.snd (shR (qa1 (Ty.list (Ty.int .i64)) Q0 (Int.toNat (↑v4:Int))) p)=Prod.snd (qr2 Q0 p v8)/\True)/\True)/\(q6o (Prod.fst (qr2 Q0 p v4),Prod.snd (qr2 Q0 p v4)) (Prod.fst (shR (qa1 (Ty.list (Ty.int .i64)) Q0 (Int.toNat (↑v4:Int))) p),Prod.snd (shR (qa1 (Ty.list (Ty.int .i64)) Q0 (Int.toNat (↑v4:Int))) p))=false->fits .i64 ((↑v4:Int)+(1:Int))/\∃(v8:Nat),Nat.le v8 Q1/\List.length Q0-v8<List.length Q0-v4/\((↑v4:Int)+(1:Int)=(↑v8:Int)/\True)/\((0:Int)=(0:Int)/\(0:Int)=(0:Int)/\True)/\(Prod.fst (qr2 Q0 p v4)=Prod.fst (qr2 Q0 p v8)/\Prod.snd (qr2 Q0 p v4)=Prod.snd (qr2 Q0 p v8)/\True)/\True))/\(decide ((↑v4:Int)<(↑Q1:Int))=false->(Prod.fst (qr2 Q0 p v4)=Prod.fst (ofQ m p)/\Prod.snd (qr2 Q0 p v4)=Prod.snd (ofQ m p)/\True)/\(0:Int)=ofE m p/\True)))) (by kernel_rfl) ?_
 try simp only[z0,z1,z2,z3,z4,z5,z6,z7,z8,z9,z10,Int.reduceEq,z11,z12,z13,z14,z15,z16,z17,z18,z19,z20,z21,z22,z23,z24,z25,z26,z27,z28,z29,z30,Int.reduceLE,Int.reduceLT,z31,z32,z33,z34,qa4]
 try simp only[qb3,qb4,qb9,List.set_cons_zero,List.cons.injEq,and_true,true_and]
 have hp:=h.len
 have bad:∀e:Int,e≠0->ofE m p=e->(0=(ofQ m p).fst/\0=(ofQ m p).snd)/\e=ofE m p:=λe he q=>by
  have q':q72 m p=e:=q
  unfold ofQ
  rw[if_neg (by rw[q']; exact he),q]
  exact⟨⟨rfl,rfl⟩,rfl⟩
 refine⟨h.fit.fit,λhv=>bad 1 (by decide) (by simp[ofE,q72,hv]),λhv=>?_⟩
 have hM:=Mk.of hv
 have hm1:=hM.rows1
 have hE:ofE m p=q1d (nL m 0).length p:=by simp[ofE,q72,hv]
 refine⟨by omega,by omega,λhn=>bad _ hn hE,λhn=>⟨h.fit,?_⟩⟩
 have hQ:ofQ m p=qr2 (qo1 m).1 p (qo1 m).1.length:=if_pos (hE.trans hn)
 have h7:=h.fit.n7 hv
 have hO:xj2 (qo1 m).1 p:=⟨wa7 hv,λi hi=>by
  obtain⟨s,hc⟩:=wl8 hv h7 hi
  exact xl8 hv hc (Named.of hn)⟩
 have hl:=hO.len
 generalize(qo1 m).1=l at *
 refine⟨(),0,Nat.zero_le _,⟨rfl,rfl,rfl⟩,λk hk=>⟨λhlt=>?_,λhge=>?_⟩⟩
 ·have ht:qr2 l p (k+1)=q7f (qr2 l p k) (shR (nL l k) p):=rfl
  rw[xa3] at ht
  refine⟨hlt,hO.ok k hlt,⟨q08 hO k hk,q4e (hO.ok k hlt)⟩,λq=>⟨qa7 (by omega) (by omega),k+1,hlt,by omega,by push_cast; rfl,?_⟩,λq=>⟨qa7 (by omega) (by omega),k+1,hlt,by omega,by push_cast; rfl,?_⟩⟩
  ·rw[ht,if_pos q]; exact⟨rfl,rfl⟩
  ·rw[ht,if_neg (by intro e; have:q6o (qr2 l p k) (shR (nL l k) p)=false:=q; rw[this] at e; cases e)]; exact⟨rfl,rfl⟩
 ·obtain rfl:k=l.length:=by omega
  rw[hQ]
  exact⟨⟨rfl,rfl⟩,(hE.trans hn).symm⟩
def xn4:List (List Int):=[[1,1,0],[0,1,1]]
def x1t (l:List (List Int)) (k:Nat):Nat->Int × Int
 | 0=>(0,1)
 | i+1=>q7f (x1t l k i) (ofR (wm1 (szV (nL l i)) ((xn3 (nL l i)).take k)) (szL (nL l i)))
theorem wr0 (l:List (List Int)) (k:Nat):∀n,qm7 l k n=x1t l k n
 | 0=>rfl
 | n+1=>by
  rw[qm7,x1t,wr0 l k n]
  unfold shR
  rw[w99]
theorem w67:grQ xn4 1=(1,3)/\wj7 xn4 1 0=0/\w2q xn4=(1,0):=by
 have hc:(qo1 xn4).1=[[1,-1,1]]:=by decide +kernel
 have hv:qc8 xn4=true:=by decide
 have hk:wj7 xn4 1 0=0:=by decide
 refine⟨?_,hk,?_⟩
 ·unfold grQ
  rw[if_pos hk,hc,wr0]
  decide +kernel
 ·unfold w2q ordL
  rw[if_pos hv,hc]
  show(((ordF [[1,-1,1]] 3 0:Nat):Int),(0:Int))=(1,0)
  simp only[ordF,wr0]
  decide +kernel
theorem xd5:w5w [[1,1,0],[0,1,1]]:=x5l λ_=>by show 3<=7; decide
abbrev x5q:qc0:=qg7 true none [] [.bool] (λ_=>True) (λ_=>(true,()))
theorem w68:qd7 Tryz.prog 10 x5q:=by
 refine meets (snd (SpecsOk.cons wp9 (SpecsOk.cons wq0 (SpecsOk.nil _)))) Tryz.func10 rfl rfl (λ_ _=>none) (λ_=>by kernel_rfl) (by decide) ?_
 rintro⟨⟩ -
 refine @qe1 _ (w5w [[(1:Int),(1:Int),(0:Int)],[(0:Int),(1:Int),(1:Int)]]/\w5w [[(1:Int),(1:Int),(0:Int)],[(0:Int),(1:Int),(1:Int)]]/\(((0:Int)==(0:Int))=true->(((1:Int)==(1:Int) && (3:Int)==(3:Int))=true->(((0:Int)==(0:Int))=true->(Prod.fst (w2q [[(1:Int),(1:Int),(0:Int)],[(0:Int),(1:Int),(1:Int)]])==(1:Int))=true)/\(((0:Int)==(0:Int))=false->false=true))/\(((1:Int)==(1:Int) && (3:Int)==(3:Int))=false->false=true))/\(((0:Int)==(0:Int))=false->false=true)) (by kernel_rfl) ?_
 try simp only[z0,z1,z2,z3,z4,z5,z6,z7,z8,z9,z10,Int.reduceEq,z11,z12,z13,z14,z15,z16,z17,z18,z19,z20,z21,z22,z23,z24,z25,z26,z27,z28,z29,z30,Int.reduceLE,Int.reduceLT,z31,z32,z33,z34,qa4]
 try simp only[qb3,qb4,qb9,List.set_cons_zero,List.cons.injEq,and_true,true_and]
 have ho:(w2q [[1,1,0],[0,1,1]]).1=1:=congrArg Prod.fst w67.2.2
 exact⟨xd5,xd5,⟨λ_=>⟨ho,λq=>absurd trivial q⟩,λq=>by cases q⟩,λq=>absurd trivial q⟩
theorem xm0 {m:List (List Int)} (h:w2r m=true) (hv:qc8 m=true):(nL m 0).length<=7:=by
 unfold w2r at h
 rw[Bool.and_eq_true,Bool.not_eq_true',List.any_eq_false] at h
 have hM:=Mk.of hv
 have h1:=h.1 (nL m 0) (qn6 m 0 (by have:=hM.rows1; omega))
 have h2:=hM.pix10
 unfold xj6 at h1
 simp at h1
 omega
theorem w69 {m:List (List Int)} {p:List Int} (hv:qc8 m=true) (h:q72 m p=0):Named (nL m 0).length p:=by
 unfold q72 at h
 rw[if_neg (by rw[hv]; decide)] at h
 exact Named.of h
theorem xv3 {m:List (List Int)} {p:List Int} (h:q72 m p=0):qc8 m=true:=by
 unfold q72 at h
 split at h
 ·cases h
 ·rename_i q
  cases e:qc8 m with
  | true=>rfl
  | false=>exact absurd e q
theorem xv4 {m:List (List Int)} {p:List Int} (hv:qc8 m=true) (h7:(nL m 0).length<=7) (hp:p.length<=1000000):w5n m p:=
 ⟨hp,λhv=>xk8 hv,λhe=>⟨wa7 hv,λi hi=>by
  obtain⟨s,hc⟩:=wl8 hv h7 hi
  exact xl8 hv hc (w69 hv he)⟩⟩
theorem w0i (a b:List Int):∀k,qz1 a b k=sm k λc=>nI a c*nI b c
 | 0=>rfl
 | k+1=>by rw[qz1,w0i a b k]; rfl
theorem xm1 {m:List (List Int)} {h:List Int} (hk:wb4 m h=true):qc8 m=true/\h.length=(nL m 0).length/\Sol m.length (nL m 0).length (rowOf m) (nI h):=by
 unfold wb4 at hk
 simp only[Bool.and_eq_true,decide_eq_true_eq] at hk
 obtain⟨⟨⟨⟨h1,h2⟩,h3⟩,h4⟩,h5⟩:=hk
 refine⟨h1,h2,λa ha=>?_⟩
 unfold w2m at h5
 rw[List.all_eq_true] at h5
 have:=of_decide_eq_true (h5 a (List.mem_range.2 ha))
 rw[w0i,(Mk.of h1).each a ha] at this
 exact this
theorem xm2 {m:List (List Int)} {h p:List Int} (h7:qc8 m=true->(nL m 0).length<=7) (he:shE h p=0) (hg:ofE m p=0) (hk:wb4 m h=true):qu2 (ofQ m p)/\qu2 (shQ h p)/\q6o (ofQ m p) (shQ h p)=false:=by
 obtain⟨hv,hl,hs⟩:=xm1 hk
 obtain⟨hsh,hN,_⟩:=w5z he
 have h7:=h7 hv
 rw[hl] at hN
 have hO:=(xv4 hv h7 (p:=p) (by have:=hN.len; have:=(Mk.of hv).pix10; omega)).ok hg
 have hlil:=q08 hO _ (Nat.le_refl _)
 have hlq:=q4e hsh
 have e1:ofQ m p=qr2 (qo1 m).1 p (qo1 m).1.length:=if_pos hg
 have e2:shQ h p=shR h p:=if_pos he
 rw[e1,e2]
 refine⟨hlil,hlq,?_⟩
 obtain⟨j,hj,hle⟩:=wq9 hv h7 hN hl hs hsh.ne
 have:=wl9 hlq.pos (q4e (hO.ok j hj)).pos hlil.pos (x1n hsh (hO.ok j hj) hle) ((w0g hO _ (Nat.le_refl _)).1 j hj)
 exact decide_eq_false (Int.not_lt.2 this)
theorem xv5 {m:List (List Int)} {p:List Int} (h7:qc8 m=true->(nL m 0).length<=7) (hp:p.length<=1000000):w5n m p:=
 ⟨hp,λhv=>xk8 hv,λhe=>(xv4 (xv3 he) (h7 (xv3 he)) hp).ok he⟩
abbrev xm3:qc0:=qg7 true none [qk0,qf2,qf2] [.bool] (λx=>wx1 x.1/\x.2.1.length<=9223372036854775807/\x.2.2.1.length<=9223372036854775807) (λ_=>(true,()))
theorem q4j:qd7 Tryz.prog 4 xm3:=by
 refine meets (snd (SpecsOk.cons w2d (SpecsOk.cons w68 (SpecsOk.cons wj9 (SpecsOk.cons wj8 (SpecsOk.cons w17 (SpecsOk.cons w66 (SpecsOk.cons w64 (SpecsOk.cons q8g (SpecsOk.nil _)))))))))) Tryz.func4 rfl rfl (λ_ _=>none) (λ_=>by kernel_rfl) (by decide) ?_
 rintro⟨m,h,p,⟨⟩⟩ hh
 revert m h p
 intro(m:List (List Int)) (h:List Int) (p:List Int) (hh:wx1 m/\h.length<=9223372036854775807/\p.length<=9223372036854775807)
 refine @qe1 _ (let Q0:=(!q6o (Prod.fst (ofQ m p),Prod.snd (ofQ m p)) (Prod.fst (shQ h p),Prod.snd (shQ h p))); List.length m<=(9223372036854775807:Nat)/\((!w2r m)=true->True/\true=true)/\((!w2r m)=false->(decide ((20:Int)<(↑(List.length h):Int))=true->True/\true=true)/\(decide ((20:Int)<(↑(List.length h):Int))=false->(decide ((20:Int)<(↑(List.length p):Int))=true->True/\true=true)/\(decide ((20:Int)<(↑(List.length p):Int))=false->w2g h p/\w2g h p/\w5n m p/\w65 m p/\((!(Prod.fst (shQ h p)==Prod.fst (shQ h p) && Prod.snd (shQ h p)==Prod.snd (shQ h p)))=true->false=true)/\((!(Prod.fst (shQ h p)==Prod.fst (shQ h p) && Prod.snd (shQ h p)==Prod.snd (shQ h p)))=false->((shE h p != shE h p)=true->false=true)/\((shE h p != shE h p)=false->((!(Prod.fst (ofQ m p)==Prod.fst (ofQ m p) && Prod.snd (ofQ m p)==Prod.snd (ofQ m p)))=true->false=true)/\((!(Prod.fst (ofQ m p)==Prod.fst (ofQ m p) && Prod.snd (ofQ m p)==Prod.snd (ofQ m p)))=false->((ofE m p != ofE m p)=true->false=true)/\((ofE m p != ofE m p)=false->((shE h p != (0:Int))=true->True/\true=true)/\((shE h p != (0:Int))=false->((ofE m p != (0:Int))=true->True/\true=true)/\((ofE m p != (0:Int))=false->(wx1 m/\List.length h<=(1000:Nat))/\((!wb4 m h)=true->True/\true=true)/\((!wb4 m h)=false->(qu2 (Prod.fst (ofQ m p),Prod.snd (ofQ m p))/\qu2 (Prod.fst (shQ h p),Prod.snd (shQ h p)))/\(Q0=true->True/\true=true)/\(Q0=false->false=true)))))))))))) (by kernel_rfl) ?_
 try simp only[z0,z1,z2,z3,z4,z5,z6,z7,z8,z9,z10,Int.reduceEq,z11,z12,z13,z14,z15,z16,z17,z18,z19,z20,z21,z22,z23,z24,z25,z26,z27,z28,z29,z30,Int.reduceLE,Int.reduceLT,z31,z32,z33,z34,qa4]
 try simp only[qb3,qb4,qb9,List.set_cons_zero,List.cons.injEq,and_true,true_and]
 refine⟨hh.1.rows,λh6 hl hp=>?_⟩
 have h7:qc8 m=true->(nL m 0).length<=7:=λhv=>xm0 h6 hv
 have eqb:∀a b:Int,((a==a && b==b)=false)->false=true:=λa b q=>by simp at q
 refine⟨⟨by omega,by omega⟩,⟨by omega,by omega⟩,xv5 h7 (by omega),⟨⟨hh.1,h7⟩,by omega⟩,eqb _ _,λ_=>⟨λq=>absurd trivial q,eqb _ _,λ_=>⟨λq=>absurd trivial q,λhe hg=>⟨⟨hh.1,by omega⟩,λhk=>?_⟩⟩⟩⟩
 obtain⟨k1,k2,k3⟩:=xm2 h7 he hg hk
 refine⟨⟨k1,k2⟩,λq=>?_⟩
 have q:q6o (ofQ m p) (shQ h p)=true:=q
 rw[k3] at q
 exact q
open Go.ChangeShapes Go.WideShapes Go.ChangeAt Go.RowKit Go.Deep Ls
theorem own:ownKnob Tryz.prog.godebug=none:=by kernel_rfl
theorem laidOut:laidOutB Tryz.prog=true:=by kernel_rfl
theorem xv6 {H:Type} {enc:TypeId × Value->H} {W:World} {t e:TypeId} {v:Value} {d:DataW H} {p:List MemPlace} (ht:Tryz.prog.underlying t=some (.slice e)) (he:Tryz.prog.underlying e=some (.int .i64)) (ce:Tryz.prog.cellsOf e=1)
  (hv:∃a l c,v=.slice a l c) (h:DataW.Trod enc Tryz.prog W 0 (λ_=>true) true t v d p):∃a l c zs,v=.slice a l c/\SI W a l c zs:=by
 obtain⟨a,l,c,rfl⟩:=hv
 obtain⟨fuel,hf⟩:=h
 rcases open_ints ht he ce hf with⟨hcs,_⟩ | ⟨x,l',c',zs,hcs,_,hl,hm,hz,_,hcell,hwz⟩
 ·simp[Value.cells] at hcs
  obtain⟨rfl,rfl,rfl⟩:=hcs
  exact⟨_,_,_,[],rfl,SI.nil W⟩
 ·simp[Value.cells] at hcs
  obtain⟨rfl,rfl,rfl⟩:=hcs
  have hz':zs.length=c:=by simpa using hz
  refine⟨_,_,_,zs.take l,rfl,by simp; omega,hl,hm,λ_=>⟨x,rfl,λk hk=>?_⟩⟩
  rw[hcell k (by omega)]
  simp[nth,hk]
theorem x1u {H:Type} {enc:TypeId × Value->H} {W:World} {t e q:TypeId} {v:Value} {d:DataW H} {p:List MemPlace} (ht:Tryz.prog.underlying t=some (.slice e)) (he:Tryz.prog.underlying e=some (.slice q)) (hq:Tryz.prog.underlying q=some (.int .i64))
  (ce:Tryz.prog.cellsOf e=1) (cq:Tryz.prog.cellsOf q=1)
  (hv:∃a l c,v=.slice a l c) (h:DataW.Trod enc Tryz.prog W 0 (λ_=>true) true t v d p):∃a l c m,v=.slice a l c/\SM W a l c m:=by
 obtain⟨a,l,c,rfl⟩:=hv
 obtain⟨fuel,hf⟩:=h
 rcases open_int_rows ht he hq ce cq hf with⟨hcs,_⟩ | ⟨x,l',c',A,L,C,Z,hcs,_,hl,hm,_,hr⟩
 ·simp[Value.cells] at hcs
  obtain⟨rfl,rfl,rfl⟩:=hcs
  exact⟨_,_,_,[],rfl,SM.nil W⟩
 ·simp[Value.cells] at hcs
  obtain⟨rfl,rfl,rfl⟩:=hcs
  refine⟨_,_,_,(List.range l).map (λr=>(Z r).take (L r)),rfl,by simp,hl,hm,λ_=>⟨x,rfl,λk hk=>?_⟩⟩
  obtain⟨h1,h2,h3,h4,_,h6,h7⟩:=hr k (by omega)
  have e0:nthL ((List.range l).map (λr=>(Z r).take (L r))) k=(Z k).take (L k):=by simp[nthL,hk]
  have e1:((Z k).take (L k)).length=L k:=by simp; omega
  rw[e0,e1]
  refine⟨A k,C k,h1,e1,h2,h3,λhp=>?_⟩
  cases hA:A k with
  | none=>have:=h6 hA; omega
  | some a'=>
   refine⟨a',rfl,λj hj=>?_⟩
   rw[(h7 a' hA).2 j (by omega)]
   simp[nth,hj]
end Go.Proofs.YtempacilejhbgaaGreat
set_option linter.unusedVariables false
namespace Go.Proofs.YtempacilejhbgaaGreat
open Go Go.RowKit Eng Ls
theorem xm4 {w:World} {A:Option Addr} {n c:Nat} {m:List (List Int)} (s:SM w A n c m):wx1 m:=by
 have hl:=s.len
 have hn:=s.nmax
 refine⟨by omega,λi hi=>?_⟩
 obtain⟨ad,_,h⟩:=s.at_ (by omega)
 obtain⟨A',c',_,h2⟩:=h i (by omega)
 have e:nL m i=nthL m i:=by
  rw[ql4 m i hi]
  unfold nthL
  rw[List.getD_eq_getElem?_getD,List.getElem?_eq_getElem hi]
  rfl
 rw[e]
 exact h2.nmax
theorem w7a {w:World} {A:Option Addr} {n c:Nat} {l:List Int} (s:SI w A n c l):l.length<=9223372036854775807:=by
 have:=s.nmax
 have:=s.len
 omega
end Go.Proofs.YtempacilejhbgaaGreat
