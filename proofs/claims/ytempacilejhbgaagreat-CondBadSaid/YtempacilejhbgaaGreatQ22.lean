/- Bad pictures and sets that are not safe: contracts by the engine. No condition. -/
import Derived.Test.YtempacilejhbgaaGreatQ21
set_option linter.unusedVariables false
set_option linter.unusedSimpArgs false
namespace Go.Proofs.YtempacilejhbgaaGreat
open Go Go.RowKit Eng
def x08 (a b:List (Ty.den (.int .i64))):Nat->Option Inv
 | 0=>some (Inv.of [13] 0 (λk:Nat=>[(13,.lit (.int .i64 k))]) (λ_=>[]) (λk=>k<=a.length/\∀i,i<k->qh7 (.int .i64) a i=qh7 (.int .i64) b i) (λk=>a.length-k))
 | _=>none
abbrev x4z:qc0:=qf3 true none [.list (.int .i64),.list (.int .i64)] [.bool] (λx=>x.1.length<=1000000) (λx=>(decide (x.1=x.2.1),()))
theorem w4a:qd2 Tryz.prog 28 x4z:=by
 refine meets (snd (SpecsOk.nil _)) Tryz.func28 rfl rfl (λx=>x08 x.1 x.2.1) (λ_=>by kernel_rfl) (by decide) ?_
 rintro⟨a,b,⟨⟩⟩ h
 revert a b
 intro(a:List (Ty.den (.int .i64))) (b:List (Ty.den (.int .i64))) (h:a.length<=1000000)
 refine @qd4 _ ((((↑a.length:Int) != (↑b.length:Int))=true->false=decide (a=b))/\(((↑a.length:Int) != (↑b.length:Int))=false->∃(v1:Unit),∃(v2:Nat),(v2<=a.length/\∀(v3:Nat),Nat.le (Nat.succ v3) v2->nI a v3=nI b v3)/\(((0:Int)=(↑v2:Int)/\True)/\True)/\∀(v3:Nat),(v3<=a.length/\∀(v5:Nat),Nat.le (Nat.succ v5) v3->nI a v5=nI b v5)->(decide ((↑v3:Int)<(↑a.length:Int))=true->((0:Int)<=(↑v3:Int)/\(↑v3:Int)<(↑a.length:Int))/\((0:Int)<=(↑v3:Int)/\(↑v3:Int)<(↑b.length:Int))/\((nI a v3 != nI b v3)=true->false=decide (a=b))/\((nI a v3 != nI b v3)=false->fits .i64 ((↑v3:Int)+(1:Int))/\∃(v7:Nat),(v7<=a.length/\∀(v8:Nat),Nat.le (Nat.succ v8) v7->nI a v8=nI b v8)/\a.length-v7<a.length-v3/\((↑v3:Int)+(1:Int)=(↑v7:Int)/\True)/\True))/\(decide ((↑v3:Int)<(↑a.length:Int))=false->true=decide (a=b)))) (by kernel_rfl) ?_
 try simp only[z0,z1,z2,z3,z4,z5,z6,z7,z8,z9,z10,Int.reduceEq,z11,z12,z13,z14,z15,z16,z17,z18,z19,z20,z21,z22,z23,z24,z25,z26,z27,z28,z29,z30,Int.reduceLE,Int.reduceLT,z31,z32,z33,z34,qa1]
 try simp only[qb3,qb4,qb9,z31,z32,z2,z1]
 refine⟨λhl=>?_,λhl=>?_⟩
 ·rw[decide_eq_false]; intro e; subst e; exact hl rfl
 ·refine⟨(),0,⟨Nat.zero_le _,λi hi=>absurd hi (by omega)⟩,rfl,λk ⟨hk,hall⟩=>⟨λhlt=>⟨hlt,by omega,λhne=>?_,λhe=>⟨qa5 (by omega) (by omega),k+1,⟨by omega,λi hi=>?_⟩,by omega,by omega⟩⟩,λhge=>?_⟩⟩
  ·rw[decide_eq_false]; intro e; subst e; first | exact hne rfl | (revert hne; simp)
  ·by_cases e:i=k
   ·subst e; first | exact he | (refine Prod.ext ?_ ?_ <;> simp_all)
   ·exact hall i (by omega)
  ·exact(decide_eq_true (w1d _ a b (by omega) λi hi=>hall i (by omega))).symm
structure q0j (a:List (List Int)):Prop where
 len:a.length<=1000000
 each:∀i,i<a.length->(nL a i).length<=1000000
abbrev xt1:qc0:=qf3 true none [tMask,tMask] [.bool] (λx=>q0j x.1) (λx=>(decide (x.1=x.2.1),()))
def xi0 (a b:List (List Int)):Nat->Option Inv
 | 0=>some (Inv.of [13] 0 (λk:Nat=>[(13,.lit (.int .i64 k))]) (λ_=>[]) (λk=>k<=a.length/\∀i,i<k->nL a i=nL b i) (λk=>a.length-k))
 | _=>none
theorem wr9:qd2 Tryz.prog 46 xt1:=by
 refine meets (snd (SpecsOk.cons w4a (SpecsOk.nil _))) Tryz.func46 rfl rfl (λx=>xi0 x.1 x.2.1) (λ_=>by kernel_rfl) (by decide) ?_
 rintro⟨a,b,⟨⟩⟩ h
 revert a b
 intro(a:List (List Int)) (b:List (List Int)) (h:q0j a)
 refine @qd4 _ ((((↑a.length:Int) != (↑b.length:Int))=true->false=decide (a=b))/\(((↑a.length:Int) != (↑b.length:Int))=false->∃(v1:Unit),∃(v2:Nat),(v2<=a.length/\∀(v3:Nat),Nat.le (Nat.succ v3) v2->nL a v3=nL b v3)/\(((0:Int)=(↑v2:Int)/\True)/\True)/\∀(v3:Nat),(v3<=a.length/\∀(v5:Nat),Nat.le (Nat.succ v5) v3->nL a v5=nL b v5)->(decide ((↑v3:Int)<(↑a.length:Int))=true->((0:Int)<=(↑v3:Int)/\(↑v3:Int)<(↑a.length:Int))/\((0:Int)<=(↑v3:Int)/\(↑v3:Int)<(↑b.length:Int))/\(nL a v3).length<=(1000000:Nat)/\((!decide (nL a v3=nL b v3))=true->false=decide (a=b))/\((!decide (nL a v3=nL b v3))=false->fits .i64 ((↑v3:Int)+(1:Int))/\∃(v7:Nat),(v7<=a.length/\∀(v8:Nat),Nat.le (Nat.succ v8) v7->nL a v8=nL b v8)/\a.length-v7<a.length-v3/\((↑v3:Int)+(1:Int)=(↑v7:Int)/\True)/\True))/\(decide ((↑v3:Int)<(↑a.length:Int))=false->true=decide (a=b)))) (by kernel_rfl) ?_
 try simp only[z0,z1,z2,z3,z4,z5,z6,z7,z8,z9,z10,Int.reduceEq,z11,z12,z13,z14,z15,z16,z17,z18,z19,z20,z21,z22,z23,z24,z25,z26,z27,z28,z29,z30,Int.reduceLE,Int.reduceLT,z31,z32,z33,z34,qa1]
 try simp only[qb3,qb4,qb9,z31,z32,z2,z1]
 have hlen:=h.len
 refine⟨λhl=>?_,λhl=>⟨(),0,⟨Nat.zero_le _,λi hi=>absurd hi (by omega)⟩,rfl,λk ⟨hk,hall⟩=>⟨λhlt=>⟨hlt,by omega,h.each k hlt,λhne=>?_,λhe=>⟨qa5 (by omega) (by omega),k+1,⟨by omega,λi hi=>?_⟩,by omega,by omega⟩⟩,λhge=>?_⟩⟩⟩
 ·refine(decide_eq_false λe=>hl ?_).symm
  subst e; rfl
 ·refine(decide_eq_false λe=>hne ?_).symm
  subst e; rfl
 ·by_cases e:i=k
  ·subst e; exact he
  ·exact hall i (by omega)
 ·exact(decide_eq_true (w1d (.list (.int .i64)) a b (by omega) λi hi=>hall i (by omega))).symm
theorem xt2 {n:Nat} {s:List Int} (h:Named n s):wh8 n s=0:=by
 have h1:xc0 s=true:=q52.2 λi h0 hi=>h.asc (i-1) i (by omega) hi
 have h2:(s.any λp=>!(inB p 0 (n-1)))=false:=by
  rw[List.any_eq_false]
  intro x hx
  obtain⟨i,hi,rfl⟩:=List.getElem_of_mem hx
  have:=h.at_ i hi
  rw[qf6 s i hi] at this
  rw[inB_iff.2 ⟨this.1,by omega⟩]; simp
 simp[wh8,h1,h2]
def qr7 (m:List (List Int)) (k:Int) (x:List Int):Bool:=decide ((w18 m x).2=0) && decide (qo7 m k 1=0) && decide ((nzTo x x.length:Int)<=k)
def x1a (s1 s2:Nat) (x:List Int):Nat->Option Inv
 | 0=>some (Inv.of [s1,s2] 0 (λk:Nat=>[(s1,.lit (.int .i64 (nzTo x k))),(s2,.lit (.int .i64 k))]) (λ_=>[]) (λk=>k<=x.length) (λk=>x.length-k))
 | _=>none
abbrev x57:qc0:=qf3 true none [tMask,tInt,tInts] [.bool] (λx=>AgPre x.1 x.2.2.1) (λx=>(qr7 x.1 x.2.1 x.2.2.1,()))
theorem w85:qd2 Tryz.prog 43 x57:=by
 refine meets (snd (SpecsOk.cons w83 (SpecsOk.cons q1v (SpecsOk.nil _)))) Tryz.func43 rfl rfl (λx=>x1a 7 14 x.2.2.1) (λ_=>by kernel_rfl) (by decide) ?_
 rintro⟨m,k,x,⟨⟩⟩ h
 revert m k x
 intro(m:List (List Int)) (k:Int) (x:List Int) (h:AgPre m x)
 refine @qd4 _ (∃(v0:Unit),∃(v1:Nat),Nat.le v1 x.length/\(((0:Int)=(↑(nzTo x v1):Int)/\(0:Int)=(↑v1:Int)/\True)/\True)/\∀(v2:Nat),Nat.le v2 x.length->(decide ((↑v2:Int)<(↑x.length:Int))=true->((0:Int)<=(↑v2:Int)/\(↑v2:Int)<(↑x.length:Int))/\((nI x v2 != (0:Int))=true->fits .i64 ((↑(nzTo x v2):Int)+(1:Int))/\fits .i64 ((↑v2:Int)+(1:Int))/\∃(v6:Nat),Nat.le v6 x.length/\x.length-v6<x.length-v2/\((↑(nzTo x v2):Int)+(1:Int)=(↑(nzTo x v6):Int)/\(↑v2:Int)+(1:Int)=(↑v6:Int)/\True)/\True)/\((nI x v2 != (0:Int))=false->fits .i64 ((↑v2:Int)+(1:Int))/\∃(v6:Nat),Nat.le v6 x.length/\x.length-v6<x.length-v2/\((↑(nzTo x v2):Int)=(↑(nzTo x v6):Int)/\(↑v2:Int)+(1:Int)=(↑v6:Int)/\True)/\True))/\(decide ((↑v2:Int)<(↑x.length:Int))=false->AgPre m x/\(((w18 m x).2==(0:Int))=true->True/\((qo7 m k (1:Int)==(0:Int))=true->decide ((↑(nzTo x v2):Int)<=k)=qr7 m k x)/\((qo7 m k (1:Int)==(0:Int))=false->false=qr7 m k x))/\(((w18 m x).2==(0:Int))=false->false=qr7 m k x))) (by kernel_rfl) ?_
 try simp only[z0,z1,z2,z3,z4,z5,z6,z7,z8,z9,z10,Int.reduceEq,z11,z12,z13,z14,z15,z16,z17,z18,z19,z20,z21,z22,z23,z24,z25,z26,z27,z28,z29,z30,Int.reduceLE,Int.reduceLT,z31,z32,z33,z34,qa1]
 try simp only[qb3,qb4,qb9,z31,z32,z2,z1]
 have hx:=h.len
 refine⟨(),0,Nat.zero_le _,⟨rfl,rfl⟩,λj hj=>⟨λhlt=>?_,λhge=>?_⟩⟩
 ·(have hq:=ww8 x j; exact⟨hlt,λhz=>⟨qa5 (by omega) (by omega),qa5 (by omega) (by omega),j+1,hlt,by omega,by rw[nzTo,if_pos hz]; push_cast; rfl,by push_cast; rfl⟩,λhz=>⟨qa5 (by omega) (by omega),j+1,hlt,by omega,by rw[nzTo,if_neg λq=>q hz],by push_cast; rfl⟩⟩)
 ·obtain rfl:j=x.length:=by omega
  refine⟨h,λh1=>⟨λh2=>?_,λh2=>?_⟩,λh1=>?_⟩
  ·unfold qr7; rw[decide_eq_true h1,decide_eq_true h2]; rfl
  ·unfold qr7; rw[decide_eq_false h2,Bool.and_false]; rfl
  ·unfold qr7; rw[decide_eq_false h1]; rfl
theorem w4b:qd2 Tryz.prog 42 x57:=by
 refine meets (snd (SpecsOk.cons q49 (SpecsOk.cons w39 (SpecsOk.cons w84 (SpecsOk.nil _))))) Tryz.func42 rfl rfl (λx=>x1a 7 22 x.2.2.1) (λ_=>by kernel_rfl) (by decide) ?_
 rintro⟨m,k,x,⟨⟩⟩ h
 revert m k x
 intro(m:List (List Int)) (k:Int) (x:List Int) (h:AgPre m x)
 refine @qd4 _ (wd6 m/\((qo7 m k (1:Int) != (0:Int))=true->false=qr7 m k x)/\((qo7 m k (1:Int) != (0:Int))=false->AgPre m x/\((q38 m x != (0:Int))=true->false=qr7 m k x)/\((q38 m x != (0:Int))=false->∃(v2:Unit),∃(v3:Nat),Nat.le v3 x.length/\(((0:Int)=(↑(nzTo x v3):Int)/\(0:Int)=(↑v3:Int)/\True)/\True)/\∀(v4:Nat),Nat.le v4 x.length->(decide ((↑v4:Int)<(↑x.length:Int))=true->((0:Int)<=(↑v4:Int)/\(↑v4:Int)<(↑x.length:Int))/\((nI x v4 != (0:Int))=true->fits .i64 ((↑(nzTo x v4):Int)+(1:Int))/\fits .i64 ((↑v4:Int)+(1:Int))/\∃(v8:Nat),Nat.le v8 x.length/\x.length-v8<x.length-v4/\((↑(nzTo x v4):Int)+(1:Int)=(↑(nzTo x v8):Int)/\(↑v4:Int)+(1:Int)=(↑v8:Int)/\True)/\True)/\((nI x v4 != (0:Int))=false->fits .i64 ((↑v4:Int)+(1:Int))/\∃(v8:Nat),Nat.le v8 x.length/\x.length-v8<x.length-v4/\((↑(nzTo x v4):Int)=(↑(nzTo x v8):Int)/\(↑v4:Int)+(1:Int)=(↑v8:Int)/\True)/\True))/\(decide ((↑v4:Int)<(↑x.length:Int))=false->(decide ((↑(nzTo x v4):Int)<=k)=true->(AgPre m x/\q38 m x=(0:Int))/\(!List.isEmpty (agC m x))=qr7 m k x)/\(decide ((↑(nzTo x v4):Int)<=k)=false->false=qr7 m k x))))) (by kernel_rfl) ?_
 try simp only[z0,z1,z2,z3,z4,z5,z6,z7,z8,z9,z10,Int.reduceEq,z11,z12,z13,z14,z15,z16,z17,z18,z19,z20,z21,z22,z23,z24,z25,z26,z27,z28,z29,z30,Int.reduceLE,Int.reduceLT,z31,z32,z33,z34,qa1]
 try simp only[qb3,qb4,qb9,z31,z32,z2,z1]
 have hx:=h.len
 have bad:¬(w18 m x).2=0\/¬qo7 m k 1=0\/¬((nzTo x x.length:Int)<=k)->false=qr7 m k x:=λq=>by
  unfold qr7
  rcases q with q | q | q
  ·rw[decide_eq_false q]; rfl
  ·rw[decide_eq_false q,Bool.and_false]; rfl
  ·rw[decide_eq_false q,Bool.and_false]
 refine⟨h.fit.fit,λh1=>bad (.inr (.inl h1)),λh1=>⟨h,λh2=>bad (.inl ?_),λh2=>⟨(),0,Nat.zero_le _,⟨rfl,rfl⟩,λj hj=>⟨λhlt=>?_,λhge=>?_⟩⟩⟩⟩
 ·unfold w18; rw[if_neg h2]; exact h2
 ·(have hq:=ww8 x j; exact⟨hlt,λhz=>⟨qa5 (by omega) (by omega),qa5 (by omega) (by omega),j+1,hlt,by omega,by rw[nzTo,if_pos hz]; push_cast; rfl,by push_cast; rfl⟩,λhz=>⟨qa5 (by omega) (by omega),j+1,hlt,by omega,by rw[nzTo,if_neg λq=>q hz],by push_cast; rfl⟩⟩)
 ·obtain rfl:j=x.length:=by omega
  refine⟨λh3=>⟨⟨h,h2⟩,?_⟩,λh3=>bad (.inr (.inr (Int.not_le.2 h3)))⟩
  unfold qr7
  rw[decide_eq_true h1,decide_eq_true h3,Bool.and_true,Bool.and_true]
  unfold w18 agC
  rw[if_pos h2]
  obtain⟨_,_,ha⟩:=h.ag h2
  by_cases hn:agI m x<0
  ·rw[if_pos hn,if_pos hn]; rfl
  ·rw[if_neg hn,if_neg hn]
   have hlt:=(wm6 (.list (.int .i64)) (λh=>agB h x) (qa9 m).1).1
   have hpos:=(ha (agI m x).toNat (by unfold agI at *; omega)).2
   cases e:nL (qa9 m).1 (agI m x).toNat with
   | nil=>rw[e] at hpos; simp at hpos
   | cons a r=>rfl
def hasB (m:List (List Int)) (k:Int):Bool × Int:=if qo7 m k 1≠0 then(false,qo7 m k 1) else if k<=(ordL m:Nat) then(false,8) else(true,0)
abbrev x42:qc0:=qf3 true none [tMask,tInt] [.bool,tInt] (λx=>qw0 x.1) (λx=>((hasB x.1 x.2.1).1,(hasB x.1 x.2.1).2,()))
theorem w4c:qd2 Tryz.prog 41 x42:=by
 refine meets (snd (SpecsOk.cons q49 (SpecsOk.cons w38 (SpecsOk.nil _)))) Tryz.func41 rfl rfl (λ_ _=>none) (λ_=>by kernel_rfl) (by decide) ?_
 rintro⟨m,k,⟨⟩⟩ h
 revert m k
 intro(m:List (List Int)) (k:Int) (h:qw0 m)
 refine @qd4 _ (let Q0:=hasB m k; wd6 m/\((qo7 m k (1:Int) != (0:Int))=true->false=Q0.1/\qo7 m k (1:Int)=Q0.2/\True)/\((qo7 m k (1:Int) != (0:Int))=false->qw0 m/\(decide (k<=(q4g m).1)=true->false=Q0.1/\(8:Int)=Q0.2/\True)/\(decide (k<=(q4g m).1)=false->true=Q0.1/\(0:Int)=Q0.2/\True))) (by kernel_rfl) ?_
 try simp only[z0,z1,z2,z3,z4,z5,z6,z7,z8,z9,z10,Int.reduceEq,z11,z12,z13,z14,z15,z16,z17,z18,z19,z20,z21,z22,z23,z24,z25,z26,z27,z28,z29,z30,Int.reduceLE,Int.reduceLT,z31,z32,z33,z34,qa1]
 try simp only[qb3,qb4,qb9,z31,z32,z2,z1]
 refine⟨h.fit,λh1=>?_,λh1=>⟨h,λh2=>?_,λh2=>?_⟩⟩
 ·unfold hasB; rw[if_pos h1]; exact⟨rfl,rfl⟩
 ·have hv:=(q07 h1).1
  have hr:q4g m=(((ordL m:Nat):Int),0):=if_pos hv
  rw[hr] at h2
  unfold hasB; rw[if_neg λq=>q h1,if_pos h2]; exact⟨rfl,rfl⟩
 ·have hv:=(q07 h1).1
  have hr:q4g m=(((ordL m:Nat):Int),0):=if_pos hv
  rw[hr] at h2
  unfold hasB; rw[if_neg λq=>q h1,if_neg (Int.not_le.2 h2)]; exact⟨rfl,rfl⟩
def xi1 (m:List (List Int)) (k:Int):List (List Int):=(qa4 (nL m 0).length k).filter λs=>hlf (qp0 (qa9 m).1 s (qa9 m).1.length)
def wy2 (m:List (List Int)) (k:Int):List (List Int) × Int:=if qo7 m k 0=0 then(xi1 m k,0) else([],qo7 m k 0)
def qo0 (m:List (List Int)) (L:List (List Int)):Nat->List (List Int)
 | 0=>[]
 | c+1=>if hlf (qp0 (qa9 m).1 (nL L c) (qa9 m).1.length)=true then qo0 m L c++[nL L c] else qo0 m L c
theorem q8f (m:List (List Int)) (L:List (List Int)):∀c,c<=L.length->qo0 m L c=(L.take c).filter λs=>hlf (qp0 (qa9 m).1 s (qa9 m).1.length)
 | 0,_=>rfl
 | c+1,hc=>by
  rw[qo0,takeL_snoc L c (by omega),List.filter_append,<- q8f m L c (by omega)]
  split
  ·rename_i h; simp[h]
  ·rename_i h; simp[h]
theorem q8g (m:List (List Int)) (L:List (List Int)):∀c,(qo0 m L c).length<=c
 | 0=>Nat.le_refl _
 | c+1=>by
  have:=q8g m L c
  rw[qo0]
  split
  ·simp; omega
  ·omega
abbrev x58:qc0:=qf3 false none [tMask,tInt] [tMask,tInt] (λx=>qw0 x.1) (λx=>((wy2 x.1 x.2.1).1,(wy2 x.1 x.2.1).2,()))
def x44 (m:List (List Int)) (L:List (List Int)):Nat->Option Inv
 | 0=>some (Inv.of [] 3 (λ_:Nat=>[]) (λc=>[.box 22 (.cons (.dat (.list (.int .i64)) (qa9 m).1) .nil),.box 22 (.cons (.msl 2 .none) .nil),.mat 24 3 (.int .i64) (qo0 m L c) .none .none]) (λc=>c<=L.length) (λc=>c))
 | _=>none
theorem w86:qd2 Tryz.prog 44 x58:=by
 refine meets (xz5 [32] [] (SpecsOk.cons q1v (SpecsOk.cons qx1 (SpecsOk.cons q9l (SpecsOk.cons w7b (SpecsOk.cons q40 (SpecsOk.cons wv6 (SpecsOk.nil _))))))) MutsOk.nil (ItsOk.cons q9k ItsOk.nil)) Tryz.func44 rfl rfl (λx=>x44 x.1 (qa4 (nL x.1 0).length x.2.1)) (λ_=>by kernel_rfl) (by decide) ?_
 rintro⟨m,k,⟨⟩⟩ h
 revert m k
 intro(m:List (List Int)) (k:Int) (h:qw0 m)
 refine @qd4 _ (let Q0:=wy2 m k; True/\((qo7 m k (0:Int) != (0:Int))=true->Q0.1=[]/\qo7 m k (0:Int)=Q0.2/\True)/\((qo7 m k (0:Int) != (0:Int))=false->(validB m=true->q5m m)/\((0:Int)<=(0:Int)/\(0:Int)<(↑m.length:Int))/\True/\(((0:Ty.den tInt)<=k/\k<=(1000:Ty.den tInt))/\(0:Ty.den tInt)<=(↑(nL m (0:Nat)).length:Int)/\(↑(nL m (0:Nat)).length:Int)<=(1000:Ty.den tInt))/\∃(v1:Unit),∃(v2:Nat),Nat.le v2 (qa4 (↑(nL m (0:Nat)).length:Int) k).length/\v2=(0:Nat)/\(((qa9 m).1=(qa9 m).1/\True)/\(True/\True)/\qo0 m (qa4 (↑(nL m (0:Nat)).length:Int) k) v2=[]/\True)/\∀(v3:Nat),Nat.le v3 (qa4 (↑(nL m (0:Nat)).length:Int) k).length->(∀(v5:List Int × qa6._f [] PUnit.unit),(List.map (λ(v7:List Int)=>(v7,())) (qa4 (↑(nL m (0:Nat)).length:Int) k))[v3]?=some v5->∀(v7:q5s),xu4 (qa9 m).1 (nL [v5.1] (0:Nat))/\qr4 ((qp0 (qa9 m).1 (nL [v5.1] (0:Nat)) (qa9 m).1.length).1,(qp0 (qa9 m).1 (nL [v5.1] (0:Nat)) (qa9 m).1.length).2)/\(hlf ((qp0 (qa9 m).1 (nL [v5.1] (0:Nat)) (qa9 m).1.length).1,(qp0 (qa9 m).1 (nL [v5.1] (0:Nat)) (qa9 m).1.length).2)=true->(nL [v5.1] (0:Nat)).length<=(100000:Nat)/\((0:Nat)<(0:Nat)+(1:Nat)/\(qo0 m (qa4 (↑(nL m (0:Nat)).length:Int) k) v3).length+((0:Nat)+(1:Nat))<=(1000000:Nat))/\[v5.1]=[v5.1]/\v7=v7/\True/\∃(v9:Nat),Nat.le v9 (qa4 (↑(nL m (0:Nat)).length:Int) k).length/\v9=v3+(1:Nat)/\((qa9 m).1=(qa9 m).1/\True)/\(True/\True)/\(qo0 m (qa4 (↑(nL m (0:Nat)).length:Int) k) v3++[nL [v5.1] (0:Nat)]=qo0 m (qa4 (↑(nL m (0:Nat)).length:Int) k) v9/\True/\True)/\True)/\(hlf ((qp0 (qa9 m).1 (nL [v5.1] (0:Nat)) (qa9 m).1.length).1,(qp0 (qa9 m).1 (nL [v5.1] (0:Nat)) (qa9 m).1.length).2)=false->[v5.1]=[v5.1]/\v7=v7/\True/\∃(v9:Nat),Nat.le v9 (qa4 (↑(nL m (0:Nat)).length:Int) k).length/\v9=v3+(1:Nat)/\((qa9 m).1=(qa9 m).1/\True)/\(True/\True)/\(qo0 m (qa4 (↑(nL m (0:Nat)).length:Int) k) v3=qo0 m (qa4 (↑(nL m (0:Nat)).length:Int) k) v9/\True/\True)/\True))/\(v3=(List.map (λ(v6:List Int)=>(v6,())) (qa4 (↑(nL m (0:Nat)).length:Int) k)).length->q29 (Ty.int .i64) (qo0 m (qa4 (↑(nL m (0:Nat)).length:Int) k) v3) none=Q0.1/\(0:Int)=Q0.2/\True))) (by kernel_rfl) ?_
 try simp only[z0,z1,z2,z3,z4,z5,z6,z7,z8,z9,z10,Int.reduceEq,z11,z12,z13,z14,z15,z16,z17,z18,z19,z20,z21,z22,z23,z24,z25,z26,z27,z28,z29,z30,Int.reduceLE,Int.reduceLT,z31,z32,z33,z34,qa1]
 try simp only[qb3,qb4,qb9,z31,z32,z2,z1]
 refine⟨λh1=>?_,λh1=>?_⟩
 ·unfold wy2; rw[if_neg h1]; exact⟨rfl,rfl⟩
 obtain⟨hv,n,rfl,hn⟩:=q07 h1
 have hM:=Mk.of hv
 have m1:=hM.rows1
 have m10:=hM.pix10
 have h7:=h.n7 hv
 have hL:=qt9 (nL m 0).length n m10 (by omega)
 have hR:wy2 m n=(qo0 m (qa4 (nL m 0).length (n:Nat)) (qa4 (nL m 0).length (n:Nat)).length,0):=by
  unfold wy2 xi1
  rw[if_pos h1,q8f _ _ _ (Nat.le_refl _),List.take_length]
 rw[hR]
 have hN:=λs (hs:s∈qa4 (nL m 0).length (n:Nat))=>(qo6 hs).1
 generalize qa4 (nL m 0).length (n:Nat)=L at *
 refine⟨λhv=>xg5 hv,by omega,⟨⟨Int.natCast_nonneg n,show(n:Int)<=1000 by omega⟩,show((nL m 0).length:Int)<=1000 by omega⟩,(),0,Nat.zero_le _,rfl,rfl,λc hc=>⟨λd hd T=>?_,λhe=>?_⟩⟩
 ·have hd:(L.map λv=>((v,()):qa6 [tInts]))[c]? = some d:=hd
  rw[List.getElem?_map] at hd
  obtain⟨s,hs,rfl⟩:=Option.map_eq_some_iff.1 hd
  obtain⟨hlt,es⟩:=List.getElem?_eq_some_iff.1 hs
  have hmem:s∈L:=List.mem_of_getElem? hs
  have hs2:=hN s hmem
  have hsl:=hs2.len
  have hle:=q8g m L c
  have hO:xu4 (qa9 m).1 s:=⟨q14 hv,λi hi=>by
   obtain⟨t,hc⟩:=qv6 hv h7 hi
   exact q5p hv hc hs2⟩
  have en:nL L c=s:=by rw[qk5 L c hlt,es]
  have hst:qo0 m L (c+1)=if hlf (qp0 (qa9 m).1 (nL L c) (qa9 m).1.length)=true then qo0 m L c++[nL L c] else qo0 m L c:=rfl
  rw[en] at hst
  refine⟨hO,q33 hO _ (Nat.le_refl _),λhf=>⟨by show s.length<=100000; omega,by omega,c+1,hlt,rfl,?_⟩,λhf=>⟨c+1,hlt,rfl,?_⟩⟩
  ·rw[hst]; exact(if_pos hf).symm
  ·rw[hst]; exact(if_neg (by intro q; have hf:hlf (qp0 (qa9 m).1 s (qa9 m).1.length)=false:=hf; rw[hf] at q; cases q)).symm
 ·have he:c=(L.map λv=>((v,()):qa6 [tInts])).length:=he
  rw[List.length_map] at he
  subst he
  exact⟨rfl,rfl⟩
def x1b (m:List (List Int)) (L:List (List Int)):Nat->Option Inv
 | 0=>some (Inv.of [7,25] 1 (λc:Nat=>[(7,.own 0),(25,.lit (.int .i64 c))]) (λc=>[.vec 24 (.list (.int .i64)) (qo0 m L c)]) (λc=>c<=L.length) (λc=>L.length-c))
 | _=>none
theorem w4d:qd2 Tryz.prog 45 x58:=by
 refine meets (snd (SpecsOk.cons q49 (SpecsOk.cons (q27 20) (SpecsOk.cons w37 (SpecsOk.nil _))))) Tryz.func45 rfl rfl (λx=>x1b x.1 (qa4 (nL x.1 0).length x.2.1)) (λ_=>by kernel_rfl) (by decide) ?_
 rintro⟨m,k,⟨⟩⟩ h
 revert m k
 intro(m:List (List Int)) (k:Int) (h:qw0 m)
 refine @qd4 _ (let Q0:=wy2 m k; wd6 m/\((qo7 m k (0:Int) != (0:Int))=true->Q0.1=[]/\qo7 m k (0:Int)=Q0.2/\True)/\((qo7 m k (0:Int) != (0:Int))=false->((0:Int)<=(0:Int)/\(0:Int)<(↑m.length:Int))/\q26 (20:Nat) (↑(nL m (0:Nat)).length:Int) k/\∃(v1:Unit),∃(v2:Nat),Nat.le v2 (qa4 (↑(nL m (0:Nat)).length:Int) k).length/\((True/\(0:Int)=(↑v2:Int)/\True)/\qo0 m (qa4 (↑(nL m (0:Nat)).length:Int) k) v2=[]/\True)/\∀(v3:Nat),Nat.le v3 (qa4 (↑(nL m (0:Nat)).length:Int) k).length->(decide ((↑v3:Int)<(↑(qa4 (↑(nL m (0:Nat)).length:Int) k).length:Int))=true->((0:Int)<=(↑v3:Int)/\(↑v3:Int)<(↑(qa4 (↑(nL m (0:Nat)).length:Int) k).length:Int))/\SafPre m (nL (qa4 (↑(nL m (0:Nat)).length:Int) k) v3)/\((!xh8 m (nL (qa4 (↑(nL m (0:Nat)).length:Int) k) v3))=true->((0:Nat)<List.length [nL (qa4 (↑(nL m (0:Nat)).length:Int) k) v3]/\Nat.le ((qo0 m (qa4 (↑(nL m (0:Nat)).length:Int) k) v3).length+List.length [nL (qa4 (↑(nL m (0:Nat)).length:Int) k) v3]) (1000000:Nat))/\fits .i64 ((↑v3:Int)+(1:Int))/\∃(v7:Nat),Nat.le v7 (qa4 (↑(nL m (0:Nat)).length:Int) k).length/\(qa4 (↑(nL m (0:Nat)).length:Int) k).length-v7<(qa4 (↑(nL m (0:Nat)).length:Int) k).length-v3/\(True/\(↑v3:Int)+(1:Int)=(↑v7:Int)/\True)/\qo0 m (qa4 (↑(nL m (0:Nat)).length:Int) k) v3++[nL (qa4 (↑(nL m (0:Nat)).length:Int) k) v3]=qo0 m (qa4 (↑(nL m (0:Nat)).length:Int) k) v7/\True)/\((!xh8 m (nL (qa4 (↑(nL m (0:Nat)).length:Int) k) v3))=false->fits .i64 ((↑v3:Int)+(1:Int))/\∃(v7:Nat),Nat.le v7 (qa4 (↑(nL m (0:Nat)).length:Int) k).length/\(qa4 (↑(nL m (0:Nat)).length:Int) k).length-v7<(qa4 (↑(nL m (0:Nat)).length:Int) k).length-v3/\(True/\(↑v3:Int)+(1:Int)=(↑v7:Int)/\True)/\qo0 m (qa4 (↑(nL m (0:Nat)).length:Int) k) v3=qo0 m (qa4 (↑(nL m (0:Nat)).length:Int) k) v7/\True))/\(decide ((↑v3:Int)<(↑(qa4 (↑(nL m (0:Nat)).length:Int) k).length:Int))=false->qo0 m (qa4 (↑(nL m (0:Nat)).length:Int) k) v3=Q0.1/\(0:Int)=Q0.2/\True))) (by kernel_rfl) ?_
 try simp only[z0,z1,z2,z3,z4,z5,z6,z7,z8,z9,z10,Int.reduceEq,z11,z12,z13,z14,z15,z16,z17,z18,z19,z20,z21,z22,z23,z24,z25,z26,z27,z28,z29,z30,Int.reduceLE,Int.reduceLT,z31,z32,z33,z34,qa1]
 try simp only[qb3,qb4,qb9,z31,z32,z2,z1]
 refine⟨h.fit,λh1=>?_,λh1=>?_⟩
 ·unfold wy2; rw[if_neg h1]; exact⟨rfl,rfl⟩
 obtain⟨hv,n,rfl,hn⟩:=q07 h1
 have hM:=Mk.of hv
 have m1:=hM.rows1
 have m10:=hM.pix10
 have h7:=h.n7 hv
 have hL:=qt9 (nL m 0).length n m10 (by omega)
 have hR:wy2 m n=(qo0 m (qa4 (nL m 0).length (n:Nat)) (qa4 (nL m 0).length (n:Nat)).length,0):=by
  unfold wy2 xi1
  rw[if_pos h1,q8f _ _ _ (Nat.le_refl _),List.take_length]
 rw[hR]
 have hN:=λs (hs:s∈qa4 (nL m 0).length (n:Nat))=>(qo6 hs).1
 generalize qa4 (nL m 0).length (n:Nat)=L at *
 have hset:q26 20 (nL m 0).length n:=⟨by omega,by omega,by omega,by omega,by omega⟩
 refine⟨by omega,hset,(),0,Nat.zero_le _,⟨rfl,rfl⟩,λc hc=>⟨λhlt=>?_,λhge=>?_⟩⟩
 ·have hs2:=hN _ (qj4 L c hlt)
  have hsl:=hs2.len
  have hle:=q8g m L c
  have hst:qo0 m L (c+1)=if hlf (qp0 (qa9 m).1 (nL L c) (qa9 m).1.length)=true then qo0 m L c++[nL L c] else qo0 m L c:=rfl
  generalize nL L c=s at *
  have hE:ofE m s=0:=by
   unfold ofE w4h
   rw[if_neg (by rw[hv]; decide)]
   exact xt2 hs2
  have hQ:ofQ m s=qp0 (qa9 m).1 s (qa9 m).1.length:=if_pos hE
  have hB:xh8 m s=!hlf (qp0 (qa9 m).1 s (qa9 m).1.length):=by
   unfold xh8; rw[decide_eq_true hE,hQ]; rfl
  rw[hB]
  refine⟨hlt,⟨h,by omega⟩,λhf=>⟨by omega,qa5 (by omega) (by omega),c+1,hlt,by omega,by push_cast; rfl,?_⟩,λhf=>⟨qa5 (by omega) (by omega),c+1,hlt,by omega,by push_cast; rfl,?_⟩⟩
  ·rw[hst,if_pos (by simpa using hf)]
  ·rw[hst,if_neg (by simpa using hf)]
 ·obtain rfl:c=L.length:=by omega
  exact⟨rfl,rfl⟩
end Go.Proofs.YtempacilejhbgaaGreat
