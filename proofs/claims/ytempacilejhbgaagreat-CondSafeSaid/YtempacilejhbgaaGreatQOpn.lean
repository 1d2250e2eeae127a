/- Lengths of a slice of slices. No condition. -/
import Derived.Test.YtempacilejhbgaaGreatKMNum
import Derived.Test.YtempacilejhbgaaGreatZ1
import Derived.Test.YtempacilejhbgaaGreatRows
import Derived.Test.YtempacilejhbgaaGreatCore
import Derived.ProofKit
import Derived.OpenShut
import Derived.ShutString
import Derived.ChangeOld
import Derived.Below
import Derived.Deep.Matrix
import Derived.Test.YtempacilejhbgaaGreatV7
set_option linter.unusedVariables false
set_option linter.unusedSimpArgs false
namespace Go.Proofs.YtempacilejhbgaaGreat
open Go Go.RowKit Eng
structure xb7 (m:List (List Int)) (j:Nat):Prop where
 le:j<=(nL m 0).length
 ok:∀i,i<j->ccTo m i m.length=ccTo m 0 m.length
def alkF (m:List (List Int)) (j:Nat):Int:=if j=0 then 0 else(ccTo m 0 m.length:Int)
def ivAlk (m:List (List Int)):Nat->Option Inv
 | 0=>some (Inv.of [3,12] 0 (λj:Nat=>[(3,.lit (.int .i64 (alkF m j))),(12,.lit (.int .i64 j))]) (λ_=>[]) (λj=>xb7 m j) (λj=>(nL m 0).length-j))
 | 1=>some (Eng.Inv.mk Nat Nat [5,17] 0 (λj i=>[(5,.lit (.int .i64 (ccTo m j i))),(17,.lit (.int .i64 i))]) (λ_ _=>[]) (λj i=>i<=m.length) (λj i=>m.length-i))
 | _=>none
abbrev x7b:qb9:=qf6 true none [tMask] [.bool] (λx=>validB x.1=true) (λx=>(qx8 x.1,()))
theorem w5j:qd4 Tryz.prog 17 x7b:=by
 refine meets (snd (SpecsOk.nil _)) Tryz.func17 rfl rfl (λx=>ivAlk x.1) (λ_=>by kernel_rfl) (by decide) ?_
 rintro⟨m,⟨⟩⟩ h
 revert m
 intro(m:List (List Int)) (h:validB m=true)
 refine @qd7 _ (((0:Int)<=(0:Int)/\(0:Int)<(↑m.length:Int))/\∃(v0:Unit),∃(v1:Nat),xb7 m v1/\(((0:Int)=alkF m v1/\(0:Int)=(↑v1:Int)/\True)/\True)/\∀(v2:Nat),xb7 m v2->(decide ((↑v2:Int)<(↑(nL m (0:Nat)).length:Int))=true->∃(v5:Nat),∃(v6:Nat),Nat.le v6 m.length/\(((0:Int)=(↑(ccTo m v5 v6):Int)/\(0:Int)=(↑v6:Int)/\True)/\True)/\∀(v7:Nat),Nat.le v7 m.length->(decide ((↑v7:Int)<(↑m.length:Int))=true->((0:Int)<=(↑v7:Int)/\(↑v7:Int)<(↑m.length:Int))/\((0:Int)<=(↑v2:Int)/\(↑v2:Int)<(↑(nL m v7).length:Int))/\((nI (nL m v7) v2 != (0:Int))=true->fits .i64 ((↑(ccTo m v5 v7):Int)+(1:Int))/\fits .i64 ((↑v7:Int)+(1:Int))/\∃(v11:Nat),Nat.le v11 m.length/\m.length-v11<m.length-v7/\((↑(ccTo m v5 v7):Int)+(1:Int)=(↑(ccTo m v5 v11):Int)/\(↑v7:Int)+(1:Int)=(↑v11:Int)/\True)/\True)/\((nI (nL m v7) v2 != (0:Int))=false->fits .i64 ((↑v7:Int)+(1:Int))/\∃(v11:Nat),Nat.le v11 m.length/\m.length-v11<m.length-v7/\((↑(ccTo m v5 v7):Int)=(↑(ccTo m v5 v11):Int)/\(↑v7:Int)+(1:Int)=(↑v11:Int)/\True)/\True))/\(decide ((↑v7:Int)<(↑m.length:Int))=false->(((↑v2:Int)==(0:Int))=true->(((↑(ccTo m v5 v7):Int) != (↑(ccTo m v5 v7):Int))=true->false=qx8 m)/\(((↑(ccTo m v5 v7):Int) != (↑(ccTo m v5 v7):Int))=false->fits .i64 ((↑v2:Int)+(1:Int))/\∃(v12:Nat),xb7 m v12/\(nL m (0:Nat)).length-v12<(nL m (0:Nat)).length-v2/\((↑(ccTo m v5 v7):Int)=alkF m v12/\(↑v2:Int)+(1:Int)=(↑v12:Int)/\True)/\True))/\(((↑v2:Int)==(0:Int))=false->(((↑(ccTo m v5 v7):Int) != alkF m v2)=true->false=qx8 m)/\(((↑(ccTo m v5 v7):Int) != alkF m v2)=false->fits .i64 ((↑v2:Int)+(1:Int))/\∃(v12:Nat),xb7 m v12/\(nL m (0:Nat)).length-v12<(nL m (0:Nat)).length-v2/\(alkF m v2=alkF m v12/\(↑v2:Int)+(1:Int)=(↑v12:Int)/\True)/\True))))/\(decide ((↑v2:Int)<(↑(nL m (0:Nat)).length:Int))=false->true=qx8 m)) (by kernel_rfl) ?_
 try simp only[z0,z1,z2,z3,z4,z5,z6,z7,z8,z9,z10,Int.reduceEq,z11,z12,z13,z14,z15,z16,z17,z18,z19,z20,z21,z22,z23,z24,z25,z26,z27,z28,z29,z30,Int.reduceLE,Int.reduceLT,z31,z32,z33,z34,qa1]
 try simp only[qb3,qb4,qc0,z31,z32,z2,z1]
 have hM:=Mk.of h
 have m1:=hM.rows1
 have m6:=hM.rows6
 have m10:=hM.pix10
 have bad:∀j,j<(nL m 0).length->¬ccTo m j m.length=ccTo m 0 m.length->false=qx8 m:=λj hj q=>by
  have:qx8 m=false:=by
   unfold qx8
   rw[List.all_eq_false]
   exact⟨j,List.mem_range.2 hj,by simpa using q⟩
  exact this.symm
 refine⟨by omega,(),0,⟨Nat.zero_le _,λi hi=>by omega⟩,⟨rfl,rfl⟩,λj hj=>⟨λhlt=>?_,λhge=>?_⟩⟩
 ·refine⟨j,0,Nat.zero_le _,⟨rfl,rfl⟩,λi hi=>⟨λhil=>?_,λhig=>?_⟩⟩
  ·have hle:=xb1 m j i
   refine⟨hil,by rw[hM.each i hil]; exact hlt,λhn=>⟨qa4 (by omega) (by omega),qa4 (by omega) (by omega),i+1,hil,by omega,?_,by push_cast; rfl⟩,λhn=>⟨qa4 (by omega) (by omega),i+1,hil,by omega,?_,by push_cast; rfl⟩⟩
   ·rw[ccTo,if_pos hn]; push_cast; rfl
   ·rw[ccTo,if_neg λq=>q hn]
  ·obtain rfl:i=m.length:=by omega
   refine⟨λh0=>⟨λq=>absurd trivial q,qa4 (by omega) (by omega),j+1,⟨hlt,λi hi=>?_⟩,by omega,?_,by push_cast; rfl⟩,λh0=>⟨λhn=>bad j hlt ?_,λhe=>⟨qa4 (by omega) (by omega),j+1,⟨hlt,λi hi=>?_⟩,by omega,?_,by push_cast; rfl⟩⟩⟩
   ·have:i=0:=by omega
    rw[this]
   ·have:j=0:=by omega
    rw[this]; rfl
   ·intro q
    refine hn ?_
    unfold alkF
    rw[if_neg (by omega),q]
   ·unfold alkF at he
    rw[if_neg (by omega)] at he
    by_cases e:i=j
    ·rw[e]; exact Int.ofNat.inj he
    ·exact hj.ok i (by omega)
   ·unfold alkF
    rw[if_neg (by omega),if_neg (by omega)]
 ·obtain rfl:j=(nL m 0).length:=by have:=hj.le; omega
  have:qx8 m=true:=by
   unfold qx8
   rw[List.all_eq_true]
   exact λi hi=>decide_eq_true (hj.ok i (List.mem_range.1 hi))
  exact this.symm
theorem xb8 {m:List (List Int)} (h:wu3 m):(validB m=false/\qk8 m=([],1))\/(validB m=true/\(qc8 m).1=[]/\qk8 m=([],8))\/(validB m=true/\0<(qc8 m).1.length/\qk8 m=(nL (qc8 m).1 0,0)):=by
 have e:=w9p h.n7
 cases hv:validB m with
 | false=>
  have e1:qc8 m=([],1):=by simp[qc8,hv]
  refine .inl ⟨rfl,?_⟩
  unfold qk8
  rw[e,e1,if_pos (by decide)]
 | true=>
  have e1:(qc8 m).2=0:=by simp[qc8,hv]
  by_cases q:(qc8 m).1=[]
  ·refine .inr (.inl ⟨rfl,q,?_⟩)
   unfold qk8
   rw[e,if_neg (λz=>z e1),if_pos q]
  ·refine .inr (.inr ⟨rfl,List.length_pos_iff.2 q,?_⟩)
   unfold qk8
   rw[e,if_neg (λz=>z e1),if_neg q]
theorem x7c {m:List (List Int)} (h:wu3 m):x2t m:=by
 refine⟨xr3 h.fit h.n7,?_⟩
 rcases xb8 h with⟨_,e⟩ | ⟨_,_,e⟩ | ⟨hv,hl,e⟩
 ·rw[e]; exact Nat.zero_le _
 ·rw[e]; exact Nat.zero_le _
 ·rw[e]
  obtain⟨s,hc⟩:=qs2 hv (h.n7 hv) hl
  have:=hc.len
  have:=h.n7 hv
  show(nL (qc8 m).1 0).length<=1000
  omega
theorem w0n {m:List (List Int)} (h:wu3 m):(validB m=false/\qi7 m=(0,1))\/(validB m=true/\(qc8 m).1=[]/\qi7 m=(0,8))\/(validB m=true/\∃s,0<(qc8 m).1.length/\w45 m s (nL (qc8 m).1 0)/\qi7 m=(((s.length:Nat):Int),0)):=by
 rcases xb8 h with⟨hv,e⟩ | ⟨hv,hl,e⟩ | ⟨hv,hl,e⟩
 ·refine .inl ⟨hv,?_⟩
  unfold qi7
  rw[e,if_pos (by decide)]
 ·refine .inr (.inl ⟨hv,hl,?_⟩)
  unfold qi7
  rw[e,if_pos (by decide)]
 ·obtain⟨s,hc⟩:=qs2 hv (h.n7 hv) hl
  refine .inr (.inr ⟨hv,s,hl,hc,?_⟩)
  unfold qi7
  rw[e,if_neg λq=>q rfl]
  show((wh5 (nL (qc8 m).1 0) (nL (qc8 m).1 0).length:Int),(0:Int))=_
  rw[w2u,hc.len,hc.nz]
theorem x7d {m:List (List Int)} (h:wu3 m):Sr4 m:=by
 refine⟨x7c h,?_,λh8=>?_⟩
 ·rcases w0n h with⟨_,e⟩ | ⟨_,_,e⟩ | ⟨hv,s,_,hc,e⟩
  ·rw[e]; unfold qf0; decide
  ·rw[e]; unfold qf0; decide
  ·rw[e]
   have:=hc.nam.len
   have:=h.n7 hv
   unfold qf0
   dsimp only
   omega
 ·rcases w0n h with⟨_,e⟩ | ⟨hv,_,e⟩ | ⟨hv,s,_,hc,e⟩
  ·rw[e] at h8; cases h8
  ·have:=(Mk.of hv).rows1; omega
  ·rw[e] at h8; cases h8
theorem xo0 {m:List (List Int)} (h:wu3 m) (hv:validB m=true):(qu4 m).2=0/\((ordL m:Nat):Int)<=(qu4 m).1:=by
 rcases w0n h with⟨q,_⟩ | ⟨_,_,e⟩ | ⟨_,s,hl,hc,e⟩
 ·rw[hv] at q; cases q
 ·have:=x3l m
  unfold qu4
  rw[e,if_pos rfl]
  exact⟨rfl,by dsimp only; omega⟩
 ·have:=xn6 hv (h.n7 hv) hl hc
  unfold qu4
  rw[e,if_neg (show ¬((0:Int)=8) by decide),if_neg (λq=>q rfl)]
  refine⟨rfl,?_⟩
  dsimp only
  rw[Int.tdiv_eq_ediv_of_nonneg (by omega)]
  omega
abbrev x7e:qb9:=qf6 true none [tMask,tInts] [.bool] (λx=>w7u x.1/\x.2.1.length<=9223372036854775807) (λ_=>(true,()))
theorem q8r:qd4 Tryz.prog 3 x7e:=by
 refine meets (snd (SpecsOk.cons w4z (SpecsOk.cons w9z (SpecsOk.cons w90 (SpecsOk.cons w49 (SpecsOk.cons q7q (SpecsOk.cons w5a (SpecsOk.cons w0l (SpecsOk.cons w5i (SpecsOk.cons w5j (SpecsOk.nil _))))))))))) Tryz.func3 rfl rfl (λ_ _=>none) (λ_=>by kernel_rfl) (by decide) ?_
 rintro⟨m,p,⟨⟩⟩ hh
 revert m p
 intro(m:List (List Int)) (p:List Int) (hh:w7u m/\p.length<=9223372036854775807)
 refine @qd7 _ (let Q0:=qu4 m; let Q1:=!qx8 m; m.length<=(9223372036854775807:Nat)/\((!w5n m)=true->True/\true=true)/\((!w5n m)=false->(decide ((20:Int)<(↑p.length:Int))=true->True/\true=true)/\(decide ((20:Int)<(↑p.length:Int))=false->SafPre m p/\SafPre m p/\w5m m/\wu3 m/\((wu4 m p != wu4 m p)=true->false=true)/\((wu4 m p != wu4 m p)=false->((ofE m p != ofE m p)=true->false=true)/\((ofE m p != ofE m p)=false->(((qs0 m).1 != (qs0 m).1)=true->false=true)/\(((qs0 m).1 != (qs0 m).1)=false->(((qs0 m).2 != (qs0 m).2)=true->false=true)/\(((qs0 m).2 != (qs0 m).2)=false->(((qs0 m).2 != (0:Int))=true->True/\true=true)/\(((qs0 m).2 != (0:Int))=false->((ofE m p==(0:Int))=true->(decide ((↑p.length:Int)<=(qs0 m).1)=true->((!wu4 m p)=true->false=true)/\((!wu4 m p)=false->Sr4 m/\((Q0.2 != (0:Int))=true->false=true)/\((Q0.2 != (0:Int))=false->(decide (Q0.1<(qs0 m).1)=true->false=true)/\(decide (Q0.1<(qs0 m).1)=false->True/\((wu0 m != (0:Int))=true->True/\true=true)/\((wu0 m != (0:Int))=false->validB m=true/\(Q1=true->True/\true=true)/\(Q1=false->(decide (wj4 m<=(qs0 m).1)=true->True/\true=true)/\(decide (wj4 m<=(qs0 m).1)=false->false=true)))))))/\(decide ((↑p.length:Int)<=(qs0 m).1)=false->Sr4 m/\((Q0.2 != (0:Int))=true->false=true)/\((Q0.2 != (0:Int))=false->(decide (Q0.1<(qs0 m).1)=true->false=true)/\(decide (Q0.1<(qs0 m).1)=false->True/\((wu0 m != (0:Int))=true->True/\true=true)/\((wu0 m != (0:Int))=false->validB m=true/\(Q1=true->True/\true=true)/\(Q1=false->(decide (wj4 m<=(qs0 m).1)=true->True/\true=true)/\(decide (wj4 m<=(qs0 m).1)=false->false=true)))))))/\((ofE m p==(0:Int))=false->Sr4 m/\((Q0.2 != (0:Int))=true->false=true)/\((Q0.2 != (0:Int))=false->(decide (Q0.1<(qs0 m).1)=true->false=true)/\(decide (Q0.1<(qs0 m).1)=false->True/\((wu0 m != (0:Int))=true->True/\true=true)/\((wu0 m != (0:Int))=false->validB m=true/\(Q1=true->True/\true=true)/\(Q1=false->(decide (wj4 m<=(qs0 m).1)=true->True/\true=true)/\(decide (wj4 m<=(qs0 m).1)=false->false=true)))))))))))))) (by kernel_rfl) ?_
 try simp only[z0,z1,z2,z3,z4,z5,z6,z7,z8,z9,z10,Int.reduceEq,z11,z12,z13,z14,z15,z16,z17,z18,z19,z20,z21,z22,z23,z24,z25,z26,z27,z28,z29,z30,Int.reduceLE,Int.reduceLT,z31,z32,z33,z34,qa1]
 try simp only[qb3,qb4,qc0,z31,z32,z2,z1]
 refine⟨hh.1.rows,λh6 hp=>?_⟩
 have h7:validB m=true->(nL m 0).length<=7:=λhv=>xz1 h6 hv
 have hF:wu3 m:=⟨hh.1,h7⟩
 have hS:SafPre m p:=⟨hF,by omega⟩
 have tr:(¬True->false=true):=λq=>absurd trivial q
 refine⟨hS,hS,xm2 h7,hF,tr,tr,tr,tr,λhg=>?_⟩
 have hv:validB m=true:=by
  cases e:validB m with
  | true=>rfl
  | false=>unfold qs0 at hg; rw[e] at hg; cases hg
 have hr:qs0 m=(((ordL m:Nat):Int),0):=if_pos hv
 rw[hr]
 dsimp only
 obtain⟨s1,s2⟩:=xo0 hF hv
 have rest:Sr4 m/\(¬(qu4 m).2=0->false=true)/\((qu4 m).2=0->((qu4 m).1<((ordL m:Nat):Int)->false=true)/\(((ordL m:Nat):Int)<=(qu4 m).1->wu0 m=0->validB m=true/\(qx8 m=true->((ordL m:Nat):Int)<wj4 m->false=true))):=
  ⟨x7d hF,λq=>absurd s1 q,λ_=>⟨λq=>absurd s2 (Int.not_le.2 q),λ_ hb=>⟨hv,λha q=>absurd (xb4 h7 hb ha) (Int.not_le.2 q)⟩⟩⟩
 refine⟨λhe=>⟨λhle=>⟨λhs=>?_,λ_=>rest⟩,λ_=>rest⟩,λ_=>rest⟩
 have hN:=q8c hv he
 have:=xz8 hv (h7 hv) hN (by omega)
 have hq:ofQ m p=qq7 (qc8 m).1 p (qc8 m).1.length:=if_pos he
 unfold wu4 at hs
 rw[decide_eq_true he,hq,this] at hs
 exact hs.symm
open Go.ChangeShapes Go.WideShapes Go.ChangeAt Go.RowKit Go.Deep Ls
theorem own:ownKnob Tryz.prog.godebug=none:=by kernel_rfl
theorem laidOut:laidOutB Tryz.prog=true:=by kernel_rfl
theorem x7g {H:Type} {enc:TypeId × Value->H} {W:World} {t e:TypeId} {v:Value} {d:DataW H} {p:List MemPlace} (ht:Tryz.prog.underlying t=some (.slice e)) (he:Tryz.prog.underlying e=some (.int .i64)) (ce:Tryz.prog.cellsOf e=1)
  (hv:∃a l c,v=.slice a l c) (h:DataW.Trod enc Tryz.prog W 0 (λ_=>true) true t v d p):∃a l c zs,v=.slice a l c/\SI W a l c zs:=by
 obtain⟨a,l,c,rfl⟩:=hv
 obtain⟨fuel,hf⟩:=h
 rcases open_ints ht he ce hf with⟨hcs,_⟩ | ⟨x,l',c',zs,hcs,_,hl,hm,hz,_,hcell,hwz⟩
 ·simp[Value.cells] at hcs
  obtain⟨rfl,rfl,rfl⟩:=hcs
  exact⟨_,_,_,[],rfl,SI.nil W⟩
 ·simp[Value.cells] at hcs
  obtain⟨rfl,rfl,rfl⟩:=hcs
  have hz':zs.length=c:=by simpa using hz
  refine⟨_,_,_,zs.take l,rfl,by simp; omega,hl,hm,λ_=>⟨x,rfl,λk hk=>?_⟩⟩
  rw[hcell k (by omega)]
  simp[nth,hk]
theorem x7h {H:Type} {enc:TypeId × Value->H} {W:World} {t e q:TypeId} {v:Value} {d:DataW H} {p:List MemPlace} (ht:Tryz.prog.underlying t=some (.slice e)) (he:Tryz.prog.underlying e=some (.slice q)) (hq:Tryz.prog.underlying q=some (.int .i64))
  (ce:Tryz.prog.cellsOf e=1) (cq:Tryz.prog.cellsOf q=1)
  (hv:∃a l c,v=.slice a l c) (h:DataW.Trod enc Tryz.prog W 0 (λ_=>true) true t v d p):∃a l c m,v=.slice a l c/\SM W a l c m:=by
 obtain⟨a,l,c,rfl⟩:=hv
 obtain⟨fuel,hf⟩:=h
 rcases open_int_rows ht he hq ce cq hf with⟨hcs,_⟩ | ⟨x,l',c',A,L,C,Z,hcs,_,hl,hm,_,hr⟩
 ·simp[Value.cells] at hcs
  obtain⟨rfl,rfl,rfl⟩:=hcs
  exact⟨_,_,_,[],rfl,SM.nil W⟩
 ·simp[Value.cells] at hcs
  obtain⟨rfl,rfl,rfl⟩:=hcs
  refine⟨_,_,_,(List.range l).map (λr=>(Z r).take (L r)),rfl,by simp,hl,hm,λ_=>⟨x,rfl,λk hk=>?_⟩⟩
  obtain⟨h1,h2,h3,h4,_,h6,h7⟩:=hr k (by omega)
  have e0:nthL ((List.range l).map (λr=>(Z r).take (L r))) k=(Z k).take (L k):=by simp[nthL,hk]
  have e1:((Z k).take (L k)).length=L k:=by simp; omega
  rw[e0,e1]
  refine⟨A k,C k,h1,e1,h2,h3,λhp=>?_⟩
  cases hA:A k with
  | none=>have:=h6 hA; omega
  | some a'=>
   refine⟨a',rfl,λj hj=>?_⟩
   rw[(h7 a' hA).2 j (by omega)]
   simp[nth,hj]
end Go.Proofs.YtempacilejhbgaaGreat
set_option linter.unusedVariables false
namespace Go.Proofs.YtempacilejhbgaaGreat
open Go Go.RowKit Eng Ls
theorem x0f {w:World} {A:Option Addr} {n c:Nat} {m:List (List Int)} (s:SM w A n c m):w7u m:=by
 have hl:=s.len
 have hn:=s.nmax
 refine⟨by omega,λi hi=>?_⟩
 obtain⟨ad,_,h⟩:=s.at_ (by omega)
 obtain⟨A',c',_,h2⟩:=h i (by omega)
 have e:nL m i=nthL m i:=by
  rw[ql6 m i hi]
  unfold nthL
  rw[List.getD_eq_getElem?_getD,List.getElem?_eq_getElem hi]
  rfl
 rw[e]
 exact h2.nmax
theorem x0g {w:World} {A:Option Addr} {n c:Nat} {l:List Int} (s:SI w A n c l):l.length<=9223372036854775807:=by
 have:=s.nmax
 have:=s.len
 omega
end Go.Proofs.YtempacilejhbgaaGreat
