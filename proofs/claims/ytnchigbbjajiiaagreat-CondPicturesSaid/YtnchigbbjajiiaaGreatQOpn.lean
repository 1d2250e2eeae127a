/- Lengths of a slice of slices. No condition. -/
import Derived.Test.YtnchigbbjajiiaaGreatR11
import Derived.Test.YtnchigbbjajiiaaGreatQ1
import Derived.Test.YtnchigbbjajiiaaGreatR14
import Derived.Test.YtnchigbbjajiiaaGreatRows
import Derived.Test.YtnchigbbjajiiaaGreatCore
import Derived.ProofKit
import Derived.OpenShut
import Derived.ShutString
import Derived.ChangeOld
import Derived.Below
import Derived.Deep.Matrix
import Derived.Test.YtnchigbbjajiiaaGreatV7
set_option linter.unusedVariables false
set_option linter.unusedSimpArgs false
namespace Go.Proofs.YtnchigbbjajiiaaGreat
open Go Go.RowKit Eng
theorem x6o {m:List (List Int)} {x:List Int} (hf:q6g m) (h7:validB m=true->(nL m 0).length<=7) (hx:x.length<=1000):wg1 m x:=by
 refine⟨⟨hf,ow⟩,λhe hr=>?_⟩
 have hM:=x5k hr
 have hS:=Shw.of he
 have hn:=h7 hS.val
 have ha:=x5j (y:=qd4 m x) hf hM hn
 obtain⟨g1,g2⟩:=w5l (y:=qd4 m x) hM hn
 have m10:=hM.pix10
 have m1:=hM.rows1
 refine⟨⟨⟨⟨hf,λ_=>ha⟩,λ_ f hf=>?_⟩,λh0=>?_⟩,λh0 h1=>?_⟩
 ·rw[w5k hM hn] at hf
  exact⟨(w0e hf).2.1,(w0e hf).2.2.1⟩
 ·have e:(q90 m (qd4 m x)).1=w17 (q5n m (qd4 m x)):=by
   unfold q90 at h0 ⊢
   grind
  rw[e]
  have:=(qz8 (q5n m (qd4 m x)) _ (zab _)).1
  have:=w4m ha
  refine⟨by grind [w17],λf hf=>?_⟩
  obtain⟨_,_,_,pix,k1,rfl⟩:=w0e (g1.least f hf).1
  have hI:=qw1 k1
  have hN:=(Asked.of hI.chk).nam
  rw[show(qj4 m (qd4 m x) pix).1.1=pix from hI.fst]
  exact⟨ow,ow,by rw[hI.len]; simp,by have:=hI.rows; have:=hM.rows6; omega,λk hk=>by have:=hN.at_ k hk; omega⟩
 ·have h2:(q90 m (qd4 m x)).2=0:=zaf λq=>q (by simp_all [q40,if_pos])
  unfold q40 at h1 ⊢
  rw[zak (λq=>q h2)] at h1 ⊢
  dsimp only at h1 ⊢
  cases hC:(q90 m (qd4 m x)).1 with
  | nil=>grind
  | cons f l=>
   show(spF m f).length<=_
   unfold spF
   rw[q2p,hS.len]; simp
theorem x1o {m:List (List Int)} {x:List Int} (hM:Mk m) (hl:x.length=(nL m 0).length) {f:Fit} (hf:f∈q1w m (qd4 m x) 10):x50 [spF m f] x=true↔f=wo8 m x:=by
 obtain⟨h1,_,_,pix,k1,rfl⟩:=w0e hf
 have hI:=qw1 k1
 have hN:=(Asked.of hI.chk).nam
 obtain⟨n1,n2⟩:=qh7 (nI x) (nL m 0).length
 have n4:=qt3 (nI x) (nL m 0).length
 have hsp:spF m (qj4 m (qd4 m x) pix).1=wa1 (nL m 0).length pix (qj4 m (qd4 m x) pix).1.2 pix.length:=by unfold spF; rw[hI.fst]
 have hB:x50 [spF m (qj4 m (qd4 m x) pix).1] x=true↔∀c,c<(nL m 0).length->nR (spF m (qj4 m (qd4 m x) pix).1) c=(nI x c,1):=by
  unfold x50
  rw[zar]
  have e:w8j [spF m (qj4 m (qd4 m x) pix).1]=spF m (qj4 m (qd4 m x) pix).1:=rfl
  rw[e,show(spF m (qj4 m (qd4 m x) pix).1).length=(nL m 0).length by rw[hsp,q2p]]
  simp
 rw[hB,hsp]
 constructor
 ·intro h
  have hv:∀j,j<pix.length->nR (qj4 m (qd4 m x) pix).1.2 j=(nI x (nI pix j).toNat,1):=λj hj=>by
   have hp:=hN.at_ j hj
   rw[<- w14 hN (v:=(qj4 m (qd4 m x) pix).1.2) _ (zab _) j hj]
   grind
  have hz:∀c,c<(nL m 0).length->(∀j,j<pix.length->nI pix j≠(c:Int))->nI x c=0:=λc hc hno=>by
   have:=xk6 hN (v:=(qj4 m (qd4 m x) pix).1.2) hc hno _ (zab _)
   grind
  have hpix:pix=qr5 (nL m 0).length (nI x):=xp6 hN n1 λc hc=>by
   constructor
   ·rintro⟨j,hj,e⟩
    refine n4 c hc λq=>?_
    have:=(h1.each j (by rw[hI.len]; omega)).1
    grind
   grind
  refine Prod.ext (hI.fst.trans hpix) ?_
  show _=(qr5 (nL m 0).length (nI x)).map _
  rw[<- hpix]
  refine zbb (by rw[hI.len,za8]) λi h2 h3=>?_
  grind [q6l,qf1]
 ·intro e c hc
  have e1:pix=qr5 (nL m 0).length (nI x):=hI.fst.symm.trans (zbi Prod.fst e)
  have e2:(qj4 m (qd4 m x) pix).1.2=pix.map λj=>(nI x j.toNat,1):=by rw[e]; show(qr5 _ _).map _=_; grind
  by_cases q:∃j,j<pix.length/\nI pix j=(c:Int)
  ·obtain⟨j,hj,w⟩:=q
   have:=w14 hN (v:=(qj4 m (qd4 m x) pix).1.2) _ (zab _) j hj
   grind [Int.toNat_natCast,q6l,qf1]
  ·rw[xk6 hN hc (λj hj w=>q ⟨j,hj,w⟩) _ (zab _)]
   grind
theorem xq5 (m:List (List Int)) (x:List Int):agI m x<0↔∀h∈(qf2 m).1,agB h x=false:=by
 have h1:=q2f (.list (.int .i64)) (λh=>agB h x) (qf2 m).1
 have h2:(agI m x<0)↔(decide (0<=ixT (.list (.int .i64)) (λh=>agB h x) (qf2 m).1)=false):=by
  rw[decide_eq_false_iff_not,zc8]; rfl
 grind
theorem yd6 (m:List (List Int)) (x:List Int):qr6 m x≠8:=by
 grind [qr6,w38]
def q68 (m:List (List Int)) (x:List Int):Bool:=decide (qr6 m x=0) && decide (agI m x<0)
theorem x1p {m:List (List Int)} {x:List Int} (h7:validB m=true->(nL m 0).length<=7) (he:qr6 m x=0) (h0:(w18 m x).2=0):(w18 m x).1=q68 m x:=by
 have hS:=Shw.of he
 have hM:=hS.msk
 have hn:=h7 hS.val
 have hs:q68 m x=decide (agI m x<0):=by grind [q68,decide_eq_true]
 have hR:w18 m x=if qn5 m (qd4 m x)≠0 then(false,10) else if(q40 m (qd4 m x)).2≠0\/(q40 m (qd4 m x)).1.length≠1 then(false,(q40 m (qd4 m x)).2) else(x50 (q40 m (qd4 m x)).1 x,0):=by simp_all [w18,if_neg]
 rw[hR] at h0 ⊢
 by_cases hr:qn5 m (qd4 m x)=0
 case neg=>grind
 rw[zak (λq=>q hr)] at h0 ⊢
 obtain⟨g1,g2⟩:=w5l (y:=qd4 m x) hM hn
 have hsf:=w8e hS.val hn hS.len (by grind [x5l]) g1 g2
 have hC:(q90 m (qd4 m x))=if w17 (q5n m (qd4 m x))=[] then([],10) else(w17 (q5n m (qd4 m x)),0):=by simp_all [q90,if_neg]
 by_cases hz:w17 (q5n m (qd4 m x))=[]
 ·simp_all [if_pos,q40,qd4,absurd]
 rw[zak hz] at hC
 have hK:q40 m (qd4 m x)=((w17 (q5n m (qd4 m x))).map (spF m),0):=by unfold q40; grind
 rw[hK,hs]
 dsimp only
 rw[za8]
 have e:decide (agI m x<0)=decide (w17 (q5n m (qd4 m x))=[wo8 m x]):=decide_eq_decide.2 ((xq5 m x).trans hsf.symm)
 rw[e]
 by_cases h1:(w17 (q5n m (qd4 m x))).length=1
 ·rw[zak ow]
  obtain⟨f,hf⟩:=zc5.1 h1
  have hm:f∈q1w m (qd4 m x) 10:=(g1.least f (by grind)).1
  rw[hf]
  show x50 [spF m f] x=_
  rw[Bool.eq_iff_iff,x1o hM hS.len hm,zbf]
  simp
 grind
theorem x1q {m:List (List Int)} {x:List Int} (hF:x61 m) (he:qr6 m x=0) (hk:q2l x x.length<=ordL m):q68 m x=true:=by
 have hS:=Shw.of he
 have hn:=hF.n7 hS.val
 have hs:q68 m x=decide (agI m x<0):=by grind [q68,decide_eq_true]
 rw[hs]
 refine zc9 ((xq5 m x).2 λh hh=>?_)
 obtain⟨n1,n2⟩:=qh7 (nI x) (nL m 0).length
 have n4:=qt3 (nI x) (nL m 0).length
 have hlen:(qr5 (nL m 0).length (nI x)).length<=ordL m:=by rw[q4r,<- w40,<- hS.len]; omega
 have hsafe:=x6f hS.val hn n1 hlen
 have hO:yf0 (qf2 m).1 (qr5 (nL m 0).length (nI x)):=⟨q4u hS.val,λi hi=>by
  obtain⟨s,hc⟩:=q2x hS.val hn hi
  exact w2j hS.val hc n1⟩
 obtain⟨i,hi,rfl⟩:=zaz hh
 obtain⟨s,hc⟩:=q2x hS.val hn hi
 rw[qm3 _ i hi] at hc
 have hsh:=w2j hS.val hc n1
 have hge:=(wo0 hO _ (zab _)).1 i hi
 rw[qm3 _ i hi] at hge
 have hq:=xo1 (wg7 hsh).pos (x2x hS.val hn n1).pos hge hsafe
 rw[xo9 hsh,decide_eq_false_iff_not] at hq
 have hin:=yd5 (qf2 m).1[i] (P:=qr5 (nL m 0).length (nI x)) (by rw[hc.len]; omega)
 generalize(qf2 m).1[i]=h at *
 have hmem:∀c,c<h.length->((c:Int)∈qr5 (nL m 0).length (nI x)↔nI x c≠0):=λc hcl=>by
  rw[xp3]
  constructor
  ·grind
  ·exact λq=>n4 c (by rw[<- hc.len]; omega) q
 have hsum:∀k,k<=h.length->qd6 (qw2 h x k)<=(sm k λc=>if(c:Int)∈qr5 (nL m 0).length (nI x) then qd6 (nI h c) else 0)/\qj8 h x k+(sm k λc=>if(c:Int)∈qr5 (nL m 0).length (nI x) then qd6 (nI h c) else 0)=q91 h k:=λk=>by
  induction k with
  | zero=>exact λ_=>⟨zcr 0,rfl⟩
  | succ k ih=>
   intro hk2
   obtain⟨a1,a2⟩:=ih ow
   have hmk:=hmem k ow
   rw[qw2,qj8,q91,sm]
   unfold qd6 at *
   grind
 obtain⟨s1,s2⟩:=hsum h.length (zab _)
 rw[<- hin] at s1 s2
 unfold agB
 refine zeu ?_
 have e:szL h=q91 h h.length:=rfl
 omega
theorem AgPre.agC {m:List (List Int)} {x:List Int} (h:AgPre m x) (he:qr6 m x=0):(agI m x<0->Go.Proofs.YtnchigbbjajiiaaGreat.agC m x=[])/\(¬agI m x<0->0<(Go.Proofs.YtnchigbbjajiiaaGreat.agC m x).length):=by
 refine⟨λq=>zao q,λq=>?_⟩
 have hlt:=(wu0 (.list (.int .i64)) (λh=>agB h x) (qf2 m).1).1
 have e:Go.Proofs.YtnchigbbjajiiaaGreat.agC m x=nL (qf2 m).1 (agI m x).toNat:=zak q
 rw[e]
 refine((h.ag he).2.2 _ ?_).2
 have:agI m x=ixT (.list (.int .i64)) (λh=>agB h x) (qf2 m).1:=rfl
 omega
abbrev yu6:qb3:=qe8 true none [tMask,tInts] [.bool,tInt] (λx=>AgPre x.1 x.2.1) (λx=>(q68 x.1 x.2.1,qr6 x.1 x.2.1,()))
theorem xq6:Meets Tryz.prog 20 yu6:=by
 refine mt0 (SpecsOk.cons wz9 (SpecsOk.nil _)) Tryz.func20 ?_
 rintro⟨m,x,⟨⟩⟩ h
 revert m x
 intro(m:List (List Int)) (x:List Int) (h:AgPre m x)
 refine vcs (AgPre m x/\(((w2l m x).2==(8:Int))=true->true=q68 m x/\(0:Int)=qr6 m x/\True)/\(((w2l m x).2==(8:Int))=false->false=q68 m x/\(w2l m x).2=qr6 m x/\True)) ?_
 have h8:=yd6 m x
 unfold q68 w2l
 grind
theorem w8f:Meets Tryz.prog 21 yu6:=by
 refine mt0 (SpecsOk.cons wg9 (SpecsOk.cons w0a (SpecsOk.nil _))) Tryz.func21 ?_
 rintro⟨m,x,⟨⟩⟩ h
 revert m x
 intro(m:List (List Int)) (x:List Int) (h:AgPre m x)
 refine vcs (AgPre m x/\((qr6 m x != (0:Int))=true->false=q68 m x/\qr6 m x=qr6 m x/\True)/\((qr6 m x != (0:Int))=false->(AgPre m x/\qr6 m x=(0:Int))/\List.isEmpty (agC m x)=q68 m x/\(0:Int)=qr6 m x/\True)) ?_
 unfold q68
 refine⟨h,λhe=>by grind,λhe=>⟨⟨h,he⟩,?_,he.symm⟩⟩
 obtain⟨q1,q2⟩:=h.agC he
 grind
theorem w8g:Meets Tryz.prog 23 yu5:=by
 refine mt0 (SpecsOk.cons wg9 (SpecsOk.cons w0a (SpecsOk.nil _))) Tryz.func23 ?_
 rintro⟨m,x,⟨⟩⟩ h
 revert m x
 intro(m:List (List Int)) (x:List Int) (h:AgPre m x)
 refine vcs (let Q0:=w2l m x; AgPre m x/\((qr6 m x != (0:Int))=true->Q0.1=[]/\qr6 m x=Q0.2/\True)/\((qr6 m x != (0:Int))=false->(AgPre m x/\qr6 m x=(0:Int))/\(List.isEmpty (agC m x)=true->Q0.1=[]/\(8:Int)=Q0.2/\True)/\(List.isEmpty (agC m x)=false->agC m x=Q0.1/\(0:Int)=Q0.2/\True))) ?_
 have hR:w2l m x=if qr6 m x=0 then if agI m x<0 then([],8) else(nL (qf2 m).1 (agI m x).toNat,0) else([],qr6 m x):=rfl
 rw[hR]
 refine⟨h,λhe=>by grind,λhe=>?_⟩
 obtain⟨q1,q2⟩:=h.agC he
 rw[zao he]
 refine⟨⟨h,he⟩,λhn=>?_,λhn=>?_⟩
 ·grind
 ·have:¬agI m x<0:=λq=>by grind
  rw[zak this]
  exact⟨zak this,rfl⟩
def yd7 (x:List Int):Nat->Option Inv
 | 0=>some (Inv.of [15,89] 0 (λk:Nat=>[(15,.lit (.int .i64 (q2l x k))),(89,.lit (.int .i64 k))]) (λ_=>[]) (λk=>k<=x.length) (λk=>x.length-k))
 | _=>none
abbrev yq9:qb3:=qe8 true none [tMask,tInts] [.bool] (λx=>q6g x.1/\x.2.1.length<=9223372036854775807) (λ_=>(true,()))
theorem q4w:Meets Tryz.prog 4 yq9:=by
 refine mts (SpecsOk.cons w76 (SpecsOk.cons xo3 (SpecsOk.cons xq6 (SpecsOk.cons w8f (SpecsOk.cons wz9 (SpecsOk.cons w8g (SpecsOk.cons w8a (SpecsOk.cons w19 (SpecsOk.cons q9n (SpecsOk.nil _)))))))))) Tryz.func4 (λx=>yd7 x.2.1) ?_
 rintro⟨m,x,⟨⟩⟩ hh
 revert m x
 intro(m:List (List Int)) (x:List Int) (hh:q6g m/\x.length<=9223372036854775807)
 refine vcs (let Q0:=w2l m x; let Q1:=w18 m x; m.length<=(9223372036854775807:Nat)/\((!w8l m)=true->True/\true=true)/\((!w8l m)=false->(decide ((20:Int)<(↑x.length:Int))=true->True/\true=true)/\(decide ((20:Int)<(↑x.length:Int))=false->AgPre m x/\AgPre m x/\AgPre m x/\AgPre m x/\((q68 m x != q68 m x)=true->false=true)/\((q68 m x != q68 m x)=false->((qr6 m x != qr6 m x)=true->false=true)/\((qr6 m x != qr6 m x)=false->Q0.1.length<=(1000000:Nat)/\((!decide (Q0.1=Q0.1))=true->false=true)/\((!decide (Q0.1=Q0.1))=false->((Q0.2 != Q0.2)=true->false=true)/\((Q0.2 != Q0.2)=false->((qr6 m x != (0:Int))=true->True/\true=true)/\((qr6 m x != (0:Int))=false->wg1 m x/\((Q1.2==(0:Int))=true->((Q1.1 != q68 m x)=true->false=true)/\((Q1.1 != q68 m x)=false->∃(v9:Unit),∃(v10:Nat),Nat.le v10 x.length/\(((0:Int)=(↑(q2l x v10):Int)/\(0:Int)=(↑v10:Int)/\True)/\True)/\∀(v11:Nat),Nat.le v11 x.length->(decide ((↑v11:Int)<(↑x.length:Int))=true->((0:Int)<=(↑v11:Int)/\(↑v11:Int)<(↑x.length:Int))/\((nI x v11 != (0:Int))=true->fits .i64 ((↑(q2l x v11):Int)+(1:Int))/\fits .i64 ((↑v11:Int)+(1:Int))/\∃(v15:Nat),Nat.le v15 x.length/\x.length-v15<x.length-v11/\((↑(q2l x v11):Int)+(1:Int)=(↑(q2l x v15):Int)/\(↑v11:Int)+(1:Int)=(↑v15:Int)/\True)/\True)/\((nI x v11 != (0:Int))=false->fits .i64 ((↑v11:Int)+(1:Int))/\∃(v15:Nat),Nat.le v15 x.length/\x.length-v15<x.length-v11/\((↑(q2l x v11):Int)=(↑(q2l x v15):Int)/\(↑v11:Int)+(1:Int)=(↑v15:Int)/\True)/\True))/\(decide ((↑v11:Int)<(↑x.length:Int))=false->w47 m/\(((q66 m).2==(0:Int))=true->(decide ((q66 m).1<(↑(q2l x v11):Int))=true->True/\true=true)/\(decide ((q66 m).1<(↑(q2l x v11):Int))=false->(q68 m x=true->True/\true=true)/\(q68 m x=false->false=true)))/\(((q66 m).2==(0:Int))=false->false=true))))/\((Q1.2==(0:Int))=false->∃(v8:Unit),∃(v9:Nat),Nat.le v9 x.length/\(((0:Int)=(↑(q2l x v9):Int)/\(0:Int)=(↑v9:Int)/\True)/\True)/\∀(v10:Nat),Nat.le v10 x.length->(decide ((↑v10:Int)<(↑x.length:Int))=true->((0:Int)<=(↑v10:Int)/\(↑v10:Int)<(↑x.length:Int))/\((nI x v10 != (0:Int))=true->fits .i64 ((↑(q2l x v10):Int)+(1:Int))/\fits .i64 ((↑v10:Int)+(1:Int))/\∃(v14:Nat),Nat.le v14 x.length/\x.length-v14<x.length-v10/\((↑(q2l x v10):Int)+(1:Int)=(↑(q2l x v14):Int)/\(↑v10:Int)+(1:Int)=(↑v14:Int)/\True)/\True)/\((nI x v10 != (0:Int))=false->fits .i64 ((↑v10:Int)+(1:Int))/\∃(v14:Nat),Nat.le v14 x.length/\x.length-v14<x.length-v10/\((↑(q2l x v10):Int)=(↑(q2l x v14):Int)/\(↑v10:Int)+(1:Int)=(↑v14:Int)/\True)/\True))/\(decide ((↑v10:Int)<(↑x.length:Int))=false->w47 m/\(((q66 m).2==(0:Int))=true->(decide ((q66 m).1<(↑(q2l x v10):Int))=true->True/\true=true)/\(decide ((q66 m).1<(↑(q2l x v10):Int))=false->(q68 m x=true->True/\true=true)/\(q68 m x=false->false=true)))/\(((q66 m).2==(0:Int))=false->false=true))))))))))) ?_
 refine⟨hh.1.rows,λh6 hx=>?_⟩
 have h7:validB m=true->(nL m 0).length<=7:=λhv=>x6e h6 hv
 have hF:x61 m:=⟨hh.1,h7⟩
 have tr:(¬True->false=true):=λq=>absurd trivial q
 have hA:AgPre m x:=⟨hF,ow⟩
 have hag:(w2l m x).1.length<=1000000:=by
  unfold w2l
  split
  ·rename_i he
   split
   ·simp
   ·rename_i hn
    have hlt:=(wu0 (.list (.int .i64)) (λh=>agB h x) (qf2 m).1).1
    have hi:agI m x=ixT (.list (.int .i64)) (λh=>agB h x) (qf2 m).1:=rfl
    have:=((hA.ag he).2.2 (agI m x).toNat ow).1.ok.len
    grind
  simp
 refine⟨hA,hA,hA,hA,tr,tr,hag,tr,tr,λhe=>⟨x6o hh.1 h7 ow,?_⟩⟩
 have rest:∃(v9:Unit) (v10:Nat),v10<=x.length/\((0:Int)=↑(q2l x v10)/\(0:Int)=↑v10)/\∀(v11:Nat),v11<=x.length ->
   (v11<x.length->v11<x.length/\(¬nI x v11=0->fits .i64 (↑(q2l x v11)+1)/\fits .i64 (↑v11+1)/\∃v15:Nat,v15<=x.length/\x.length-v15<x.length-v11/\(↑(q2l x v11)+1:Int)=↑(q2l x v15)/\(↑v11+1:Int)=↑v15) /\
    (nI x v11=0->fits .i64 (↑v11+1)/\∃v15:Nat,v15<=x.length/\x.length-v15<x.length-v11/\(↑(q2l x v11):Int)=↑(q2l x v15)/\(↑v11+1:Int)=↑v15)) /\
   (¬v11<x.length->w47 m/\((q66 m).2=0->(↑(q2l x v11):Int)<=(q66 m).1->q68 m x=false->false=true)/\(¬(q66 m).2=0->false=true)):=by
  have hS:=Shw.of he
  have hr:q66 m=(((ordL m:Nat):Int),0):=zao hS.val
  refine⟨(),0,zae _,⟨rfl,rfl⟩,λk hk=>⟨λhlt=>⟨hlt,λhn=>?_,λhn=>?_⟩,λhge=>⟨yc3 h7,λ_ hle hs=>?_,λq=>absurd (zbi Prod.snd hr) q⟩⟩⟩
  ·have:=xe8 x k
   exact⟨qa3,qa3,k+1,hlt,ow,by simp_all [q2l,if_pos],by rfl⟩
  ·exact⟨qa3,k+1,hlt,ow,by simp_all [q2l,if_neg],by rfl⟩
  ·obtain rfl:k=x.length:=ow
   grind [q2l,ordL,x1q]
 grind [absurd,x1p]
open Go.ChangeShapes Go.WideShapes Go.ChangeAt Go.RowKit Go.Deep Ls
theorem own:ownKnob Tryz.prog.godebug=none:=kq
theorem laidOut:laidOutB Tryz.prog=true:=kq
theorem yr0 {H:Type} {enc:TypeId × Value->H} {W:World} {t e:TypeId} {v:Value} {d:DataW H} {p:List MemPlace} (ht:Tryz.prog.underlying t=some (.slice e)) (he:Tryz.prog.underlying e=some (.int .i64)) (ce:Tryz.prog.cellsOf e=1)
  (hv:∃a l c,v=.slice a l c) (h:DataW.Trod enc Tryz.prog W 0 (λ_=>true) true t v d p):∃a l c zs,v=.slice a l c/\SI W a l c zs:=by
 obtain⟨a,l,c,rfl⟩:=hv
 obtain⟨fuel,hf⟩:=h
 rcases open_ints ht he ce hf with⟨hcs,_⟩ | ⟨x,l',c',zs,hcs,_,hl,hm,hz,_,hcell,hwz⟩
 ·simp[Value.cells] at hcs
  obtain⟨rfl,rfl,rfl⟩:=hcs
  exact⟨_,_,_,[],rfl,SI.nil W⟩
 ·simp[Value.cells] at hcs
  obtain⟨rfl,rfl,rfl⟩:=hcs
  have hz':zs.length=c:=by grind
  refine⟨_,_,_,zs.take l,rfl,by grind,hl,hm,λ_=>⟨x,rfl,λk hk=>?_⟩⟩
  grind [nth]
theorem yr1 {H:Type} {enc:TypeId × Value->H} {W:World} {t e q:TypeId} {v:Value} {d:DataW H} {p:List MemPlace} (ht:Tryz.prog.underlying t=some (.slice e)) (he:Tryz.prog.underlying e=some (.slice q)) (hq:Tryz.prog.underlying q=some (.int .i64))
  (ce:Tryz.prog.cellsOf e=1) (cq:Tryz.prog.cellsOf q=1)
  (hv:∃a l c,v=.slice a l c) (h:DataW.Trod enc Tryz.prog W 0 (λ_=>true) true t v d p):∃a l c m,v=.slice a l c/\SM W a l c m:=by
 obtain⟨a,l,c,rfl⟩:=hv
 obtain⟨fuel,hf⟩:=h
 rcases open_int_rows ht he hq ce cq hf with⟨hcs,_⟩ | ⟨x,l',c',A,L,C,Z,hcs,_,hl,hm,_,hr⟩
 ·simp[Value.cells] at hcs
  obtain⟨rfl,rfl,rfl⟩:=hcs
  exact⟨_,_,_,[],rfl,SM.nil W⟩
 ·simp[Value.cells] at hcs
  obtain⟨rfl,rfl,rfl⟩:=hcs
  refine⟨_,_,_,(List.range l).map (λr=>(Z r).take (L r)),rfl,by simp,hl,hm,λ_=>⟨x,rfl,λk hk=>?_⟩⟩
  obtain⟨h1,h2,h3,h4,_,h6,h7⟩:=hr k ow
  have e0:nthL ((List.range l).map (λr=>(Z r).take (L r))) k=(Z k).take (L k):=by grind [nthL]
  have e1:((Z k).take (L k)).length=L k:=by grind
  rw[e0,e1]
  refine⟨A k,C k,h1,e1,h2,h3,λhp=>?_⟩
  cases hA:A k with
  | none=>grind
  | some a'=>
   refine⟨a',rfl,λj hj=>?_⟩
   grind [nth]
open Go Go.RowKit Eng Ls
theorem x6p {w:World} {A:Option Addr} {n c:Nat} {m:List (List Int)} (s:SM w A n c m):q6g m:=by
 have hl:=s.len
 have hn:=s.nmax
 refine⟨ow,λi hi=>?_⟩
 obtain⟨ad,_,h⟩:=s.at_ ow
 obtain⟨A',c',_,h2⟩:=h i ow
 have e:nL m i=nthL m i:=by
  rw[qm3 m i hi]
  unfold nthL
  rw[zax,zam hi]
  rfl
 rw[e]
 exact h2.nmax
theorem x6q {w:World} {A:Option Addr} {n c:Nat} {l:List Int} (s:SI w A n c l):l.length<=9223372036854775807:=by
 have:=s.nmax
 have:=s.len
 omega
end Go.Proofs.YtnchigbbjajiiaaGreat
