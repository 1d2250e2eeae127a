/- Lengths of a slice of slices. No condition. -/
import Derived.Test.YtmijnbjlhnpokaaGreatZ12
import Derived.Test.YtmijnbjlhnpokaaGreatQLay
import Derived.Test.YtmijnbjlhnpokaaGreatW14
import Derived.Test.YtmijnbjlhnpokaaGreatZ8
import Derived.Test.YtmijnbjlhnpokaaGreatRows
import Derived.Test.YtmijnbjlhnpokaaGreatCore
import Derived.ProofKit
import Derived.OpenShut
import Derived.ShutString
import Derived.ChangeOld
import Derived.Below
import Derived.Deep.Matrix
set_option linter.unusedVariables false
set_option linter.unusedSimpArgs false
namespace Go.Proofs.YtmijnbjlhnpokaaGreat
open Go Go.Proofs Go.RowKit Eng Ls Go.Sort Go.Shelf
def xt2 (zs:List Int) (c:AV) (k:List Int->Prop):Prop:=match c with
 | .nil=>need (zs.length<=1000000) λ_=>k (zs.mergeSort λx y=>decide (x<=y))
 | _=>False
theorem w1k (zs:List Int) (c:AV) (k:List Int->Prop) (h:xt2 zs c k):∃l,k l/\∀k':List Int->Prop,k' l->xt2 zs c k':=by
 unfold xt2 at h
 split at h
 ·exact⟨_,h.2,λk' hk=>⟨h.1,hk⟩⟩
 ·exact h.elim
theorem wv8 {P:Program} {ρ:Ren} {f eh e:Nat} (hc:ql8 P f) (L:SlLaysM.n5 P ρ) (hf:ρ.f 5=f):qt3 P f (sortSpec eh e xt2 w1k):=by
 have nilA:∀{args:AV} {m:View} {vs:List Value} {zs k},args.ok P m [] vs->xt2 zs args k->vs=[]/\zs.length<=1000000/\k (zs.mergeSort λx y=>decide (x<=y)):=λ{args m vs zs k} h1 h2=>by
  unfold xt2 at h2
  split at h2
  ·exact⟨h1,h2.1,h2.2⟩
  ·exact h2.elim
 refine w2m hc (λw m args vs k hargs hrun=>?_) λw m zs args vs k blk cap hm hmb hargs hrun hH hblk hlen=>?_
 ·obtain⟨rfl,hl,hk⟩:=nilA hargs hrun
  refine⟨by simpa using hk,?_⟩
  have:=AnyM.slices_Sort_int_none L none 0 w
  rw[hf] at this
  exact this
 ·obtain⟨rfl,hl,hk⟩:=nilA hargs hrun
  refine⟨_,hk,by simp,?_⟩
  have:=AnyM.slices_Sort_int L blk 0 cap zs w hH hblk (by omega)
  rw[hf] at this
  exact this
abbrev x5c:qq5:=sortSpec 0 3 xt2 w1k
theorem w89:qt3 Tryz.prog 94 x5c:=wv8 ⟨_,_,Tryz.func94,rfl,rfl⟩ Tryz.sortI rfl
abbrev x5d:qc9:=qg4 true (some 3) [qi8,qd4] [qd4,qf6] (λ_=>True) (λx=>((qr3 x.1 x.2.1).1,(qr3 x.1 x.2.1).2,()))
theorem q9z:Meets Tryz.prog 35 x5d:=by
 refine meets (snd (SpecsOk.cons q7f (SpecsOk.cons w8r (SpecsOk.nil _)))) Tryz.func35 rfl rfl (λx=>x49 x.1 x.2.1) (λ_=>by kernel_rfl) (by decide) ?_
 rintro⟨m,y,⟨⟩⟩ -
 revert m y
 intro(m:List (List Int)) (y:List Int)
 refine @qd9 _ (let Q0:=qr3 m y; Value.slice none (0:Nat) (0:Nat)=Value.slice none (0:Nat) (0:Nat)/\(0:Nat)<=(1000000:Nat)/\((qq0 m y [] != (0:Int))=true->Q0.1=[]/\qq0 m y []=Q0.2/\True)/\((qq0 m y [] != (0:Int))=false->∃(v1:Unit),∃(v2:List Int),PurI m y v2/\(True/\(m=m/\y=y/\True/\True)/\v2=[]/\True)/\∀(v3:List Int),PurI m y v3->xg9 m y v3/\(((ql2 m y v3).2==(8:Int))=true->v3=Q0.1/\(0:Int)=Q0.2/\True)/\(((ql2 m y v3).2==(8:Int))=false->(((ql2 m y v3).2==(10:Int))=true->Q0.1=[]/\(ql2 m y v3).2=Q0.2/\True)/\(((ql2 m y v3).2==(10:Int))=false->((0:Nat)<List.length [(ql2 m y v3).1]/\Nat.le (v3.length+List.length [(ql2 m y v3).1]) (1000000:Nat))/\∃(v7:List Int),PurI m y v7/\(7:Nat)-v7.length<(7:Nat)-v3.length/\True/\(m=m/\y=y/\True/\True)/\v3++[(ql2 m y v3).1]=v7/\True)))) (by kernel_rfl) ?_
 try simp only[z0,z1,z2,z3,z4,z5,z6,z7,z8,z9,z10,Int.reduceEq,z11,z12,z13,z14,z15,z16,z17,z18,z19,z20,z21,z22,z23,z24,z25,z26,z27,z28,z29,z30,Int.reduceLE,Int.reduceLT,z31,z32,z33,z34,qa1]
 try simp only[qb4,qb5,qd0,z31,z32,z2,z1]
 refine⟨by decide,λhe=>?_,λhe=>⟨(),[],PurI.start he,rfl,λC hC=>?_⟩⟩
 ·unfold qr3; rw[if_neg he]; exact⟨rfl,rfl⟩
 ·have hR:qr3 m y=w1j m y 8 []:=by unfold qr3; rw[if_pos he]
  have hu:=hC.unf
  have hl:=hC.len
  refine⟨hC.ask.nxPre,λh1=>?_,λh1=>⟨λh2=>?_,λh2=>⟨by omega,_,hC.step h1 h2,?_,rfl⟩⟩⟩
  ·rw[hR,hu,if_pos h1]; exact⟨rfl,rfl⟩
  ·rw[hR,hu,if_neg h1,if_pos h2]; exact⟨rfl,h2⟩
  ·rw[List.length_append,List.length_singleton]; omega
abbrev x1i:qc9:=hspec [] true none [.d qf6,.cap qd4] [qd4] (λx=>0<=x.1/\x.1<x.2.1.length) (λx=>([nI x.2.1 x.1.toNat],()))
theorem w3z:Meets Tryz.prog 95 x1i:=by
 refine qs2 (SpecsOk.nil _) (x1k [8] (SpecsOk.nil _)) Tryz.func95 rfl rfl (λ_ _=>none) (λ_=>by kernel_rfl) (by decide) ?_
 rintro⟨i,l,⟨⟩⟩ h
 revert i l
 intro(i:Int) (l:List Int) (h:0<=i/\i<l.length)
 refine @qd9 _ (((0:Int)<=i/\i<(↑l.length:Int))/\[nI l i.toNat]=[nI l i.toNat]) (by kernel_rfl) ?_
 try simp only[z0,z1,z2,z3,z4,z5,z6,z7,z8,z9,z10,Int.reduceEq,z11,z12,z13,z14,z15,z16,z17,z18,z19,z20,z21,z22,z23,z24,z25,z26,z27,z28,z29,z30,Int.reduceLE,Int.reduceLT,z31,z32,z33,z34,qa1]
 try simp only[qb4,qb5,qd0,z31,z32,z2,z1]
 exact h
def qr4 (S:List Int) (V:Nat->Int × Int):Nat->List Int × List (Int × Int)
 | 0=>([],[])
 | k+1=>if(V k).1=0 then qr4 S V k else((qr4 S V k).1++[nI S k],(qr4 S V k).2++[V k])
def q4e (m:List (List Int)) (y S:List Int) (k:Nat):Int × Int:=ofR (nI (nL (qz0 m S y).1 k) S.length) (nI (nL (qz0 m S y).1 k) k)
def wg6 (m:List (List Int)) (y:List Int):(List Int × List (Int × Int)) × Int:=if(qr3 m y).2=0 then(qr4 (qv6 (qr3 m y).1) (q4e m y (qv6 (qr3 m y).1)) (qv6 (qr3 m y).1).length,0) else(([],[]),(qr3 m y).2)
def x5e (m:List (List Int)) (y S:List Int):Nat->Option Inv
 | 0=>some (Inv.of [6,8,33,35] 7 (λk:Nat=>[(6,.own 2),(8,.msl 3 .none),(33,.own 2),(35,.lit (.int .i64 k))]) (λk=>[.box 34 (.cons (.dat (.int .i64) y) .nil),.box 72 (.cons (.dat (.int .i64) []) (.cons (.dat (.prod (.int .i64) (.int .i64)) []) .nil)),.vec 3 (.int .i64) S,.mat 34 3 (.int .i64) (qz0 m S y).1 .none .none,.box 72 (.cons (.own 5) (.cons (.own 6) .nil)),.vec 3 (.int .i64) (qr4 S (q4e m y S) k).1,.vec 60 (.prod (.int .i64) (.int .i64)) (qr4 S (q4e m y S) k).2]) (λk=>k<=S.length) (λk=>S.length-k))
 | _=>none
theorem q6d (S:List Int) (V:Nat->Int × Int):∀k,(qr4 S V k).1.length<=k/\(qr4 S V k).2.length<=k
 | 0=>⟨Nat.le_refl _,Nat.le_refl _⟩
 | k+1=>by
  have ih:=q6d S V k
  rw[qr4]
  split
  ·omega
  ·simp only[List.length_append,List.length_singleton]; omega
theorem wv9 {m:List (List Int)} {y:List Int} (he:(qr3 m y).2=0):qq0 m y []=0/\PurI m y (qr3 m y).1/\(ql2 m y (qr3 m y).1).2=8:=by
 have h0:qq0 m y []=0:=by
  unfold qr3 at he
  split at he
  ·assumption
  ·exact he
 have e:qr3 m y=w1j m y 8 []:=by unfold qr3; rw[if_pos h0]
 rw[e] at he ⊢
 rcases PurI.all 7 [] (PurI.start h0) rfl with q | q
 ·exact⟨h0,q.2⟩
 ·rw[q] at he; cases he
abbrev x9g:qc9:=qg4 true none [qi8,qd4] [wf7,qf6] (λ_=>True) (λx=>((wg6 x.1 x.2.1).1,(wg6 x.1 x.2.1).2,()))
theorem w9a:Meets Tryz.prog 39 x9g:=by
 refine meets (w27 [] [] (SpecsOk.cons q9z (SpecsOk.cons (q1e (fs:=[(95,x1i)]) (SpecsOk.cons w3z (SpecsOk.nil _))) (SpecsOk.cons w0s (SpecsOk.nil _)))) (MutsOk.cons w89 (MutsOk.cons qy0 MutsOk.nil))) Tryz.func39 rfl rfl (λx=>x5e x.1 x.2.1 (qv6 (qr3 x.1 x.2.1).1)) (λ_=>by kernel_rfl) (by decide) ?_
 rintro⟨m,y,⟨⟩⟩ -
 revert m y
 intro(m:List (List Int)) (y:List Int)
 refine @qd9 _ (let Q0:=qv6 (qr3 m y).1; let Q1:=qz0 m Q0 y; let Q2:=q4e m y Q0; let Q3:=qr3 m y; let Q4:=qe3 Q1.1.length none; let Q5:=wg6 m y; let Q6:=Int × Int; True/\((Q3.2 != (0:Int))=true->(Q5.1.1=[]/\Q5.1.2=[]/\True)/\Q3.2=Q5.2/\True)/\((Q3.2 != (0:Int))=false->Q3.1.length<=(1000000:Nat)/\∃(v1:qa7 [qf6]->Prop),∃(v2:qa7 [qf6]->List Int),(∀(v3:Int × qa7._f [] PUnit.unit),v1 v3->((0:PTy.den (PTy.d qf6))<=v3.1/\v3.1<(↑y.length:PTy.den (PTy.d qf6)))/\[nI y v3.1.toNat]=v2 v3)/\ChoOk m (nL [List.mergeSort Q3.1 λ(v3 v4:Int)=>decide (v3<=v4)] (0:Nat)) v1 v2/\((0:Ty.den qf6)<=(↑(nL [List.mergeSort Q3.1 λ(v3 v4:Int)=>decide (v3<=v4)] (0:Nat)).length:Int)/\∃(v3:Nat),q0m (qa9 m (nL [List.mergeSort Q3.1 λ(v4 v5:Int)=>decide (v4<=v5)] (0:Nat)) λ(v4:Int)=>v2 (v4,())) (↑(nL [List.mergeSort Q3.1 λ(v4 v5:Int)=>decide (v4<=v5)] (0:Nat)).length:Int).toNat v3)/\∃(v3:Unit),∃(v4:Nat),Nat.le v4 Q0.length/\((True/\True/\True/\(0:Int)=(↑v4:Int)/\True)/\(y=y/\True)/\(wh0 Int/\wh0 Q6/\True)/\nL [List.mergeSort Q3.1 λ(v5 v6:Int)=>decide (v5<=v6)] (0:Nat)=qv6 Q3.1/\((qa4 (qa9 m (nL [List.mergeSort Q3.1 λ(v5 v6:Int)=>decide (v5<=v6)] (0:Nat)) λ(v5:Int)=>v2 (v5,())) (↑(nL [List.mergeSort Q3.1 λ(v5 v6:Int)=>decide (v5<=v6)] (0:Nat)).length:Int).toNat).1=Q1.1/\True/\True)/\(True/\True/\True)/\(qr4 Q0 Q2 v4).1=[]/\(qr4 Q0 Q2 v4).2=[]/\True)/\∀(v5:Nat),Nat.le v5 Q0.length->(decide ((↑v5:Int)<(↑(nL [List.mergeSort Q3.1 λ(v8 v9:Int)=>decide (v8<=v9)] (0:Nat)).length:Int))=true->((0:Int)<=(↑v5:Int)/\(↑v5:Int)<(↑Q0.length:Int))/\v5<Q0.length/\((0:Int)<=(↑v5:Int)/\(↑v5:Int)<(↑Q4:Int))/\v5<qe3 Q1.1.length none/\((0:Int)<=(↑Q0.length:Int)/\(↑Q0.length:Int)<(↑(nL Q1.1 (qd1 none v5)).length:Int))/\(↑Q0.length:Int).toNat<(nL Q1.1 (qd1 none v5)).length/\((0:Int)<=(↑v5:Int)/\(↑v5:Int)<(↑Q4:Int))/\v5<qe3 Q1.1.length none/\((0:Int)<=(↑v5:Int)/\(↑v5:Int)<(↑(nL Q1.1 (qd1 none v5)).length:Int))/\v5<(nL Q1.1 (qd1 none v5)).length/\(((-4000000000000000000:Int)<=nI (nL Q1.1 (qd1 none v5)) (↑Q0.length:Int).toNat/\nI (nL Q1.1 (qd1 none v5)) (↑Q0.length:Int).toNat<=BIG)/\((-4000000000000000000:Int)<=nI (nL Q1.1 (qd1 none v5)) v5/\nI (nL Q1.1 (qd1 none v5)) v5<=BIG)/\nI (nL Q1.1 (qd1 none v5)) v5≠(0:Ty.den qf6))/\(((ofR (nI (nL Q1.1 (qd1 none v5)) (↑Q0.length:Int).toNat) (nI (nL Q1.1 (qd1 none v5)) v5)).1 != (0:Int))=true->((0:Nat)<List.length [nI Q0 v5]/\Nat.le ((qr4 Q0 Q2 v5).1.length+List.length [nI Q0 v5]) (1000000:Nat))/\((0:Nat)<List.length [((ofR (nI (nL Q1.1 (qd1 none v5)) (↑Q0.length:Int).toNat) (nI (nL Q1.1 (qd1 none v5)) v5)).1,(ofR (nI (nL Q1.1 (qd1 none v5)) (↑Q0.length:Int).toNat) (nI (nL Q1.1 (qd1 none v5)) v5)).2)]/\Nat.le ((qr4 Q0 Q2 v5).2.length+List.length [((ofR (nI (nL Q1.1 (qd1 none v5)) (↑Q0.length:Int).toNat) (nI (nL Q1.1 (qd1 none v5)) v5)).1,(ofR (nI (nL Q1.1 (qd1 none v5)) (↑Q0.length:Int).toNat) (nI (nL Q1.1 (qd1 none v5)) v5)).2)]) (1000000:Nat))/\fits .i64 ((↑v5:Int)+(1:Int))/\∃(v9:Nat),Nat.le v9 Q0.length/\Q0.length-v9<Q0.length-v5/\(True/\True/\True/\(↑v5:Int)+(1:Int)=(↑v9:Int)/\True)/\(y=y/\True)/\(wh0 Int/\wh0 Q6/\True)/\qv6 Q3.1=qv6 Q3.1/\(Q1.1=Q1.1/\True/\True)/\(True/\True/\True)/\(qr4 Q0 Q2 v5).1++[nI Q0 v5]=(qr4 Q0 Q2 v9).1/\(qr4 Q0 Q2 v5).2++[((ofR (nI (nL Q1.1 (qd1 none v5)) (↑Q0.length:Int).toNat) (nI (nL Q1.1 (qd1 none v5)) v5)).1,(ofR (nI (nL Q1.1 (qd1 none v5)) (↑Q0.length:Int).toNat) (nI (nL Q1.1 (qd1 none v5)) v5)).2)]=(qr4 Q0 Q2 v9).2/\True)/\(((ofR (nI (nL Q1.1 (qd1 none v5)) (↑Q0.length:Int).toNat) (nI (nL Q1.1 (qd1 none v5)) v5)).1 != (0:Int))=false->fits .i64 ((↑v5:Int)+(1:Int))/\∃(v9:Nat),Nat.le v9 Q0.length/\Q0.length-v9<Q0.length-v5/\(True/\True/\True/\(↑v5:Int)+(1:Int)=(↑v9:Int)/\True)/\(y=y/\True)/\(wh0 Int/\wh0 Q6/\True)/\qv6 Q3.1=qv6 Q3.1/\(Q1.1=Q1.1/\True/\True)/\(True/\True/\True)/\(qr4 Q0 Q2 v5).1=(qr4 Q0 Q2 v9).1/\(qr4 Q0 Q2 v5).2=(qr4 Q0 Q2 v9).2/\True))/\(decide ((↑v5:Int)<(↑(nL [List.mergeSort Q3.1 λ(v8 v9:Int)=>decide (v8<=v9)] (0:Nat)).length:Int))=false->((qr4 Q0 Q2 v5).1=Q5.1.1/\(qr4 Q0 Q2 v5).2=Q5.1.2/\True)/\(0:Int)=Q5.2/\True))) (by kernel_rfl) ?_
 try simp only[z0,z1,z2,z3,z4,z5,z6,z7,z8,z9,z10,Int.reduceEq,z11,z12,z13,z14,z15,z16,z17,z18,z19,z20,z21,z22,z23,z24,z25,z26,z27,z28,z29,z30,Int.reduceLE,Int.reduceLT,z31,z32,z33,z34,qa1]
 try simp only[qb4,qb5,qd0,z31,z32,z2,z1]
 refine⟨λhe=>?_,λhe=>?_⟩
 ·unfold wg6; rw[if_neg he]; exact⟨⟨rfl,rfl⟩,rfl⟩
 obtain⟨h0,hC,h8⟩:=wv9 he
 have hG:=hC.grd h0 h8
 have hR:wg6 m y=(qr4 (qv6 (qr3 m y).1) (q4e m y (qv6 (qr3 m y).1)) (qv6 (qr3 m y).1).length,0):=by unfold wg6; rw[if_pos he]
 rw[hR]
 have hl6:=hC.len
 have hsl:=we7 (qr3 m y).1
 have hs:((qr3 m y).1.mergeSort λv3 v4=>decide (v3<=v4))=qv6 (qr3 m y).1:=rfl
 rw[hs]
 generalize qv6 (qr3 m y).1=S at *
 generalize(qr3 m y).1=C at *
 have hA:=Asked.of hG.chk
 have hOk:=hG.ok
 have hred:=hOk.red
 have har:=hOk.ar
 have hsh:=qt9 hred S.length
 have hcl:(qc8 m S y).length=m.length:=qm7 _ _ _
 rw[hcl] at hsh
 have hkr:qa4 (qa9 m S λv4=>[nI y v4.toNat]) S.length=qz0 m S y:=rfl
 have hRn:=hsh.cnt
 have hRe:=hsh.each
 have hpv:=hG.pivs
 have hPn:=hsh.piv
 have hid:=hG.id
 have hB:BIG=4000000000000000000:=rfl
 have hSR:qa4 (qc8 m S y) S.length=qz0 m S y:=rfl
 rw[hSR] at hRn hRe hPn
 refine⟨by omega,λx=>0<=x.1/\x.1<y.length,λx=>[nI y x.1.toNat],λx hx=>⟨hx,rfl⟩,ChoOk.of hA.msk hA.nam λi hi=>⟨⟨Int.natCast_nonneg _,Int.ofNat_lt.2 (by have:=hA.len; omega)⟩,by simp⟩,⟨_,hred⟩,(),0,Nat.zero_le _,⟨rfl,rfl,rfl,rfl,rfl⟩,λk hk=>⟨λhlt=>?_,λhge=>?_⟩⟩
 ·simp only[qx9,q1f]
  have hr:=hRe k (by omega)
  have p1:=hid k hlt
  have a1:=har.bigN k (by omega)
  have a2:=har.bigD k (by omega)
  have a3:=har.nz k (by omega)
  rw[p1,Int.toNat_natCast] at a2 a3
  have hg1:=q6d S (q4e m y S) k
  refine⟨hlt,hlt,by omega,by omega,by omega,by omega,by omega,by omega,by omega,by omega,⟨a1,a2,a3⟩,λhz=>?_,λhz=>?_⟩
  ·have e:qr4 S (q4e m y S) (k+1)=((qr4 S (q4e m y S) k).1++[nI S k],(qr4 S (q4e m y S) k).2++[q4e m y S k]):=by rw[qr4,if_neg (show ¬(q4e m y S k).1=0 from hz)]
   refine⟨by omega,by omega,qa5 (by omega) (by omega),k+1,by omega,by omega,by omega,?_⟩
   rw[e]
   exact⟨rfl,rfl⟩
  ·have e:qr4 S (q4e m y S) (k+1)=qr4 S (q4e m y S) k:=by rw[qr4,if_pos (show(q4e m y S k).1=0 from hz)]
   refine⟨qa5 (by omega) (by omega),k+1,by omega,by omega,by omega,?_⟩
   rw[e]
   exact⟨rfl,rfl⟩
 ·have e:k=S.length:=by omega
  subst e
  exact⟨⟨rfl,rfl⟩,rfl⟩
open Go Go.RowKit Eng
def we9 (C:List Int) (j k:Nat):List Int:=if(j:Int)∈C.take k then qq1 C j++[(j:Int)] else qq1 C j
theorem xh7 (C:List Int) (j:Nat):we9 C j C.length=qq1 C (j+1):=by
 unfold we9; rw[List.take_length,qq1]
theorem xh8 (C:List Int) (j k:Nat):(we9 C j k).length<=j+1:=by
 have:=wp3 C j
 unfold we9
 split
 ·rw[List.length_append,List.length_singleton]; omega
 ·omega
theorem xh9 {C:List Int} (hI:InjL C) {j k:Nat} (hk:k<C.length) (e:(j:Int)=nI C k):we9 C j k++[(j:Int)]=we9 C j (k+1):=by
 have h1:¬(j:Int)∈C.take k:=λh=>by
  obtain⟨q,hq,e2⟩:=q8g.1 h
  rw[List.length_take] at hq
  have e3:nI (C.take k) q=nI C q:=by
   rw[qg1 _ _ (by rw[List.length_take]; omega),qg1 _ _ (by omega),List.getElem_take]
  have:=hI q k (by omega) hk (by rw[<- e3,e2,e])
  omega
 have h2:(j:Int)∈C.take (k+1):=q8g.2 ⟨k,by rw[List.length_take]; omega,by
  rw[qg1 _ _ (by rw[List.length_take]; omega),List.getElem_take,<- qg1 _ _ hk,e]⟩
 unfold we9
 rw[if_neg h1,if_pos h2]
theorem w9b {C:List Int} {j k:Nat} (hk:k<C.length) (e:¬(j:Int)=nI C k):we9 C j k=we9 C j (k+1):=by
 have h1:(j:Int)∈C.take (k+1)↔(j:Int)∈C.take k:=by
  rw[List.take_succ_eq_append_getElem hk,List.mem_append,List.mem_singleton,<- qg1 _ _ hk]
  exact⟨λh=>h.resolve_right e,.inl⟩
 unfold we9
 by_cases h:(j:Int)∈C.take k
 ·rw[if_pos h,if_pos (h1.2 h)]
 ·rw[if_neg h,if_neg λq=>h (h1.1 q)]
def x5f (m:List (List Int)) (y C S:List Int):Nat->Option Inv
 | 0=>some (Inv.of [8,30] 2 (λj:Nat=>[(8,.own 1),(30,.lit (.int .i64 j))]) (λj=>[.box 72 (.cons (.lit (.slice none 0 0)) (.cons (.lit (.slice none 0 0)) .nil)),.vec 3 (.int .i64) (qq1 C j)]) (λj=>j<=(nL m 0).length) (λj=>(nL m 0).length-j))
 | 1=>some (Eng.Inv.mk Nat Nat [8,35] 2 (λ_ k=>[(8,.own 1),(35,.lit (.int .i64 k))]) (λj k=>[.box 72 (.cons (.lit (.slice none 0 0)) (.cons (.lit (.slice none 0 0)) .nil)),.vec 3 (.int .i64) (we9 C j k)]) (λj k=>j<(nL m 0).length/\k<=C.length) (λ_ k=>C.length-k))
 | 2=>some (Inv.of [8,12,58,60] 6 (λk:Nat=>[(8,.own 1),(12,.own 2),(58,.own 2),(60,.lit (.int .i64 k))]) (λk=>[.box 72 (.cons (.lit (.slice none 0 0)) (.cons (.lit (.slice none 0 0)) .nil)),.vec 3 (.int .i64) S,.vec 60 (.prod (.int .i64) (.int .i64)) (q4t m S y).1,.box 72 (.cons (.own 4) (.cons (.own 5) .nil)),.vec 3 (.int .i64) (qr4 S (q4e m y S) k).1,.vec 60 (.prod (.int .i64) (.int .i64)) (qr4 S (q4e m y S) k).2]) (λk=>k<=S.length) (λk=>S.length-k))
 | _=>none
abbrev x9h:qc9:=qg4 true none [qi8,qd4] [wf7,qf6] (λx=>q0l x.1) (λx=>((wg6 x.1 x.2.1).1,(wg6 x.1 x.2.1).2,()))
theorem w9c:Meets Tryz.prog 40 x9h:=by
 refine meets (snd (SpecsOk.cons wp4 (SpecsOk.cons w7s (SpecsOk.nil _)))) Tryz.func40 rfl rfl (λx=>x5f x.1 x.2.1 (qr3 x.1 x.2.1).1 (qv6 (qr3 x.1 x.2.1).1)) (λ_=>by kernel_rfl) (by decide) ?_
 rintro⟨m,y,⟨⟩⟩ h
 revert m y
 intro(m:List (List Int)) (y:List Int) (h:q0l m)
 refine @qd9 _ (let Q0:=qv6 (qr3 m y).1; let Q1:=qr3 m y; let Q2:=q4t m Q0 y; let Q3:=q4e m y Q0; let Q4:=wg6 m y; q0l m/\((Q1.2 != (0:Int))=true->(Q4.1.1=[]/\Q4.1.2=[]/\True)/\Q1.2=Q4.2/\True)/\((Q1.2 != (0:Int))=false->((0:Int)<=(0:Int)/\(0:Int)<(↑m.length:Int))/\∃(v1:Unit),∃(v2:Nat),Nat.le v2 (nL m (0:Nat)).length/\((True/\(0:Int)=(↑v2:Int)/\True)/\(Value.slice none (0:Nat) (0:Nat)=Value.slice none (0:Nat) (0:Nat)/\Value.slice none (0:Nat) (0:Nat)=Value.slice none (0:Nat) (0:Nat)/\True)/\qq1 Q1.1 v2=[]/\True)/\∀(v3:Nat),Nat.le v3 (nL m (0:Nat)).length->(decide ((↑v3:Int)<(↑(nL m (0:Nat)).length:Int))=true->∃(v6:Nat),∃(v7:Nat),(v6<(nL m (0:Nat)).length/\Nat.le v7 Q1.1.length)/\((True/\(0:Int)=(↑v7:Int)/\True)/\(Value.slice none (0:Nat) (0:Nat)=Value.slice none (0:Nat) (0:Nat)/\Value.slice none (0:Nat) (0:Nat)=Value.slice none (0:Nat) (0:Nat)/\True)/\qq1 Q1.1 v3=we9 Q1.1 v6 v7/\True)/\∀(v8:Nat),v6<(nL m (0:Nat)).length/\Nat.le v8 Q1.1.length->(decide ((↑v8:Int)<(↑Q1.1.length:Int))=true->((0:Int)<=(↑v8:Int)/\(↑v8:Int)<(↑Q1.1.length:Int))/\(((↑v3:Int)==nI Q1.1 v8)=true->((0:Nat)<List.length [(↑v3:Int)]/\Nat.le ((we9 Q1.1 v6 v8).length+List.length [(↑v3:Int)]) (1000000:Nat))/\fits .i64 ((↑v8:Int)+(1:Int))/\∃(v12:Nat),(v6<(nL m (0:Nat)).length/\Nat.le v12 Q1.1.length)/\Q1.1.length-v12<Q1.1.length-v8/\(True/\(↑v8:Int)+(1:Int)=(↑v12:Int)/\True)/\(Value.slice none (0:Nat) (0:Nat)=Value.slice none (0:Nat) (0:Nat)/\Value.slice none (0:Nat) (0:Nat)=Value.slice none (0:Nat) (0:Nat)/\True)/\we9 Q1.1 v6 v8++[(↑v3:Int)]=we9 Q1.1 v6 v12/\True)/\(((↑v3:Int)==nI Q1.1 v8)=false->fits .i64 ((↑v8:Int)+(1:Int))/\∃(v12:Nat),(v6<(nL m (0:Nat)).length/\Nat.le v12 Q1.1.length)/\Q1.1.length-v12<Q1.1.length-v8/\(True/\(↑v8:Int)+(1:Int)=(↑v12:Int)/\True)/\(Value.slice none (0:Nat) (0:Nat)=Value.slice none (0:Nat) (0:Nat)/\Value.slice none (0:Nat) (0:Nat)=Value.slice none (0:Nat) (0:Nat)/\True)/\we9 Q1.1 v6 v8=we9 Q1.1 v6 v12/\True))/\(decide ((↑v8:Int)<(↑Q1.1.length:Int))=false->fits .i64 ((↑v3:Int)+(1:Int))/\∃(v11:Nat),Nat.le v11 (nL m (0:Nat)).length/\(nL m (0:Nat)).length-v11<(nL m (0:Nat)).length-v3/\(True/\(↑v3:Int)+(1:Int)=(↑v11:Int)/\True)/\(Value.slice none (0:Nat) (0:Nat)=Value.slice none (0:Nat) (0:Nat)/\Value.slice none (0:Nat) (0:Nat)=Value.slice none (0:Nat) (0:Nat)/\True)/\we9 Q1.1 v6 v8=qq1 Q1.1 v11/\True))/\(decide ((↑v3:Int)<(↑(nL m (0:Nat)).length:Int))=false->w7r m (qq1 Q1.1 v3) y/\(((w36 m (qq1 Q1.1 v3) y).2 != (0:Int))=true->(Q4.1.1=[]/\Q4.1.2=[]/\True)/\(10:Int)=Q4.2/\True)/\(((w36 m (qq1 Q1.1 v3) y).2 != (0:Int))=false->∃(v7:Unit),∃(v8:Nat),Nat.le v8 Q0.length/\((True/\True/\True/\(0:Int)=(↑v8:Int)/\True)/\(Value.slice none (0:Nat) (0:Nat)=Value.slice none (0:Nat) (0:Nat)/\Value.slice none (0:Nat) (0:Nat)=Value.slice none (0:Nat) (0:Nat)/\True)/\qq1 Q1.1 v3=qv6 Q1.1/\(w36 m (qq1 Q1.1 v3) y).1=Q2.1/\(True/\True/\True)/\(qr4 Q0 Q3 v8).1=[]/\(qr4 Q0 Q3 v8).2=[]/\True)/\∀(v9:Nat),Nat.le v9 Q0.length->(decide ((↑v9:Int)<(↑(w36 m (qq1 Q1.1 v3) y).1.length:Int))=true->((0:Int)<=(↑v9:Int)/\(↑v9:Int)<(↑Q2.1.length:Int))/\v9<Q2.1.length/\(((qe8 (Ty.prod (Ty.int .i64) (Ty.int .i64)) Q2.1 v9).1 != (0:Int))=true->((0:Int)<=(↑v9:Int)/\(↑v9:Int)<(↑Q0.length:Int))/\v9<Q0.length/\((0:Nat)<List.length [nI Q0 v9]/\Nat.le ((qr4 Q0 Q3 v9).1.length+List.length [nI Q0 v9]) (1000000:Nat))/\((0:Nat)<List.length [((qe8 (Ty.prod (Ty.int .i64) (Ty.int .i64)) Q2.1 v9).1,(qe8 (Ty.prod (Ty.int .i64) (Ty.int .i64)) Q2.1 v9).2)]/\Nat.le ((qr4 Q0 Q3 v9).2.length+List.length [((qe8 (Ty.prod (Ty.int .i64) (Ty.int .i64)) Q2.1 v9).1,(qe8 (Ty.prod (Ty.int .i64) (Ty.int .i64)) Q2.1 v9).2)]) (1000000:Nat))/\fits .i64 ((↑v9:Int)+(1:Int))/\∃(v13:Nat),Nat.le v13 Q0.length/\Q0.length-v13<Q0.length-v9/\(True/\True/\True/\(↑v9:Int)+(1:Int)=(↑v13:Int)/\True)/\(Value.slice none (0:Nat) (0:Nat)=Value.slice none (0:Nat) (0:Nat)/\Value.slice none (0:Nat) (0:Nat)=Value.slice none (0:Nat) (0:Nat)/\True)/\qv6 Q1.1=qv6 Q1.1/\Q2.1=Q2.1/\(True/\True/\True)/\(qr4 Q0 Q3 v9).1++[nI Q0 v9]=(qr4 Q0 Q3 v13).1/\(qr4 Q0 Q3 v9).2++[((qe8 (Ty.prod (Ty.int .i64) (Ty.int .i64)) Q2.1 v9).1,(qe8 (Ty.prod (Ty.int .i64) (Ty.int .i64)) Q2.1 v9).2)]=(qr4 Q0 Q3 v13).2/\True)/\(((qe8 (Ty.prod (Ty.int .i64) (Ty.int .i64)) Q2.1 v9).1 != (0:Int))=false->fits .i64 ((↑v9:Int)+(1:Int))/\∃(v13:Nat),Nat.le v13 Q0.length/\Q0.length-v13<Q0.length-v9/\(True/\True/\True/\(↑v9:Int)+(1:Int)=(↑v13:Int)/\True)/\(Value.slice none (0:Nat) (0:Nat)=Value.slice none (0:Nat) (0:Nat)/\Value.slice none (0:Nat) (0:Nat)=Value.slice none (0:Nat) (0:Nat)/\True)/\qv6 Q1.1=qv6 Q1.1/\Q2.1=Q2.1/\(True/\True/\True)/\(qr4 Q0 Q3 v9).1=(qr4 Q0 Q3 v13).1/\(qr4 Q0 Q3 v9).2=(qr4 Q0 Q3 v13).2/\True))/\(decide ((↑v9:Int)<(↑(w36 m (qq1 Q1.1 v3) y).1.length:Int))=false->((qr4 Q0 Q3 v9).1=Q4.1.1/\(qr4 Q0 Q3 v9).2=Q4.1.2/\True)/\(0:Int)=Q4.2/\True))))) (by kernel_rfl) ?_
 try simp only[z0,z1,z2,z3,z4,z5,z6,z7,z8,z9,z10,Int.reduceEq,z11,z12,z13,z14,z15,z16,z17,z18,z19,z20,z21,z22,z23,z24,z25,z26,z27,z28,z29,z30,Int.reduceLE,Int.reduceLT,z31,z32,z33,z34,qa1]
 try simp only[qb4,qb5,qd0,z31,z32,z2,z1]
 refine⟨h,λhe=>?_,λhe=>?_⟩
 ·unfold wg6; rw[if_neg he]; exact⟨⟨rfl,rfl⟩,rfl⟩
 obtain⟨h0,hC,h8⟩:=wv9 he
 have hG:=hC.grd h0 h8
 have hR:wg6 m y=(qr4 (qv6 (qr3 m y).1) (q4e m y (qv6 (qr3 m y).1)) (qv6 (qr3 m y).1).length,0):=by unfold wg6; rw[if_pos he]
 rw[hR]
 have hl6:=hC.len
 have hsl:=we7 (qr3 m y).1
 have hI:=hC.ind.inj
 have hpx:qq1 (qr3 m y).1 (nL m 0).length=qv6 (qr3 m y).1:=w86 hI hC.ask.inw.at_
 have hA:=Asked.of hG.chk
 have h10:=hA.msk.pix10
 have h1:=hA.msk.rows1
 clear hR he
 generalize hSe:qv6 (qr3 m y).1=S at *
 generalize hCe:(qr3 m y).1=C at *
 refine⟨by omega,(),0,Nat.zero_le _,⟨rfl,rfl⟩,λj hj=>⟨λhlt=>⟨j,0,⟨hlt,Nat.zero_le _⟩,⟨rfl,?_⟩,λk hk=>⟨λhkl=>⟨hkl,λe=>?_,λe=>?_⟩,λhge=>?_⟩⟩,λhge=>?_⟩⟩
 ·unfold we9; rw[List.take_zero,if_neg (by simp)]
 ·have:=xh8 C j k
  exact⟨by omega,qa5 (by omega) (by omega),k+1,⟨hlt,by omega⟩,by omega,by omega,xh9 hI hkl e⟩
 ·exact⟨qa5 (by omega) (by omega),k+1,⟨hlt,by omega⟩,by omega,by omega,w9b hkl e⟩
 ·have e:k=C.length:=by omega
  subst e
  exact⟨qa5 (by omega) (by omega),j+1,by omega,by omega,by omega,xh7 C j⟩
 ·have e:j=(nL m 0).length:=by omega
  subst e
  rw[hpx,w72,hG.sol]
  have hVl:((List.range S.length).map (w65 (qz0 m S y).1 (qz0 m S y).2 S.length)).length=S.length:=by simp
  have hV:∀k,k<S.length->qe8 (.prod (.int .i64) (.int .i64)) ((List.range S.length).map (w65 (qz0 m S y).1 (qz0 m S y).2 S.length)) k=q4e m y S k:=λk hk=>by
   have e:=qk5 (t:=.prod (.int .i64) (.int .i64)) ((List.range S.length).map (w65 (qz0 m S y).1 (qz0 m S y).2 S.length)) k (by omega)
   rw[e,List.getElem_map,List.getElem_range]
   unfold w65 q4e
   rw[hG.id k hk,Int.toNat_natCast]
  dsimp only
  generalize(List.range S.length).map (w65 (qz0 m S y).1 (qz0 m S y).2 S.length)=V at *
  refine⟨x0v h (by omega),λq=>absurd rfl q,λ_=>⟨(),0,Nat.zero_le _,⟨rfl,rfl,rfl,rfl,rfl⟩,λk hk=>⟨λhlt=>?_,λhge=>?_⟩⟩⟩
  ·have hk:k<S.length:=by omega
   have hg1:=q6d S (q4e m y S) k
   rw[hV k hk]
   refine⟨by omega,by omega,λhz=>?_,λhz=>?_⟩
   ·have e:qr4 S (q4e m y S) (k+1)=((qr4 S (q4e m y S) k).1++[nI S k],(qr4 S (q4e m y S) k).2++[q4e m y S k]):=by rw[qr4,if_neg hz]
    refine⟨by omega,by omega,by omega,by omega,qa5 (by omega) (by omega),k+1,by omega,by omega,by omega,?_⟩
    rw[e]
    exact⟨rfl,rfl⟩
   ·have e:qr4 S (q4e m y S) (k+1)=qr4 S (q4e m y S) k:=by rw[qr4,if_pos hz]
    refine⟨qa5 (by omega) (by omega),k+1,by omega,by omega,by omega,?_⟩
    rw[e]
    exact⟨rfl,rfl⟩
  ·have e:k=S.length:=by omega
   subst e
   exact⟨⟨rfl,rfl⟩,rfl⟩
abbrev x5g:qc9:=qg4 true none [qi8,qd4] [.bool] (λx=>q0l x.1) (λ_=>(true,()))
theorem q2h:Meets Tryz.prog 7 x5g:=by
 refine meets (snd (SpecsOk.cons w7j (SpecsOk.cons q51 (SpecsOk.cons w3j (SpecsOk.cons wo5 (SpecsOk.cons q9z (SpecsOk.cons wp4 (SpecsOk.cons w9a (SpecsOk.cons w9c (SpecsOk.cons q9i (SpecsOk.cons q7n (SpecsOk.nil _)))))))))))) Tryz.func7 rfl rfl (λ_ _=>none) (λ_=>by kernel_rfl) (by decide) ?_
 rintro⟨m,y,⟨⟩⟩ h
 revert m y
 intro(m:List (List Int)) (y:List Int) (h:q0l m)
 refine @qd9 _ (let Q0:=((wg6 m y).1.1,(wg6 m y).1.2); let Q1:=qr3 m y; let Q2:=wg6 m y; q0l m/\((!q0j m)=true->q0l m/\((!qe2 m)=true->True/\true=true)/\((!qe2 m)=false->List.length [y]<=(1000:Nat)/\(q8f [y]=true->True/\true=true)/\(q8f [y]=false->True/\q0l m/\True/\q0l m/\Q1.1.length<=(1000000:Nat)/\(decide (Q1.1=Q1.1)=true->((Q1.2==Q1.2)=true->wm4 Q0/\(q5o Q0 Q0=true->((Q2.2==Q2.2)=true->True/\true=true)/\((Q2.2==Q2.2)=false->false=true))/\(q5o Q0 Q0=false->false=true))/\((Q1.2==Q1.2)=false->false=true))/\(decide (Q1.1=Q1.1)=false->false=true))))/\((!q0j m)=false->List.length [y]<=(1000:Nat)/\(q8f [y]=true->True/\true=true)/\(q8f [y]=false->True/\q0l m/\True/\q0l m/\Q1.1.length<=(1000000:Nat)/\(decide (Q1.1=Q1.1)=true->((Q1.2==Q1.2)=true->wm4 Q0/\(q5o Q0 Q0=true->((Q2.2==Q2.2)=true->True/\true=true)/\((Q2.2==Q2.2)=false->false=true))/\(q5o Q0 Q0=false->false=true))/\((Q1.2==Q1.2)=false->false=true))/\(decide (Q1.1=Q1.1)=false->false=true)))) (by kernel_rfl) ?_
 try simp only[z0,z1,z2,z3,z4,z5,z6,z7,z8,z9,z10,Int.reduceEq,z11,z12,z13,z14,z15,z16,z17,z18,z19,z20,z21,z22,z23,z24,z25,z26,z27,z28,z29,z30,Int.reduceLE,Int.reduceLT,z31,z32,z33,z34,qa1]
 try simp only[qb4,qb5,qd0,z31,z32,z2,z1]
 have hp:(qr3 m y).1.length<=6:=by
  by_cases he:(qr3 m y).2=0
  ·exact(wv9 he).2.1.len
  ·have e:(qr3 m y).1=[]:=by
    unfold qr3 at he ⊢
    split at he
    ·rename_i h0
     rw[if_pos h0] at *
     rcases PurI.all 7 [] (PurI.start h0) rfl with q | q
     ·exact absurd q.1 he
     ·rw[q]
    ·rename_i h0
     rw[if_neg h0]
   rw[e]; decide
 have hg:(wg6 m y).1.1.length<=6/\(wg6 m y).1.2.length<=6:=by
  have h1:=we7 (qr3 m y).1
  have h2:=q6d (qv6 (qr3 m y).1) (q4e m y (qv6 (qr3 m y).1)) (qv6 (qr3 m y).1).length
  unfold wg6
  split
  ·dsimp only; omega
  ·exact⟨Nat.zero_le _,Nat.zero_le _⟩
 refine⟨h,λ_=>⟨h,λ_=>⟨by decide,λ_=>?_⟩⟩,λ_=>⟨by decide,λ_=>?_⟩⟩ <;> refine⟨h,h,by omega,⟨⟨⟨by dsimp only; omega,by dsimp only; omega⟩,λ_ q=>absurd trivial q,λq=>?_⟩,λq=>absurd trivial q⟩,λq=>absurd trivial q⟩ <;> simp[q5o] at q
open Go.ChangeShapes Go.WideShapes Go.ChangeAt Go.RowKit Go.Deep Ls
theorem own:ownKnob Tryz.prog.godebug=none:=by kernel_rfl
theorem laidOut:laidOutB Tryz.prog=true:=by kernel_rfl
theorem x5h {H:Type} {enc:TypeId × Value->H} {W:World} {t e:TypeId} {v:Value} {d:DataW H} {p:List MemPlace} (ht:Tryz.prog.underlying t=some (.slice e)) (he:Tryz.prog.underlying e=some (.int .i64)) (ce:Tryz.prog.cellsOf e=1)
  (hv:∃a l c,v=.slice a l c) (h:DataW.Trod enc Tryz.prog W 0 (λ_=>true) true t v d p):∃a l c zs,v=.slice a l c/\SI W a l c zs:=by
 obtain⟨a,l,c,rfl⟩:=hv
 obtain⟨fuel,hf⟩:=h
 rcases open_ints ht he ce hf with⟨hcs,_⟩ | ⟨x,l',c',zs,hcs,_,hl,hm,hz,_,hcell,hwz⟩
 ·simp[Value.cells] at hcs
  obtain⟨rfl,rfl,rfl⟩:=hcs
  exact⟨_,_,_,[],rfl,SI.nil W⟩
 ·simp[Value.cells] at hcs
  obtain⟨rfl,rfl,rfl⟩:=hcs
  have hz':zs.length=c:=by simpa using hz
  refine⟨_,_,_,zs.take l,rfl,by simp; omega,hl,hm,λ_=>⟨x,rfl,λk hk=>?_⟩⟩
  rw[hcell k (by omega)]
  simp[nth,hk]
theorem x5i {H:Type} {enc:TypeId × Value->H} {W:World} {t e q:TypeId} {v:Value} {d:DataW H} {p:List MemPlace} (ht:Tryz.prog.underlying t=some (.slice e)) (he:Tryz.prog.underlying e=some (.slice q)) (hq:Tryz.prog.underlying q=some (.int .i64))
  (ce:Tryz.prog.cellsOf e=1) (cq:Tryz.prog.cellsOf q=1)
  (hv:∃a l c,v=.slice a l c) (h:DataW.Trod enc Tryz.prog W 0 (λ_=>true) true t v d p):∃a l c m,v=.slice a l c/\SM W a l c m:=by
 obtain⟨a,l,c,rfl⟩:=hv
 obtain⟨fuel,hf⟩:=h
 rcases open_int_rows ht he hq ce cq hf with⟨hcs,_⟩ | ⟨x,l',c',A,L,C,Z,hcs,_,hl,hm,_,hr⟩
 ·simp[Value.cells] at hcs
  obtain⟨rfl,rfl,rfl⟩:=hcs
  exact⟨_,_,_,[],rfl,SM.nil W⟩
 ·simp[Value.cells] at hcs
  obtain⟨rfl,rfl,rfl⟩:=hcs
  refine⟨_,_,_,(List.range l).map (λr=>(Z r).take (L r)),rfl,by simp,hl,hm,λ_=>⟨x,rfl,λk hk=>?_⟩⟩
  obtain⟨h1,h2,h3,h4,_,h6,h7⟩:=hr k (by omega)
  have e0:nthL ((List.range l).map (λr=>(Z r).take (L r))) k=(Z k).take (L k):=by simp[nthL,hk]
  have e1:((Z k).take (L k)).length=L k:=by simp; omega
  rw[e0,e1]
  refine⟨A k,C k,h1,e1,h2,h3,λhp=>?_⟩
  cases hA:A k with
  | none=>have:=h6 hA; omega
  | some a'=>
   refine⟨a',rfl,λj hj=>?_⟩
   rw[(h7 a' hA).2 j (by omega)]
   simp[nth,hj]
open Go Go.RowKit Eng Ls
theorem xt3 {w:World} {A:Option Addr} {n c:Nat} {m:List (List Int)} (s:SM w A n c m):q0l m:=by
 have hl:=s.len
 have hn:=s.nmax
 refine⟨by omega,λi hi=>?_⟩
 obtain⟨ad,_,h⟩:=s.at_ (by omega)
 obtain⟨A',c',_,h2⟩:=h i (by omega)
 have e:nL m i=nthL m i:=by
  rw[qm2 m i hi]
  unfold nthL
  rw[List.getD_eq_getElem?_getD,List.getElem?_eq_getElem hi]
  rfl
 rw[e]
 exact h2.nmax
end Go.Proofs.YtmijnbjlhnpokaaGreat
