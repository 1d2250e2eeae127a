/- SAFE PICTURES (P6.3), the one half: where each circuit has less on a picture than elsewhere, so has each kernel vector. Plain mathematics. No condition. -/
import Derived.Test.YtnchigbbjajiiaaGreatQ19
import Derived.Test.YtnchigbbjajiiaaGreatV23
import Derived.Test.YtnchigbbjajiiaaGreatQ1
set_option linter.unusedVariables false
set_option linter.unusedSimpArgs false
namespace Go.Proofs.YtnchigbbjajiiaaGreat
open Go Go.RowKit Eng
def qw2 (h x:List Int):Nat->Int
 | 0=>0
 | k+1=>if 0<nI x k then qw2 h x k+nI h k else if nI x k<0 then qw2 h x k-nI h k else qw2 h x k
def qj8 (h x:List Int):Nat->Int
 | 0=>0
 | k+1=>if 0<nI x k then qj8 h x k else if nI x k<0 then qj8 h x k else qj8 h x k+qd6 (nI h k)
def agB (h x:List Int):Bool:=decide (qj8 h x h.length<=qd6 (qw2 h x h.length))
structure x2w (h x:List Int):Prop where
 ok:HOk h
 le:h.length<=x.length
theorem xo4 {h x:List Int} (hh:HOk h):∀k:Nat,qc0 (1000000*k) (qw2 h x k)/\0<=qj8 h x k/\qj8 h x k<=1000000*k
 | 0=>by simp_all [qc0,qw2,qj8]
 | k+1=>by
  obtain⟨h1,h2,h3⟩:=xo4 (x:=x) hh k
  have h4:=hh.sm k
  rw[qw2,qj8]
  unfold qc0 qd6 at *
  omega
theorem xo5 {h x:List Int} {k:Nat} (hh:HOk h) (hk:k<h.length):(0<nI x k->qw2 h x (k+1)=qw2 h x k+nI h k/\qj8 h x (k+1)=qj8 h x k)/\(¬0<nI x k->nI x k<0->qw2 h x (k+1)=qw2 h x k-nI h k/\qj8 h x (k+1)=qj8 h x k)/\(¬0<nI x k->¬nI x k<0->qw2 h x (k+1)=qw2 h x k/\qj8 h x (k+1)=qj8 h x k+qd6 (nI h k)):=by
 refine⟨λq=>?_,λq r=>?_,λq r=>?_⟩
 ·rw[qw2,qj8,zao q,zao q]; simp
 ·rw[qw2,qj8,zak q,zak q,zao r,zao r]; simp
 ·rw[qw2,qj8,zak q,zak q,zak r,zak r]; simp
def y0q (h x:List Int):Nat->Option Inv
 | 0=>some (Inv.of [5,6,11] 0 (λk:Nat=>[(5,.lit (.int .i64 (qw2 h x k))),(6,.lit (.int .i64 (qj8 h x k))),(11,.lit (.int .i64 k))]) (λ_=>[]) (λk=>k<=h.length) (λk=>h.length-k))
 | _=>none
abbrev sAg:qb3:=qe8 true none [tInts,tInts] [.bool] (λx=>x2w x.1 x.2.1) (λx=>(agB x.1 x.2.1,()))
theorem x1g:Meets Tryz.prog 70 sAg:=by
 refine mts (SpecsOk.cons q0x (SpecsOk.nil _)) Tryz.func70 (λx=>y0q x.1 x.2.1) ?_
 rintro⟨h,x,⟨⟩⟩ hh
 revert h x
 intro(h:List Int) (x:List Int) (hh:x2w h x)
 refine vcs (∃(v0:Unit),∃(v1:Nat),Nat.le v1 h.length/\(((0:Int)=qw2 h x v1/\(0:Int)=qj8 h x v1/\(0:Int)=(↑v1:Int)/\True)/\True)/\∀(v2:Nat),Nat.le v2 h.length->(decide ((↑v2:Int)<(↑h.length:Int))=true->((0:Int)<=(↑v2:Int)/\(↑v2:Int)<(↑h.length:Int))/\((0:Int)<=(↑v2:Int)/\(↑v2:Int)<(↑x.length:Int))/\(decide ((0:Int)<nI x v2)=true->fits .i64 (qw2 h x v2+nI h v2)/\fits .i64 ((↑v2:Int)+(1:Int))/\∃(v6:Nat),Nat.le v6 h.length/\h.length-v6<h.length-v2/\(qw2 h x v2+nI h v2=qw2 h x v6/\qj8 h x v2=qj8 h x v6/\(↑v2:Int)+(1:Int)=(↑v6:Int)/\True)/\True)/\(decide ((0:Int)<nI x v2)=false->((0:Int)<=(↑v2:Int)/\(↑v2:Int)<(↑x.length:Int))/\(decide (nI x v2<(0:Int))=true->fits .i64 (qw2 h x v2-nI h v2)/\fits .i64 ((↑v2:Int)+(1:Int))/\∃(v7:Nat),Nat.le v7 h.length/\h.length-v7<h.length-v2/\(qw2 h x v2-nI h v2=qw2 h x v7/\qj8 h x v2=qj8 h x v7/\(↑v2:Int)+(1:Int)=(↑v7:Int)/\True)/\True)/\(decide (nI x v2<(0:Int))=false->qc0 (1000000000:Int) (nI h v2)/\fits .i64 (qj8 h x v2+qd6 (nI h v2))/\fits .i64 ((↑v2:Int)+(1:Int))/\∃(v7:Nat),Nat.le v7 h.length/\h.length-v7<h.length-v2/\(qw2 h x v2=qw2 h x v7/\qj8 h x v2+qd6 (nI h v2)=qj8 h x v7/\(↑v2:Int)+(1:Int)=(↑v7:Int)/\True)/\True)))/\(decide ((↑v2:Int)<(↑h.length:Int))=false->qc0 (1000000000:Int) (qw2 h x v2)/\decide (qj8 h x v2<=qd6 (qw2 h x v2))=agB h x)) ?_
 have hl:=hh.ok.len
 have hx:=hh.le
 refine⟨(),0,zae _,⟨rfl,rfl,rfl⟩,λk hk=>⟨λhlt=>?_,λhge=>?_⟩⟩
 ·obtain⟨s1,s2,s3⟩:=xo5 (x:=x) hh.ok hlt
  have b1:=xo4 (x:=x) hh.ok k
  have b3:=hh.ok.sm k
  have b4:qc0 1000000000 (nI h k):=ow
  unfold qc0 at b1 b3
  have b5:qd6 (nI h k)=((nI h k).natAbs:Int):=rfl
  grind [qa3,Int.not_lt]
 ·obtain rfl:k=h.length:=ow
  have b1:=xo4 (x:=x) hh.ok h.length
  unfold qc0 at *
  exact⟨ow,rfl⟩
abbrev yu3:qb3:=hspec [] true none [.d tInts,.cap tInts] [.bool] (λx=>x2w x.1 x.2.1) (λx=>(agB x.1 x.2.1,()))
theorem xo6:Meets Tryz.prog 69 yu3:=by
 refine qu0 (SpecsOk.nil _) (snd (SpecsOk.cons x1g (SpecsOk.nil _))) Tryz.func69 rfl rfl (λ_ _=>none) (λ_=>by kernel_rfl) dc ?_
 rintro⟨h,x,⟨⟩⟩ hh
 revert h x
 intro(h:List Int) (x:List Int) (hh:x2w h x)
 refine vcr (x2w h x/\agB h x=agB h x) ?_
 grind
structure AgPre (m:List (List Int)) (x:List Int):Prop where
 fit:x61 m
 len:x.length<=1000
def agI (m:List (List Int)) (x:List Int):Int:=ixT (.list (.int .i64)) (λh=>agB h x) (qf2 m).1
def agC (m:List (List Int)) (x:List Int):List Int:=if agI m x<0 then[] else nL (qf2 m).1 (agI m x).toNat
def w2l (m:List (List Int)) (x:List Int):List Int × Int:=if qr6 m x=0 then if agI m x<0 then([],8) else(nL (qf2 m).1 (agI m x).toNat,0) else([],qr6 m x)
theorem AgPre.ag {m:List (List Int)} {x:List Int} (h:AgPre m x) (he:qr6 m x=0):validB m=true/\(qf2 m).1.length<=1000000/\∀i,i<(qf2 m).1.length->x2w (nL (qf2 m).1 i) x/\0<(nL (qf2 m).1 i).length:=by
 have hS:=Shw.of he
 refine⟨hS.val,q4u hS.val,λi hi=>?_⟩
 obtain⟨s,hc⟩:=q2x hS.val (h.fit.n7 hS.val) hi
 have:=hS.msk.pix1
 exact⟨⟨wn6 hS.val hc,by rw[hc.len,hS.len]; simp⟩,by rw[hc.len]; omega⟩
abbrev yu4:qb3:=qe8 true none [tMask,tInts] [tInt] (λx=>AgPre x.1 x.2.1) (λx=>(qr6 x.1 x.2.1,()))
theorem xo7 (m:List (List Int)) (x:List Int):(readR m x).2=qr6 m x:=by
 grind [readR]
theorem xo8:Meets Tryz.prog 66 yu4:=by
 refine mt0 (SpecsOk.cons w7e (SpecsOk.nil _)) Tryz.func66 ?_
 rintro⟨m,x,⟨⟩⟩ h
 revert m x
 intro(m:List (List Int)) (x:List Int) (h:AgPre m x)
 refine vcs (x.length<=(1000000:Nat)/\(readR m x).2=qr6 m x) ?_
 exact⟨by have:=h.len; omega,xo7 m x⟩
theorem wg9:Meets Tryz.prog 64 yu4:=by
 refine mt0 (SpecsOk.cons q8o (SpecsOk.nil _)) Tryz.func64 ?_
 rintro⟨m,x,⟨⟩⟩ h
 revert m x
 intro(m:List (List Int)) (x:List Int) (h:AgPre m x)
 refine vcs (xf4 m x/\(readR m x).2=qr6 m x) ?_
 exact⟨⟨h.fit.fit,by have:=h.len; omega⟩,xo7 m x⟩
abbrev yu5:qb3:=qe8 false none [tMask,tInts] [tInts,tInt] (λx=>AgPre x.1 x.2.1) (λx=>((w2l x.1 x.2.1).1,(w2l x.1 x.2.1).2,()))
theorem wz9:Meets Tryz.prog 22 yu5:=by
 refine mt0 (SpecsOk.cons xo8 (SpecsOk.cons q5u (SpecsOk.cons (q74 (fs:=[(69,yu3)]) (SpecsOk.cons xo6 (SpecsOk.nil _))) (SpecsOk.nil _)))) Tryz.func22 ?_
 rintro⟨m,x,⟨⟩⟩ h
 revert m x
 intro(m:List (List Int)) (x:List Int) (h:AgPre m x)
 refine vcs (let Q0:=w2l m x; AgPre m x/\((qr6 m x != (0:Int))=true->Q0.1=[]/\qr6 m x=Q0.2/\True)/\((qr6 m x != (0:Int))=false->(validB m=true->q99 m)/\∃(v1:qa5 [Ty.list (Ty.int .i64)]->Prop),∃(v2:qa5 [Ty.list (Ty.int .i64)]->Bool),(∀(v3:List Int × qa5._f [] PUnit.unit),v1 v3->x2w v3.1 x/\agB v3.1 x=v2 v3)/\((qf2 m).1.length<=(1000000:Nat)/\∀(v3:Nat),v3<(qf2 m).1.length->v1 (nL (qf2 m).1 v3,()))/\(decide (ixT (Ty.list (Ty.int .i64)) (λ(v4:List Int)=>v2 (v4,())) (qf2 m).1<(0:Int))=true->Q0.1=[]/\(8:Int)=Q0.2/\True)/\(decide (ixT (Ty.list (Ty.int .i64)) (λ(v4:List Int)=>v2 (v4,())) (qf2 m).1<(0:Int))=false->((0:Int)<=ixT (Ty.list (Ty.int .i64)) (λ(v4:List Int)=>v2 (v4,())) (qf2 m).1/\ixT (Ty.list (Ty.int .i64)) (λ(v4:List Int)=>v2 (v4,())) (qf2 m).1<(↑(qf2 m).1.length:Int))/\nL (qf2 m).1 (ixT (Ty.list (Ty.int .i64)) (λ(v4:List Int)=>v2 (v4,())) (qf2 m).1).toNat=Q0.1/\(0:Int)=Q0.2/\True))) ?_
 refine⟨h,λhe=>?_,λhe=>?_⟩
 ·unfold w2l; grind
 obtain⟨hv,hl,ha⟩:=h.ag he
 refine⟨λhv=>ya0 hv,λy=>x2w y.1 x,λy=>agB y.1 x,λy hy=>⟨hy,rfl⟩,⟨hl,λi hi=>(ha i hi).1⟩,λhn=>?_,λhn=>?_⟩
 ·have hn:agI m x<0:=hn
  unfold w2l; grind
 ·have hn':¬agI m x<0:=zbd.2 hn
  have hlt:=(wu0 (.list (.int .i64)) (λh=>agB h x) (qf2 m).1).1
  unfold w2l; rw[zao he,zak hn']; exact⟨⟨hn,hlt⟩,rfl,rfl⟩
def yq6 (l:List (List Int)) (x:List Int):Nat->Option Inv
 | 0=>some (Inv.of [14] 0 (λi:Nat=>[(14,.lit (.int .i64 i))]) (λ_=>[]) (λi=>i<=l.length/\∀j,j<i->agB (nL l j) x=false) (λi=>l.length-i))
 | 1=>some (Eng.Inv.mk Nat Nat [7,8,20] 0 (λi k=>[(7,.lit (.int .i64 (qw2 (nL l i) x k))),(8,.lit (.int .i64 (qj8 (nL l i) x k))),(20,.lit (.int .i64 k))]) (λ_ _=>[]) (λi k=>k<=(nL l i).length) (λi k=>(nL l i).length-k))
 | _=>none
abbrev y0r:qb3:=xv8 false none [tMask,tInts] (λx=>AgPre x.1 x.2.1/\qr6 x.1 x.2.1=0) (λx=>.ndat false (.int .i64) (agC x.1 x.2.1))
theorem w0a:Meets Tryz.prog 65 y0r:=by
 refine w3w (snd (SpecsOk.cons w79 (SpecsOk.cons w77 (SpecsOk.nil _)))) Tryz.func65 rfl rfl (λx=>yq6 (qf2 x.1).1 x.2.1) (λ_=>by kernel_rfl) dc ?_
 rintro⟨m,x,⟨⟩⟩ h
 revert m x
 intro(m:List (List Int)) (x:List Int) (h:AgPre m x/\qr6 m x=0)
 refine vcs (x61 m/\∃(v0:Unit),∃(v1:Nat),(v1<=(qf2 m).1.length/\∀(v2:Nat),Nat.le (Nat.succ v2) v1->agB (nL (qf2 m).1 v2) x=false)/\(((0:Int)=(↑v1:Int)/\True)/\True)/\∀(v2:Nat),(v2<=(qf2 m).1.length/\∀(v4:Nat),Nat.le (Nat.succ v4) v2->agB (nL (qf2 m).1 v4) x=false)->(decide ((↑v2:Int)<(↑(qf2 m).1.length:Int))=true->((0:Int)<=(↑v2:Int)/\(↑v2:Int)<(↑(qf2 m).1.length:Int))/\∃(v5:Nat),∃(v6:Nat),Nat.le v6 (nL (qf2 m).1 v5).length/\(((0:Int)=qw2 (nL (qf2 m).1 v5) x v6/\(0:Int)=qj8 (nL (qf2 m).1 v5) x v6/\(0:Int)=(↑v6:Int)/\True)/\True)/\∀(v7:Nat),Nat.le v7 (nL (qf2 m).1 v5).length->(decide ((↑v7:Int)<(↑(nL (qf2 m).1 v2).length:Int))=true->((0:Int)<=(↑v7:Int)/\(↑v7:Int)<(↑(nL (qf2 m).1 v2).length:Int))/\((0:Int)<=(↑v7:Int)/\(↑v7:Int)<(↑x.length:Int))/\(decide ((0:Int)<nI x v7)=true->fits .i64 (qw2 (nL (qf2 m).1 v5) x v7+nI (nL (qf2 m).1 v2) v7)/\fits .i64 ((↑v7:Int)+(1:Int))/\∃(v11:Nat),Nat.le v11 (nL (qf2 m).1 v5).length/\(nL (qf2 m).1 v5).length-v11<(nL (qf2 m).1 v5).length-v7/\(qw2 (nL (qf2 m).1 v5) x v7+nI (nL (qf2 m).1 v2) v7=qw2 (nL (qf2 m).1 v5) x v11/\qj8 (nL (qf2 m).1 v5) x v7=qj8 (nL (qf2 m).1 v5) x v11/\(↑v7:Int)+(1:Int)=(↑v11:Int)/\True)/\True)/\(decide ((0:Int)<nI x v7)=false->((0:Int)<=(↑v7:Int)/\(↑v7:Int)<(↑x.length:Int))/\(decide (nI x v7<(0:Int))=true->fits .i64 (qw2 (nL (qf2 m).1 v5) x v7-nI (nL (qf2 m).1 v2) v7)/\fits .i64 ((↑v7:Int)+(1:Int))/\∃(v12:Nat),Nat.le v12 (nL (qf2 m).1 v5).length/\(nL (qf2 m).1 v5).length-v12<(nL (qf2 m).1 v5).length-v7/\(qw2 (nL (qf2 m).1 v5) x v7-nI (nL (qf2 m).1 v2) v7=qw2 (nL (qf2 m).1 v5) x v12/\qj8 (nL (qf2 m).1 v5) x v7=qj8 (nL (qf2 m).1 v5) x v12/\(↑v7:Int)+(1:Int)=(↑v12:Int)/\True)/\True)/\(decide (nI x v7<(0:Int))=false->qc0 (1000000000:Int) (nI (nL (qf2 m).1 v2) v7)/\fits .i64 (qj8 (nL (qf2 m).1 v5) x v7+qd6 (nI (nL (qf2 m).1 v2) v7))/\fits .i64 ((↑v7:Int)+(1:Int))/\∃(v12:Nat),Nat.le v12 (nL (qf2 m).1 v5).length/\(nL (qf2 m).1 v5).length-v12<(nL (qf2 m).1 v5).length-v7/\(qw2 (nL (qf2 m).1 v5) x v7=qw2 (nL (qf2 m).1 v5) x v12/\qj8 (nL (qf2 m).1 v5) x v7+qd6 (nI (nL (qf2 m).1 v2) v7)=qj8 (nL (qf2 m).1 v5) x v12/\(↑v7:Int)+(1:Int)=(↑v12:Int)/\True)/\True)))/\(decide ((↑v7:Int)<(↑(nL (qf2 m).1 v2).length:Int))=false->qc0 (1000000000:Int) (qw2 (nL (qf2 m).1 v5) x v7)/\(decide (qj8 (nL (qf2 m).1 v5) x v7<=qd6 (qw2 (nL (qf2 m).1 v5) x v7))=true->nL (qf2 m).1 v2=agC m x/\Nat.le (1:Nat) (nL (qf2 m).1 v2).length)/\(decide (qj8 (nL (qf2 m).1 v5) x v7<=qd6 (qw2 (nL (qf2 m).1 v5) x v7))=false->fits .i64 ((↑v2:Int)+(1:Int))/\∃(v11:Nat),(v11<=(qf2 m).1.length/\∀(v12:Nat),Nat.le (Nat.succ v12) v11->agB (nL (qf2 m).1 v12) x=false)/\(qf2 m).1.length-v11<(qf2 m).1.length-v2/\((↑v2:Int)+(1:Int)=(↑v11:Int)/\True)/\True)))/\(decide ((↑v2:Int)<(↑(qf2 m).1.length:Int))=false->agC m x=[])) ?_
 obtain⟨hP,he⟩:=h
 obtain⟨hv,hll,ha⟩:=hP.ag he
 have hat:=λ(k:Nat) (hk:k<(qf2 m).1.length)=>wt9 (.list (.int .i64)) (λh=>agB h x) (qf2 m).1 k hk
 have hno:=q6v (.list (.int .i64)) (λh=>agB h x) (qf2 m).1
 have hC:agC m x=if agI m x<0 then[] else nL (qf2 m).1 (agI m x).toNat:=rfl
 have hI:agI m x=ixT (.list (.int .i64)) (λh=>agB h x) (qf2 m).1:=rfl
 rw[<- hI] at hat hno
 rw[hC]
 clear hC hI
 generalize agI m x=I at *
 generalize(qf2 m).1=l at *
 refine⟨hP.fit,(),0,⟨zae _,λi hi=>absurd hi (zav _)⟩,rfl,λi ⟨hi,hall⟩=>⟨λhlt=>?_,λhge=>?_⟩⟩
 ·obtain⟨hA,hpos⟩:=ha i hlt
  have hl:=hA.ok.len
  have hx:=hA.le
  refine⟨hlt,i,0,zae _,⟨rfl,rfl,rfl⟩,λk hk=>⟨λhkl=>?_,λhge=>?_⟩⟩
  ·obtain⟨s1,s2,s3⟩:=xo5 (x:=x) hA.ok hkl
   have b1:=xo4 (x:=x) hA.ok k
   have b3:=hA.ok.sm k
   generalize nL l i=h at *
   have b4:qc0 1000000000 (nI h k):=ow
   unfold qc0 at b1 b3
   have b5:qd6 (nI h k)=((nI h k).natAbs:Int):=rfl
   refine⟨hkl,ow,λq=>?_,λq=>⟨ow,λr=>?_,λr=>?_⟩⟩
   ·obtain⟨e1,e2⟩:=s1 q
    exact⟨qa3,qa3,k+1,hkl,ow,e1.symm,e2.symm,by rfl⟩
   ·obtain⟨e1,e2⟩:=s2 (zbd.2 q) r
    exact⟨qa3,qa3,k+1,hkl,ow,e1.symm,e2.symm,by rfl⟩
   ·obtain⟨e1,e2⟩:=s3 (zbd.2 q) (zbd.2 r)
    exact⟨b4,qa3,qa3,k+1,hkl,ow,e1.symm,e2.symm,by rfl⟩
  ·obtain rfl:k=(nL l i).length:=ow
   have b1:=xo4 (x:=x) hA.ok (nL l i).length
   have hd:agB (nL l i) x=decide (qj8 (nL l i) x (nL l i).length<=qd6 (qw2 (nL l i) x (nL l i).length)):=rfl
   refine⟨ow,λq=>?_,λq=>⟨qa3,i+1,⟨hlt,λj hj=>?_⟩,ow,by rfl⟩⟩
   ·have e:I=i:=hat i hlt (λj hj=>hall j hj) (by rw[show agB (qe0 (.list (.int .i64)) l i) x=agB (nL l i) x from rfl,hd]; grind)
    subst e
    rw[zak ow,zaq]
    grind
   grind
 ·have e:I=-1:=hno λj hj=>hall j ow
  grind
def yc6 (a b:List (Ty.den (.int .i64))):Nat->Option Inv
 | 0=>some (Inv.of [13] 0 (λk:Nat=>[(13,.lit (.int .i64 k))]) (λ_=>[]) (λk=>k<=a.length/\∀i,i<k->qe0 (.int .i64) a i=qe0 (.int .i64) b i) (λk=>a.length-k))
 | _=>none
abbrev yq7:qb3:=qe8 true none [.list (.int .i64),.list (.int .i64)] [.bool] (λx=>x.1.length<=1000000) (λx=>(decide (x.1=x.2.1),()))
theorem w8a:Meets Tryz.prog 24 yq7:=by
 refine mts (SpecsOk.nil _) Tryz.func24 (λx=>yc6 x.1 x.2.1) ?_
 rintro⟨a,b,⟨⟩⟩ h
 revert a b
 intro(a:List (Ty.den (.int .i64))) (b:List (Ty.den (.int .i64))) (h:a.length<=1000000)
 refine vcs ((((↑a.length:Int) != (↑b.length:Int))=true->false=decide (a=b))/\(((↑a.length:Int) != (↑b.length:Int))=false->∃(v1:Unit),∃(v2:Nat),(v2<=a.length/\∀(v3:Nat),Nat.le (Nat.succ v3) v2->nI a v3=nI b v3)/\(((0:Int)=(↑v2:Int)/\True)/\True)/\∀(v3:Nat),(v3<=a.length/\∀(v5:Nat),Nat.le (Nat.succ v5) v3->nI a v5=nI b v5)->(decide ((↑v3:Int)<(↑a.length:Int))=true->((0:Int)<=(↑v3:Int)/\(↑v3:Int)<(↑a.length:Int))/\((0:Int)<=(↑v3:Int)/\(↑v3:Int)<(↑b.length:Int))/\((nI a v3 != nI b v3)=true->false=decide (a=b))/\((nI a v3 != nI b v3)=false->fits .i64 ((↑v3:Int)+(1:Int))/\∃(v7:Nat),(v7<=a.length/\∀(v8:Nat),Nat.le (Nat.succ v8) v7->nI a v8=nI b v8)/\a.length-v7<a.length-v3/\((↑v3:Int)+(1:Int)=(↑v7:Int)/\True)/\True))/\(decide ((↑v3:Int)<(↑a.length:Int))=false->true=decide (a=b)))) ?_
 refine⟨λhl=>?_,λhl=>?_⟩
 ·grind
 ·refine⟨(),0,⟨zae _,λi hi=>absurd hi ow⟩,rfl,λk ⟨hk,hall⟩=>⟨λhlt=>⟨hlt,ow,λhne=>?_,λhe=>⟨qa3,k+1,⟨ow,λi hi=>?_⟩,ow,ow⟩⟩,λhge=>?_⟩⟩
  ·grind
  ·grind
  ·exact(zc9 (xy2 _ a b ow λi hi=>hall i ow)).symm
theorem xo9 {h p:List Int} (hh:xm0 h p):hlf (shR h p)=decide (szL h<=2*inL h p):=by
 have k:=wg6 hh
 have hp:=q9j hh.ok hh.ne
 have e:=k.eq
 have h1:=k.pos
 unfold hlf
 generalize shR h p=r at *
 generalize inL h p=n at *
 generalize szL h=d at *
 have e2:2*r.1*d=2*n*r.2:=by grind
 rw[decide_eq_decide]
 constructor
 ·intro q
  have q2:=zai q (c:=d) ow
  rw[e2] at q2
  refine zbx (a:=r.2) ?_ ow
  grind
 ·intro q
  have q2:=zai q (c:=r.2) ow
  rw[<- e2] at q2
  refine zbx (a:=d) ?_ hp
  grind
theorem yc7:hlf (0,1)=false:=by rfl
theorem xp0 {l:List (List Int)} {k:Nat} (hk:hlf (ql1 l k l.length)=true):∀f j,j<k->ordF l f j<k
 | 0,j,hj=>hj
 | f+1,j,hj=>by
  rw[ordF]
  split
  ·rename_i q
   have:j+1≠k:=λe=>by grind
   exact xp0 hk f (j+1) ow
  omega
theorem x1h {m:List (List Int)} (hv:validB m=true) (h7:(nL m 0).length<=7):hlf (ql1 (qf2 m).1 0 (qf2 m).1.length)=false:=by
 have hT:=(yc3 (m:=m) λ_=>h7).shs hv 0 (zae _)
 rcases(q9r hT _ (zab _)).2 with e | ⟨i,hi,e⟩
 ·grind [yc7]
 ·rw[e]
  obtain⟨s,hc⟩:=q2x hv h7 hi
  have hs:=w2j hv hc (xo0 hc 0)
  rw[xo9 hs]
  have:inL (nL (qf2 m).1 i) (q3p (nL (qf2 m).1 i) 0)=0:=by rw[wn9]; rfl
  rw[this]
  have:=xn3 hc
  grind
theorem x1i {m:List (List Int)} (hv:validB m=true) (h7:(nL m 0).length<=7) {k:Nat} (hk:k<=ordL m):hlf (ql1 (qf2 m).1 k (qf2 m).1.length)=false:=by
 rcases zb7 k with e | e
 ·grind [x1h]
 ·cases q:hlf (ql1 (qf2 m).1 k (qf2 m).1.length) with
  | false=>rfl
  | true=>
   have:=xp0 q (nL m 0).length 0 e
   grind [ordL]
theorem yc8 {m:List (List Int)} (hv:validB m=true) (h7:(nL m 0).length<=7) {p:List Int} (hp:Named (nL m 0).length p):leQ (xm3 (qf2 m).1 p (qf2 m).1.length) (ql1 (qf2 m).1 p.length (qf2 m).1.length):=by
 have hpl:=hp.len
 have hT:=(yc3 (m:=m) λ_=>h7).shs hv p.length hpl
 have om:yf0 (qf2 m).1 p:=⟨q4u hv,λi hi=>by
  grind [q2x,w2j]⟩
 have lt:=qz9 hT _ (zab _)
 rw[zaq] at lt
 rcases(wo0 om _ (zab _)).2 with e | ⟨i,hi,e⟩
 ·grind [x1f]
 ·rw[e]
  obtain⟨s,hc⟩:=q2x hv h7 hi
  have hs:=om.ok i hi
  have hl:=w2j hv hc (xo0 hc p.length)
  have:=q9j hs.ok hs.ne
  exact q9q (wg6 hs).pos (wg6 hl).pos lt.pos (yq3 hs hl (zai (x1e (by rw[hc.len]; omega)) ow)) ((q9r hT _ (zab _)).1 i hi)
theorem x2x {m:List (List Int)} (hv:validB m=true) (h7:(nL m 0).length<=7) {p:List Int} (hp:Named (nL m 0).length p):q2q (xm3 (qf2 m).1 p (qf2 m).1.length):=
 q65 ⟨q4u hv,λi hi=>by
  grind [q2x,w2j]⟩ _ (zab _)
theorem x6f {m:List (List Int)} (hv:validB m=true) (h7:(nL m 0).length<=7) {p:List Int} (hp:Named (nL m 0).length p) (hk:p.length<=ordL m):hlf (xm3 (qf2 m).1 p (qf2 m).1.length)=false:=by
 have hT:=(yc3 (m:=m) λ_=>h7).shs hv p.length hp.len
 have lt:=qz9 hT _ (zab _)
 rw[zaq] at lt
 exact xo1 (x2x hv h7 hp).pos lt.pos (yc8 hv h7 hp) (x1i hv h7 hk)
theorem w5f {f:Int->Int} {q:Int->Bool}:∀l:List Int,(∀x∈l,q x=false->f x=0)->q2s f (l.filter q)=q2s f l
 | [],_=>rfl
 | x :: l,h=>by
  have ih:=w5f (q:=q) l λy hy=>h y (by grind)
  cases e:q x with
  | true=>grind [List.filter_cons_of_pos,q2s]
  | false=>
   simp_all [List.filter_cons_of_neg,q2s,Int.zero_add]
def fT (x d:Int):Int:=if x=0 then qd6 d else if 0<x then d else -d
def fF (n:Nat) (x d:Nat->Int):Int:=sm n λi=>fT (x i) (d i)
def w8b (n:Nat) (d e:Nat->Int):Prop:=∀i,i<n->0<=d i*e i
theorem x1j {a b:Int} (h:0<=a*b):qd6 (a+b)=qd6 a+qd6 b:=by
 unfold qd6
 rcases zct a 0 with ha | ha | ha
 ·have hb:b<=0:=zbd.1 λq=>by have:=zbt ha q; omega
  omega
 ·omega
 ·have hb:0<=b:=zbd.1 λq=>by have:=zbk ha q; omega
  omega
theorem yc9 {x a b:Int} (h:0<=a*b):fT x (a+b)=fT x a+fT x b:=by
 grind [fT,x1j]
theorem q4v {a:Int} (b:Int) (h:0<=a):qd6 (a*b)=a*qd6 b:=by
 grind [qd6,Int.natAbs_mul,Int.natCast_mul,Int.natAbs_of_nonneg]
theorem yd0 {x a b:Int} (h:0<=a):fT x (a*b)=a*fT x b:=by
 grind [fT,q4v,Int.mul_neg]
theorem x2y {n:Nat} {x d e:Nat->Int} (h:w8b n d e):fF n x (λi=>d i+e i)=fF n x d+fF n x e:=by
 unfold fF
 rw[<- q8p]
 exact qe1 λi hi=>yc9 (h i hi)
theorem w0b {n:Nat} {x d:Nat->Int} {a:Int} (h:0<=a):fF n x (λi=>a*d i)=a*fF n x d:=by
 grind [fF,qk8,qe1,yd0]
theorem w2m {n:Nat} {x d:Nat->Int} (h:∀i,i<n->d i=0):fF n x d=0:=by
 grind [fF,qm5,fT,qd6]
theorem yd1 (z:Int):0<=z*z:=by
 rcases zew 0 z with q | q
 all_goals simp_all [Int.mul_nonneg,Int.mul_nonneg_of_nonpos_of_nonpos]
theorem xp1 {n:Nat} {d c:Nat->Int} (hex:∃i,i<n/\0<d i*c i) :
  ∃k,k<n/\0<d k*c k/\w8b n (λi=>qd6 (c k)*d i-qd6 (d k)*c i) d/\qd6 (c k)*d k-qd6 (d k)*c k=0/\0<qd6 (c k)/\0<qd6 (d k):=by
 obtain⟨k,hk,hpk,hmin⟩:=xn8 (P:=λi=>i<n/\0<d i*c i) (x:=λi=>qd6 (d i)) (y:=λi=>qd6 (c i)) (λi _=>qs7 _) (λi hi=>by
  have:c i≠0:=λq=>by grind
  show 0<qd6 (c i)
  unfold qd6; omega) n (by grind)
 have hpk:=hpk.2
 have same:∀a b:Int,0<a*b->(0<a/\0<b)\/(a<0/\b<0):=λa b h=>by
  rcases zct a 0 with q | q | q
  ·right; refine⟨q,zc8.1 λr=>?_⟩
   have:=Int.mul_nonpos_of_nonpos_of_nonneg (show a<=0 by omega) r; omega
  ·grind
  ·left; refine⟨q,zc8.1 λr=>?_⟩
   have:=za4 (show 0<=a by omega) r; omega
 refine⟨k,hk,hpk,λi hi=>?_,?_⟩
 ·show 0<=(qd6 (c k)*d i-qd6 (d k)*c i)*d i
  have e:(qd6 (c k)*d i-qd6 (d k)*c i)*d i=qd6 (c k)*(d i*d i)-qd6 (d k)*(d i*c i):=by grind
  rw[e]
  have h1:0<=qd6 (c k)*(d i*d i):=zbs (qs7 _) (yd1 _)
  rcases zcq 0 (d i*c i) with q | q
  ·have h2:qd6 (d k)*qd6 (c i)<=qd6 (d i)*qd6 (c k):=hmin i hi ⟨hi,q⟩
   have h3:0<=qd6 (d i):=qs7 _
   have h4:=zai h2 h3
   have e1:qd6 (d i)*qd6 (d i)=d i*d i:=by unfold qd6; rcases same _ _ q with r | r <;> rcases Int.natAbs_eq (d i) with w | w <;> grind
   have e2:qd6 (c i)*qd6 (d i)=d i*c i:=by
    rcases same _ _ q with r | r
    ·have a1:qd6 (d i)=d i:=by unfold qd6; omega
     have a2:qd6 (c i)=c i:=by unfold qd6; omega
     rw[a1,a2,ze6]
    ·have a1:qd6 (d i)=-d i:=by unfold qd6; omega
     have a2:qd6 (c i)=-c i:=by unfold qd6; omega
     rw[a1,a2]; grind
   have e3:qd6 (d k)*qd6 (c i)*qd6 (d i)=qd6 (d k)*(d i*c i):=by grind
   have e4:qd6 (d i)*qd6 (c k)*qd6 (d i)=qd6 (c k)*(d i*d i):=by rw[<- e1]; grind
   omega
  ·have h2:=zbs (qs7 (d k)) (show 0<=-(d i*c i) by omega)
   rw[Int.mul_neg] at h2
   omega
 grind [same,qd6]
theorem shrink {n:Nat} {d c:Nat->Int} (_:∀i,i<n->c i≠0->d i≠0) (hex:∃i,i<n/\0<d i*c i) :
  ∃k,k<n/\0<d k*c k/\w8b n (λi=>qd6 (c k)*d i-qd6 (d k)*c i) d/\qd6 (c k)*d k-qd6 (d k)*c k=0/\0<qd6 (c k)/\0<qd6 (d k):=xp1 hex
theorem w5g {m:List (List Int)} (hv:validB m=true) (h7:(nL m 0).length<=7) {x:Nat->Int} (hsafe:∀h∈(qf2 m).1,0<fF (nL m 0).length x (nI h)/\0<fF (nL m 0).length x (λi=>-(nI h i))) :
  ∀(K:Nat) (d:Nat->Int),q9c (nL m 0).length d<=K->Sol m.length (nL m 0).length (rowOf m) d->(∃c,c<(nL m 0).length/\d c≠0)->0<fF (nL m 0).length x d
 | 0,d,hK,_,⟨c,hc,hd⟩=>by
  have:=cnt_lt (d:=λ_=>0) (e:=d) (c0:=c) rfl hd _ hc λc _ q=>absurd rfl q
  omega
 | K+1,d,hK,hs,hne=>by
  obtain⟨s,hsN,hs1,hsC,hsd⟩:=q2w (Mk.of hv) _ d (zab _) hs hne
  obtain⟨h,hh,hc⟩:=x6a hv h7 hsN hs1 hsC
  have hsf:=hsafe h hh
  have hsup:∀i,i<(nL m 0).length->nI h i≠0->d i≠0:=λi hi hne=>by
   refine zaf λq=>hne (hc.off i hi λj hj e=>hsd j hj ?_)
   grind
  have hcnz:∃c,c<(nL m 0).length/\nI h c≠0:=⟨(nI s 0).toNat,by have:=hsN.at_ 0 hs1; omega,hc.on 0 hs1⟩
  have hcs:=hc.sol
  generalize hcf:nI h=c at *
  have ih:=w5g hv h7 hsafe K
  generalize hn:(nL m 0).length=n at *
  -- what is left of d,one coordinate fewer
  have part:∀e:Nat->Int,(∀i,i<n->e i≠0->d i≠0)->Sol m.length n (rowOf m) e->(∃i,i<n/\0<d i*e i) ->
    ∃a b:Int,0<a/\0<b/\w8b n (λi=>a*d i-b*e i) d/\(0<fF n x (λi=>a*d i-b*e i)\/∀i,i<n->a*d i-b*e i=0):=λe hsup hes hex=>by
   obtain⟨k,hk,hpk,hcons,hz,hp1,hp2⟩:=shrink hsup hex
   refine⟨qd6 (e k),qd6 (d k),hp1,hp2,hcons,?_⟩
   by_cases hnz:∃i,i<n/\qd6 (e k)*d i-qd6 (d k)*e i≠0
   ·left
    refine ih _ ?_ (λa ha=>?_) hnz
    ·have hdk:d k≠0:=λq=>by grind
     have:=cnt_lt (d:=λi=>qd6 (e k)*d i-qd6 (d k)*e i) (e:=d) (c0:=k) hz hdk n hk λi hi q=>by
      grind
     omega
    ·have h1:=hs a ha
     have h2:=hes a ha
     have e1:sm n (λi=>rowOf m a i*(qd6 (e k)*d i-qd6 (d k)*e i))=qd6 (e k)*sm n (λi=>rowOf m a i*d i)+(-qd6 (d k))*sm n (λi=>rowOf m a i*e i):=by
      rw[<- q9p]
      grind
     grind
   grind
  have hneg:Sol m.length n (rowOf m) λi=>-(c i):=λa ha=>by
   have h2:=hcs a ha
   have e1:sm n (λi=>rowOf m a i * -(c i))=(-1)*sm n (λi=>rowOf m a i*c i):=by
    rw[<- qk8]; grind
   grind
  have sqn:∀z:Int,0<=z*z:=yd1
  have fin1:∀e:Nat->Int,w8b n e d->0<fF n x e->(∀i,i<n->e i≠0->d i≠0)->Sol m.length n (rowOf m) e->(∃i,i<n/\e i≠0)->0<fF n x d:=λe hcd hpos hsup hes ⟨i0,hi0,hne0⟩=>by
   have hd0:=hsup i0 hi0 hne0
   have hpos0:0<d i0*e i0:=by
    have h1:=hcd i0 hi0
    grind [Int.mul_comm,Int.mul_ne_zero]
   obtain⟨a,b,ha,hb,hcons,hor⟩:=part e hsup hes ⟨i0,hi0,hpos0⟩
   have hadd:fF n x (λi=>a*d i)=fF n x (λi=>a*d i-b*e i)+fF n x (λi=>b*e i):=by
    rw[<- x2y (x:=x) (d:=λi=>a*d i-b*e i) (e:=λi=>b*e i) λi hi=>by
     show 0<=(a*d i-b*e i)*(b*e i)
     have h1:=hcons i hi
     have h2:=hcd i hi
     have h1:0<=(a*d i-b*e i)*d i:=h1
     rcases zct (d i) 0 with q | q | q
     ·have e1:a*d i-b*e i<=0:=zbd.1 λw=>by have:=zbk w q; omega
      have e2:e i<=0:=zbd.1 λw=>by have:=zbk w q; omega
      have e3:b*e i<=0:=za4 ow e2
      exact zc0 e1 e3
     ·grind
     ·have e1:0<=a*d i-b*e i:=zbd.1 λw=>by have:=zbt w q; omega
      have e2:0<=e i:=zbd.1 λw=>by have:=zbt w q; omega
      exact zbs e1 (zbs ow e2)]
    simp
   rw[w0b ow,w0b (a:=b) ow] at hadd
   have h1:0<b*fF n x e:=zb8 hb hpos
   have h2:0<=fF n x (λi=>a*d i-b*e i):=by
    grind [w2m]
   have h3:0<a*fF n x d:=ow
   exact zc8.1 λw=>by have:=za4 (show 0<=a by omega) w; omega
  by_cases hp:∃i,i<n/\0<d i*c i
  ·by_cases hm:∃i,i<n/\0<d i * -(c i)
   ·obtain⟨a,b,ha,hb,hc1,ho1⟩:=part c hsup hcs hp
    obtain⟨a',b',ha',hb',hc2,ho2⟩:=part (λi=>-(c i)) (λi hi q=>hsup i hi λw=>q ow) hneg hm
    have hadd:fF n x (λi=>(a*b'+a' * b)*d i)=fF n x (λi=>b' * (a*d i-b*c i))+fF n x (λi=>b*(a' * d i-b' * -(c i))):=by
     rw[<- x2y (x:=x) (d:=λi=>b' * (a*d i-b*c i)) (e:=λi=>b*(a' * d i-b' * -(c i))) λi hi=>by
      show 0<=(b' * (a*d i-b*c i))*(b*(a' * d i-b' * -(c i)))
      have h1:0<=(a*d i-b*c i)*d i:=hc1 i hi
      have h2:0<=(a' * d i-b' * -(c i))*d i:=hc2 i hi
      rcases zct (d i) 0 with q | q | q
      ·have e1:a*d i-b*c i<=0:=zbd.1 λw=>by have:=zbk w q; omega
       have e2:a' * d i-b' * -(c i)<=0:=zbd.1 λw=>by have:=zbk w q; omega
       exact zc0 (za4 ow e1) (za4 ow e2)
      ·grind
      ·have e1:0<=a*d i-b*c i:=zbd.1 λw=>by have:=zbt w q; omega
       have e2:0<=a' * d i-b' * -(c i):=zbd.1 λw=>by have:=zbt w q; omega
       exact zbs (zbs ow e1) (zbs ow e2)]
     grind
    have hT:0<a*b'+a' * b:=by have:=zb8 ha hb'; have:=zb8 ha' hb; omega
    rw[w0b ow,w0b (a:=b') ow,w0b (a:=b) ow] at hadd
    have n1:0<=fF n x (λi=>a*d i-b*c i):=by
     grind [w2m]
    have n2:0<=fF n x (λi=>a' * d i-b' * -(c i)):=by
     grind [w2m]
    have hsum:0<b' * fF n x (λi=>a*d i-b*c i)+b*fF n x (λi=>a' * d i-b' * -(c i)):=by
     have m1:=zbs (show 0<=b' by omega) n1
     have m2:=zbs (show 0<=b by omega) n2
     rcases ho1 with q | q
     ·have:=zb8 hb' q; omega
     ·rcases ho2 with q2 | q2
      ·have:=zb8 hb q2; omega
      ·obtain⟨i,hi,hdi⟩:=hne
       have e1:=q i hi
       have e2:=q2 i hi
       have e3:(a*b'+a' * b)*d i=b' * (a*d i-b*c i)+b*(a' * d i-b' * -(c i)):=by grind
       rw[e1,e2,zbl,zbl,ze7] at e3
       grind [absurd,Int.mul_ne_zero]
    rw[<- hadd] at hsum
    exact zc8.1 λw=>by have:=za4 (show 0<=a*b'+a' * b by omega) w; omega
   ·refine fin1 c (λi hi=>?_) hsf.1 hsup hcs hcnz
    grind
  ·refine fin1 (λi=>-(c i)) (λi hi=>?_) hsf.2 (λi hi q=>hsup i hi λw=>q ow) hneg ?_
   all_goals grind
end Go.Proofs.YtnchigbbjajiiaaGreat
