/- Lengths of a slice of slices. No condition. -/
import Derived.Test.YtnchigbbjajiiaaGreatVRep
import Derived.Test.YtnchigbbjajiiaaGreatTys
import Derived.Test.YtnchigbbjajiiaaGreatEng3
import Derived.Test.YtnchigbbjajiiaaGreatV0
import Derived.Test.YtnchigbbjajiiaaGreatCore
import Derived.Test.YtnchigbbjajiiaaGreatProg
import Derived.Test.YtnchigbbjajiiaaGreatV12
import Derived.Test.YtnchigbbjajiiaaGreatApp
import Derived.Test.YtnchigbbjajiiaaGreatN1
import Derived.Shelf.SlSortCmp.WholeK
import Derived.Shelf.Lay
import Derived.Ground.SlsfProg
import Derived.Test.YtnchigbbjajiiaaGreatEng2
import Derived.Shelf.Strings.Builder1
import Derived.Maps.AppendAt
import Derived.Ground.NamesProg
import Derived.Test.YtnchigbbjajiiaaGreatRows
import Derived.ProofKit
import Derived.OpenShut
import Derived.ShutString
import Derived.ChangeOld
import Derived.Below
import Derived.Deep.Matrix
set_option linter.unusedVariables false
set_option linter.unusedSimpArgs false
namespace Go.Proofs.YtnchigbbjajiiaaGreat
open Go Go.RowKit Eng
structure x2n (n:Int) (pix:List Int) (v:List (Int × Int)):Prop where
 n1:1<=n
 n2:n<=1000
 len:pix.length<=v.length
 big:pix.length<=1000000
 at_:∀k,k<pix.length->0<=nI pix k/\nI pix k<n
abbrev y5e:qa8:=qd9 true (some 43) [qc0,qe8,q25] [q25] (λx=>x2n x.1 x.2.1 x.2.2.1) (λx=>(wc0 x.1.toNat x.2.1 x.2.2.1 x.2.1.length,()))
def yz6 (n:Int) (pix:List Int) (v:List (Int × Int)):Nat->Option Inv
 | 0=>some (Inv.of [7,16] 1 (λk:Nat=>[(7,.own 0),(16,.lit (.int .i64 k))]) (λk=>[.vec 43 qv9 (wc0 n.toNat pix v k)]) (λk=>k<=pix.length) (λk=>pix.length-k))
 | _=>none
theorem xp8:Meets Tryz.prog 161 y5e:=by
 refine mts (SpecsOk.cons w0j (SpecsOk.nil _)) Tryz.func161 (λx=>yz6 x.1 x.2.1 x.2.2.1) ?_
 rintro⟨n,pix,v,⟨⟩⟩ h
 revert n pix v
 intro(n:Int) (pix:List Int) (v:List (Int × Int)) (h:x2n n pix v)
 refine vcs ((List.length [((0:Int),(1:Int))]=(1:Nat)/\(1:Ty.den (Ty.int .i64))<=n/\n<=(1000:Ty.den (Ty.int .i64)))/\∃(v0:Unit),∃(v1:Nat),Nat.le v1 pix.length/\((True/\(0:Int)=(↑v1:Int)/\True)/\List.replicate n.toNat (qf0 (Ty.prod (Ty.int .i64) (Ty.int .i64)) [((0:Int),(1:Int))] (0:Nat))=wc0 n.toNat pix v v1/\True)/\∀(v2:Nat),Nat.le v2 pix.length->(decide ((↑v2:Int)<(↑pix.length:Int))=true->((0:Int)<=(↑v2:Int)/\(↑v2:Int)<(↑pix.length:Int))/\((0:Int)<=(↑v2:Int)/\(↑v2:Int)<(↑v.length:Int))/\((0:Int)<=nI pix v2/\nI pix v2<(↑(wc0 n.toNat pix v v2).length:Int))/\(nI pix v2).toNat<(wc0 n.toNat pix v v2).length/\fits .i64 ((↑v2:Int)+(1:Int))/\∃(v5:Nat),Nat.le v5 pix.length/\pix.length-v5<pix.length-v2/\(True/\(↑v2:Int)+(1:Int)=(↑v5:Int)/\True)/\List.set (wc0 n.toNat pix v v2) (nI pix v2).toNat ((qf0 (Ty.prod (Ty.int .i64) (Ty.int .i64)) v v2).1,(qf0 (Ty.prod (Ty.int .i64) (Ty.int .i64)) v v2).2)=wc0 n.toNat pix v v5/\True)/\(decide ((↑v2:Int)<(↑pix.length:Int))=false->wc0 n.toNat pix v v2=wc0 n.toNat pix v pix.length)) ?_
 obtain⟨h1,h2,h3,h4,h5⟩:=h
 have e1:(n.toNat:Int)=n:=ow
 refine⟨⟨h1,h2⟩,(),0,zae _,⟨rfl,rfl⟩,λk hk=>⟨λhlt=>?_,λhge=>?_⟩⟩
 ·have ha:=h5 k hlt
  rw[q2w,e1]
  exact⟨hlt,ow,ha,ow,qa6,k+1,hlt,ow,by push_cast; rfl,rfl⟩
 ·obtain rfl:k=pix.length:=ow
  rfl
end Go.Proofs.YtnchigbbjajiiaaGreat
namespace Go.Proofs.YtnchigbbjajiiaaGreat.K
open Go Go.RowKit Eng Ls
def y2m (m:List (List Int)) (j:Nat):List Int:=m.map λr=>qf0 qc0 r j
open Go.RowKit Ls
def yj1:List Int->List Int->Int
 | a :: l,b :: r=>a*b+yj1 l r
 | _,_=>0
def y5f (n d:Nat):Int:=((n / Nat.gcd n d:Nat):Int)
def y5g (n d:Nat):Int:=((d / Nat.gcd n d:Nat):Int)
def x75 (a b:List Int):Nat:=(yj1 a a*yj1 b b).toNat
def yj2 (a b:List Int):Nat:=(yj1 a b*yj1 a b).toNat
def y5h (a b:List Int):(Int × Int) × Bool:=if x75 a b=0 then((0,0),false) else((y5f (yj2 a b) (x75 a b),y5g (yj2 a b) (x75 a b)),true)
def lk (m:List (List Int)) (q:Nat × Nat):(Int × Int) × Bool:=y5h (y2m m q.1) (y2m m q.2)
end Go.Proofs.YtnchigbbjajiiaaGreat.K
namespace Go.Proofs.YtnchigbbjajiiaaGreat
open Go Go.RowKit Eng
def cq (m:List (List Int)) (i j:Nat):Int:=sm m.length λa=>nI (nL m a) i*nI (nL m a) j
def spF (m:List (List Int)) (f:Fit):List (Int × Int):=wc0 (nL m 0).length f.1 f.2 f.1.length
def w8o (l:List (List (Int × Int))):List (Int × Int):=qf0 q25 l 0
def x9i (l:List (List (Int × Int))) (x:List Int):Bool:=(List.range (w8o l).length).all λj=>decide (nR (w8o l) j=(nI x j,1))
structure x2o (l:List (Int × Int)) (x:List Int) (k:Nat):Prop where
 le:k<=l.length
 ok:∀j,j<k->nR l j=(nI x j,1)
def w0k (h:List Int):Nat->Bool
 | 0=>true
 | k+1=>w0k h k && (nI h k==0)
theorem w5n {h:List Int} {k:Nat} (hn:nI h k≠0):∀n,k<n->w0k h n=false
 | 0,hk=>by omega
 | n+1,hk=>by
  rw[w0k]
  rcases zaw.1 hk with q | q
  ·rw[w5n hn n q]; rfl
  grind
def xp9 (m:List (List Int)) (h:List Int):Bool:=(List.range m.length).all λi=>decide (qs0 (nL m i) h (nL m i).length=0)
def w2y (m:List (List Int)) (h:List Int):Bool:=qb7 m && decide (h.length=(nL m 0).length) && !wv6 h && !w0k h h.length && xp9 m h
structure x2p (m:List (List Int)) (h:List Int) (k:Nat):Prop where
 le:k<=m.length
 ok:∀i,i<k->qs0 (nL m i) h (nL m i).length=0
structure xv6 (m:List (List Int)):Prop where
 fit:x4g m
 n7:qb7 m=true->(nL m 0).length<=7
def q2x (h x:List Int):Nat->Int
 | 0=>0
 | k+1=>if 0<nI x k then q2x h x k+nI h k else if nI x k<0 then q2x h x k-nI h k else q2x h x k
def qn5 (h x:List Int):Nat->Int
 | 0=>0
 | k+1=>if 0<nI x k then qn5 h x k else if nI x k<0 then qn5 h x k else qn5 h x k+qd6 (nI h k)
def agB (h x:List Int):Bool:=decide (qn5 h x h.length<=qd6 (q2x h x h.length))
structure x42 (h x:List Int):Prop where
 ok:HOk h
 le:h.length<=x.length
theorem x76 {h x:List Int} (hh:HOk h):∀k:Nat,qd8 (1000000*k) (q2x h x k)/\0<=qn5 h x k/\qn5 h x k<=1000000*k
 | 0=>by simp_all [qd8,q2x,qn5]
 | k+1=>by
  obtain⟨h1,h2,h3⟩:=x76 (x:=x) hh k
  have h4:=hh.sm k
  rw[q2x,qn5]
  unfold qd8 qd6 at *
  omega
theorem x77 {h x:List Int} {k:Nat} (hh:HOk h) (hk:k<h.length):(0<nI x k->q2x h x (k+1)=q2x h x k+nI h k/\qn5 h x (k+1)=qn5 h x k)/\(¬0<nI x k->nI x k<0->q2x h x (k+1)=q2x h x k-nI h k/\qn5 h x (k+1)=qn5 h x k)/\(¬0<nI x k->¬nI x k<0->q2x h x (k+1)=q2x h x k/\qn5 h x (k+1)=qn5 h x k+qd6 (nI h k)):=by
 refine⟨λq=>?_,λq r=>?_,λq r=>?_⟩
 ·rw[q2x,qn5,zap q,zap q]; simp
 ·rw[q2x,qn5,zaj q,zaj q,zap r,zap r]; simp
 ·rw[q2x,qn5,zaj q,zaj q,zaj r,zaj r]; simp
def y5i (h x:List Int):Nat->Option Inv
 | 0=>some (Inv.of [5,6,11] 0 (λk:Nat=>[(5,.lit (.int .i64 (q2x h x k))),(6,.lit (.int .i64 (qn5 h x k))),(11,.lit (.int .i64 k))]) (λ_=>[]) (λk=>k<=h.length) (λk=>h.length-k))
 | _=>none
abbrev sAg:qa8:=qd9 true none [qe8,qe8] [.bool] (λx=>x42 x.1 x.2.1) (λx=>(agB x.1 x.2.1,()))
theorem x2q:Meets Tryz.prog 70 sAg:=by
 refine mts (SpecsOk.cons q0x (SpecsOk.nil _)) Tryz.func70 (λx=>y5i x.1 x.2.1) ?_
 rintro⟨h,x,⟨⟩⟩ hh
 revert h x
 intro(h:List Int) (x:List Int) (hh:x42 h x)
 refine vcs (∃(v0:Unit),∃(v1:Nat),Nat.le v1 h.length/\(((0:Int)=q2x h x v1/\(0:Int)=qn5 h x v1/\(0:Int)=(↑v1:Int)/\True)/\True)/\∀(v2:Nat),Nat.le v2 h.length->(decide ((↑v2:Int)<(↑h.length:Int))=true->((0:Int)<=(↑v2:Int)/\(↑v2:Int)<(↑h.length:Int))/\((0:Int)<=(↑v2:Int)/\(↑v2:Int)<(↑x.length:Int))/\(decide ((0:Int)<nI x v2)=true->fits .i64 (q2x h x v2+nI h v2)/\fits .i64 ((↑v2:Int)+(1:Int))/\∃(v6:Nat),Nat.le v6 h.length/\h.length-v6<h.length-v2/\(q2x h x v2+nI h v2=q2x h x v6/\qn5 h x v2=qn5 h x v6/\(↑v2:Int)+(1:Int)=(↑v6:Int)/\True)/\True)/\(decide ((0:Int)<nI x v2)=false->((0:Int)<=(↑v2:Int)/\(↑v2:Int)<(↑x.length:Int))/\(decide (nI x v2<(0:Int))=true->fits .i64 (q2x h x v2-nI h v2)/\fits .i64 ((↑v2:Int)+(1:Int))/\∃(v7:Nat),Nat.le v7 h.length/\h.length-v7<h.length-v2/\(q2x h x v2-nI h v2=q2x h x v7/\qn5 h x v2=qn5 h x v7/\(↑v2:Int)+(1:Int)=(↑v7:Int)/\True)/\True)/\(decide (nI x v2<(0:Int))=false->qd8 (1000000000:Int) (nI h v2)/\fits .i64 (qn5 h x v2+qd6 (nI h v2))/\fits .i64 ((↑v2:Int)+(1:Int))/\∃(v7:Nat),Nat.le v7 h.length/\h.length-v7<h.length-v2/\(q2x h x v2=q2x h x v7/\qn5 h x v2+qd6 (nI h v2)=qn5 h x v7/\(↑v2:Int)+(1:Int)=(↑v7:Int)/\True)/\True)))/\(decide ((↑v2:Int)<(↑h.length:Int))=false->qd8 (1000000000:Int) (q2x h x v2)/\decide (qn5 h x v2<=qd6 (q2x h x v2))=agB h x)) ?_
 have hl:=hh.ok.len
 have hx:=hh.le
 refine⟨(),0,zae _,⟨rfl,rfl,rfl⟩,λk hk=>⟨λhlt=>?_,λhge=>?_⟩⟩
 ·obtain⟨s1,s2,s3⟩:=x77 (x:=x) hh.ok hlt
  have b1:=x76 (x:=x) hh.ok k
  have b3:=hh.ok.sm k
  have b4:qd8 1000000000 (nI h k):=ow
  unfold qd8 at b1 b3
  have b5:qd6 (nI h k)=((nI h k).natAbs:Int):=rfl
  grind [qa6,Int.not_lt]
 ·obtain rfl:k=h.length:=ow
  have b1:=x76 (x:=x) hh.ok h.length
  unfold qd8 at *
  exact⟨ow,rfl⟩
abbrev y2n:qa8:=hspec [] true none [.d qe8,.cap qe8] [.bool] (λx=>x42 x.1 x.2.1) (λx=>(agB x.1 x.2.1,()))
theorem xq0:Meets Tryz.prog 69 y2n:=by
 refine qk7 (SpecsOk.nil _) (snd (SpecsOk.cons x2q (SpecsOk.nil _))) Tryz.func69 rfl rfl (λ_ _=>none) (λ_=>by kernel_rfl) dc ?_
 rintro⟨h,x,⟨⟩⟩ hh
 revert h x
 intro(h:List Int) (x:List Int) (hh:x42 h x)
 refine vcr (x42 h x/\agB h x=agB h x) ?_
 grind
structure AgPre (m:List (List Int)) (x:List Int):Prop where
 fit:xv6 m
 len:x.length<=1000
def agI (m:List (List Int)) (x:List Int):Int:=ixT (.list (.int .i64)) (λh=>agB h x) (qf1 m).1
def q41 (m:List (List Int)) (x:List Int):List Int × Int:=if q0t m x=0 then if agI m x<0 then([],8) else(nL (qf1 m).1 (agI m x).toNat,0) else([],q0t m x)
theorem AgPre.ag {m:List (List Int)} {x:List Int} (h:AgPre m x) (he:q0t m x=0):qb7 m=true/\(qf1 m).1.length<=1000000/\∀i,i<(qf1 m).1.length->x42 (nL (qf1 m).1 i) x/\0<(nL (qf1 m).1 i).length:=by
 have hS:=Shw.of he
 refine⟨hS.val,w5g hS.val,λi hi=>?_⟩
 obtain⟨s,hc⟩:=q4y hS.val (h.fit.n7 hS.val) hi
 have:=hS.msk.pix1
 exact⟨⟨wo9 hS.val hc,by rw[hc.len,hS.len]; simp⟩,by rw[hc.len]; omega⟩
abbrev y5j:qa8:=qd9 true none [qf9,qe8] [qc0] (λx=>AgPre x.1 x.2.1) (λx=>(q0t x.1 x.2.1,()))
theorem x78 (m:List (List Int)) (x:List Int):(qn2 m x).2=q0t m x:=by
 grind [qn2]
theorem xq1:Meets Tryz.prog 66 y5j:=by
 refine mt0 (SpecsOk.cons q2s (SpecsOk.nil _)) Tryz.func66 ?_
 rintro⟨m,x,⟨⟩⟩ h
 revert m x
 intro(m:List (List Int)) (x:List Int) (h:AgPre m x)
 refine vcs (x.length<=(1000000:Nat)/\(qn2 m x).2=q0t m x) ?_
 exact⟨by have:=h.len; omega,x78 m x⟩
abbrev y5k:qa8:=qd9 false none [qf9,qe8] [qe8,qc0] (λx=>AgPre x.1 x.2.1) (λx=>((q41 x.1 x.2.1).1,(q41 x.1 x.2.1).2,()))
theorem xq2:Meets Tryz.prog 22 y5k:=by
 refine mt0 (SpecsOk.cons xq1 (SpecsOk.cons q5x (SpecsOk.cons (q8p (fs:=[(69,y2n)]) (SpecsOk.cons xq0 (SpecsOk.nil _))) (SpecsOk.nil _)))) Tryz.func22 ?_
 rintro⟨m,x,⟨⟩⟩ h
 revert m x
 intro(m:List (List Int)) (x:List Int) (h:AgPre m x)
 refine vcs (let Q0:=q41 m x; AgPre m x/\((q0t m x != (0:Int))=true->Q0.1=[]/\q0t m x=Q0.2/\True)/\((q0t m x != (0:Int))=false->(qb7 m=true->wb6 m)/\∃(v1:qa3 [Ty.list (Ty.int .i64)]->Prop),∃(v2:qa3 [Ty.list (Ty.int .i64)]->Bool),(∀(v3:List Int × qa3._f [] PUnit.unit),v1 v3->x42 v3.1 x/\agB v3.1 x=v2 v3)/\((qf1 m).1.length<=(1000000:Nat)/\∀(v3:Nat),v3<(qf1 m).1.length->v1 (nL (qf1 m).1 v3,()))/\(decide (ixT (Ty.list (Ty.int .i64)) (λ(v4:List Int)=>v2 (v4,())) (qf1 m).1<(0:Int))=true->Q0.1=[]/\(8:Int)=Q0.2/\True)/\(decide (ixT (Ty.list (Ty.int .i64)) (λ(v4:List Int)=>v2 (v4,())) (qf1 m).1<(0:Int))=false->((0:Int)<=ixT (Ty.list (Ty.int .i64)) (λ(v4:List Int)=>v2 (v4,())) (qf1 m).1/\ixT (Ty.list (Ty.int .i64)) (λ(v4:List Int)=>v2 (v4,())) (qf1 m).1<(↑(qf1 m).1.length:Int))/\nL (qf1 m).1 (ixT (Ty.list (Ty.int .i64)) (λ(v4:List Int)=>v2 (v4,())) (qf1 m).1).toNat=Q0.1/\(0:Int)=Q0.2/\True))) ?_
 refine⟨h,λhe=>?_,λhe=>?_⟩
 ·unfold q41; grind
 obtain⟨hv,hl,ha⟩:=h.ag he
 refine⟨λhv=>x7q hv,λy=>x42 y.1 x,λy=>agB y.1 x,λy hy=>⟨hy,rfl⟩,⟨hl,λi hi=>(ha i hi).1⟩,λhn=>?_,λhn=>?_⟩
 ·have hn:agI m x<0:=hn
  unfold q41; grind
 ·have hn':¬agI m x<0:=zbj.2 hn
  have hlt:=(wv3 (.list (.int .i64)) (λh=>agB h x) (qf1 m).1).1
  unfold q41; rw[zap he,zaj hn']; exact⟨⟨hn,hlt⟩,rfl,rfl⟩
def yz7 (m:List (List Int)) (k:Int) (x:List Int):Bool:=decide ((q41 m x).2=0) && decide (q9x m k 1=0) && decide ((nzTo x x.length:Int)<=k)
def hasB (m:List (List Int)) (k:Int):Bool × Int:=if q9x m k 1≠0 then(false,q9x m k 1) else if k<=(ordL m:Nat) then(false,8) else(true,0)
theorem xq3 {h p:List Int} (hh:xv4 h p):hlf (shR h p)=decide (szL h<=2*inL h p):=by
 have k:=q9u hh
 have hp:=q9t hh.ok hh.ne
 have e:=k.eq
 have h1:=k.pos
 unfold hlf
 generalize shR h p=r at *
 generalize inL h p=n at *
 generalize szL h=d at *
 have e2:2*r.1*d=2*n*r.2:=by grind
 rw[decide_eq_decide]
 constructor
 ·intro q
  have q2:=zai q (c:=d) ow
  rw[e2] at q2
  refine zbw (a:=r.2) ?_ ow
  grind
 ·intro q
  have q2:=zai q (c:=r.2) ow
  rw[<- e2] at q2
  refine zbw (a:=d) ?_ hp
  grind
theorem yj3:hlf (0,1)=false:=by rfl
theorem x2r (h:List Int) {k j:Nat} (hkj:k<=j):inL h (qi7 h k)<=inL h (qi7 h j):=by
 rw[q7p,q7p]
 have:∀(l:List Int) (k j:Nat),k<=j->q3u (szV h) (l.take k)<=q3u (szV h) (l.take j):=λl=>by
  induction l with
  | nil=>simp
  | cons x l ih=>
   intro k j hkj
   have hx:0<=szV h x:=zb3 _
   have nn:∀l:List Int,0<=q3u (szV h) l:=λl=>by
    induction l with
    | nil=>exact zbr _
    | cons y l ih2=>have:0<=szV h y:=zb3 _; grind [q3u]
   cases k with
   | zero=>grind [q3u,List.take]
   | succ k=>
    cases j with
    | zero=>omega
    | succ j=>
     grind [q3u]
 simp_all
theorem xq4 {l:List (List Int)} {k:Nat} (hk:hlf (qj0 l k l.length)=true):∀f j,j<k->ordF l f j<k
 | 0,j,hj=>hj
 | f+1,j,hj=>by
  rw[ordF]
  split
  ·rename_i q
   have:j+1≠k:=λe=>by grind
   exact xq4 hk f (j+1) ow
  omega
theorem xq5 {l:List (List Int)} {B:Nat}:∀f j,j<=B->B<=j+f->(∀i,j<i->i<=B->hlf (qj0 l i l.length)=false)->B<=ordF l f j
 | 0,j,h1,h2,_=>by grind [ordF]
 | f+1,j,h1,h2,h3=>by
  rw[ordF]
  by_cases e:j=B
  ·subst e
   split
   ·have ge:∀f k,k<=ordF l f k:=λf=>by
     induction f with
     | zero=>exact λk=>zac _
     | succ f ih=>
      intro k
      rw[ordF]
      grind
    grind
   simp
  ·rw[zap (h3 (j+1) ow ow)]
   exact xq5 f (j+1) ow ow λi hi hB=>h3 i ow hB
theorem x44 (m:List (List Int)):ordL m<=(nL m 0).length:=by
 have:∀l f k,ordF l f k<=k+f:=λl f=>by
  induction f with
  | zero=>exact λk=>zac _
  | succ f ih=>
   grind [ordF]
 grind [qf1,nL,ordL]
theorem x2s {m:List (List Int)} (hv:qb7 m=true) (h7:(nL m 0).length<=7):hlf (qj0 (qf1 m).1 0 (qf1 m).1.length)=false:=by
 have hT:=(x2g (m:=m) λ_=>h7).shs hv 0 (zae _)
 rcases(q1y hT _ (zac _)).2 with e | ⟨i,hi,e⟩
 ·grind [yj3]
 ·rw[e]
  obtain⟨s,hc⟩:=q4y hv h7 hi
  have hs:=w8j hv hc (wi2 hc 0)
  rw[xq3 hs]
  have:inL (nL (qf1 m).1 i) (qi7 (nL (qf1 m).1 i) 0)=0:=by rw[q7p]; rfl
  rw[this]
  have:=xn5 hc
  grind
theorem w5o {m:List (List Int)} (hv:qb7 m=true) (h7:(nL m 0).length<=7) {k:Nat} (hk:k<=ordL m):hlf (qj0 (qf1 m).1 k (qf1 m).1.length)=false:=by
 rcases zbs k with e | e
 ·grind [x2s]
 ·cases q:hlf (qj0 (qf1 m).1 k (qf1 m).1.length) with
  | false=>rfl
  | true=>
   have:=xq4 q (nL m 0).length 0 e
   grind [ordL]
theorem w5p {f:Int->Int} {q:Int->Bool}:∀l:List Int,(∀x∈l,q x=false->f x=0)->q3u f (l.filter q)=q3u f l
 | [],_=>rfl
 | x :: l,h=>by
  have ih:=w5p (q:=q) l λy hy=>h y (by grind)
  cases e:q x with
  | true=>grind [List.filter_cons_of_pos,q3u]
  | false=>
   simp_all [List.filter_cons_of_neg,q3u,Int.zero_add]
structure Gath {α:Type} (le:α->α->Prop) (L out:List α):Prop where
 none:L=[]->out=[]
 some:L≠[]->out≠[]
 least:∀f∈out,f∈L/\∀g∈L,le f g
 all:∀f∈L,(∀g∈L,le f g)->f∈out
theorem Gath.nil {α:Type} (le:α->α->Prop):Gath le [] []:=⟨λ_=>rfl,λh=>absurd rfl h,λ_ h=>(by cases h),λ_ h=>(by cases h)⟩
theorem Gath.step {α:Type} {le:α->α->Prop} (refl:∀a,le a a) (trans:∀a b c,le a b->le b c->le a c) {L out out':List α} (h:Gath le L out) (f:α)
  (h0:out=[]->out'=[f]) (h1:∀g,g∈out->¬le f g->out'=out) (h2:∀g,g∈out->¬le g f->out'=[f]) (h3:∀g,g∈out->le f g->le g f->∀x,x∈out'↔x∈out\/x=f) (total:∀a b,le a b\/le b a):Gath le (L++[f]) out':=by
 cases hout:out with
 | nil=>
  have hL:L=[]:=zaf λq=>h.some q hout
  subst hL
  rw[h0 hout]
  exact⟨λq=>(by cases q),λ_ q=>(by cases q),λa ha=>by
   grind,λa ha _=>by grind⟩
 | cons g out0=>
  have hg:g∈out:=by grind
  obtain⟨gL,gmin⟩:=h.least g hg
  by_cases c1:le f g
  ·by_cases c2:le g f
   ·have hm:=h3 g hg c1 c2
    refine⟨λq=>(by simp at q),λ_ q=>?_,λa ha=>?_,λa ha hmin=>?_⟩
    ·grind
    ·rcases(hm a).1 ha with w | w
     ·obtain⟨k1,k2⟩:=h.least a w
      grind
     grind
    ·rcases zak.1 ha with ha | ha
     ·exact(hm a).2 (.inl (h.all a ha λb hb=>hmin b (zew _ hb)))
     grind
   ·rw[h2 g hg c2]
    refine⟨λq=>(by simp at q),λ_ q=>(by cases q),λa ha=>?_,λa ha hmin=>?_⟩
    all_goals grind
  ·have c3:le g f:=(total f g).resolve_left c1
   rw[h1 g hg c1]
   refine⟨λq=>(by simp at q),λ_ q=>(by grind),λa ha=>?_,λa ha hmin=>?_⟩
   ·obtain⟨k1,k2⟩:=h.least a ha
    grind
   ·rcases zak.1 ha with ha | ha
    ·exact h.all a ha λb hb=>hmin b (zew _ hb)
    grind
theorem yj4 (h x:List Int):∀k,fF k (nI x) (nI h)=q2x h x k+qn5 h x k/\fF k (nI x) (λi=>-(nI h i))=-q2x h x k+qn5 h x k
 | 0=>⟨rfl,rfl⟩
 | k+1=>by
  obtain⟨h1,h2⟩:=yj4 h x k
  have e1:fF (k+1) (nI x) (nI h)=fF k (nI x) (nI h)+fT (nI x k) (nI h k):=rfl
  have e2:fF (k+1) (nI x) (λi=>-(nI h i))=fF k (nI x) (λi=>-(nI h i))+fT (nI x k) (-(nI h k)):=rfl
  grind [q2x,qn5,fT,qd6]
theorem xq6 (h x:List Int):agB h x=false↔0<fF h.length (nI x) (nI h)/\0<fF h.length (nI x) (λi=>-(nI h i)):=by
 grind [yj4,agB,qd6,decide_eq_false_iff_not]
def leF (f g:Fit):Prop:=nmN f.2 f.2.length*nmD g.2 g.2.length<=nmN g.2 g.2.length*nmD f.2 f.2.length
theorem q7q {m:List (List Int)} {y:List Int} {f:Fit}:f∈qe0 m y 10↔∃pix,(qg9 m y pix).2=true/\f=(qg9 m y pix).1/\pix.length<=10:=by
 constructor
 ·intro h
  obtain⟨pix,h1,h2⟩:=wa3 _ f h
  have hI:=qu3 h1
  have hN:=(Asked.of hI.chk)
  have h3:=hI.rows
  have h4:=hN.msk.rows6
  grind
 ·rintro⟨pix,h1,rfl,h2⟩
  exact wi3 h1 _ ((xo5 h1).2 ow)
theorem xq7 {m:List (List Int)} {x:List Int} {S:List Int}:∀k,k<=S.length->nmD (S.map λj=>(nI x j.toNat,(1:Int))) k=1/\nmN (S.map λj=>(nI x j.toNat,(1:Int))) k=sm k λj=>qd6 (nI x (nI S j).toNat)
 | 0,_=>⟨rfl,rfl⟩
 | k+1,hk=>by
  obtain⟨h1,h2⟩:=xq7 (m:=m) (x:=x) (S:=S) k ow
  have e:nR (S.map λj=>(nI x j.toNat,(1:Int))) k=(nI x (nI S k).toNat,1):=by
   grind [q3t,qg5]
  rw[nmD,nmN,h1,h2,e]
  refine⟨rfl,?_⟩
  show _*1+qd6 (nI x (nI S k).toNat)*1=_
  rw[zey,zey]; rfl
theorem x2t (m:List (List Int)) (x:List Int):nmD (wp9 m x).2 (wp9 m x).2.length=1/\nmN (wp9 m x).2 (wp9 m x).2.length=sA (nL m 0).length (nI x):=by
 obtain⟨n1,_⟩:=qh6 (nI x) (nL m 0).length
 have e:(wp9 m x).2.length=(qt5 (nL m 0).length (nI x)).length:=by simp[wp9]
 obtain⟨h1,h2⟩:=xq7 (m:=m) (x:=x) (S:=qt5 (nL m 0).length (nI x)) _ (zac _)
 rw[e]
 refine⟨h1,h2.trans ?_⟩
 exact w2s n1 w2t
theorem w8p {m:List (List Int)} {x:List Int} (hv:qb7 m=true) (h7:(nL m 0).length<=7) (hl:x.length=(nL m 0).length) (h0:qw0 m (qd3 m x) []=0) {C:List Fit} (hC:Gath leF (qe0 m (qd3 m x) 10) C) (hnd:C.Nodup) :
  C=[wp9 m x]↔∀h∈(qf1 m).1,agB h x=false:=by
 have hM:=Mk.of hv
 have hcl:∀h∈(qf1 m).1,h.length=(nL m 0).length/\Sol m.length (nL m 0).length (rowOf m) (nI h)/\∃i,i<(nL m 0).length/\nI h i≠0:=λh hh=>by
  obtain⟨i,hi,rfl⟩:=zb6 hh
  obtain⟨s,hc⟩:=q4y hv h7 hi
  rw[qp2 _ i hi] at hc
  exact⟨hc.len,hc.sol,(nI s 0).toNat,by have:=hc.nam.at_ 0 hc.pos; omega,hc.on 0 hc.pos⟩
 obtain⟨x1,x2⟩:=x2t m x
 constructor
 ·intro hc h hh
  cases hag:agB h x with
  | false=>rfl
  | true=>
   exfalso
   obtain⟨k1,k2,k3⟩:=hcl h hh
   have hno:¬(0<fF (nL m 0).length (nI x) (nI h)/\0<fF (nL m 0).length (nI x) (λi=>-(nI h i))):=λq=>by
    grind [xq6]
   obtain⟨pix,f1,f2,f3⟩:∃pix,(qg9 m (qd3 m x) pix).2=true/\nmN (qg9 m (qd3 m x) pix).1.2 pix.length<=sA (nL m 0).length (nI x)*nmD (qg9 m (qd3 m x) pix).1.2 pix.length /\
     ¬(pix=qt5 (nL m 0).length (nI x)/\∀j,j<pix.length->nR (qg9 m (qd3 m x) pix).1.2 j=(nI x (nI pix j).toNat,1)):=by
    rcases zc3 0 (fF (nL m 0).length (nI x) (nI h)) with q | q
    ·refine w0h hM h0 (h:=λi=>-(nI h i)) (λa ha=>?_) ?_ (zbj.1 λw=>hno ⟨q,w⟩)
     ·have h2:=k2 a ha
      have e1:sm (nL m 0).length (λi=>rowOf m a i * -(nI h i))=(-1)*sm (nL m 0).length (λi=>rowOf m a i*nI h i):=by
       rw[<- qk1]; grind
      grind
     grind
    grind [w0h]
   have hI:=qu3 f1
   have hrow:=hI.rows
   have h6:=hM.rows6
   have hmem:(qg9 m (qd3 m x) pix).1∈qe0 m (qd3 m x) 10:=q7q.2 ⟨pix,f1,rfl,ow⟩
   have hxC:wp9 m x∈C:=by grind
   have hmin:=(hC.least _ hxC).2
   have hlt:∀g∈qe0 m (qd3 m x) 10,leF (qg9 m (qd3 m x) pix).1 g:=λg hg=>by
    have q:=hmin g hg
    unfold leF at q ⊢
    rw[x1,x2,zey] at q
    rw[hI.len]
    obtain⟨b,E,hE,_,hvv,_⟩:=wa5 f1
    have hdp:=(w8m (V:=(qg9 m (qd3 m x) pix).1.2) (β:=λj=>b (nI pix j).toNat) hE pix.length hvv).1
    obtain⟨pg,g1,g2,_⟩:=q7q.1 hg
    obtain⟨b',E',hE',_,hvv',_⟩:=wa5 g1
    have hgp:=(w8m (V:=(qg9 m (qd3 m x) pg).1.2) (β:=λj=>b' (nI pg j).toNat) hE' pg.length hvv').1
    have hgl:=(qu3 g1).len
    rw[<- hgl,<- g2] at hgp
    have s1:=zai f2 (show 0<=nmD g.2 g.2.length by omega)
    have s2:=zai q (show 0<=nmD (qg9 m (qd3 m x) pix).1.2 pix.length by omega)
    grind
   have hin:=hC.all _ hmem hlt
   rw[hc] at hin
   have hin:=zar.1 hin
   refine f3 ⟨?_,λj hj=>?_⟩
   ·have:=za2 Prod.fst hin
    rw[hI.fst] at this
    exact this
   ·have e1:pix=qt5 (nL m 0).length (nI x):=by
     have:=za2 Prod.fst hin
     rw[hI.fst] at this
     exact this
    rw[hin]
    show nR ((qt5 (nL m 0).length (nI x)).map _) j=_
    grind [q3t,qg5]
 ·intro hsafe
  have hgrow:∀d:Nat->Int,Sol m.length (nL m 0).length (rowOf m) d->(∃i,i<(nL m 0).length/\d i≠0)->0<fF (nL m 0).length (nI x) d:=λd hd hne=>
   w5j hv h7 (λh hh=>by
    grind [xq6]) _ d (zac _) hd hne
  have hfx:=x71 hM h0 (x2j hgrow)
  have hf2:(qg9 m (qd3 m x) (qt5 (nL m 0).length (nI x))).2=true:=by grind
  have hlen:(qt5 (nL m 0).length (nI x)).length<=10:=by
   have h1:=(qh6 (nI x) (nL m 0).length).1.len
   omega
  have hX:wp9 m x∈qe0 m (qd3 m x) 10:=q7q.2 ⟨_,hf2,by grind,hlen⟩
  have hother:∀g∈qe0 m (qd3 m x) 10,g=wp9 m x\/(leF (wp9 m x) g/\¬leF g (wp9 m x)):=λg hg=>by
   obtain⟨pg,g1,g2,_⟩:=q7q.1 hg
   by_cases e:pg=qt5 (nL m 0).length (nI x)
   ·grind
   ·right
    have h1:=xo8 hM hgrow g1 e
    have hgl:=(qu3 g1).len
    rw[<- hgl,<- g2] at h1
    unfold leF
    grind
  have hmin:wp9 m x∈C:=hC.all _ hX λg hg=>by
   rcases hother g hg with e | e
   ·rw[e]; exact zbr _
   grind
  have hall:∀f∈C,f=wp9 m x:=λf hf=>by
   obtain⟨k1,k2⟩:=hC.least f hf
   grind
  cases hC':C with
  | nil=>grind
  | cons a t=>
   rw[hC'] at hall hnd
   have ha:=hall a zbf
   cases t with
   | nil=>rw[ha]
   | cons b t=>
    simp_all
structure NmOk (f:Fit):Prop where
 each:∀j,j<f.2.length->(nR f.2 j).1≠0/\0<(nR f.2 j).2
theorem xq8 {V:List (Int × Int)}:∀k,(∀j,j<k->0<(nR V j).2)->0<nmD V k
 | 0,_=>(show(0:Int)<1 by decide)
 | k+1,h=>zcc (xq8 k λj hj=>h j ow) (h k ow)
theorem NmOk.pos {f:Fit} (h:NmOk f):0<nmD f.2 f.2.length:=xq8 _ λj hj=>(h.each j hj).2
def xv7 (f:Fit):Int × Int:=if 0<nmD f.2 f.2.length then(nmN f.2 f.2.length,nmD f.2 f.2.length) else(0,1)
theorem wp3 (f:Fit):0<(xv7 f).2:=by grind [xv7]
def leK (f g:Fit):Prop:=(xv7 f).1*(xv7 g).2<=(xv7 g).1*(xv7 f).2
theorem wa6 (a b c:Fit) (h1:leK a b) (h2:leK b c):leK a c:=by
 have pa:=wp3 a
 have pb:=wp3 b
 have pc:=wp3 c
 unfold leK at *
 generalize xv7 a=A at *
 generalize xv7 b=B at *
 generalize xv7 c=C at *
 have s1:=zai h1 (show 0<=C.2 by omega)
 have s2:=zai h2 (show 0<=A.2 by omega)
 refine zcz ?_ pb
 grind
theorem x2u {f g:Fit} (hf:NmOk f) (hg:NmOk g):leK f g↔leF f g:=by
 unfold leK xv7 leF
 rw[zap hf.pos,zap hg.pos]
theorem xq9 {m:List (List Int)} {y:List Int} {k:Int} {f:Fit} (h:f∈qe0 m y k):NmOk f/\yz5 f.2/\f.1.length<=1000/\∃pix,(qg9 m y pix).2=true/\f=(qg9 m y pix).1:=by
 obtain⟨pix,h1,rfl⟩:=wa3 _ f h
 have hI:=qu3 h1
 have hA:=Asked.of hI.chk
 have h6:=hA.msk.rows6
 have hr:=hI.rows
 have hv:=xm2 h1
 have hat:∀j,j<(qg9 m y pix).1.2.length->q7j (nR (qg9 m y pix).1.2 j)=true/\(nR (qg9 m y pix).1.2 j).1≠0:=λj hj=>by
  grind [q3t,List.getElem_mem]
 have hb:∀j,j<(qg9 m y pix).1.2.length->1<=(nR (qg9 m y pix).1.2 j).2/\(nR (qg9 m y pix).1.2 j).2<=400/\-10000000000<=(nR (qg9 m y pix).1.2 j).1/\(nR (qg9 m y pix).1.2 j).1<=10000000000:=λj hj=>by
  simp_all [q7j,Bool.and_eq_true,decide_eq_true_eq]
 refine⟨⟨λj hj=>⟨(hat j hj).2,by grind⟩⟩,⟨by rw[hI.len]; omega,λj hj=>?_⟩,by rw[hI.fst]; omega,pix,h1,rfl⟩
 have:=hb j hj
 unfold qd8 BIG
 omega
theorem x79 {w:Int × Int} (h:0<=val w) (hw:Wd w):¬q06 w (0,0)<0:=by
 have:=(xp3 (val w) 0).2 h
 rw[hw.spl] at this
 exact zbj.2 this
theorem x2v {w:Int × Int} (hw:Wd w):q06 w (0,0)=0↔val w=0:=by
 obtain⟨h1,h2,h3⟩:=hw
 unfold qd8 at h1
 grind [q06,val]
theorem wp4 {n d:Int} (h0:0<=n) (hd:0<d):∃P Q g:Nat,ofR n d=((P:Int),(Q:Int))/\n=((P*g:Nat):Int)/\d=((Q*g:Nat):Int)/\0<g/\0<Q/\Nat.Coprime P Q:=by
 obtain⟨N,rfl⟩:=zbc h0
 obtain⟨M,rfl⟩:=zbc (show 0<=d by omega)
 have hM:0<M:=ow
 have hg:0<Nat.gcd N M:=Nat.gcd_pos_of_pos_right _ hM
 have eg:gcdI (N:Int) (M:Int)=((Nat.gcd N M:Nat):Int):=rfl
 have h2:M / Nat.gcd N M*Nat.gcd N M=M:=Nat.div_mul_cancel (zb0 N M)
 refine⟨N / Nat.gcd N M,M / Nat.gcd N M,Nat.gcd N M,?_,by rw[Nat.div_mul_cancel (zby N M)],by rw[h2],hg,zc6 λz=>by grind,Nat.gcd_div_gcd_div_gcd_of_pos_right hM⟩
 rfl
theorem x2w {P Q g k:Nat} (hg:0<g) (hc:Nat.Coprime P Q):(P*g) % (Q*g)*k % (Q*g)=0↔Q∣k:=by
 rw[Nat.mod_mul_mod,<- Nat.dvd_iff_mod_eq_zero,Nat.mul_right_comm]
 constructor
 ·intro h
  have h2:Q∣P*k:=Nat.dvd_of_mul_dvd_mul_right hg h
  exact Nat.Coprime.dvd_of_dvd_mul_left hc.symm h2
 ·rintro⟨j,rfl⟩
  exact Nat.mul_dvd_mul_right ⟨P*j,by grind⟩ g
theorem x2x {P Q g:Nat} (hg:0<g) (hQ:0<Q):(P*g) / (Q*g)*Q+(P*g) % (Q*g)*Q / (Q*g)=P:=by
 have h1:=Nat.div_add_mod (P*g) (Q*g)
 have hp:0<Q*g:=Nat.mul_pos hQ hg
 have e:(P*g) % (Q*g)*Q / (Q*g)=(P*g) % (Q*g) / g:=by grind [Nat.mul_comm,Nat.mul_div_mul_left]
 rw[e]
 generalize hx:P*g / (Q*g)=x at *
 generalize hy:P*g % (Q*g)=y at *
 have h2:P=(Q*g*x+y) / g:=by simp_all
 conv=>rhs; rw[h2]
 rw[show Q*g*x+y=y+g*(x*Q) by grind,Nat.add_mul_div_left _ _ hg,Nat.add_comm]
structure RtP (s:(Int × Int) × (Int × Int)):Prop where
 wn:Wd s.1
 wd:Wd s.2
 n0:0<=val s.1/\val s.1<=1267650600228229401496703205376
 d0:0<val s.2/\val s.2<=18446744073709551615
 r1:(ofR (val s.1) (val s.2)).1<=10000000000
 r2:(ofR (val s.1) (val s.2)).2<=400
abbrev y5l:qa8:=qd9 true none [x72] [qv9,.bool] (λx=>RtP x.1) (λx=>(ofR (val x.1.1) (val x.1.2),true,()))
structure RtI (n d k:Int):Prop where
 lo:1<=k
 hi:k<=400
 no:∀j:Int,1<=j->j<k->¬n % d*j % d=0
def yz8 (s:(Int × Int) × (Int × Int)):Nat->Option Inv
 | 0=>some (Inv.of [7] 5 (λk:Int=>[(7,.lit (.int .i64 k))]) (λ_=>[.box 151 (.cons (.lit (.int .i64 s.1.1)) (.cons (.lit (.int .u64 s.1.2)) (.cons (.lit (.int .i64 s.2.1)) (.cons (.lit (.int .u64 s.2.2)) .nil)))),.box 43 (.cons (.lit (.int .i64 0)) (.cons (.lit (.int .i64 0)) .nil)),.box 149 (.cons (.lit (.int .i64 s.1.1)) (.cons (.lit (.int .u64 s.1.2)) .nil)),
   .box 149 (.cons (.lit (.int .i64 (spl (val s.1 / val s.2)).1)) (.cons (.lit (.int .u64 (spl (val s.1 / val s.2)).2)) .nil)),.box 149 (.cons (.lit (.int .i64 (spl (val s.1 % val s.2)).1)) (.cons (.lit (.int .u64 (spl (val s.1 % val s.2)).2)) .nil))]) (λk=>RtI (val s.1) (val s.2) k) (λk=>(400-k).toNat))
 | _=>none
set_option maxHeartbeats 4000000 in
theorem xr0:Meets Tryz.prog 122 y5l:=by
 refine mts (SpecsOk.cons xo9 (SpecsOk.cons wy2 (SpecsOk.cons xp4 (SpecsOk.cons w0i (SpecsOk.cons wm2 (SpecsOk.cons w7s (SpecsOk.nil _))))))) Tryz.func122 (λx=>yz8 x.1) ?_
 rintro⟨s,⟨⟩⟩ h
 revert s
 intro(s:(Int × Int) × (Int × Int)) (h:RtP s)
 refine vcs (let Q0:=spl (val s.1 % val s.2); let Q1:=spl (val s.1 / val s.2); let Q2:=ofR (val s.1) (val s.2); True/\(decide (q06 s.1 ((0:Int),(0:Int))<(0:Int))=true->Wd s.1/\OvP (spl (-val s.1)) s.2/\(((spl (val (spl (-val s.1)) / val s.2)).1 != (0:Int))=true->((0:Int)=Q2.1/\(0:Int)=Q2.2/\True)/\false=true/\True)/\(((spl (val (spl (-val s.1)) / val s.2)).1 != (0:Int))=false->(decide ((10000000000:Int)<(spl (val (spl (-val s.1)) / val s.2)).2)=true->((0:Int)=Q2.1/\(0:Int)=Q2.2/\True)/\false=true/\True)/\(decide ((10000000000:Int)<(spl (val (spl (-val s.1)) / val s.2)).2)=false->∃(v3:Unit),∃(v4:Int),RtI (val s.1) (val s.2) v4/\(((1:Int)=v4/\True)/\(s.1.1=s.1.1/\s.1.2=s.1.2/\s.2.1=s.2.1/\s.2.2=s.2.2/\True)/\((0:Int)=(0:Int)/\(0:Int)=(0:Int)/\True)/\((spl (-val s.1)).1=s.1.1/\(spl (-val s.1)).2=s.1.2/\True)/\((spl (val (spl (-val s.1)) / val s.2)).1=Q1.1/\(spl (val (spl (-val s.1)) / val s.2)).2=Q1.2/\True)/\((spl (val (spl (-val s.1)) % val s.2)).1=Q0.1/\(spl (val (spl (-val s.1)) % val s.2)).2=Q0.2/\True)/\True)/\∀(v5:Int),RtI (val s.1) (val s.2) v5->(decide (v5<=(400:Int))=true->TmP Q0 v5/\OvP (spl (val Q0*v5)) s.2/\True/\((q06 (spl (val (spl (val Q0*v5)) % val s.2)) ((0:Int),(0:Int)) != (0:Int))=true->fits .i64 (v5+(1:Int))/\∃(v9:Int),RtI (val s.1) (val s.2) v9/\((400:Int)-v9).toNat<((400:Int)-v5).toNat/\(v5+(1:Int)=v9/\True)/\(s.1.1=s.1.1/\s.1.2=s.1.2/\s.2.1=s.2.1/\s.2.2=s.2.2/\True)/\((0:Int)=(0:Int)/\(0:Int)=(0:Int)/\True)/\(s.1.1=s.1.1/\s.1.2=s.1.2/\True)/\(Q1.1=Q1.1/\Q1.2=Q1.2/\True)/\(Q0.1=Q0.1/\Q0.2=Q0.2/\True)/\True)/\((q06 (spl (val (spl (val Q0*v5)) % val s.2)) ((0:Int),(0:Int)) != (0:Int))=false->fits .i64 Q1.2/\fits .i64 (Q1.2*v5)/\fits .i64 (spl (val (spl (val Q0*v5)) / val s.2)).2/\fits .i64 (Q1.2*v5+(spl (val (spl (val Q0*v5)) / val s.2)).2)/\(((-4000000000000000000:Int)<=Q1.2*v5+(spl (val (spl (val Q0*v5)) / val s.2)).2/\Q1.2*v5+(spl (val (spl (val Q0*v5)) / val s.2)).2<=BIG)/\((-4000000000000000000:Int)<=v5/\v5<=BIG)/\v5≠(0:Ty.den qc0))/\True/\(decide (q06 s.1 ((0:Int),(0:Int))<(0:Int))=true->fits .i64 ((0:Int)-(ofR (Q1.2*v5+(spl (val (spl (val Q0*v5)) / val s.2)).2) v5).1)/\True/\((0:Int)-(ofR (Q1.2*v5+(spl (val (spl (val Q0*v5)) / val s.2)).2) v5).1=Q2.1/\(ofR (Q1.2*v5+(spl (val (spl (val Q0*v5)) / val s.2)).2) v5).2=Q2.2/\True)/\q7j ((0:Int)-(ofR (Q1.2*v5+(spl (val (spl (val Q0*v5)) / val s.2)).2) v5).1,(ofR (Q1.2*v5+(spl (val (spl (val Q0*v5)) / val s.2)).2) v5).2)=true/\True)/\(decide (q06 s.1 ((0:Int),(0:Int))<(0:Int))=false->True/\((ofR (Q1.2*v5+(spl (val (spl (val Q0*v5)) / val s.2)).2) v5).1=Q2.1/\(ofR (Q1.2*v5+(spl (val (spl (val Q0*v5)) / val s.2)).2) v5).2=Q2.2/\True)/\q7j (ofR (Q1.2*v5+(spl (val (spl (val Q0*v5)) / val s.2)).2) v5)=true/\True)))/\(decide (v5<=(400:Int))=false->((0:Int)=Q2.1/\(0:Int)=Q2.2/\True)/\false=true/\True))))/\(decide (q06 s.1 ((0:Int),(0:Int))<(0:Int))=false->OvP s.1 s.2/\((Q1.1 != (0:Int))=true->((0:Int)=Q2.1/\(0:Int)=Q2.2/\True)/\false=true/\True)/\((Q1.1 != (0:Int))=false->(decide ((10000000000:Int)<Q1.2)=true->((0:Int)=Q2.1/\(0:Int)=Q2.2/\True)/\false=true/\True)/\(decide ((10000000000:Int)<Q1.2)=false->∃(v3:Unit),∃(v4:Int),RtI (val s.1) (val s.2) v4/\(((1:Int)=v4/\True)/\(s.1.1=s.1.1/\s.1.2=s.1.2/\s.2.1=s.2.1/\s.2.2=s.2.2/\True)/\((0:Int)=(0:Int)/\(0:Int)=(0:Int)/\True)/\(s.1.1=s.1.1/\s.1.2=s.1.2/\True)/\(Q1.1=Q1.1/\Q1.2=Q1.2/\True)/\(Q0.1=Q0.1/\Q0.2=Q0.2/\True)/\True)/\∀(v5:Int),RtI (val s.1) (val s.2) v5->(decide (v5<=(400:Int))=true->TmP Q0 v5/\OvP (spl (val Q0*v5)) s.2/\True/\((q06 (spl (val (spl (val Q0*v5)) % val s.2)) ((0:Int),(0:Int)) != (0:Int))=true->fits .i64 (v5+(1:Int))/\∃(v9:Int),RtI (val s.1) (val s.2) v9/\((400:Int)-v9).toNat<((400:Int)-v5).toNat/\(v5+(1:Int)=v9/\True)/\(s.1.1=s.1.1/\s.1.2=s.1.2/\s.2.1=s.2.1/\s.2.2=s.2.2/\True)/\((0:Int)=(0:Int)/\(0:Int)=(0:Int)/\True)/\(s.1.1=s.1.1/\s.1.2=s.1.2/\True)/\(Q1.1=Q1.1/\Q1.2=Q1.2/\True)/\(Q0.1=Q0.1/\Q0.2=Q0.2/\True)/\True)/\((q06 (spl (val (spl (val Q0*v5)) % val s.2)) ((0:Int),(0:Int)) != (0:Int))=false->fits .i64 Q1.2/\fits .i64 (Q1.2*v5)/\fits .i64 (spl (val (spl (val Q0*v5)) / val s.2)).2/\fits .i64 (Q1.2*v5+(spl (val (spl (val Q0*v5)) / val s.2)).2)/\(((-4000000000000000000:Int)<=Q1.2*v5+(spl (val (spl (val Q0*v5)) / val s.2)).2/\Q1.2*v5+(spl (val (spl (val Q0*v5)) / val s.2)).2<=BIG)/\((-4000000000000000000:Int)<=v5/\v5<=BIG)/\v5≠(0:Ty.den qc0))/\True/\(decide (q06 s.1 ((0:Int),(0:Int))<(0:Int))=true->fits .i64 ((0:Int)-(ofR (Q1.2*v5+(spl (val (spl (val Q0*v5)) / val s.2)).2) v5).1)/\True/\((0:Int)-(ofR (Q1.2*v5+(spl (val (spl (val Q0*v5)) / val s.2)).2) v5).1=Q2.1/\(ofR (Q1.2*v5+(spl (val (spl (val Q0*v5)) / val s.2)).2) v5).2=Q2.2/\True)/\q7j ((0:Int)-(ofR (Q1.2*v5+(spl (val (spl (val Q0*v5)) / val s.2)).2) v5).1,(ofR (Q1.2*v5+(spl (val (spl (val Q0*v5)) / val s.2)).2) v5).2)=true/\True)/\(decide (q06 s.1 ((0:Int),(0:Int))<(0:Int))=false->True/\((ofR (Q1.2*v5+(spl (val (spl (val Q0*v5)) / val s.2)).2) v5).1=Q2.1/\(ofR (Q1.2*v5+(spl (val (spl (val Q0*v5)) / val s.2)).2) v5).2=Q2.2/\True)/\q7j (ofR (Q1.2*v5+(spl (val (spl (val Q0*v5)) / val s.2)).2) v5)=true/\True)))/\(decide (v5<=(400:Int))=false->((0:Int)=Q2.1/\(0:Int)=Q2.2/\True)/\false=true/\True))))) ?_
 obtain⟨wn,wd,⟨n0,n9⟩,⟨d0,d9⟩,r1,r2⟩:=h
 have hneg:=x79 n0 wn
 have hOv:OvP s.1 s.2:=⟨wn,wd,⟨n0,n9⟩,d0,ow⟩
 obtain⟨P,Q,g,e,en,ed,hg,hQ,hc⟩:=wp4 n0 d0
 rw[e] at r1 r2
 dsimp only at r1 r2
 have hw:0<=val s.1 / val s.2/\val s.1 / val s.2<=P:=by
  rw[en,ed,<- Int.natCast_ediv]
  have:P*g / (Q*g)<=P:=by simp_all [Nat.mul_div_mul_right,Nat.div_le_self]
  grind
 have hm:=zdo (val s.1) (show val s.2≠0 by omega)
 have hm2:=zda (val s.1) d0
 have sm:∀x:Int,0<=x->x<18446744073709551616->spl x=(0,x):=λx h0 h1=>by unfold spl hiU loU; grind
 have hdv:∀j:Nat,val s.1 % val s.2*(j:Int) % val s.2=0↔Q∣j:=λj=>by
  rw[<- x2w hg hc,en,ed,<- Int.natCast_emod,<- Int.natCast_mul,<- Int.natCast_emod]
  omega
 have hwh:val s.1 / val s.2*(Q:Int)+val s.1 % val s.2*(Q:Int) / val s.2=P:=by
  have:=x2x (P:=P) hg hQ
  grind
 have hPQ:ofR (P:Int) (Q:Int)=((P:Int),(Q:Int)):=by
  simp_all [gcdI,congrArg,Nat.cast,ofR,if_neg,Int.tdiv_one]
 have hv:q7j ((P:Int),(Q:Int))=true:=by
  have eg:gcdI (P:Int) (Q:Int)=1:=za2 Nat.cast hc
  unfold q7j
  grind
 simp only[q0w,e,sm _ hw.1 ow]
 refine⟨λq=>absurd q hneg,λ_=>⟨hOv,λq=>absurd trivial q,λ_=>⟨λq=>absurd q ow,λ_=>⟨(),1,⟨dc,dc,λj a b=>by omega⟩,rfl,λk hk=>⟨λhle=>?_,λhgt=>by have:=hk.hi; omega⟩⟩⟩⟩⟩
 obtain⟨K,rfl⟩:∃K:Nat,k=K:=⟨k.toNat,by have:=hk.lo; omega⟩
 have hk1:=hk.lo
 have hb:0<=val s.1 % val s.2*(K:Int)/\val s.1 % val s.2*(K:Int)<=7378697629483820646400:=⟨za5 hm ow,zc4 (zb2 (show val s.1 % val s.2<=18446744073709551616 by omega) hle ow dc) dc⟩
 have hb2:=zdo (val s.1 % val s.2*(K:Int)) (show val s.2≠0 by omega)
 have hb3:=zda (val s.1 % val s.2*(K:Int)) d0
 have hz:=x2v (q6t (x:=val s.1 % val s.2*(K:Int) % val s.2) hb2 ow)
 rw[q0w,hdv] at hz
 refine⟨by rw[sm _ hm ow]; exact⟨zbr _,(show(0:Int)<=100000000 by decide),hm,ow,ow,ow⟩,⟨q6t hb.1 ow,wd,by grind [q0w],d0,ow⟩,λhne=>?_,λhe=>?_⟩
 ·have hlt:K<400:=zaf λw=>by
   have hK:K=400:=ow
   rcases zas Q K with q | q
   ·exact hk.no Q ow ow ((hdv Q).2 (ze2 Q))
   grind [Nat.dvd_refl]
  refine⟨qa6,(K:Int)+1,⟨ow,ow,λj j1 j2=>?_⟩,ow,rfl⟩
  by_cases q:j<(K:Int)
  ·exact hk.no j j1 q
  grind
 ·have hQK:=hz.1 he
  obtain rfl:K=Q:=by
   have h1:=zc9 ow hQK
   rcases zas Q K with q | q
   ·exact absurd ((hdv Q).2 (ze2 Q)) (hk.no Q ow ow)
   omega
  have hy:0<=val s.1 % val s.2*(K:Int) / val s.2:=Int.ediv_nonneg hb.1 ow
  have hx:0<=val s.1 / val s.2*(K:Int):=za5 hw.1 ow
  have hB:BIG=4000000000000000000:=rfl
  simp only[sm _ hy ow,hwh,hPQ,hv]
  exact⟨qa6,qa6,qa6,qa6,⟨⟨ow,ow⟩,⟨ow,ow⟩,ow⟩,λq=>absurd q hneg,λ_=>⟨⟨trivial,trivial⟩,trivial⟩⟩
structure DnP (x:List (Int × Int)):Prop where
 len:x.length<=6
 val:∀j,j<x.length->-10000000000<=(nR x j).1/\(nR x j).1<=10000000000/\1<=(nR x j).2/\(nR x j).2<=400
theorem DnP.bd {x:List (Int × Int)} (h:DnP x):∀k,k<=x.length->(1<=nmD x k/\nmD x k<=400 ^ k)/\0<=nmN x k/\nmN x k<=10000000000*k*400 ^ k
 | 0,_=>⟨⟨zbr 1,zbr 1⟩,zbr 0,by simp[nmN]⟩
 | k+1,hk=>by
  obtain⟨⟨d1,d2⟩,n1,n2⟩:=h.bd k ow
  obtain⟨v1,v2,v3,v4⟩:=h.val k ow
  have ha:0<=qd6 (nR x k).1/\qd6 (nR x k).1<=10000000000:=by grind [qd6]
  have hp:(0:Int)<400 ^ k:=Int.pow_pos dc
  rw[nmD,nmN,Int.pow_succ]
  have q1:=zb2 d2 v4 ow ow
  have q2:=zb2 n2 v4 ow (za5 ow ow)
  have q3:=zb2 ha.2 d2 ow dc
  have q4:=za5 n1 (show 0<=(nR x k).2 by omega)
  have q5:=za5 ha.1 (show 0<=nmD x k by omega)
  have q6:=zb2 d1 v3 dc ow
  grind
theorem yz9:∀k:Nat,k<7->(400:Int) ^ k<=4096000000000000/\10000000000*(k:Int)*400 ^ k<=245760000000000000000000000:=by decide +kernel
theorem y0a:∀k:Nat,k<6->(400:Int) ^ k<=10240000000000/\10000000000*(k:Int)*400 ^ k<=512000000000000000000000:=by decide +kernel
theorem DnP.step {x:List (Int × Int)} (h:DnP x) {k:Nat} (hk:k<x.length) {a:Int} (ha:a=qd6 (nR x k).1):SmP (spl (nmN x k),spl (nmD x k)) (a,(nR x k).2) 1/\sumW (spl (nmN x k),spl (nmD x k)) (a,(nR x k).2)=(spl (nmN x (k+1)),spl (nmD x (k+1))):=by
 obtain⟨⟨d1,d2⟩,n1,n2⟩:=h.bd k ow
 obtain⟨v1,v2,v3,v4⟩:=h.val k hk
 obtain⟨p1,p2⟩:=y0a k (by have:=h.len; omega)
 refine⟨⟨?_,?_,?_,rfl⟩,?_⟩
 ·grind [spl,hiU,loU]
 ·grind [spl,hiU,loU]
 all_goals grind [qd6,sumW,q0w,nmN,nmD,Int.mul_comm]
abbrev y0b:qa8:=qd9 true none [q25] [x72] (λx=>DnP x.1) (λx=>((spl (nmN x.1 x.1.length),spl (nmD x.1 x.1.length)),()))
def x45 (s:(Int × Int) × (Int × Int)):AV:=.cons (.lit (.int .i64 s.1.1)) (.cons (.lit (.int .u64 s.1.2)) (.cons (.lit (.int .i64 s.2.1)) (.cons (.lit (.int .u64 s.2.2)) .nil)))
def yj5 (x:List (Int × Int)):Nat->Option Inv
 | 0=>some (Inv.of [9] 2 (λk:Nat=>[(9,.lit (.int .i64 k))]) (λk=>[.box 151 (x45 ((0,0),(0,0))),.box 151 (x45 (spl (nmN x k),spl (nmD x k)))]) (λk=>k<=x.length) (λk=>x.length-k))
 | _=>none
theorem w8q:Meets Tryz.prog 121 y0b:=by
 refine mts (SpecsOk.cons xp0 (SpecsOk.cons xp1 (SpecsOk.nil _))) Tryz.func121 (λx=>yj5 x.1) ?_
 rintro⟨x,⟨⟩⟩ h
 revert x
 intro(x:List (Int × Int)) (h:DnP x)
 refine vcs (let Q0:=spl (nmN x x.length); let Q1:=spl (nmD x x.length); True/\∃(v0:Unit),∃(v1:Nat),Nat.le v1 x.length/\(((0:Int)=(↑v1:Int)/\True)/\((0:Int)=(0:Int)/\(0:Int)=(0:Int)/\(0:Int)=(0:Int)/\(0:Int)=(0:Int)/\True)/\((0:Int)=(spl (nmN x v1)).1/\(0:Int)=(spl (nmN x v1)).2/\(0:Int)=(spl (nmD x v1)).1/\(1:Int)=(spl (nmD x v1)).2/\True)/\True)/\∀(v2:Nat),Nat.le v2 x.length->(decide ((↑v2:Int)<(↑x.length:Int))=true->((0:Int)<=(↑v2:Int)/\(↑v2:Int)<(↑x.length:Int))/\(decide ((nR x v2).1<(0:Int))=true->fits .i64 ((0:Int)-(nR x v2).1)/\SmP ((spl (nmN x v2)),(spl (nmD x v2)).1,(spl (nmD x v2)).2) ((0:Int)-(nR x v2).1,(nR x v2).2) (1:Int)/\fits .i64 ((↑v2:Int)+(1:Int))/\∃(v6:Nat),Nat.le v6 x.length/\x.length-v6<x.length-v2/\((↑v2:Int)+(1:Int)=(↑v6:Int)/\True)/\((0:Int)=(0:Int)/\(0:Int)=(0:Int)/\(0:Int)=(0:Int)/\(0:Int)=(0:Int)/\True)/\((sumW ((spl (nmN x v2)),(spl (nmD x v2)).1,(spl (nmD x v2)).2) ((0:Int)-(nR x v2).1,(nR x v2).2)).1.1=(spl (nmN x v6)).1/\(sumW ((spl (nmN x v2)),(spl (nmD x v2)).1,(spl (nmD x v2)).2) ((0:Int)-(nR x v2).1,(nR x v2).2)).1.2=(spl (nmN x v6)).2/\(sumW ((spl (nmN x v2)),(spl (nmD x v2)).1,(spl (nmD x v2)).2) ((0:Int)-(nR x v2).1,(nR x v2).2)).2.1=(spl (nmD x v6)).1/\(sumW ((spl (nmN x v2)),(spl (nmD x v2)).1,(spl (nmD x v2)).2) ((0:Int)-(nR x v2).1,(nR x v2).2)).2.2=(spl (nmD x v6)).2/\True)/\True)/\(decide ((nR x v2).1<(0:Int))=false->SmP ((spl (nmN x v2)),(spl (nmD x v2)).1,(spl (nmD x v2)).2) (nR x v2) (1:Int)/\fits .i64 ((↑v2:Int)+(1:Int))/\∃(v6:Nat),Nat.le v6 x.length/\x.length-v6<x.length-v2/\((↑v2:Int)+(1:Int)=(↑v6:Int)/\True)/\((0:Int)=(0:Int)/\(0:Int)=(0:Int)/\(0:Int)=(0:Int)/\(0:Int)=(0:Int)/\True)/\((sumW ((spl (nmN x v2)),(spl (nmD x v2)).1,(spl (nmD x v2)).2) (nR x v2)).1.1=(spl (nmN x v6)).1/\(sumW ((spl (nmN x v2)),(spl (nmD x v2)).1,(spl (nmD x v2)).2) (nR x v2)).1.2=(spl (nmN x v6)).2/\(sumW ((spl (nmN x v2)),(spl (nmD x v2)).1,(spl (nmD x v2)).2) (nR x v2)).2.1=(spl (nmD x v6)).1/\(sumW ((spl (nmN x v2)),(spl (nmD x v2)).1,(spl (nmD x v2)).2) (nR x v2)).2.2=(spl (nmD x v6)).2/\True)/\True))/\(decide ((↑v2:Int)<(↑x.length:Int))=false->(spl (nmN x v2)).1=Q0.1/\(spl (nmN x v2)).2=Q0.2/\(spl (nmD x v2)).1=Q1.1/\(spl (nmD x v2)).2=Q1.2/\True)) ?_
 refine⟨(),0,zae _,⟨rfl,rfl,rfl,rfl,rfl⟩,λk hk=>⟨λhlt=>⟨hlt,λhn=>?_,λhn=>?_⟩,λhge=>?_⟩⟩
 ·have hl:=h.len
  have hv:=h.val k hlt
  obtain⟨q1,q2⟩:=h.step hlt (a:=0-(nR x k).1) (by grind [nR,qd6])
  exact⟨qa6,q1,qa6,k+1,hlt,ow,by rfl,za2 (λs=>s.1.1) q2,za2 (λs=>s.1.2) q2,za2 (λs=>s.2.1) q2,za2 (λs=>s.2.2) q2⟩
 ·have hl:=h.len
  obtain⟨q1,q2⟩:=h.step hlt (a:=(nR x k).1) (by grind [nR,qd6])
  exact⟨q1,qa6,k+1,hlt,ow,by rfl,za2 (λs=>s.1.1) q2,za2 (λs=>s.1.2) q2,za2 (λs=>s.2.1) q2,za2 (λs=>s.2.2) q2⟩
 grind
def q42 (h P:List Int):Nat->List Int
 | 0=>List.replicate h.length 0
 | j+1=>(q42 h P j).set (nI P j).toNat (nI h (nI P j).toNat)
theorem q43 (h P:List Int):∀j,(q42 h P j).length=h.length
 | 0=>zcj
 | j+1=>by rw[q42,zba]; exact q43 h P j
def q6u (h:List Int) (k:Nat):List Int:=q42 h (qi7 h k) (qi7 h k).length
def w9e (m:List (List Int)) (k:Nat):Int:=ixT (.list (.int .i64)) (λh=>hlf (shR h (qi7 h k))) (qf1 m).1
def badR (m:List (List Int)) (k:Int):List Int × Int:=if q9x m k 1=0 then if w9e m k.toNat<0 then([],8) else(q6u (nL (qf1 m).1 (w9e m k.toNat).toNat) k.toNat,0) else([],q9x m k 1)
abbrev y5m:qa8:=qd9 false none [qf9,qc0] [qe8,qc0] (λx=>xv6 x.1) (λx=>((badR x.1 x.2.1).1,(badR x.1 x.2.1).2,()))
def y0c (m:List (List Int)) (k:Int):Nat->Option Inv
 | 0=>some (Inv.of [] 7 (λ_:Nat=>[]) (λi=>[.box 3 (.cons (.lit (.int .i64 k)) .nil),.box 24 (.cons (.lit (.slice none 0 0)) .nil),.box 33 (.cons (.lit (.int .i64 0)) .nil),.dead,.dead,.dead,.dead]) (λi=>i<=(qf1 m).1.length/\∀j,j<i->hlf (shR (nL (qf1 m).1 j) (qi7 (nL (qf1 m).1 j) k.toNat))=false) (λi=>i))
 | 1=>some (Eng.Inv.mk (Nat × (Int × Int)) Nat [9,33] 9 (λq j=>[(9,.own 8),(33,.lit (.int .i64 j))]) (λq j=>[.box 3 (.cons (.lit (.int .i64 k)) .nil),.box 24 (.cons (.lit (.slice none 0 0)) .nil),.box 33 (.cons (.lit (.int .i64 0)) .nil),.dead,.dead,.dead,.dead,.box 43 (.cons (.lit (.int .i64 q.2.1)) (.cons (.lit (.int .i64 q.2.2)) .nil)),.vec 3 (.int .i64) (q42 (nL (qf1 m).1 q.1) (qi7 (nL (qf1 m).1 q.1) k.toNat) j)]) (λq j=>j<=(qi7 (nL (qf1 m).1 q.1) k.toNat).length) (λq j=>(qi7 (nL (qf1 m).1 q.1) k.toNat).length-j))
 | _=>none
theorem xr1:Meets Tryz.prog 36 y5m:=by
 refine meets (yd0 (SpecsOk.cons w8e (SpecsOk.cons q5x (SpecsOk.cons wz3 (SpecsOk.cons wi0 (SpecsOk.cons wy8 (SpecsOk.nil _)))))) (ItsOk.cons wy9 ItsOk.nil)) Tryz.func36 rfl rfl (λx=>y0c x.1 x.2.1) (λ_=>by kernel_rfl) dc ?_
 rintro⟨m,k,⟨⟩⟩ h
 revert m k
 intro(m:List (List Int)) (k:Int) (h:xv6 m)
 refine vcs (let Q0:=w9d (qf1 m).1 k.toNat; let Q1:=badR m k; True/\((q9x m k (1:Int) != (0:Int))=true->Q1.1=[]/\q9x m k (1:Int)=Q1.2/\True)/\((q9x m k (1:Int) != (0:Int))=false->(qb7 m=true->wb6 m)/\True/\wb9 (qf1 m).1 k/\∃(v1:Unit),∃(v2:Nat),(v2<=(qf1 m).1.length/\∀(v3:Nat),Nat.le (Nat.succ v3) v2->hlf (shR (nL (qf1 m).1 v3) (qi7 (nL (qf1 m).1 v3) k.toNat))=false)/\v2=(0:Nat)/\((k=k/\True)/\(Value.slice none (0:Nat) (0:Nat)=Value.slice none (0:Nat) (0:Nat)/\True)/\((0:Int)=(0:Int)/\True)/\True/\True/\True/\True/\True)/\∀(v3:Nat),(v3<=(qf1 m).1.length/\∀(v5:Nat),Nat.le (Nat.succ v5) v3->hlf (shR (nL (qf1 m).1 v5) (qi7 (nL (qf1 m).1 v5) k.toNat))=false)->(∀(v5:List Int × qa3._f [qv9] ⟨qa3._f [] PUnit.unit,PUnit.unit⟩),(List.map (λ(v7:List Int × Int × Int)=>(v7.1,v7.2,())) Q0)[v3]?=some v5->q4v (v5.2.1.1,v5.2.1.2)/\(hlf (v5.2.1.1,v5.2.1.2)=true->((↑v5.1.length:Int)=(↑v5.1.length:Int)/\(0:Int)<=(↑v5.1.length:Int)/\(↑v5.1.length:Int)<=(1000000:Int))/\xl0 v5.1 k/\∃(v8:Nat × Int × Int),∃(v9:Nat),Nat.le v9 (qi7 (nL (qf1 m).1 v8.1) k.toNat).length/\((True/\(0:Int)=(↑v9:Int)/\True)/\(k=k/\True)/\(Value.slice none (0:Nat) (0:Nat)=Value.slice none (0:Nat) (0:Nat)/\True)/\((0:Int)=(0:Int)/\True)/\True/\True/\True/\True/\(v5.2.1.1=v8.2.1/\v5.2.1.2=v8.2.2/\True)/\List.replicate (↑v5.1.length:Int).toNat (Ty.dflt (TI.ty T3))=q42 (nL (qf1 m).1 v8.1) (qi7 (nL (qf1 m).1 v8.1) k.toNat) v9/\True)/\∀(v10:Nat),Nat.le v10 (qi7 (nL (qf1 m).1 v8.1) k.toNat).length->(decide ((↑v10:Int)<(↑(qi7 v5.1 k.toNat).length:Int))=true->((0:Int)<=(↑v10:Int)/\(↑v10:Int)<(↑(qi7 v5.1 k.toNat).length:Int))/\((0:Int)<=nI (qi7 v5.1 k.toNat) v10/\nI (qi7 v5.1 k.toNat) v10<(↑v5.1.length:Int))/\((0:Int)<=nI (qi7 v5.1 k.toNat) v10/\nI (qi7 v5.1 k.toNat) v10<(↑(q42 (nL (qf1 m).1 v8.1) (qi7 (nL (qf1 m).1 v8.1) k.toNat) v10).length:Int))/\(nI (qi7 v5.1 k.toNat) v10).toNat<(q42 (nL (qf1 m).1 v8.1) (qi7 (nL (qf1 m).1 v8.1) k.toNat) v10).length/\fits .i64 ((↑v10:Int)+(1:Int))/\∃(v13:Nat),Nat.le v13 (qi7 (nL (qf1 m).1 v8.1) k.toNat).length/\(qi7 (nL (qf1 m).1 v8.1) k.toNat).length-v13<(qi7 (nL (qf1 m).1 v8.1) k.toNat).length-v10/\(True/\(↑v10:Int)+(1:Int)=(↑v13:Int)/\True)/\(k=k/\True)/\(Value.slice none (0:Nat) (0:Nat)=Value.slice none (0:Nat) (0:Nat)/\True)/\((0:Int)=(0:Int)/\True)/\True/\True/\True/\True/\(v8.2.1=v8.2.1/\v8.2.2=v8.2.2/\True)/\List.set (q42 (nL (qf1 m).1 v8.1) (qi7 (nL (qf1 m).1 v8.1) k.toNat) v10) (nI (qi7 v5.1 k.toNat) v10).toNat (nI v5.1 (nI (qi7 v5.1 k.toNat) v10).toNat)=q42 (nL (qf1 m).1 v8.1) (qi7 (nL (qf1 m).1 v8.1) k.toNat) v13/\True)/\(decide ((↑v10:Int)<(↑(qi7 v5.1 k.toNat).length:Int))=false->q42 (nL (qf1 m).1 v8.1) (qi7 (nL (qf1 m).1 v8.1) k.toNat) v10=Q1.1/\(0:Int)=Q1.2/\True))/\(hlf (v5.2.1.1,v5.2.1.2)=false->∃(v8:Nat),(v8<=(qf1 m).1.length/\∀(v9:Nat),Nat.le (Nat.succ v9) v8->hlf (shR (nL (qf1 m).1 v9) (qi7 (nL (qf1 m).1 v9) k.toNat))=false)/\v8=v3+(1:Nat)/\(k=k/\True)/\(Value.slice none (0:Nat) (0:Nat)=Value.slice none (0:Nat) (0:Nat)/\True)/\((0:Int)=(0:Int)/\True)/\True/\True/\True/\True/\True))/\(v3=(List.map (λ(v6:List Int × Int × Int)=>(v6.1,v6.2,())) Q0).length->Q1.1=[]/\(8:Int)=Q1.2/\True))) ?_
 refine⟨λh1=>?_,λh1=>?_⟩
 ·unfold badR; grind
 obtain⟨hv,n,rfl,hn⟩:=xl4 h1
 have h7:=h.n7 hv
 have hT:=(x2g (m:=m) λ_=>h7).shs hv n hn
 have hat:=λ(i:Nat) (hi:i<(qf1 m).1.length)=>wf6 (.list (.int .i64)) (λh=>hlf (shR h (qi7 h n))) (qf1 m).1 i hi
 have hno:=q2n (.list (.int .i64)) (λh=>hlf (shR h (qi7 h n))) (qf1 m).1
 have hI:w9e m n=ixT (.list (.int .i64)) (λh=>hlf (shR h (qi7 h n))) (qf1 m).1:=rfl
 have hR:badR m n=if w9e m n<0 then([],8) else(q6u (nL (qf1 m).1 (w9e m n).toNat) n,0):=by
  simp_all [badR,if_pos,Int.toNat_natCast]
 rw[<- hI] at hat hno
 rw[hR]
 clear hR hI
 have hnm:∀i,i<(qf1 m).1.length->Named (nL (qf1 m).1 i).length (qi7 (nL (qf1 m).1 i) n):=λi hi=>qz7
 generalize w9e m n=I at *
 generalize(qf1 m).1=l at *
 simp only[Int.toNat_natCast] at *
 refine⟨λhv=>x7q hv,hT,(),0,⟨zae _,λj hj=>absurd hj (zau _)⟩,rfl,λi ⟨hi,hall⟩=>⟨λd hd=>?_,λhe=>?_⟩⟩
 ·have hd:((w9d l n).map λq=>((q.1,q.2,()):qa3 [qe8,qv9]))[i]? = some d:=hd
  have hlt:i<l.length:=by
   have:=(zag.1 hd).1
   rw[zay] at this
   exact Nat.lt_of_lt_of_eq this (zay _)
  have hsa:=xl2 (l:=l) (k:=n) hlt
  rw[hsa] at hd
  obtain rfl:=zaa hd
  have hlar:=hT.lar i hlt
  have hN:=hnm i hlt
  have hs:=hT.shr i hlt
  rw[zaq] at hs
  have hl:=hlar.len
  refine⟨w4z hs,λhf=>⟨?_,hlar,(i,shR (nL l i) (qi7 (nL l i) n)),0,zae _,⟨rfl,⟨rfl,rfl⟩,rfl⟩,λj hj=>⟨λhjl=>?_,λhjg=>?_⟩⟩,λhf=>⟨i+1,⟨hlt,λj hj=>?_⟩,rfl⟩⟩
  ·grind
  ·have hjl:j<(qi7 (nL l i) n).length:=hjl
   have hj:j<=(qi7 (nL l i) n).length:=hj
   have hp:=hN.at_ j hjl
   have hb:=q43 (nL l i) (qi7 (nL l i) n) j
   have hpl:=hN.len
   refine⟨hjl,hp,?_,?_,qa6,j+1,hjl,show(qi7 (nL l i) n).length-(j+1)<(qi7 (nL l i) n).length-j by omega,by rfl,rfl⟩
   all_goals grind
  ·have e:I=i:=hat i hlt (λj hj=>hall j hj) hf
   obtain rfl:j=(qi7 (nL l i) n).length:=by grind
   rw[e,zaj ow,zaq]
   exact⟨rfl,rfl⟩
  grind
 ·have he:i=((w9d l n).map λq=>((q.1,q.2,()):qa3 [qe8,qv9])).length:=he
  rw[zay] at he
  obtain rfl:i=l.length:=he.trans (zay _)
  have e:I=-1:=hno λj hj=>hall j hj
  grind
theorem x2y {m:List (List Int)} (hv:qb7 m=true) (h7:(nL m 0).length<=7) {k j:Nat} (hkj:k<=j) (hj:j<=(nL m 0).length):leQ (qj0 (qf1 m).1 k (qf1 m).1.length) (qj0 (qf1 m).1 j (qf1 m).1.length):=by
 have hK:=(x2g (m:=m) λ_=>h7).shs hv k ow
 have hJ:=(x2g (m:=m) λ_=>h7).shs hv j hj
 have lj:=qt1 hJ _ (zac _)
 rw[zaq] at lj
 rcases(q1y hK _ (zac _)).2 with e | ⟨i,hi,e⟩
 ·grind [x2h]
 ·rw[e]
  obtain⟨s,hc⟩:=q4y hv h7 hi
  have h1:=w8j hv hc (wi2 hc k)
  have h2:=w8j hv hc (wi2 hc j)
  have:=q9t h1.ok h1.ne
  exact w0f (q9u h1).pos (q9u h2).pos lj.pos (yz2 h1 h2 (zai (x2r _ hkj) ow)) ((q1y hJ _ (zac _)).1 i hi)
theorem w8r {m:List (List Int)} (hv:qb7 m=true) (h7:(nL m 0).length<=7) {k:Nat} (hk:ordL m<k) (hn:k<=(nL m 0).length):hlf (qj0 (qf1 m).1 k (qf1 m).1.length)=true:=by
 have h1:hlf (qj0 (qf1 m).1 (ordL m+1) (qf1 m).1.length)=true:=by
  cases q:hlf (qj0 (qf1 m).1 (ordL m+1) (qf1 m).1.length) with
  | true=>rfl
  | false=>
   have:=xq5 (l:=(qf1 m).1) (B:=ordL m+1) (nL m 0).length 0 (zae _) ow λi h0 hi=>by
    grind [ordL,w5o]
   have e:ordL m=ordF (qf1 m).1 (nL m 0).length 0:=rfl
   omega
 have hJ:=(x2g (m:=m) λ_=>h7).shs hv k hn
 have hK:=(x2g (m:=m) λ_=>h7).shs hv (ordL m+1) ow
 have lj:=qt1 hJ _ (zac _)
 have lk:=qt1 hK _ (zac _)
 rw[zaq] at lj lk
 cases q:hlf (qj0 (qf1 m).1 k (qf1 m).1.length) with
 | true=>rfl
 | false=>have:=xo0 lk.pos lj.pos (x2y hv h7 hk hn) q; grind
theorem x8a {m:List (List Int)} (hF:xv6 m) (k:Int):(badR m k).2=(hasB m k).2/\((hasB m k).1=false->(badR m k).1=[])/\((hasB m k).1=true->∃n:Nat,k=n/\qb7 m=true/\1<=n/\n<=(nL m 0).length/\q9x m k 1=0/\∃i,i<(qf1 m).1.length/\hlf (shR (nL (qf1 m).1 i) (qi7 (nL (qf1 m).1 i) n))=true/\(badR m k).1=q6u (nL (qf1 m).1 i) n):=by
 by_cases h1:q9x m k 1=0
 ·obtain⟨hv,n,rfl,hn⟩:=xl4 h1
  have h7:=hF.n7 hv
  have hT:=(x2g (m:=m) λ_=>h7).shs hv n hn
  have hmx:=q1y hT _ (zac _)
  have lt:=qt1 hT _ (zac _)
  rw[zaq] at lt
  have hn1:1<=n:=by
   have:=h1
   unfold q9x at this
   rw[zaj (by grind)] at this
   grind [qh5,inB,nL,absurd]
  have eB:badR m n=if w9e m n<0 then([],8) else(q6u (nL (qf1 m).1 (w9e m n).toNat) n,0):=by
   simp_all [badR,if_pos,Int.toNat_natCast]
  have eH:hasB m n=if(n:Int)<=(ordL m:Nat) then(false,8) else(true,0):=zaj λq=>q h1
  rw[eB,eH]
  have hI:w9e m n=ixT (.list (.int .i64)) (λh=>hlf (shR h (qi7 h n))) (qf1 m).1:=rfl
  by_cases ho:(n:Int)<=(ordL m:Nat)
  ·have hs:=w5o hv h7 (k:=n) ow
   have e:w9e m n=-1:=by
    rw[hI]
    refine q2n _ _ _ λi hi=>?_
    obtain⟨s,hc⟩:=q4y hv h7 hi
    have hsh:=w8j hv hc (wi2 hc n)
    exact xo0 (q9u hsh).pos lt.pos (hmx.1 i hi) hs
   grind
  ·have hb:=w8r hv h7 (k:=n) ow hn
   rw[zaj ho]
   have hex:∃i,i<(qf1 m).1.length/\hlf (shR (nL (qf1 m).1 i) (qi7 (nL (qf1 m).1 i) n))=true:=by
    rcases hmx.2 with e | ⟨i,hi,e⟩
    ·rw[e] at hb; cases hb
    grind
   have hany:((qf1 m).1.any λh=>hlf (shR h (qi7 h n)))=true:=by
    grind [List.any_eq_true,qz0]
   have hge:=qr8 (.list (.int .i64)) (λh=>hlf (shR h (qi7 h n))) (qf1 m).1
   rw[hany,<- hI] at hge
   have hge:=za3 hge
   have hlt:=(wv3 (.list (.int .i64)) (λh=>hlf (shR h (qi7 h n))) (qf1 m).1).1
   rw[<- hI] at hlt
   rw[zaj ow]
   refine⟨rfl,λq=>(by cases q),λ_=>⟨n,rfl,hv,hn1,hn,h1,(w9e m n).toNat,ow,?_,rfl⟩⟩
   have e2:w9e m n=((qf1 m).1.findIdx λh=>hlf (shR h (qi7 h n)):Nat):=by simp_all [ixT,if_pos]
   rw[e2,zaq]
   have hfl:((qf1 m).1.findIdx λh=>hlf (shR h (qi7 h n)))<(qf1 m).1.length:=zej.2 (zbu.1 hany)
   grind [qp2,List.findIdx_getElem]
 ·have eB:badR m k=([],q9x m k 1):=zaj h1
  have eH:hasB m k=(false,q9x m k 1):=zap h1
  grind
theorem w5q {h P:List Int} (hP:Named h.length P):∀j,j<=P.length->∀c,c<h.length->nI (q42 h P j) c=if(c:Int)∈P.take j then nI h c else 0
 | 0,_,c,hc=>by
  grind [q42,qg5,List.length_replicate]
 | j+1,hj,c,hc=>by
  have hp:=hP.at_ j ow
  have ht:P.take (j+1)=P.take j++[nI P j]:=by
   grind [List.take_add_one,List.getElem?_eq_getElem,qg5]
  rw[q42,q6s _ (by grind [q43]),w5q hP j ow c hc,ht]
  grind
theorem w5r (h:List Int) (k:Nat):(q6u h k).length=h.length:=q43 _ _ _
theorem w2z (h:List Int) (k:Nat) {c:Nat} (hc:c<h.length):nI (q6u h k) c=if(c:Int)∈qi7 h k then nI h c else 0:=by
 have:=w5q (h:=h) (P:=qi7 h k) qz7 _ (zac _) c hc
 rw[zeg] at this
 exact this
theorem w5s (g:Int->Int):∀n,q3u g (qq8 n)=sm n λc=>g (c:Int)
 | 0=>rfl
 | n+1=>by rw[wv7,wp0,w5s g n]; simp[q3u,sm]
theorem x46 (h:List Int) {P:List Int} (hP:Named h.length P):inL h P=sm h.length λc=>if(c:Int)∈P then qd6 (nI h c) else 0:=by
 rw[xn6]
 have hp:((qq8 h.length).filter λx=>decide (x∈P)).Perm P:=by
  rw[zcy ((q4x (x4u _)).sublist List.filter_sublist) (q4x (q7o hP))]
  intro a
  rw[List.mem_filter,zbd]
  refine⟨λq=>q.2,λq=>⟨xn7.2 ?_,q⟩⟩
  obtain⟨i,hi,rfl⟩:=za6.1 q
  have:=hP.at_ i hi
  grind [qg5]
 have h1:q3u (λx=>if x∈P then szV h x else 0) (qq8 h.length)=sm h.length λc=>if(c:Int)∈P then qd6 (nI h c) else 0:=by
  grind [w5s,qe2,szV,Int.toNat_natCast]
 rw[<- h1,<- w5p (q:=λx=>decide (x∈P)) _ λx _ hx=>zaj (zck hx),<- w0c _ hp]
 have:∀l:List Int,q3u (szV h) (l.filter λx=>decide (x∈P))=q3u (λx=>if x∈P then szV h x else 0) (l.filter λx=>decide (x∈P)):=λl=>by
  induction l with
  | nil=>rfl
  | cons x l ih=>
   by_cases q:x∈P
   all_goals simp_all [List.filter_cons_of_pos,q3u,if_pos,List.filter_cons_of_neg]
 grind
theorem yj6 {h:List Int} {k:Nat} (hh:szL h<=2*inL h (qi7 h k)):agB h (q6u h k)=true:=by
 have hP:Named h.length (qi7 h k):=qz7
 have key:∀j,j<=h.length->q2x h (q6u h k) j=sm j (λc=>if(c:Int)∈qi7 h k then qd6 (nI h c) else 0)/\q2x h (q6u h k) j+qn5 h (q6u h k) j=wb1 h j:=λj=>by
  induction j with
  | zero=>exact λ_=>⟨rfl,rfl⟩
  | succ j ih=>
   intro hj
   obtain⟨h1,h2⟩:=ih ow
   have hx:=w2z h k (c:=j) ow
   rw[q2x,qn5,sm,wb1,<- h1,<- h2]
   by_cases q:(j:Int)∈qi7 h k
   ·rw[zap q] at hx ⊢
    rw[hx]
    have e:qd6 (nI h j)=((nI h j).natAbs:Int):=rfl
    omega
   grind
 obtain⟨h1,h2⟩:=key h.length (zac _)
 rw[<- x46 h hP] at h1
 have e:szL h=wb1 h h.length:=rfl
 have hn:0<=inL h (qi7 h k):=by
  rw[x46 h hP]
  refine wa1 λc _=>?_
  split
  all_goals simp_all [qo4,Int.le_refl]
 refine zb8 ?_
 grind [qd6]
theorem yj7 {h:List Int} {k:Nat} (hk:k<=h.length):nzTo (q6u h k) (q6u h k).length<=k:=by
 have hP:Named h.length (qi7 h k):=qz7
 rw[w5d,<- q4w,w5r]
 obtain⟨s1,s2⟩:=qh6 (nI (q6u h k)) h.length
 generalize qt5 h.length (nI (q6u h k))=s at *
 have hsub:∀x∈s,x∈qi7 h k:=λx hx=>by
  obtain⟨j,hj,rfl⟩:=za6.1 hx
  have h1:=s2 j hj
  have h2:=s1.at_ j hj
  rw[w2z h k ow] at h1
  by_cases q:(((nI s j).toNat:Nat):Int)∈qi7 h k
  ·grind [qg5,nI]
  grind
 have hp:((qi7 h k).filter λx=>decide (x∈s)).Perm s:=by
  rw[zcy ((q4x (q7o hP)).sublist List.filter_sublist) (q4x (q7o s1))]
  grind
 have h1:=hp.length_eq
 grind [List.length_filter_le,decide,qi7,w40]
theorem yj8 {m:List (List Int)} (hF:xv6 m) {n i:Nat} (hv:qb7 m=true) (hn:n<=(nL m 0).length) (hc1:q9x m n 1=0) (hi:i<(qf1 m).1.length) (hf:hlf (shR (nL (qf1 m).1 i) (qi7 (nL (qf1 m).1 i) n))=true):yz7 m n (q6u (nL (qf1 m).1 i) n)=true/\(q6u (nL (qf1 m).1 i) n).length<=10/\∀c,c<(q6u (nL (qf1 m).1 i) n).length->-160<=nI (q6u (nL (qf1 m).1 i) n) c/\nI (q6u (nL (qf1 m).1 i) n) c<=160:=by
 obtain⟨s,hc⟩:=q4y hv (hF.n7 hv) hi
 have hM:=Mk.of hv
 have m10:=hM.pix10
 have hlen:(q6u (nL (qf1 m).1 i) n).length=(nL m 0).length:=by rw[w5r,hc.len]
 have hsm:∀c,c<(q6u (nL (qf1 m).1 i) n).length->-160<=nI (q6u (nL (qf1 m).1 i) n) c/\nI (q6u (nL (qf1 m).1 i) n) c<=160:=λc hcc=>by
  rw[w2z _ _ (by rw[hc.len]; omega)]
  have:=hc.small c
  omega
 refine⟨?_,ow,hsm⟩
 have hsh:=w8j hv hc (wi2 hc n)
 rw[xq3 hsh] at hf
 have hag:=yj6 (za3 hf)
 have hnz:=yj7 (h:=nL (qf1 m).1 i) (k:=n) (by rw[hc.len]; omega)
 have hE:q0t m (q6u (nL (qf1 m).1 i) n)=0:=by
  unfold q0t w73
  rw[zaj (by grind),zaj ow,zaj]
  have:((q6u (nL (qf1 m).1 i) n).all λe=>inB e (0-1000000) 1000000)=true:=by
   rw[zan]
   intro x hx
   obtain⟨c,hcc,rfl⟩:=za6.1 hx
   grind [qg5,qh5]
  grind
 generalize q6u (nL (qf1 m).1 i) n=x at *
 have hany:((qf1 m).1.any λh=>agB h x)=true:=zbu.2 ⟨_,qz0 _ i hi,hag⟩
 have hge:=qr8 (.list (.int .i64)) (λh=>agB h x) (qf1 m).1
 rw[hany] at hge
 have hge:0<=agI m x:=za3 hge
 have h2:(q41 m x).2=0:=by
  simp_all [q41,if_pos,if_neg,Int.not_lt]
 grind [yz7,decide_eq_true,nzTo]
theorem x2z {m:List (List Int)} {x:List Int} (hM:Mk m) (hl:x.length=(nL m 0).length) {f:Fit} (hf:f∈qe0 m (qd3 m x) 10):x9i [spF m f] x=true↔f=wp9 m x:=by
 obtain⟨h1,_,_,pix,k1,rfl⟩:=xq9 hf
 have hI:=qu3 k1
 have hN:=(Asked.of hI.chk).nam
 obtain⟨n1,n2⟩:=qh6 (nI x) (nL m 0).length
 have n4:=qv0 (nI x) (nL m 0).length
 have hsp:spF m (qg9 m (qd3 m x) pix).1=wc0 (nL m 0).length pix (qg9 m (qd3 m x) pix).1.2 pix.length:=by unfold spF; rw[hI.fst]
 have hB:x9i [spF m (qg9 m (qd3 m x) pix).1] x=true↔∀c,c<(nL m 0).length->nR (spF m (qg9 m (qd3 m x) pix).1) c=(nI x c,1):=by
  unfold x9i
  rw[zan]
  have e:w8o [spF m (qg9 m (qd3 m x) pix).1]=spF m (qg9 m (qd3 m x) pix).1:=rfl
  rw[e,show(spF m (qg9 m (qd3 m x) pix).1).length=(nL m 0).length by rw[hsp,q2w]]
  simp
 rw[hB,hsp]
 constructor
 ·intro h
  have hv:∀j,j<pix.length->nR (qg9 m (qd3 m x) pix).1.2 j=(nI x (nI pix j).toNat,1):=λj hj=>by
   have hp:=hN.at_ j hj
   rw[<- w2r hN (v:=(qg9 m (qd3 m x) pix).1.2) _ (zac _) j hj]
   grind
  have hz:∀c,c<(nL m 0).length->(∀j,j<pix.length->nI pix j≠(c:Int))->nI x c=0:=λc hc hno=>by
   have:=xo4 hN (v:=(qg9 m (qd3 m x) pix).1.2) hc hno _ (zac _)
   grind
  have hpix:pix=qt5 (nL m 0).length (nI x):=xo6 hN n1 λc hc=>by
   constructor
   ·rintro⟨j,hj,e⟩
    refine n4 c hc λq=>?_
    have:=(h1.each j (by rw[hI.len]; omega)).1
    grind
   grind
  refine Prod.ext (hI.fst.trans hpix) ?_
  show _=(qt5 (nL m 0).length (nI x)).map _
  rw[<- hpix]
  refine zbx (by rw[hI.len,zay]) λi h2 h3=>?_
  grind [q3t,qg5]
 ·intro e c hc
  have e1:pix=qt5 (nL m 0).length (nI x):=hI.fst.symm.trans (za2 Prod.fst e)
  have e2:(qg9 m (qd3 m x) pix).1.2=pix.map λj=>(nI x j.toNat,1):=by rw[e]; show(qt5 _ _).map _=_; grind
  by_cases q:∃j,j<pix.length/\nI pix j=(c:Int)
  ·obtain⟨j,hj,w⟩:=q
   have:=w2r hN (v:=(qg9 m (qd3 m x) pix).1.2) _ (zac _) j hj
   grind [Int.toNat_natCast,q3t,qg5]
  ·rw[xo4 hN hc (λj hj w=>q ⟨j,hj,w⟩) _ (zac _)]
   grind
theorem x8c (m:List (List Int)) (x:List Int):agI m x<0↔∀h∈(qf1 m).1,agB h x=false:=by
 have h1:=qr8 (.list (.int .i64)) (λh=>agB h x) (qf1 m).1
 have h2:(agI m x<0)↔(decide (0<=ixT (.list (.int .i64)) (λh=>agB h x) (qf1 m).1)=false):=by
  rw[decide_eq_false_iff_not,zdm]; rfl
 grind
def nrQ (f:Fit):Int × Int:=ofR (nmN f.2 f.2.length) (nmD f.2 f.2.length)
def xr2 (out:List Fit) (f:Fit):List Fit:=if out=[]\/q45 (nrQ f) (nrQ (nF out 0))<0 then[f] else if q45 (nrQ f) (nrQ (nF out 0))=0 then out++[f] else out
def qf5 (L:List Fit):Nat->List Fit
 | 0=>[]
 | k+1=>xr2 (qf5 L k) (nF L k)
def w0l (L:List Fit):List Fit:=qf5 L L.length
theorem xr3 (out:List Fit) (f:Fit):(xr2 out f).length<=out.length+1/\∀x∈xr2 out f,x∈out\/x=f:=by
 grind [xr2,List.mem_singleton]
theorem qz8 (L:List Fit):∀k,k<=L.length->(qf5 L k).length<=k/\∀x∈qf5 L k,x∈L
 | 0,_=>⟨zac _,λx hx=>by cases hx⟩
 | k+1,hk=>by
  obtain⟨h1,h2⟩:=qz8 L k ow
  obtain⟨k1,k2⟩:=xr3 (qf5 L k) (nF L k)
  rw[qf5]
  refine⟨ow,λx hx=>?_⟩
  rcases k2 x hx with q | rfl
  all_goals grind [wi5]
theorem xr4 (L:List Fit) (k:Nat):0<(qf5 L (k+1)).length:=by
 rw[qf5]; unfold xr2
 grind
structure x9j (f:Fit):Prop where
 dn:DnP f.2
 nm:NmOk f
 n0:0<=(nrQ f).1
 n1:(nrQ f).1<=5760000000
 d0:1<=(nrQ f).2
 d1:(nrQ f).2<=160
theorem yj9 {m:List (List Int)} {y:List Int} {k:Int} {f:Fit} (h:f∈qe0 m y k):x9j f:=by
 obtain⟨hm,_,_,pix,h1,rfl⟩:=xq9 h
 have hI:=qu3 h1
 have hA:=Asked.of hI.chk
 have h6:=hA.msk.rows6
 have hr:=hI.rows
 obtain⟨E,e0,e1,hE⟩:=xm1 h1
 have hdn:DnP (qg9 m y pix).1.2:=⟨by rw[hI.len]; omega,λj hj=>by
  obtain⟨_,_,_,hv,_⟩:=hE j hj
  simp_all [q7j,Bool.and_eq_true,decide_eq_true_eq]⟩
 obtain⟨X,hX⟩:∃X:Nat->Int,∀j,j<(qg9 m y pix).1.2.length->(X j).natAbs<=960000000/\(nR (qg9 m y pix).1.2 j).1*E=X j*(nR (qg9 m y pix).1.2 j).2:=
  ⟨λj=>if hj:j<(qg9 m y pix).1.2.length then Classical.choose (hE j hj) else 0,λj hj=>by
   grind⟩
 have hlen:=hdn.len
 obtain⟨b1,b2⟩:=hdn.bd _ (zac _)
 obtain⟨p0,p1⟩:=w8m (V:=(qg9 m y pix).1.2) (β:=X) e0 _ λj hj=>⟨(hm.each j hj).2,(hX j hj).2⟩
 have hS:(sm (qg9 m y pix).1.2.length λj=>qd6 (X j)).natAbs<=(qg9 m y pix).1.2.length*960000000:=x1a λj hj=>by
  grind [qd6]
 unfold nrQ at *
 generalize(qg9 m y pix).1=f at *
 obtain⟨P,Q,g,q1,q2,q3,q4,q5,q6⟩:=wp4 b2.1 p0
 have hP:(P:Int)*E=(sm f.2.length λj=>qd6 (X j))*Q:=by
  rw[q2,q3] at p1
  have:(g:Int)*((P:Int)*E)=g*((sm f.2.length λj=>qd6 (X j))*Q):=by grind
  grind [Int.eq_of_mul_eq_mul_left]
 generalize(sm f.2.length λj=>qd6 (X j))=S at *
 have hn:P*E.natAbs=S.natAbs*Q:=by
  have:=za2 Int.natAbs hP
  grind [Int.natAbs_mul,Int.natAbs_natCast]
 have d1:Q∣E.natAbs:=q6.symm.dvd_of_dvd_mul_left ⟨S.natAbs,by grind⟩
 have d2:P∣S.natAbs:=q6.dvd_of_dvd_mul_right ⟨E.natAbs,hn.symm⟩
 have l1:=zc9 ow d1
 have l2:P<=S.natAbs:=by
  rcases zbs S.natAbs with z | z
  ·rw[z,zdg] at hn
   grind [Nat.mul_eq_zero]
  simp_all [Nat.le_of_dvd]
 refine⟨hdn,hm,?_,?_,?_,?_⟩ <;> (grind [nrQ,q1])
theorem x21 {f g:Fit} (hf:x9j f) (hg:x9j g):(q45 (nrQ f) (nrQ g)<0↔¬leF g f)/\(q45 (nrQ f) (nrQ g)=0↔leF f g/\leF g f):=by
 have f1:=hf.d0
 have g1:=hg.d0
 have e1:dn (nrQ f).2=(nrQ f).2:=zaj ow
 have e2:dn (nrQ g).2=(nrQ g).2:=zaj ow
 obtain⟨P,Q,a,q1,q2,q3,q4,_,_⟩:=wp4 (hf.dn.bd _ (zac _)).2.1 hf.nm.pos
 obtain⟨P',Q',b,r1,r2,r3,r4,_,_⟩:=wp4 (hg.dn.bd _ (zac _)).2.1 hg.nm.pos
 unfold q45 leF
 rw[e1,e2,show nrQ f=((P:Int),(Q:Int)) from q1,show nrQ g=((P':Int),(Q':Int)) from r1,q2,q3,r2,r3]
 have hab:(0:Int)<(a*b:Nat):=by have:=Nat.mul_pos q4 r4; omega
 have m1:((P*a:Nat):Int)*((Q' * b:Nat):Int)=(P:Int)*Q' * (a*b:Nat):=by grind
 have m2:((P' * b:Nat):Int)*((Q*a:Nat):Int)=(P':Int)*Q*(a*b:Nat):=by grind
 rw[m1,m2]
 have c1:∀u v:Int,u*(a*b:Nat)<=v*(a*b:Nat)↔u<=v:=λu v=>⟨λh=>zcz h hab,λh=>zai h ow⟩
 rw[c1,c1]
 grind [w4y]
theorem w5t {L:List Fit} (hL:∀f∈L,x9j f) (hn:L.Nodup):∀k,k<=L.length->Gath leK (L.take k) (qf5 L k)/\(qf5 L k).Nodup
 | 0,_=>⟨Gath.nil leK,List.nodup_nil⟩
 | k+1,hk=>by
  obtain⟨h1,h2⟩:=w5t hL hn k ow
  have hkm:=qz8 L k ow
  have hf:nF L k∈L:=wi5 ow
  have hnew:∀x∈qf5 L k,x≠nF L k:=λx hx e=>by
   have hx2:=(h1.least x hx).1
   grind [xi5,List.mem_iff_getElem,List.length_take,List.pairwise_iff_getElem]
  have e:L.take (k+1)=L.take k++[nF L k]:=by grind [List.take_add_one,List.getElem?_eq_getElem,xi5]
  have hc:∀g∈qf5 L k,(q45 (nrQ (nF L k)) (nrQ g)<0↔¬leK g (nF L k))/\(q45 (nrQ (nF L k)) (nrQ g)=0↔leK (nF L k) g/\leK g (nF L k)):=λg hg=>by
   have k1:=hL _ hf
   have k2:=hL _ (hkm.2 g hg)
   rw[x2u k1.nm k2.nm,x2u k2.nm k1.nm]
   grind [x21]
  rw[e,qf5]
  by_cases h0:qf5 L k=[]
  ·have eS:xr2 (qf5 L k) (nF L k)=[nF L k]:=by simp_all [xr2,if_pos]
   rw[eS]
   exact⟨Gath.step (le:=leK) (λa=>zbr _) wa6 h1 (nF L k) (λ_=>rfl) (λg hg=>by grind) (λg hg=>by simp) (λg hg=>by grind) λa b=>zd0 (_*_) _,by simp⟩
  ·have hlen:0<(qf5 L k).length:=List.length_pos_iff.2 h0
   have hg0:nF (qf5 L k) 0∈qf5 L k:=wi5 hlen
   have hall:∀g∈qf5 L k,(leK (nF L k) g↔leK (nF L k) (nF (qf5 L k) 0))/\(leK g (nF L k)↔leK (nF (qf5 L k) 0) (nF L k)):=λg hg=>by
    obtain⟨q1,q2⟩:=h1.least g hg
    obtain⟨r1,r2⟩:=h1.least _ hg0
    grind [wa6,q2,q1]
   obtain⟨c1,c2⟩:=hc _ hg0
   have eS:xr2 (qf5 L k) (nF L k)=if q45 (nrQ (nF L k)) (nrQ (nF (qf5 L k) 0))<0 then[nF L k] else if q45 (nrQ (nF L k)) (nrQ (nF (qf5 L k) 0))=0 then qf5 L k++[nF L k] else qf5 L k:=by
    unfold xr2
    grind
   refine⟨Gath.step (le:=leK) (λa=>zbr _) wa6 h1 (nF L k) (λq=>absurd q h0) (λg hg q=>?_) (λg hg q=>?_) (λg hg q1 q2 x=>?_) λa b=>zd0 (_*_) _,?_⟩
   ·have q:=λw=>q ((hall g hg).1.2 w)
    have t:leK (nF (qf5 L k) 0) (nF L k):=(zd0 _ _).resolve_left q
    grind
   all_goals grind
theorem w5u {m:List (List Int)} {y:List Int} (h7:(nL m 0).length<=7):Gath leF (qe0 m y 10) (w0l (qe0 m y 10))/\(w0l (qe0 m y 10)).Nodup:=by
 have hn:(qe0 m y 10).Nodup:=(List.pairwise_map.1 (wi4 y 10 h7)).imp λq e=>q (by rw[e])
 have hok:∀f∈qe0 m y 10,x9j f:=λf hf=>yj9 hf
 obtain⟨h1,h2⟩:=w5t hok hn _ (zac _)
 rw[zeg] at h1
 refine⟨⟨h1.none,h1.some,λf hf=>?_,λf hf hg=>?_⟩,h2⟩
 ·obtain⟨k1,k2⟩:=h1.least f hf
  exact⟨k1,λg hg=>(x2u (hok f k1).nm (hok g hg).nm).1 (k2 g hg)⟩
 ·exact h1.all f hf λg hq=>(x2u (hok f hf).nm (hok g hq).nm).2 (hg g hq)
open Go Go.Proofs Go.RowKit Eng
abbrev y5n:qa8:=qd9 false none [tQ] [w7w] (λx=>q4q x.1.1 x.1.2 10=0->qk6 x.1.1 x.1.2 10) (λx=>((qh2 x.1.1 x.1.2 10).1,()))
theorem xr5:Meets Tryz.prog 120 y5n:=by
 refine mt0 (SpecsOk.cons w17 (SpecsOk.nil _)) Tryz.func120 ?_
 rintro⟨⟨m,y⟩,⟨⟩⟩ h
 revert m y
 intro(m:List (List Int)) (y:List Int) (h:q4q m y 10=0->qk6 m y 10)
 refine vcr ((q4q m y (10:Int)=(0:Int)->qk6 m y (10:Int))/\(qh2 m y (10:Int)).1=(qh2 m y (10:Int)).1) ?_
 grind
structure w5v (m:List (List Int)) (f:Fit):Prop where
 pos:0<m.length
 spr:x2n (nL m 0).length f.1 f.2
abbrev y5o:qa8:=qd9 true (some 43) [tQ,qq7] [q25] (λx=>w5v x.1.1 x.2.1) (λx=>(spF x.1.1 x.2.1,()))
theorem xr6:Meets Tryz.prog 118 y5o:=by
 refine mt0 (SpecsOk.cons xp8 (SpecsOk.nil _)) Tryz.func118 ?_
 rintro⟨⟨m,y⟩,⟨p,v⟩,⟨⟩⟩ h
 revert m y p v
 intro(m:List (List Int)) (y:List Int) (p:List Int) (v:List (Int × Int)) (h:w5v m (p,v))
 refine vcs (((0:Int)<=(0:Int)/\(0:Int)<(↑m.length:Int))/\x2n (↑(nL m (0:Nat)).length:Int) p v/\wc0 (↑(nL m (0:Nat)).length:Int).toNat p v p.length=spF m (p,v)) ?_
 have:=h.pos
 exact⟨ow,h.spr,rfl⟩
set_option maxRecDepth 100000 in
theorem xr7 {x:Int} (h:x=0\/x=1) (w:World):Calls Tryz.prog 232 #[.int .u64 x] w λe w'=>e=.returned (.int .i64 x)/\w=w':=by
 rcases h with rfl | rfl <;> (go_enter Tryz.func232,Tryz.ntmps232; go_wp2; go_ret)
 ·exact⟨za2 (λz=>Ending.returned (Value.int .i64 z)) (show wrap64 (wrap64 (Lib.len8 0))=0 by decide +kernel),rfl⟩
 ·exact⟨za2 (λz=>Ending.returned (Value.int .i64 z)) (show wrap64 (wrap64 (Lib.len8 1))=1 by decide +kernel),rfl⟩
theorem len_any {x:Int} (h:x=0\/x=1) (w:World):Calls Tryz.prog 175 #[.int .u64 x] w λe w'=>e=.returned (.int .i64 x)/\w=w':=by
 go_enter Tryz.func175,Tryz.ntmps175
 go_wp2_with fail
 refine(xr7 h w).mono ?_
 rintro e w1 ⟨rfl,rfl⟩
 go_wp2
 go_ret
 simp
abbrev sLen:qa8:=qd9 true none [tU64] [qc0] (λx=>x.1=0\/x.1=1) (λx=>(x.1,()))
theorem xr8:Meets Tryz.prog 175 sLen:=q2k ⟨_,_,Tryz.func175,rfl,rfl⟩ λw m x vs hm hp hx=>by
 obtain⟨x,⟨⟩⟩:=x
 obtain⟨u,rest,rfl,h1,rfl⟩:=hx
 obtain rfl:u=.int .u64 x:=h1
 exact(len_any hp w).mono λe w' ⟨h1,h2⟩=>⟨_,h1,by grind [Below.refl],[_],rfl,_,[],rfl,rfl,rfl⟩
abbrev x8d:PTy:=.fn [qq7,qq7] qc0
abbrev y0d (fs:List (Nat × qa8)):qa8:=hspec fs true none [.d w7w,.d qc0,.d qc0,x8d] [] (λx=>x.2.1=0/\x.2.2.1<=1) (λ_=>())
def yk0:Nat->Option Inv
 | 0=>some (Inv.of [8] 0 (λk:Nat=>[(8,.lit (.int .i64 k))]) (λ_=>[]) (λk=>k=1) (λ_=>0))
 | _=>none
theorem w8s {fs:List (Nat × qa8)} (hfs:SpecsOk Tryz.prog fs):Meets Tryz.prog 223 (y0d fs):=by
 refine qk7 hfs (snd (SpecsOk.nil _)) Tryz.func223 rfl rfl (λ_=>yk0) (λ_=>by kernel_rfl) dc ?_
 rintro⟨l,a,b,⟨p,f⟩,⟨⟩⟩ h
 revert l a b p f
 intro(l:List Fit) (a:Int) (b:Int) (p:qa3 [qq7,qq7]->Prop) (f:qa3 [qq7,qq7]->Int) (h:a=0/\b<=1)
 refine vcs (fits .i64 (a+(1:Int))/\∃(v0:Unit),∃(v1:Nat),v1=(1:Nat)/\((a+(1:Int)=(↑v1:Int)/\True)/\True)/\∀(v2:Nat),v2=(1:Nat)->(decide ((↑v2:Int)<b)=true->False)/\(decide ((↑v2:Int)<b)=false->True)) ?_
 obtain⟨rfl,hb⟩:=h
 exact⟨qa6 dc dc,(),1,rfl,rfl,λk hk hlt=>by omega⟩
abbrev y0e (fs:List (Nat × qa8)):qa8:=hspec fs true none [.d w7w,.d qc0,.d qc0,.d qc0,x8d] [] (λx=>x.2.1=0/\0<=x.2.2.1/\x.2.2.1<=1) (λ_=>())
def yk1 (n:Int):Nat->Option Inv
 | 0=>some (Inv.of [1,2] 0 (λ_:Nat=>[(1,.lit (.int .i64 0)),(2,.lit (.int .i64 n))]) (λ_=>[]) (λk=>k=0) (λ_=>0))
 | _=>none
theorem w8t {fs:List (Nat × qa8)} (hfs:SpecsOk Tryz.prog fs):Meets Tryz.prog 174 (y0e fs):=by
 refine qk7 hfs (snd (SpecsOk.cons (w8s (fs:=fs) hfs) (SpecsOk.nil _))) Tryz.func174 rfl rfl (λx=>yk1 x.2.2.1) (λ_=>by kernel_rfl) dc ?_
 rintro⟨l,a,b,c,⟨p,f⟩,⟨⟩⟩ h
 revert l a b c p f
 intro(l:List Fit) (a:Int) (b:Int) (c:Int) (p:qa3 [qq7,qq7]->Prop) (f:qa3 [qq7,qq7]->Int) (h:a=0/\0<=b/\b<=1)
 refine vcs (∃(v0:Unit),∃(v1:Nat),v1=(0:Nat)/\((a=(0:Int)/\b=b/\True)/\True)/\∀(v2:Nat),v2=(0:Nat)->fits .i64 (b-(0:Int))/\(decide (b-(0:Int)<=(12:Int))=true->∃(v5:qa3 [qq7,qq7]->Prop),∃(v6:qa3 [qq7,qq7]->Int),([qq7,qq7]=[qq7,qq7]/\qc0=qc0/\p ≍ v5/\f ≍ v6)/\((0:Int)=(0:PTy.den (PTy.d qc0))/\b<=(1:PTy.den (PTy.d qc0)))/\True)/\(decide (b-(0:Int)<=(12:Int))=false->False)) ?_
 obtain⟨rfl,h0,h1⟩:=h
 exact⟨(),0,rfl,rfl,λk hk=>⟨qa6,λ_=>⟨p,f,⟨HEq.rfl,HEq.rfl⟩,h1⟩,λq=>by omega⟩⟩
abbrev y0f (fs:List (Nat × qa8)):qa8:=hspec fs true none [.d w7w,x8d] [] (λx=>x.1.length<=1) (λ_=>())
theorem w8u {fs:List (Nat × qa8)} (hfs:SpecsOk Tryz.prog fs):Meets Tryz.prog 124 (y0f fs):=by
 refine qk7 hfs (snd (SpecsOk.cons xr8 (SpecsOk.cons (w8t (fs:=fs) hfs) (SpecsOk.nil _)))) Tryz.func124 rfl rfl (λ_ _=>none) (λ_=>by kernel_rfl) dc ?_
 rintro⟨l,⟨p,f⟩,⟨⟩⟩ h
 revert l p f
 intro(l:List Fit) (p:qa3 [qq7,qq7]->Prop) (f:qa3 [qq7,qq7]->Int) (h:l.length<=1)
 refine vcs (fits IntKind.u64 (↑l.length:Int)/\((↑l.length:Int)=(0:Ty.den tU64)\/(↑l.length:Int)=(1:Ty.den tU64))/\∃(v0:qa3 [qq7,qq7]->Prop),∃(v1:qa3 [qq7,qq7]->Int),([qq7,qq7]=[qq7,qq7]/\qc0=qc0/\p ≍ v0/\f ≍ v1)/\((0:Int)=(0:PTy.den (PTy.d qc0))/\(0:PTy.den (PTy.d qc0))<=(↑l.length:Int)/\(↑l.length:Int)<=(1:PTy.den (PTy.d qc0)))/\True) ?_
 exact⟨xk2 ow ow,ow,p,f,⟨HEq.rfl,HEq.rfl⟩,ow⟩
abbrev y5p:Ty:=.prod tQ (.prod qv9 w7w)
abbrev Ans:=(List (List Int) × List Int) × (Int × Int) × List Fit
def nmS (x:List (Int × Int)):(Int × Int) × (Int × Int):=(spl (nmN x x.length),spl (nmD x x.length))
def rtQ (s:(Int × Int) × (Int × Int)):Int × Int:=ofR (val s.1) (val s.2)
abbrev y0g:qa8:=qd9 true none [q25] [x72] (λx=>DnP x.1) (λx=>(nmS x.1,()))
theorem w8v:Meets Tryz.prog 121 y0g:=w8q
abbrev y5q:qa8:=qd9 true none [x72] [qv9,.bool] (λx=>RtP x.1) (λx=>(rtQ x.1,true,()))
theorem xr9:Meets Tryz.prog 122 y5q:=xr0
theorem yk2 (f:Fit):rtQ (nmS f.2)=nrQ f:=by
 grind [rtQ,nmS,nrQ,q0w]
def yk3:Ans:=(([],[]),(0,0),[])
def y2o (m:List (List Int)) (y:List Int) (q:Int × Int) (c:AV):AV:=.cons (.dat (.list (.int .i64)) m) (.cons (.dat (.int .i64) y) (.cons (.lit (.int .i64 q.1)) (.cons (.lit (.int .i64 q.2)) (.cons c .nil))))
def y5r:AV:=.cons (.lit (.slice none 0 0)) (.cons (.lit (.slice none 0 0)) (.cons (.lit (.int .i64 0)) (.cons (.lit (.int .i64 0)) (.cons (.lit (.slice none 0 0)) .nil))))
def y0h:Option Inv:=some (Inv.of [] 1 (λ_:Nat=>[]) (λ_=>[]) (λ_=>False) (λ_=>0))
open Go Go.Proofs Go.RowKit Eng Ls
def w01 (x y:Int):Int:=if x<y then -1 else if y<x then 1 else 0
def qz9:List Int->List Int->Int
 | [],[]=>0
 | [],_ :: _=>-1
 | _ :: _,[]=>1
 | x :: a,y :: b=>if w01 x y≠0 then w01 x y else qz9 a b
theorem xs0 {a b:Int} (h:a=b):Ending.returned (.int .i64 a)=.returned (.int .i64 b):=by rw[h]
theorem y0i (x:Int) (W:World):Calls Tryz.prog 233 #[.int .i64 x] W λe w'=>e=.returned (.bool false)/\w'=W:=by
 go_enter Tryz.func233,Tryz.ntmps233
 go_wp2
 go_ret
 simp
theorem y2p (x y:Int) (W:World):Calls Tryz.prog 176 #[.int .i64 x,.int .i64 y] W λe w'=>e=.returned (.int .i64 (w01 x y))/\w'=W:=by
 by_cases h1:x<y
 ·go_enter Tryz.func176,Tryz.ntmps176
  go_wp2_with (go_at_call 233; refine(y0i _ _).mono ?_; rintro e w1 ⟨rfl,rfl⟩)
  go_ret
  exact⟨by simp[w01,h1],rfl⟩
 ·by_cases h2:y<x
  ·go_enter Tryz.func176,Tryz.ntmps176
   go_wp2_with (go_at_call 233; refine(y0i _ _).mono ?_; rintro e w1 ⟨rfl,rfl⟩)
   go_ret
   exact⟨by simp_all [w01],rfl⟩
  ·go_enter Tryz.func176,Tryz.ntmps176
   go_wp2_with (go_at_call 233; refine(y0i _ _).mono ?_; rintro e w1 ⟨rfl,rfl⟩)
   go_ret
   exact⟨xs0 (by simp_all [w01,if_neg]),rfl⟩
theorem yk4 {zs ys:List Int} {k:Nat} (h1:k<zs.length) (h2:k<ys.length):qz9 (zs.drop k) (ys.drop k)=if w01 (nth zs k) (nth ys k)≠0 then w01 (nth zs k) (nth ys k) else qz9 (zs.drop (k+1)) (ys.drop (k+1)):=by
 grind [nth,List.getElem?_eq_getElem,List.drop_eq_getElem_cons,qz9]
theorem x22 {zs ys:List Int} {k:Nat} (h1:k<zs.length) (h2:ys.length<=k):qz9 (zs.drop k) (ys.drop k)=1:=by
 rw[zd1 h1,List.drop_of_length_le h2]; rfl
theorem x8e {zs ys:List Int} {k:Nat} (h1:zs.length=k) (h2:k<=ys.length):qz9 (zs.drop k) (ys.drop k)=if zs.length<ys.length then -1 else 0:=by
 rw[List.drop_of_length_le ow]
 by_cases q:k<ys.length
 ·rw[zd1 q,zap ow]; rfl
 ·rw[List.drop_of_length_le ow,zaj ow]; rfl
set_option maxHeartbeats 800000 in
theorem y5s (A B:Option Addr) (n k c d:Nat) (zs ys:List Int) (w:World) (ha:SI w A n c zs) (hb:SI w B k d ys):Calls Tryz.prog 126 #[.slice A n c,.slice B k d] w λe w'=>e=.returned (.int .i64 (qz9 zs ys))/\w'=w:=by
 have hn:=ha.nmax; have hk:=hb.nmax
 obtain rfl:=ha.len; obtain rfl:=hb.len
 go_enter Tryz.func126,Tryz.ntmps126
 go_wp2
 go_loop [5,6,7,8,11] (λ_ _ _ _ i=>∃q:Nat,q<=zs.length/\q<=ys.length/\i=.int .i64 q/\Hid (qz9 zs ys=qz9 (zs.drop q) (ys.drop q))) (λ_ _ _ _ i=>zs.length-(intOf i).toNat)
 case atStart=>exact⟨0,zae _,zae _,rfl,hidx rfl⟩
 case round=>
  obtain⟨q,h1,h2,rfl,H⟩:=hrel
  by_cases hlt:q<zs.length
  ·obtain⟨ad,rfl,hca⟩:=ha.at_ ow
   have g1:=hca q hlt
   by_cases hl2:q<ys.length
   ·obtain⟨bd,rfl,hcb⟩:=hb.at_ ow
    have g2:=hcb q hl2
    have L:=hidx (yk4 hlt hl2)
    clear hca hcb ha hb
    by_cases hz:w01 (nth zs q) (nth ys q)=0
    ·have hcall:=λW=>y2p (nth zs q) (nth ys q) W
     rw[hz] at hcall
     go_wp2_with (go_at_call 176; refine(hcall _).mono ?_; rintro e w1 ⟨rfl,rfl⟩)
     go_round
     case rel=>exact⟨q+1,ow,ow,by rfl,hidx (H.out.trans (L.out.trans (zaj (λw=>w hz))))⟩
     case measure=>grind [intOf]
    ·have hcall:=λW=>y2p (nth zs q) (nth ys q) W
     go_wp2_with (go_at_call 176; refine(hcall _).mono ?_; rintro e w1 ⟨rfl,rfl⟩)
     go_ret
     exact⟨xs0 (H.out.trans (L.out.trans (zap hz))).symm,rfl⟩
   ·have L:=hidx (x22 hlt (show ys.length<=q by omega))
    clear hca ha hb
    go_wp2
    go_ret
    exact⟨xs0 (H.out.trans L.out).symm,rfl⟩
  ·have L:=hidx (x8e (show zs.length=q by omega) h2)
   clear ha hb
   by_cases hs:zs.length<ys.length
   ·go_wp2
    go_ret
    exact⟨xs0 (H.out.trans (L.out.trans (zap hs))).symm,rfl⟩
   ·go_wp2
    go_ret
    exact⟨xs0 (H.out.trans (L.out.trans (zaj hs))).symm,rfl⟩
end Go.Proofs.YtnchigbbjajiiaaGreat
namespace Go.Proofs
open Go.Shelf
shelf_lay_g SlLaysF0.n6 Slsf 6 at Tryz 124 as Tryz.sortFit
end Go.Proofs
namespace Go.Proofs.YtnchigbbjajiiaaGreat
open Go Go.Proofs Go.RowKit Eng Ls Go.Sort Go.Shelf
theorem x23 (x y:Int):w01 y x=-w01 x y:=by grind [w01]
theorem q14 {x y:Int}:w01 x y=0↔x=y:=by grind [w01]
theorem w20 {x y:Int}:w01 x y<0↔x<y:=by grind [w01]
theorem qx4:∀a b:List Int,qz9 b a=-qz9 a b
 | [],[]=>rfl
 | [],_ :: _=>rfl
 | _ :: _,[]=>rfl
 | x :: a,y :: b=>by
  rw[qz9,qz9,qx4 a b,x23 x y]
  omega
theorem wa7:∀{a b:List Int},qz9 a b=0->a=b
 | [],[],_=>rfl
 | [],_ :: _,h=>by cases h
 | _ :: _,[],h=>by cases h
 | x :: a,y :: b,h=>by
  rw[qz9] at h
  split at h
  ·omega
  ·rename_i q
   have q:=Classical.not_not.1 q
   rw[q14.1 q,wa7 h]
theorem w0m:∀a:List Int,qz9 a a=0
 | []=>rfl
 | x :: a=>by rw[qz9,zaj (λq=>q (q14.2 rfl)),w0m a]
theorem q2y:∀{a b c:List Int},qz9 a b<=0->qz9 b c<=0->qz9 a c<=0
 | [],_,[],_,_=>zbr 0
 | [],_,_ :: _,_,_=>(show(-1:Int)<=0 by decide)
 | _ :: _,[],_,h,_=>absurd h (show ¬(1:Int)<=0 by decide)
 | _ :: _,_ :: _,[],_,h=>absurd h (show ¬(1:Int)<=0 by decide)
 | x :: a,y :: b,z :: c,h1,h2=>by
  rw[qz9] at h1 h2 ⊢
  have e1:=w20 (x:=x) (y:=y)
  have e2:=w20 (x:=y) (y:=z)
  have e3:=w20 (x:=x) (y:=z)
  have z1:=q14 (x:=x) (y:=y)
  have z2:=q14 (x:=y) (y:=z)
  have z3:=q14 (x:=x) (y:=z)
  split at h1 <;> split at h2 <;> split
  all_goals first | omega | skip
  exact q2y h1 h2
theorem swoF {α:Type} (f:α->List Int):SWO (ltOf λx y:α=>qz9 (f x) (f y)):=by
 refine⟨λx=>?_,λx y z h1 h2=>?_,λx y z h1 h2=>?_⟩
 ·show decide (qz9 (f x) (f x)<0)=false
  rw[w0m]; rfl
 ·have h1:qz9 (f x) (f y)<0:=za3 h1
  have h2:qz9 (f y) (f z)<0:=za3 h2
  have h3:=q2y (a:=f x) (b:=f y) (c:=f z) ow ow
  refine zb8 (show qz9 (f x) (f z)<0 from ?_)
  grind [Int.lt_or_eq_of_le,wa7,qx4]
 ·have h1:¬qz9 (f x) (f y)<0:=zck h1
  have h2:¬qz9 (f y) (f z)<0:=zck h2
  have n1:=qx4 (f x) (f y)
  have n2:=qx4 (f y) (f z)
  have n3:=qx4 (f x) (f z)
  have h3:=q2y (a:=f z) (b:=f y) (c:=f x) ow ow
  exact zc7 (show ¬qz9 (f x) (f z)<0 by omega)
def qr1 (l:List Fit):List Fit:=l.mergeSort λf g=>decide (qz9 f.1 g.1<=0)
theorem qo5 (l:List Fit):(qr1 l).Perm l:=List.mergeSort_perm _ _
theorem xs1 {l s:List Fit} (hp:s.Perm l) (hn:(l.map (·.1)).Nodup) (hs:s.Pairwise λf g=>qz9 f.1 g.1<=0):s=qr1 l:=by
 have hs2:(qr1 l).Pairwise λf g=>qz9 f.1 g.1<=0:=by
  have:=zeb (le:=λf g:Fit=>decide (qz9 f.1 g.1<=0)) (λa b c h1 h2=>by
   rw[zbd] at *; grind [q2y]) (λa b=>by
   have:=qx4 a.1 b.1
   grind) l
  exact this.imp λh=>za3 h
 have hinj:∀a∈l,∀b∈l,a.1=b.1->a=b:=λa ha b hb e=>by
  obtain⟨i,hi,rfl⟩:=za6.1 ha
  obtain⟨j,hj,rfl⟩:=za6.1 hb
  grind [List.pairwise_iff_getElem,Nat.lt_trichotomy,absurd]
 refine zd9 (le:=λf g:Fit=>qz9 f.1 g.1<=0) (λa b ha hb h1 h2=>?_) hs hs2 (hp.trans (qo5 l).symm)
 grind [qx4,qo5,wa7]
structure CF (m:View) where
 f:Fit
 cs:List Value
 ok:Rd m qq7 f cs
theorem CF.two {m:View} (x:CF m):∃A n c B k d,x.cs=[.slice A n c,.slice B k d]/\Rd m (.list (.int .i64)) x.f.1 [.slice A n c]:=by
 obtain⟨⟨p,v⟩,cs,u1,u2,e,h1,h2⟩:=x
 have h1':=h1
 obtain⟨A,c,rfl,_⟩:=h1
 obtain⟨B,d,rfl,_⟩:=h2
 grind
theorem CF.split {m:View}:∀{l:List Fit} {xs:List Value},RdL m qq7 l xs->∃ps:List (CF m),ps.map CF.f=l/\ps.flatMap CF.cs=xs
 | [],xs,h=>⟨[],rfl,by have h:xs=[]:=h; grind⟩
 | f :: l,xs,h=>by
  obtain⟨u,v,rfl,h1,h2⟩:=h
  obtain⟨ps,e1,e2⟩:=CF.split h2
  exact⟨⟨f,u,h1⟩ :: ps,by grind,by grind⟩
theorem CF.join {m:View}:∀ps:List (CF m),RdL m qq7 (ps.map CF.f) (ps.flatMap CF.cs)
 | []=>rfl
 | p :: ps=>⟨p.cs,ps.flatMap CF.cs,by rfl,p.ok,CF.join ps⟩
theorem CF.at_ {m:View} [Inhabited (CF m)]:∀(ps:List (CF m)) (j:Nat),j<ps.length*2->(ps.flatMap CF.cs)[j]? = some ((CF.cs ps.toArray[j / 2]!)[j % 2]!)
 | [],j,h=>absurd h (by simp)
 | p :: ps,j,h=>by
  obtain⟨A,n,c,B,k,d,e,_⟩:=p.two
  rw[List.flatMap_cons,e]
  match j,h with
  | 0,_=>grind
  | 1,_=>grind
  | j+2,h=>
   have ih:=CF.at_ ps j (by grind)
   grind
theorem rd_SI {m:View} {w:World} (hm:m.on w) {l:List Int} {v:Value} (h:Rd m (.list (.int .i64)) l [v]):∃A c,v=.slice A l.length c/\SI w A l.length c l:=by
 obtain⟨A,c,e,h1,h2,h3⟩:=h
 obtain rfl:=(zad e).1
 refine⟨A,c,rfl,rfl,h1,h2,λhn=>?_⟩
 obtain⟨ad,rfl,h4⟩:=h3 hn
 refine⟨ad,rfl,λk hk=>?_⟩
 obtain⟨cs,k1,k2⟩:=h4 k hk
 obtain rfl:cs=[.int .i64 (qf0 (.int .i64) l k)]:=k1
 have:=k2 0 _ rfl
 rw[show k*Ty.size (.int .i64)+0=k from by show k*1+0=k; omega] at this
 exact View.cell_on hm this
theorem x8g {m:View} (x y:CF m) (W:World) (hm:m.on W):Calls Tryz.prog 125 #[.agg x.cs.toArray,.agg y.cs.toArray] W λe w'=>e=.returned (.int .i64 (qz9 x.f.1 y.f.1))/\∃q os',w'=grow (W.drewN q) os':=by
 obtain⟨A,n,c,B,k,d,e1,h1⟩:=x.two
 obtain⟨A',n',c',B',k',d',e2,h2⟩:=y.two
 rw[e1,e2]
 have hcon:∀W',m.on W'->Calls Tryz.prog 126 #[.slice A n c,.slice A' n' c'] W' λe w'=>e=.returned (.int .i64 (qz9 x.f.1 y.f.1))/\w'=W':=λW' hm'=>by
  grind [q1,rd_SI,q2,y5s]
 have hup:∀o o',m.on ((W.alloc o).alloc o'):=λo o'=>View.on_below hm ((below_alloc W o).alloc (by simp) o')
 generalize qz9 x.f.1 y.f.1=r at hcon ⊢
 go_enter Tryz.func125,Tryz.ntmps125
 go_wp2_with (go_at_call 126; refine(hcon _ (hup _ _)).mono ?_; rintro e w' ⟨rfl,rfl⟩)
 go_ret
 exact⟨rfl,0,_,by rw[alloc_eq_grow,alloc_eq_grow,grow_grow]; rfl⟩
def wi6 (rows:List (List Fit)) (args:AV) (k:AV->List (List Fit)->Prop):Prop:=match rows with
 | [l]=>match args with
  | .cons a r=>match a,r with
   | .clo G caps,.nil=>match Nat.beq G 125,caps with
    | true,.nil=>((l.map (·.1)).Nodup/\l.length<=1000000)/\k (.tup .nil) [qr1 l]
    | _,_=>False
   | _,_=>False
  | _=>False
 | _=>False
theorem w8w (rows:List (List Fit)) (args:AV) (k:AV->List (List Fit)->Prop) (H:wi6 rows args k):∃r l,k r l/\∀k':AV->List (List Fit)->Prop,k' r l->wi6 rows args k':=by
 unfold wi6 at H ⊢
 split at H <;> try exact H.elim
 rename_i l
 split at H <;> try exact H.elim
 grind
def y0j:MSpec:={ deep:=false,self:=false,eh:=0,e:=55,t:=qq7,run:=wi6,one:=w8w }
theorem w0n {α:Type} [Inhabited α] (enc:α->List Value) (w:World) (g n:Nat) (d:Array α) (os:Array Obj) {b:Nat} (hb:b<w.heap.size) (hne:b≠g):(sortWorldK enc 2 w g 0 n d os).heap[b]? = w.heap[b]?:=by
 unfold sortWorldK
 show((putRowK enc 2 (Sort.ahead w n) g 0 d).heap++os)[b]? = _
 have hsz:(putRowK enc 2 (Sort.ahead w n) g 0 d).heap.size=w.heap.size:=by
  grind [putRowK,putRow,mapBlock,Sort.ahead,Array.size_modify]
 rw[zb4 ow]
 simp only[putRowK,putRow,mapBlock,Sort.ahead,Array.getElem?_modify]
 grind
theorem x26 {α:Type} [Inhabited α] (enc:α->List Value) (w:World) (g n e:Nat) (d:Array α) (os:Array Obj) {cur:Array Value} (hg:w.heap[g]? = some (.cells cur e (0,0))):(sortWorldK enc 2 w g 0 n d os).heap[g]? = some (.cells (putCells id 0 (flatK enc 2 d) cur) e (0,0)):=by
 have hb:g<w.heap.size:=(zal.1 hg).1
 unfold sortWorldK
 show((putRowK enc 2 (Sort.ahead w n) g 0 d).heap++os)[g]? = _
 have hsz:(putRowK enc 2 (Sort.ahead w n) g 0 d).heap.size=w.heap.size:=by
  grind [putRowK,putRow,mapBlock,Sort.ahead,Array.size_modify]
 rw[zb4 ow]
 simp only[putRowK,putRow,mapBlock,Sort.ahead,Array.getElem?_modify,hg,if_true,Option.map_some,onCells]
theorem CF.len {m:View} (ps:List (CF m)):(ps.flatMap CF.cs).length=ps.length*2:=by
 induction ps with
 | nil=>rfl
 | cons p ps ih=>
  obtain⟨A,n,c,B,k,d,e,_⟩:=p.two
  grind
set_option maxHeartbeats 800000 in
theorem x8h {m:View} {w:World} (hm:m.on w) {l:List Fit} {xs:List Value} (h0:0<l.length) (h9:l.length<=1000000) (hn:(l.map (·.1)).Nodup) (hr:RdL m qq7 l xs) {g cap:Nat} {cur:Array Value} (hg:w.heap[g]? = some (.cells cur 55 (0,0))) (hmg:m g=none) (ht:cur.toList.take (l.length*2)=xs) (hcs:l.length*2<=cur.size) :
  Calls Tryz.prog 124 #[.slice (some ⟨g,0,none⟩) l.length cap,.func (.func 125) #[] #[]] w λe w'=>e=.returned (.tuple #[])/\Kept (λx=>x=g) w w'/\∃cur':Array Value,w'.heap[g]? = some (.cells cur' 55 (0,0))/\cur'.size=cur.size/\RdL m qq7 (qr1 l) (cur'.toList.take (l.length*2)):=by
 obtain⟨ps,e1,e2⟩:=CF.split hr
 have hl:ps.length=l.length:=by grind
 have hb:g<w.heap.size:=(zal.1 hg).1
 cases ps with
 | nil=>grind
 | cons p0 ps0=>
 have inst:Inhabited (CF m):=⟨p0⟩
 generalize hps:p0 :: ps0=ps at *
 have hH:HoldsK CF.cs 2 w g 0 ps.toArray:=λj hj=>by
  have hj:j<ps.length*2:=by simp_all
  have hx:xs[j]? = some ((flatK CF.cs 2 ps.toArray)[j]!):=by
   grind [get_flatK,CF.at_]
  have hc:cur[j]? = xs[j]?:=by grind
  simp_all [World.cell?,Nat.zero_add,World.frozen?]
 have eg:∀args w,(callFunc 125 args).run Tryz.prog w=.ok (.enter 125 args) w:=(enters_of Tryz.func125 kr rfl)
 have hcmp:CmpLays Tryz.prog 125 #[] CF.cs 2 (λx y:CF m=>qz9 x.f.1 y.f.1) g 0 ps.toArray.size w:=λn os dk _ x y=>
  x8g x y _ λb o hbo=>by
   rw[w0n CF.cs w g n dk os (View.lt hm hbo) (λq=>by grind)]
   exact hm b o hbo
 have hcon:=AnyQ.slices_SortFunc Tryz.sortFit 2 Tryz.isAgg55 Tryz.sizeOf55 CF.cs (λx=>by obtain⟨A,n,c,B,k,d,e,_⟩:=x.two; grind) (λx v hv=>by
  obtain⟨A,n,c,B,k,d,e,_⟩:=x.two
  rw[e] at hv
  rcases zat.1 hv with rfl | hv
  ·rfl
  ·rw[zar.1 hv]; rfl) (λx y:CF m=>qz9 x.f.1 y.f.1) (swoF λx:CF m=>x.f.1) 125 #[] g 0 cap ps.toArray w eg hcmp hH hb (by grind)
 rw[List.size_toArray,hl] at hcon
 refine hcon.mono λe w' ⟨q1,d',n,os,q2,q3,q4⟩=>⟨q1,?_,?_⟩
 ·subst q4
  have hsz:(putRowK CF.cs 2 (Sort.ahead w n) g 0 d').heap.size=w.heap.size:=by
   grind [putRowK,putRow,mapBlock,Sort.ahead,Array.size_modify]
  refine⟨rfl,rfl,rfl,?_,λb hb=>w0n CF.cs w g n d' os hb.1 hb.2⟩
  show _<=((putRowK CF.cs 2 (Sort.ahead w n) g 0 d').heap++os).size
  grind
 ·subst q4
  obtain⟨p1,_,p3⟩:=q2
  have hd:d'.size=l.length:=by grind
  have hdl:d'.toList.length=l.length:=ow
  have hperm:d'.toList.Perm ps:=by
   have e3:(d'.extract 0 l.length).toList=d'.toList:=by rw[<- hd]; simp
   grind
  have hsrt:d'.toList.map CF.f=qr1 l:=by
   refine xs1 ?_ hn ?_
   ·grind
   ·rw[List.pairwise_map,zc1]
    intro i j hi hj hij
    have h3:=q3 i j (zae _) hij ow
    rw[getElem!_pos d' j ow,getElem!_pos d' i ow] at h3
    have h3:¬qz9 d'[j].f.1 d'[i].f.1<0:=zck h3
    grind [qx4,qz9]
  refine⟨_,x26 CF.cs w g n _ d' os hg,by simp[putCells],?_⟩
  rw[<- hsrt]
  have:(putCells id 0 (flatK CF.cs 2 d') cur).toList.take (l.length*2)=d'.toList.flatMap CF.cs:=by
   apply zd3
   intro j
   rw[zct]
   split
   ·rename_i hj
    have hx:=CF.at_ d'.toList j ow
    rw[hx]
    have hc:j<cur.size:=ow
    have hf:=get_flatK CF.cs 2 d' j ow
    simp only[putCells,Array.getElem?_toList,Array.getElem?_mapIdx]
    simp_all
   grind
  grind [CF.join]
abbrev y2q:qa8:=qd9 true none [qq7,qq7] [qc0] (λ_=>False) (λ_=>(0,()))
theorem xs2:Meets Tryz.prog 125 y2q:=q2k ⟨_,_,Tryz.func125,rfl,rfl⟩ λw m x vs hm hp hx=>hp.elim
theorem x3a {m:View} {w:World} (hm:m.on w) {u:Value} (hu:Rd m (.list qq7) [] [u]):Calls Tryz.prog 124 #[u,.func (.func 125) #[] #[]] w λe w'=>e=.returned (.tuple #[])/\Below w.heap.size w w':=by
 refine((w8u (fs:=[(125,y2q)]) (SpecsOk.cons xs2 (SpecsOk.nil _))).2 w m (.cons (.dat qq7 []) (.cons (.clo 125 .nil) .nil)) [u,.func (.func 125) #[] #[]] (λr=>r=.tup .nil) hm ⟨u,_,rfl,hu,_,[],rfl,⟨[],rfl,rfl⟩,rfl⟩ ?_).mono ?_
 ·exact⟨λ_=>False,λ_=>0,λx hx=>hx.elim,zae _,rfl⟩
 ·rintro e w' ⟨v,m',e1,e2,_,_,r,rfl,cs,h1,h2⟩
  obtain rfl:cs=[]:=h2
  grind
theorem w8x:qo7 Tryz.prog 124 y0j:=by
 refine⟨⟨_,_,Tryz.func124,rfl,rfl⟩,λw m hs rows args vs k hm hpool hargs hrun hone=>?_⟩
 replace hrun:wi6 rows args k:=hrun
 obtain⟨l,rfl⟩:∃l:List Fit,rows=[l]:=by
  match rows,hrun with
  | [],h=>exact h.elim
  | [l],_=>exact⟨l,rfl⟩
  | _ :: _ :: _,h=>exact h.elim
 unfold wi6 at hrun
 dsimp only at hrun
 split at hrun <;> try exact hrun.elim
 rename_i a r
 split at hrun <;> try exact hrun.elim
 rename_i G caps
 split at hrun <;> try exact hrun.elim
 rename_i heq
 obtain rfl:=zab heq
 obtain⟨⟨hn,h9⟩,hk⟩:=hrun
 have hl:=hpool.len
 obtain⟨hd,u,rfl⟩:∃hd u,hs=[hd,u]:=by
  match hs,hl with
  | [a,b],_=>simp
 obtain⟨xs,h1,h2⟩:=hpool.row 0 Nat.zero_lt_one
 have h1:RdL m qq7 l xs:=h1
 have h2:w.ownsRow 0 55 2 u l.length xs:=h2
 obtain⟨v,vs',rfl,⟨cs,e0,hcs⟩,hv⟩:=hargs
 obtain rfl:=(zad e0).1
 obtain rfl:vs'=[]:=hv
 obtain rfl:cs=[]:=hcs
 show Calls Tryz.prog _ #[u,.func (.func 125) #[] #[]] w _
 have fin:∀(e:Ending) (w':World),e=.returned (.tuple #[])->Kept (λx=>∃b,u.ownBlock=some b/\x=b) w w'->(∃ys,RdL m qq7 (qr1 l) ys/\w'.ownsRow 0 55 2 u (qr1 l).length ys) ->
   ∃v m' r rows' hs',e=.returned v/\Kept (Blk (qg3 [hd,u])) w w'/\m'.on w'/\(∀b o,m' b=some o->w.heap.size<=b)/\q71 (some ⟨[hd,u]⟩) hs'/\PoolOk m w' 0 0 55 qq7 rows' (some []) hs'/\k r rows'/\AV.ok Tryz.prog m' [] r [v]:=by
  rintro e w' rfl hk2 ⟨ys,y1,y2⟩
  refine⟨.tuple #[],λ_=>none,.tup .nil,[qr1 l],[hd,u],rfl,hk2.mono λb hb=>⟨hb.1,?_⟩,(λ_ _ hb=>by grind),(λ_ _ hb=>by grind),λT e=>by grind,?_,hk,[],rfl,rfl⟩
  ·rintro⟨b',hb',rfl⟩
   exact hb.2 (qe1.2 ⟨u,by simp,(qi2 h2).2 hb'⟩)
  ·exact hpool.setRow (p:=0) (v:=u) rfl y1 y2 λb hb hne=>hk2.block b ⟨hb,λ⟨b',q,e⟩=>hne (by grind [qi2])⟩
 by_cases h0:l.length=0
 ·obtain rfl:=zax h0
  have hu:Rd m (.list qq7) [] [u]:=by
   rcases h2.2 with⟨rfl,_⟩ | ⟨g,cap,cur,rfl,_,_,hcap,hmx,_,_⟩
   ·exact⟨none,0,rfl,zac _,by simp,λq=>absurd q (by simp)⟩
   ·exact⟨_,cap,rfl,hcap,hmx,λq=>absurd q (by simp)⟩
  refine(x3a hm hu).mono λe w' ⟨e1,e2⟩=>fin e w' e1 ⟨e2.os,e2.tape,e2.output,e2.size,λb hb=>e2.block b hb.1⟩ ⟨xs,?_,?_⟩
  ·simp_all [qr1]
  ·rw[show qr1 []=[] by simp[qr1]]; exact qn8 h2 λb hb=>e2.block b (own_blk h2 hb).2.1
 ·rcases h2.2 with⟨rfl,q⟩ | ⟨g,cap,cur,rfl,hB,hg,hcap,hmx,hcs,htk⟩
  ·omega
  have hmg:m g=none:=hpool.free (.slice (some ⟨g,0,none⟩) l.length cap) g (by simp) rfl
  refine(x8h hm ow h9 hn h1 hg hmg htk ow).mono λe w' ⟨e1,e2,cur',k1,k2,k3⟩=>fin e w' e1 (e2.mono λb hb=>⟨hb.1,λq=>hb.2 ⟨g,rfl,q⟩⟩) ⟨_,k3,?_⟩
  have hl2:(qr1 l).length=l.length:=(qo5 l).length_eq
  rw[hl2]
  refine⟨by grind,.inr ⟨g,cap,cur',rfl,hB,k1,hcap,hmx,ow,rfl⟩⟩
open Go Go.Proofs Go.RowKit Eng
def x3b (m:List (List Int)) (y:List Int):Ans:=((m,y),nrQ (nF (w0l (qe0 m y 10)) 0),qr1 (w0l (qe0 m y 10)))
def qu0 (m:List (List Int)) (y:List Int):Ans × Int:=if qw0 m y []≠0 then(yk3,qw0 m y []) else if w0l (qe0 m y 10)=[] then(yk3,10) else(x3b m y,0)
structure w8y (m:List (List Int)) (y:List Int):Prop where
 pre:qw0 m y []=0->qk6 m y 10
 nq:qw0 m y []=0->∀f∈qe0 m y 10,x9j f
 one:qw0 m y []=0->((w0l (qe0 m y 10)).map (·.1)).Nodup
abbrev y0k:qa8:=qd9 false none [qf9,qe8] [y5p,qc0] (λx=>w8y x.1 x.2.1) (λx=>((qu0 x.1 x.2.1).1,(qu0 x.1 x.2.1).2,()))
def yk5 (m:List (List Int)) (y:List Int) (L:List Fit):Nat->Option Inv
 | 0=>some (Inv.of [28] 11 (λk:Nat=>[(28,.lit (.int .i64 k))]) (λk=>[.box 110 y5r,.box 110 (y2o m y (nrQ (nF (qf5 L k) 0)) (.own 6)),.dead,.dead,.dead,.dead,.vec 55 qq7 (qf5 L k),.dead,.dead,.dead,.dead]) (λk=>1<=k/\k<=L.length) (λk=>L.length-k))
 | 5000=>y0h
 | 6000=>y0h
 | 900000=>y0h
 | _=>none
theorem w8z:Meets Tryz.prog 77 y0k:=by
 refine meets (x00 [53] [] (SpecsOk.cons q8r (SpecsOk.cons xr5 (SpecsOk.cons w8v (SpecsOk.cons xr9 (SpecsOk.cons w2c (SpecsOk.nil _)))))) (MutsOk.cons w8x MutsOk.nil)) Tryz.func77 rfl rfl (λx=>yk5 x.1 x.2.1 (qe0 x.1 x.2.1 10)) (λ_=>by kernel_rfl) dc ?_
 rintro⟨m,y,⟨⟩⟩ h
 revert m y
 intro(m:List (List Int)) (y:List Int) (h:w8y m y)
 refine vcs (let Q0:=qu0 m y; Value.slice none (0:Nat) (0:Nat)=Value.slice none (0:Nat) (0:Nat)/\(0:Nat)<=(1000000:Nat)/\((qw0 m y [] != (0:Int))=true->(Q0.1.1.1=[]/\Q0.1.1.2=[]/\(0:Int)=Q0.1.2.1.1/\(0:Int)=Q0.1.2.1.2/\Q0.1.2.2=[]/\True)/\qw0 m y []=Q0.2/\True)/\((qw0 m y [] != (0:Int))=false->(q4q m y (10:Int)=(0:Int)->qk6 m y (10:Int))/\(decide ((0:Int)<(↑(qh2 m y (10:Int)).1.length:Int))=true->((0:Int)<=(0:Int)/\(0:Int)<(↑(qh2 m y (10:Int)).1.length:Int))/\DnP (nF (qh2 m y (10:Int)).1 (0:Nat)).2/\RtP ((nmS (nF (qh2 m y (10:Int)).1 (0:Nat)).2).1,(nmS (nF (qh2 m y (10:Int)).1 (0:Nat)).2).2.1,(nmS (nF (qh2 m y (10:Int)).1 (0:Nat)).2).2.2)/\(CmP (rtQ ((nmS (nF (qh2 m y (10:Int)).1 (0:Nat)).2).1,(nmS (nF (qh2 m y (10:Int)).1 (0:Nat)).2).2.1,(nmS (nF (qh2 m y (10:Int)).1 (0:Nat)).2).2.2))/\CmP ((0:Int),(0:Int)))/\fits .i64 (1:Int)/\∃(v2:Unit),∃(v3:Nat),((1:Nat)<=v3/\Nat.le v3 (qe0 m y (10:Int)).length)/\(((1:Int)=(↑v3:Int)/\True)/\(Value.slice none (0:Nat) (0:Nat)=Value.slice none (0:Nat) (0:Nat)/\Value.slice none (0:Nat) (0:Nat)=Value.slice none (0:Nat) (0:Nat)/\(0:Int)=(0:Int)/\(0:Int)=(0:Int)/\Value.slice none (0:Nat) (0:Nat)=Value.slice none (0:Nat) (0:Nat)/\True)/\(m=m/\y=y/\(rtQ ((nmS (nF (qh2 m y (10:Int)).1 (0:Nat)).2).1,(nmS (nF (qh2 m y (10:Int)).1 (0:Nat)).2).2.1,(nmS (nF (qh2 m y (10:Int)).1 (0:Nat)).2).2.2)).1=(nrQ (nF (qf5 (qe0 m y (10:Int)) v3) (0:Nat))).1/\(rtQ ((nmS (nF (qh2 m y (10:Int)).1 (0:Nat)).2).1,(nmS (nF (qh2 m y (10:Int)).1 (0:Nat)).2).2.1,(nmS (nF (qh2 m y (10:Int)).1 (0:Nat)).2).2.2)).2=(nrQ (nF (qf5 (qe0 m y (10:Int)) v3) (0:Nat))).2/\True/\True)/\True/\True/\True/\True/\[(nF (qh2 m y (10:Int)).1 (0:Nat))]=qf5 (qe0 m y (10:Int)) v3/\True/\True/\True/\True/\True)/\∀(v4:Nat),(1:Nat)<=v4/\Nat.le v4 (qe0 m y (10:Int)).length->(decide ((↑v4:Int)<(↑(qh2 m y (10:Int)).1.length:Int))=true->((0:Int)<=(↑v4:Int)/\(↑v4:Int)<(↑(qh2 m y (10:Int)).1.length:Int))/\DnP (nF (qh2 m y (10:Int)).1 v4).2/\RtP ((nmS (nF (qh2 m y (10:Int)).1 v4).2).1,(nmS (nF (qh2 m y (10:Int)).1 v4).2).2.1,(nmS (nF (qh2 m y (10:Int)).1 v4).2).2.2)/\(CmP (rtQ ((nmS (nF (qh2 m y (10:Int)).1 v4).2).1,(nmS (nF (qh2 m y (10:Int)).1 v4).2).2.1,(nmS (nF (qh2 m y (10:Int)).1 v4).2).2.2))/\CmP (nrQ (nF (qf5 (qe0 m y (10:Int)) v4) (0:Nat))))/\(0:Nat)<(qf5 (qe0 m y (10:Int)) v4).length/\(decide (q45 (rtQ ((nmS (nF (qh2 m y (10:Int)).1 v4).2).1,(nmS (nF (qh2 m y (10:Int)).1 v4).2).2.1,(nmS (nF (qh2 m y (10:Int)).1 v4).2).2.2)) (nrQ (nF (qf5 (qe0 m y (10:Int)) v4) (0:Nat)))<(0:Int))=true->fits .i64 ((↑v4:Int)+(1:Int))/\∃(v8:Nat),((1:Nat)<=v8/\Nat.le v8 (qe0 m y (10:Int)).length)/\(qe0 m y (10:Int)).length-v8<(qe0 m y (10:Int)).length-v4/\((↑v4:Int)+(1:Int)=(↑v8:Int)/\True)/\(Value.slice none (0:Nat) (0:Nat)=Value.slice none (0:Nat) (0:Nat)/\Value.slice none (0:Nat) (0:Nat)=Value.slice none (0:Nat) (0:Nat)/\(0:Int)=(0:Int)/\(0:Int)=(0:Int)/\Value.slice none (0:Nat) (0:Nat)=Value.slice none (0:Nat) (0:Nat)/\True)/\(m=m/\y=y/\(rtQ ((nmS (nF (qh2 m y (10:Int)).1 v4).2).1,(nmS (nF (qh2 m y (10:Int)).1 v4).2).2.1,(nmS (nF (qh2 m y (10:Int)).1 v4).2).2.2)).1=(nrQ (nF (qf5 (qe0 m y (10:Int)) v8) (0:Nat))).1/\(rtQ ((nmS (nF (qh2 m y (10:Int)).1 v4).2).1,(nmS (nF (qh2 m y (10:Int)).1 v4).2).2.1,(nmS (nF (qh2 m y (10:Int)).1 v4).2).2.2)).2=(nrQ (nF (qf5 (qe0 m y (10:Int)) v8) (0:Nat))).2/\True/\True)/\True/\True/\True/\True/\[(nF (qh2 m y (10:Int)).1 v4)]=qf5 (qe0 m y (10:Int)) v8/\True/\True/\True/\True/\True)/\(decide (q45 (rtQ ((nmS (nF (qh2 m y (10:Int)).1 v4).2).1,(nmS (nF (qh2 m y (10:Int)).1 v4).2).2.1,(nmS (nF (qh2 m y (10:Int)).1 v4).2).2.2)) (nrQ (nF (qf5 (qe0 m y (10:Int)) v4) (0:Nat)))<(0:Int))=false->((q45 (rtQ ((nmS (nF (qh2 m y (10:Int)).1 v4).2).1,(nmS (nF (qh2 m y (10:Int)).1 v4).2).2.1,(nmS (nF (qh2 m y (10:Int)).1 v4).2).2.2)) (nrQ (nF (qf5 (qe0 m y (10:Int)) v4) (0:Nat)))==(0:Int))=true->((0:Nat)<List.length [(nF (qh2 m y (10:Int)).1 v4)]/\Nat.le ((qf5 (qe0 m y (10:Int)) v4).length+List.length [(nF (qh2 m y (10:Int)).1 v4)]) (1000000:Nat))/\fits .i64 ((↑v4:Int)+(1:Int))/\∃(v9:Nat),((1:Nat)<=v9/\Nat.le v9 (qe0 m y (10:Int)).length)/\(qe0 m y (10:Int)).length-v9<(qe0 m y (10:Int)).length-v4/\((↑v4:Int)+(1:Int)=(↑v9:Int)/\True)/\(Value.slice none (0:Nat) (0:Nat)=Value.slice none (0:Nat) (0:Nat)/\Value.slice none (0:Nat) (0:Nat)=Value.slice none (0:Nat) (0:Nat)/\(0:Int)=(0:Int)/\(0:Int)=(0:Int)/\Value.slice none (0:Nat) (0:Nat)=Value.slice none (0:Nat) (0:Nat)/\True)/\(m=m/\y=y/\(nrQ (nF (qf5 (qe0 m y (10:Int)) v4) (0:Nat))).1=(nrQ (nF (qf5 (qe0 m y (10:Int)) v9) (0:Nat))).1/\(nrQ (nF (qf5 (qe0 m y (10:Int)) v4) (0:Nat))).2=(nrQ (nF (qf5 (qe0 m y (10:Int)) v9) (0:Nat))).2/\True/\True)/\True/\True/\True/\True/\qf5 (qe0 m y (10:Int)) v4++[(nF (qh2 m y (10:Int)).1 v4)]=qf5 (qe0 m y (10:Int)) v9/\True/\True/\True/\True/\True)/\((q45 (rtQ ((nmS (nF (qh2 m y (10:Int)).1 v4).2).1,(nmS (nF (qh2 m y (10:Int)).1 v4).2).2.1,(nmS (nF (qh2 m y (10:Int)).1 v4).2).2.2)) (nrQ (nF (qf5 (qe0 m y (10:Int)) v4) (0:Nat)))==(0:Int))=false->fits .i64 ((↑v4:Int)+(1:Int))/\∃(v9:Nat),((1:Nat)<=v9/\Nat.le v9 (qe0 m y (10:Int)).length)/\(qe0 m y (10:Int)).length-v9<(qe0 m y (10:Int)).length-v4/\((↑v4:Int)+(1:Int)=(↑v9:Int)/\True)/\(Value.slice none (0:Nat) (0:Nat)=Value.slice none (0:Nat) (0:Nat)/\Value.slice none (0:Nat) (0:Nat)=Value.slice none (0:Nat) (0:Nat)/\(0:Int)=(0:Int)/\(0:Int)=(0:Int)/\Value.slice none (0:Nat) (0:Nat)=Value.slice none (0:Nat) (0:Nat)/\True)/\(m=m/\y=y/\(nrQ (nF (qf5 (qe0 m y (10:Int)) v4) (0:Nat))).1=(nrQ (nF (qf5 (qe0 m y (10:Int)) v9) (0:Nat))).1/\(nrQ (nF (qf5 (qe0 m y (10:Int)) v4) (0:Nat))).2=(nrQ (nF (qf5 (qe0 m y (10:Int)) v9) (0:Nat))).2/\True/\True)/\True/\True/\True/\True/\qf5 (qe0 m y (10:Int)) v4=qf5 (qe0 m y (10:Int)) v9/\True/\True/\True/\True/\True)))/\(decide ((↑v4:Int)<(↑(qh2 m y (10:Int)).1.length:Int))=false->(0:Nat)<(qf5 (qe0 m y (10:Int)) v4).length/\(List.Nodup (List.map (λ(v7:Fit)=>v7.1) (qf5 (qe0 m y (10:Int)) v4))/\(qf5 (qe0 m y (10:Int)) v4).length<=(1000000:Nat))/\(m=Q0.1.1.1/\y=Q0.1.1.2/\(nrQ (nF (qf5 (qe0 m y (10:Int)) v4) (0:Nat))).1=Q0.1.2.1.1/\(nrQ (nF (qf5 (qe0 m y (10:Int)) v4) (0:Nat))).2=Q0.1.2.1.2/\qf0 (Ty.list (Ty.prod (Ty.list (Ty.int .i64)) (Ty.list (Ty.prod (Ty.int .i64) (Ty.int .i64))))) [qr1 (qf5 (qe0 m y (10:Int)) v4)] (0:Nat)=Q0.1.2.2/\True)/\(0:Int)=Q0.2/\True))/\(decide ((0:Int)<(↑(qh2 m y (10:Int)).1.length:Int))=false->(Q0.1.1.1=[]/\Q0.1.1.2=[]/\(0:Int)=Q0.1.2.1.1/\(0:Int)=Q0.1.2.1.2/\Q0.1.2.2=[]/\True)/\(10:Int)=Q0.2/\True))) ?_
 have hR:qu0 m y=if qw0 m y []≠0 then(yk3,qw0 m y []) else if w0l (qe0 m y 10)=[] then(yk3,10) else(x3b m y,0):=rfl
 refine⟨dc,λhe=>by rw[hR,zap he]; exact⟨⟨rfl,rfl,rfl,rfl,rfl⟩,rfl⟩,λhe=>⟨λ_=>h.pre he,?_⟩⟩
 have hL:(qh2 m y 10).1=qe0 m y 10:=by
  have hc:q4q m y 10=0:=by unfold q4q; rw[zap he]; rfl
  simp_all [qh2,if_pos]
 have hq:=h.nq he
 have h1:=h.one he
 have hlen:=(h.pre he).len
 rw[hL,hR,zaj (λq=>q he)]
 unfold x3b
 clear hR hL
 revert hq h1 hlen
 generalize qe0 m y 10=L
 intro hq h1 hlen
 have hn:∀k,k<L.length->DnP (nF L k).2/\RtP (nmS (nF L k).2)/\CmP (nrQ (nF L k)):=λk hk=>by
  have hk:=hq _ (wi5 hk)
  obtain⟨k1,k2,k3,k4,k5,k6⟩:=hk
  obtain⟨⟨b1,b2⟩,b3,b4⟩:=k1.bd _ (zac _)
  obtain⟨p1,p2⟩:=yz9 (nF L k).2.length (by have:=k1.len; omega)
  refine⟨k1,⟨q6t b3 ow,q6t ow ow,?_,?_,?_,?_⟩,k3,ow,ow,ow⟩
  all_goals grind [nmS,q0w,rtQ,nF,yk2,Int.le_trans]
 have rt:∀k,rtQ (nmS (nF L k).2)=nrQ (nF L k):=λk=>yk2 _
 have keep:=qz8 L
 have h0:CmP (0,0):=⟨dc,dc,dc,dc⟩
 refine⟨λhpos=>⟨hpos,(hn 0 ow).1,(hn 0 ow).2.1,⟨?_,h0⟩,?_⟩,λhz=>?_⟩
 ·grind
 ·have e1:qf5 L 1=[nF L 0]:=rfl
  refine⟨qa6 dc dc,(),1,⟨zac _,ow⟩,⟨rfl,⟨?_,?_⟩,rfl⟩,λk ⟨k1,k2⟩=>?_⟩
  ·show(rtQ (nmS (nF L 0).2)).1=_; rw[rt,e1]; rfl
  ·show(rtQ (nmS (nF L 0).2)).2=_; rw[rt,e1]; rfl
  obtain⟨j,rfl⟩:∃j,k=j+1:=⟨k-1,ow⟩
  have hpj:=xr4 L j
  obtain⟨c1,c2⟩:=keep (j+1) k2
  have hlt0:nF (qf5 L (j+1)) 0∈L:=c2 _ (wi5 hpj)
  have hne:qf5 L (j+1)≠[]:=List.length_pos_iff.1 hpj
  have hS:qf5 L (j+2)=xr2 (qf5 L (j+1)) (nF L (j+1)):=rfl
  unfold xr2 at hS
  refine⟨λhlt=>⟨hlt,(hn _ hlt).1,(hn _ hlt).2.1,⟨?_,?_⟩,hpj,λhc=>?_,λhc=>⟨λhd=>?_,λhd=>?_⟩⟩,λhge=>⟨hpj,?_⟩⟩
  ·grind
  ·have k:=hq _ hlt0
   exact⟨k.n0,by have:=k.n1; omega,by have:=k.d0; omega,by have:=k.d1; omega⟩
  ·have hc:q45 (rtQ (nmS (nF L (j+1)).2)) (nrQ (nF (qf5 L (j+1)) 0))<0:=hc
   rw[rt] at hc
   rw[zap (.inr hc)] at hS
   refine⟨qa6,j+2,⟨ow,ow⟩,ow,by rfl,⟨?_,?_⟩,hS.symm⟩
   ·show(rtQ (nmS (nF L (j+1)).2)).1=_; rw[rt,hS]; rfl
   ·show(rtQ (nmS (nF L (j+1)).2)).2=_; rw[rt,hS]; rfl
  ·have hc:0<=q45 (rtQ (nmS (nF L (j+1)).2)) (nrQ (nF (qf5 L (j+1)) 0)):=hc
   have hd:q45 (rtQ (nmS (nF L (j+1)).2)) (nrQ (nF (qf5 L (j+1)) 0))=0:=hd
   rw[rt] at hc hd
   rw[zaj (by grind),zap hd] at hS
   grind [nF,qf5,xi5,List.getElem_append_left,qa6]
  ·have hc:0<=q45 (rtQ (nmS (nF L (j+1)).2)) (nrQ (nF (qf5 L (j+1)) 0)):=hc
   have hd:¬q45 (rtQ (nmS (nF L (j+1)).2)) (nrQ (nF (qf5 L (j+1)) 0))=0:=hd
   rw[rt] at hc hd
   rw[zaj (by grind),zaj hd] at hS
   grind [qa6]
  ·have hA:qf5 L (j+1)=w0l L:=by grind [w0l]
   rw[hA] at hne ⊢
   rw[zaj hne]
   exact⟨⟨h1,by grind⟩,⟨rfl,rfl,rfl,rfl,rfl⟩,rfl⟩
 ·have hA:w0l L=[]:=by
   have:L=[]:=zax ow
   subst this; rfl
  rw[zap hA]
  exact⟨⟨rfl,rfl,rfl,rfl,rfl⟩,rfl⟩
structure x3c (m:List (List Int)) (y:List Int):Prop where
 ask:w8y m y
 spr:∀f∈(qu0 m y).1.2.2,w5v (qu0 m y).1.1.1 f
theorem xs3 {m:List (List Int)} {y:List Int} (h:w8y m y):(qu0 m y).1.2.2.length<=1000000:=by
 unfold qu0
 split
 ·exact zae _
 ·rename_i h0
  split
  ·exact zae _
  ·have h1:=(h.pre (Classical.not_not.1 h0)).len
   have h2:=(qz8 (qe0 m y 10) _ (zac _)).1
   have h3:=(qo5 (w0l (qe0 m y 10))).length_eq
   show(qr1 (w0l (qe0 m y 10))).length<=_
   grind [w0l]
def qw7 (m:List (List Int)) (y:List Int):List (List (Int × Int)) × Int:=((qu0 m y).1.2.2.map (spF (qu0 m y).1.1.1),(qu0 m y).2)
abbrev y0l:qa8:=qd9 false none [qf9,qe8] [.list q25,qc0] (λx=>x3c x.1 x.2.1) (λx=>((qw7 x.1 x.2.1).1,(qw7 x.1 x.2.1).2,()))
def yk6 (a:Ans):Nat->Option Inv
 | 0=>some (Inv.of [8,20] 2 (λk:Nat=>[(8,.own 1),(20,.lit (.int .i64 k))]) (λk=>[.box 110 (y2o a.1.1 a.1.2 a.2.1 (.dat qq7 a.2.2)),.vec 53 q25 ((a.2.2.take k).map (spF a.1.1))]) (λk=>k<=a.2.2.length) (λk=>a.2.2.length-k))
 | _=>none
theorem w80:Meets Tryz.prog 75 y0l:=by
 refine mts (SpecsOk.cons w8z (SpecsOk.cons xr6 (SpecsOk.nil _))) Tryz.func75 (λx=>yk6 (qu0 x.1 x.2.1).1) ?_
 rintro⟨m,y,⟨⟩⟩ h
 revert m y
 intro(m:List (List Int)) (y:List Int) (h:x3c m y)
 refine vcs (let Q0:=qu0 m y; let Q1:=spF Q0.1.1.1; w8y m y/\∃(v0:Unit),∃(v1:Nat),Nat.le v1 Q0.1.2.2.length/\((True/\(0:Int)=(↑v1:Int)/\True)/\(Q0.1.1.1=Q0.1.1.1/\Q0.1.1.2=Q0.1.1.2/\Q0.1.2.1.1=Q0.1.2.1.1/\Q0.1.2.1.2=Q0.1.2.1.2/\Q0.1.2.2=Q0.1.2.2/\True)/\List.map Q1 (List.take v1 Q0.1.2.2)=[]/\True)/\∀(v2:Nat),Nat.le v2 Q0.1.2.2.length->(decide ((↑v2:Int)<(↑Q0.1.2.2.length:Int))=true->((0:Int)<=(↑v2:Int)/\(↑v2:Int)<(↑Q0.1.2.2.length:Int))/\w5v Q0.1.1.1 (nF Q0.1.2.2 v2)/\((0:Nat)<(0:Nat)+(1:Nat)/\Nat.le ((List.map Q1 (List.take v2 Q0.1.2.2)).length+((0:Nat)+(1:Nat))) (1000000:Nat))/\fits .i64 ((↑v2:Int)+(1:Int))/\∃(v5:Nat),Nat.le v5 Q0.1.2.2.length/\Q0.1.2.2.length-v5<Q0.1.2.2.length-v2/\(True/\(↑v2:Int)+(1:Int)=(↑v5:Int)/\True)/\(Q0.1.1.1=Q0.1.1.1/\Q0.1.1.2=Q0.1.1.2/\Q0.1.2.1.1=Q0.1.2.1.1/\Q0.1.2.1.2=Q0.1.2.1.2/\Q0.1.2.2=Q0.1.2.2/\True)/\List.map Q1 (List.take v2 Q0.1.2.2)++[spF Q0.1.1.1 (nF Q0.1.2.2 v2)]=List.map Q1 (List.take v5 Q0.1.2.2)/\True)/\(decide ((↑v2:Int)<(↑Q0.1.2.2.length:Int))=false->List.map Q1 (List.take v2 Q0.1.2.2)=(qw7 m y).1/\Q0.2=(qw7 m y).2/\True)) ?_
 have hl:=xs3 h.ask
 have hs:=h.spr
 refine⟨h.ask,?_⟩
 unfold qw7
 generalize qu0 m y=R at *
 obtain⟨⟨⟨m',y'⟩,q,C⟩,e⟩:=R
 dsimp only at *
 refine⟨(),0,zae _,⟨rfl,rfl⟩,λk hk=>⟨λhlt=>⟨hlt,hs _ (wi5 hlt),by grind,qa6,k+1,hlt,ow,by rfl,?_⟩,λhge=>?_⟩⟩
 ·grind [List.take_add_one,List.getElem?_eq_getElem,xi5]
 grind
def xs4 (m:List (List Int)) (x:List Int):Bool × Int:=
 if q0t m x≠0 then(false,q0t m x) else if wv6 (qd3 m x)=true then(false,10) else if(qw7 m (qd3 m x)).2≠0\/(qw7 m (qd3 m x)).1.length≠1 then(false,(qw7 m (qd3 m x)).2) else(x9i (qw7 m (qd3 m x)).1 x,0)
structure ym6 (m:List (List Int)) (x:List Int):Prop where
 len:x.length<=1000
 crd:q0t m x=0->wv6 (qd3 m x)=false->x3c m (qd3 m x)/\((qw7 m (qd3 m x)).2=0->(qw7 m (qd3 m x)).1.length=1->(w8o (qw7 m (qd3 m x)).1).length<=x.length)
def y0m (l:List (Int × Int)) (x:List Int):Nat->Option Inv
 | 0=>some (Inv.of [41] 0 (λk:Nat=>[(41,.lit (.int .i64 k))]) (λ_=>[]) (λk=>x2o l x k) (λk=>l.length-k))
 | _=>none
abbrev y5t:qa8:=qd9 true none [qf9,qe8] [.bool,qc0] (λx=>ym6 x.1 x.2.1) (λx=>((xs4 x.1 x.2.1).1,(xs4 x.1 x.2.1).2,()))
theorem xs5:Meets Tryz.prog 29 y5t:=by
 refine mts (SpecsOk.cons q2s (SpecsOk.cons q8q (SpecsOk.cons (qy8 (fs:=[(116,x0o)]) (SpecsOk.cons q5i (SpecsOk.nil _))) (SpecsOk.cons w80 (SpecsOk.nil _))))) Tryz.func29 (λx=>y0m (w8o (qw7 x.1 (qd3 x.1 x.2.1)).1) x.2.1) ?_
 rintro⟨m,x,⟨⟩⟩ h
 revert m x
 intro(m:List (List Int)) (x:List Int) (h:ym6 m x)
 refine vcs (let Q0:=qw7 m (qn2 m x).1; let Q1:=w8o (qw7 m (qd3 m x)).1; let Q2:=xs4 m x; let Q3:=qn2 m x; x.length<=(1000000:Nat)/\((Q3.2 != (0:Int))=true->false=Q2.1/\Q3.2=Q2.2/\True)/\((Q3.2 != (0:Int))=false->True/\∃(v1:qa3 [Ty.int .i64]->Prop),∃(v2:qa3 [Ty.int .i64]->Bool),(∀(v3:Int × qa3._f [] PUnit.unit),v1 v3->((0:PTy.den (PTy.cap qc0))<=(1000000:Int)/\(1000000:Int)<=BIG)/\(!inB v3.1 ((0:Int)-(1000000:Int)) (1000000:Int))=v2 v3)/\(Q3.1.length<=(1000000:Nat)/\∀(v3:Nat),v3<Q3.1.length->v1 (nI Q3.1 v3,()))/\((List.any Q3.1 λ(v4:Int)=>v2 (v4,()))=true->false=Q2.1/\(10:Int)=Q2.2/\True)/\((List.any Q3.1 λ(v4:Int)=>v2 (v4,()))=false->x3c m Q3.1/\((Q0.2 != (0:Int))=true->false=Q2.1/\Q0.2=Q2.2/\True)/\((Q0.2 != (0:Int))=false->(((↑Q0.1.length:Int) != (1:Int))=true->false=Q2.1/\Q0.2=Q2.2/\True)/\(((↑Q0.1.length:Int) != (1:Int))=false->((0:Int)<=(0:Int)/\(0:Int)<(↑Q0.1.length:Int))/\∃(v6:Unit),∃(v7:Nat),x2o Q1 x v7/\(((0:Int)=(↑v7:Int)/\True)/\True)/\∀(v8:Nat),x2o Q1 x v8->(decide ((↑v8:Int)<(↑(qf0 q25 Q0.1 (0:Nat)).length:Int))=true->((0:Int)<=(↑v8:Int)/\(↑v8:Int)<(↑(qf0 q25 Q0.1 (0:Nat)).length:Int))/\((0:Int)<=(↑v8:Int)/\(↑v8:Int)<(↑x.length:Int))/\((!((nR (qf0 q25 Q0.1 (0:Nat)) v8).1==nI x v8 && (nR (qf0 q25 Q0.1 (0:Nat)) v8).2==(1:Int)))=true->false=Q2.1/\(0:Int)=Q2.2/\True)/\((!((nR (qf0 q25 Q0.1 (0:Nat)) v8).1==nI x v8 && (nR (qf0 q25 Q0.1 (0:Nat)) v8).2==(1:Int)))=false->fits .i64 ((↑v8:Int)+(1:Int))/\∃(v12:Nat),x2o Q1 x v12/\Q1.length-v12<Q1.length-v8/\((↑v8:Int)+(1:Int)=(↑v12:Int)/\True)/\True))/\(decide ((↑v8:Int)<(↑(qf0 q25 Q0.1 (0:Nat)).length:Int))=false->true=Q2.1/\(0:Int)=Q2.2/\True)))))) ?_
 have hlx:=h.len
 have hlen:(qn2 m x).1.length<=1000000:=by
  unfold qn2
  split
  ·rename_i he
   have:=(Shw.of he).msk.rows6
   grind [qd3,List.length_map,List.length_range]
  simp
 have hR:xs4 m x=if q0t m x≠0 then(false,q0t m x) else if wv6 (qd3 m x)=true then(false,10) else if(qw7 m (qd3 m x)).2≠0\/(qw7 m (qd3 m x)).1.length≠1 then(false,(qw7 m (qd3 m x)).2) else(x9i (qw7 m (qd3 m x)).1 x,0):=rfl
 rw[wx1]
 refine⟨ow,λhe=>by grind,λhe=>⟨λ_=>True,λv=>!inB v.1 (0-1000000) 1000000,λv _=>⟨by grind [BIG],by simp⟩,⟨hlen,λ_ _=>trivial⟩,?_⟩⟩
 have hc:=h.crd he
 rw[wx2 he,hR,zaj (λq=>q he)]
 clear hR hlen h
 generalize qd3 m x=y at *
 refine⟨λho=>by have ho:wv6 y=true:=ho; grind,λho=>?_⟩
 obtain⟨hp,hx⟩:=hc ho
 have ho2:¬wv6 y=true:=by grind [wv6]
 rw[zaj ho2]
 refine⟨hp,?_⟩
 clear hc hp ho ho2
 generalize qw7 m y=R at *
 obtain⟨l,e⟩:=R
 dsimp only at *
 refine⟨λhe=>by grind,λhe=>⟨λhl=>by grind,λhl=>?_⟩⟩
 have h1:l.length=1:=ow
 have hxl:=hx he h1
 rw[zaj ow]
 have hB:∀k,k<(w8o l).length->(((nR (w8o l) k).1==nI x k) && ((nR (w8o l) k).2==1))=decide (nR (w8o l) k=(nI x k,1)):=λk _=>by
  grind
 refine⟨ow,(),0,⟨zae _,ow⟩,rfl,λk hk=>⟨λhlt=>?_,λhge=>?_⟩⟩
 ·have hlt:k<(w8o l).length:=hlt
  refine⟨hlt,ow,λhf=>⟨?_,rfl⟩,λht=>⟨qa6,k+1,⟨hlt,λj hj=>?_⟩,ow,by rfl⟩⟩
  ·have hf:=(hB k hlt).symm.trans hf
   symm
   exact List.all_eq_false.2 ⟨k,za4.2 hlt,by grind⟩
  ·by_cases q:j=k
   ·subst q; exact za3 ((hB j hlt).symm.trans ht)
   ·exact hk.ok j ow
 ·have hge:¬k<(w8o l).length:=hge
  refine⟨?_,rfl⟩
  symm
  exact zan.2 λj hj=>zb8 (hk.ok j (by grind))
abbrev y2r:qa8:=qd9 true none [qc0] [.bool] (λ_=>True) (λx=>(x.1 != 0,()))
theorem xs6:Meets Tryz.prog 87 y2r:=by
 refine mt0 (SpecsOk.nil _) Tryz.func87 ?_
 rintro⟨n,⟨⟩⟩ -
 rfl
theorem x8i (h:List Int):w0k h h.length=!(h.any λv=>v != 0):=by
 have key:∀k,k<=h.length->w0k h k=!((h.take k).any λv=>v != 0):=λk=>by
  induction k with
  | zero=>exact λ_=>rfl
  | succ k ih=>
   grind [w0k,w1y,Bool.not_or,bne]
 grind
def y0n (m:List (List Int)) (h:List Int):Nat->Option Inv
 | 0=>some (Inv.of [29] 0 (λk:Nat=>[(29,.lit (.int .i64 k))]) (λ_=>[]) (λk=>x2p m h k) (λk=>m.length-k))
 | 1=>some (Eng.Inv.mk Nat Nat [7,35] 0 (λk i=>[(7,.lit (.int .i64 (qs0 (nL m k) h i))),(35,.lit (.int .i64 i))]) (λ_ _=>[]) (λk i=>i<=(nL m k).length) (λk i=>(nL m k).length-i))
 | _=>none
abbrev y5u:qa8:=qd9 true none [qf9,qe8] [.bool] (λx=>x.2.1.length<=1000) (λx=>(w2y x.1 x.2.1,()))
theorem xs7:Meets Tryz.prog 38 y5u:=by
 refine mts (SpecsOk.cons qs7 (SpecsOk.cons q8q (SpecsOk.cons (qy8 (fs:=[(116,x0o),(87,y2r)]) (SpecsOk.cons q5i (SpecsOk.cons xs6 (SpecsOk.nil _)))) (SpecsOk.nil _)))) Tryz.func38 (λx=>y0n x.1 x.2.1) ?_
 rintro⟨m,h,⟨⟩⟩ hh
 revert m h
 intro(m:List (List Int)) (h:List Int) (hh:h.length<=1000)
 refine vcs (True/\((!qb7 m)=true->false=w2y m h)/\((!qb7 m)=false->((0:Int)<=(0:Int)/\(0:Int)<(↑m.length:Int))/\(((↑h.length:Int) != (↑(nL m (0:Nat)).length:Int))=true->false=w2y m h)/\(((↑h.length:Int) != (↑(nL m (0:Nat)).length:Int))=false->True/\∃(v2:qa3 [Ty.int .i64]->Prop),∃(v3:qa3 [Ty.int .i64]->Bool),(∀(v4:Int × qa3._f [] PUnit.unit),v2 v4->((0:PTy.den (PTy.cap qc0))<=(1000000:Int)/\(1000000:Int)<=BIG)/\(!inB v4.1 ((0:Int)-(1000000:Int)) (1000000:Int))=v3 v4)/\(h.length<=(1000000:Nat)/\∀(v4:Nat),v4<h.length->v2 (nI h v4,()))/\((List.any h λ(v5:Int)=>v3 (v5,()))=true->false=w2y m h)/\((List.any h λ(v5:Int)=>v3 (v5,()))=false->∃(v5:Unit),∃(v6:Nat),x2p m h v6/\(((0:Int)=(↑v6:Int)/\True)/\True)/\∀(v7:Nat),x2p m h v7->(decide ((↑v7:Int)<(↑m.length:Int))=true->((0:Int)<=(↑v7:Int)/\(↑v7:Int)<(↑m.length:Int))/\∃(v10:Nat),∃(v11:Nat),Nat.le v11 (nL m v10).length/\(((0:Int)=qs0 (nL m v10) h v11/\(0:Int)=(↑v11:Int)/\True)/\True)/\∀(v12:Nat),Nat.le v12 (nL m v10).length->(decide ((↑v12:Int)<(↑(nL m v7).length:Int))=true->((0:Int)<=(↑v12:Int)/\(↑v12:Int)<(↑(nL m v7).length:Int))/\((0:Int)<=(↑v12:Int)/\(↑v12:Int)<(↑h.length:Int))/\fits .i64 (nI (nL m v7) v12*nI h v12)/\fits .i64 (qs0 (nL m v10) h v12+nI (nL m v7) v12*nI h v12)/\fits .i64 ((↑v12:Int)+(1:Int))/\∃(v15:Nat),Nat.le v15 (nL m v10).length/\(nL m v10).length-v15<(nL m v10).length-v12/\(qs0 (nL m v10) h v12+nI (nL m v7) v12*nI h v12=qs0 (nL m v10) h v15/\(↑v12:Int)+(1:Int)=(↑v15:Int)/\True)/\True)/\(decide ((↑v12:Int)<(↑(nL m v7).length:Int))=false->((qs0 (nL m v10) h v12 != (0:Int))=true->false=w2y m h)/\((qs0 (nL m v10) h v12 != (0:Int))=false->fits .i64 ((↑v7:Int)+(1:Int))/\∃(v16:Nat),x2p m h v16/\m.length-v16<m.length-v7/\((↑v7:Int)+(1:Int)=(↑v16:Int)/\True)/\True)))/\(decide ((↑v7:Int)<(↑m.length:Int))=false->∃(v10:qa3 [Ty.int .i64]->Prop),∃(v11:qa3 [Ty.int .i64]->Bool),(∀(v12:Int × qa3._f [] PUnit.unit),v10 v12->True/\(v12.1 != (0:Ty.den qc0))=v11 v12)/\(h.length<=(1000000:Nat)/\∀(v12:Nat),v12<h.length->v10 (nI h v12,()))/\(List.any h λ(v12:Int)=>v11 (v12,()))=w2y m h))))) ?_
 refine⟨λhv=>by grind [w2y],λhv=>?_⟩
 have hM:=Mk.of hv
 have hm1:=hM.rows1
 have hm6:=hM.rows6
 have hm10:=hM.pix10
 refine⟨ow,λhn=>?_,λhn=>⟨λ_=>True,λv=>!inB v.1 (0-1000000) 1000000,λv _=>⟨by grind [BIG],by simp⟩,⟨ow,λ_ _=>trivial⟩,λho=>?_,λho=>⟨(),0,⟨zae _,λi hi=>by omega⟩,rfl,λk hk=>⟨λhlt=>?_,λhge=>?_⟩⟩⟩⟩
 ·grind [nL,w2y]
 ·grind [wv6,w2y]
 ·have ho:wv6 h=false:=ho
  have hn:h.length=(nL m 0).length:=ow
  have he:=hM.each k hlt
  have hD:w70 (nL m k) h:=⟨ow,ow,λi hi=>hM.small k hlt i ow,λi hi=>by
   unfold wv6 at ho
   rw[zb1] at ho
   have:=ho (nI h i) (by grind [qg5,List.getElem_mem])
   simp_all [Bool.not_eq_true,Bool.not_eq_false',qh5,qd8]⟩
  refine⟨hlt,k,0,zae _,⟨rfl,rfl⟩,λi hi=>⟨λhil=>?_,λhig=>⟨λhd=>?_,λhd=>⟨qa6,k+1,⟨hlt,λj hj=>?_⟩,ow,by rfl⟩⟩⟩⟩
  ·have h1:=wn1 hD i hi
   have h2:=q9a (hD.sa i hil) (hD.sb i hil)
   unfold qd8 at h1 h2
   exact⟨hil,ow,qa6,qa6,qa6,i+1,hil,ow,rfl,by rfl⟩
  ·obtain rfl:i=(nL m k).length:=ow
   grind [xp9,List.all_eq_false,w2y]
  ·obtain rfl:i=(nL m k).length:=ow
   by_cases e:j=k
   ·grind
   ·exact hk.ok j ow
 ·have ho:wv6 h=false:=ho
  obtain rfl:k=m.length:=by have:=hk.le; omega
  have hn:h.length=(nL m 0).length:=ow
  have hd:xp9 m h=true:=by
   unfold xp9
   rw[zan]
   exact λi hi=>zb8 (hk.ok i (za4.1 hi))
  refine⟨λ_=>True,λv=>v.1 != 0,λv _=>rfl,⟨ow,λ_ _=>trivial⟩,?_⟩
  unfold w2y
  rw[hv,ho,hd,zb8 hn,x8i]
  simp
theorem xs8 {α β:Type} (f:α->β) {L S:List α} (hL:(L.map f).Nodup) (hS:S.Nodup) (h:∀x∈S,x∈L):(S.map f).Nodup:=by
 have hinj:∀a∈L,∀b∈L,f a=f b->a=b:=λa ha b hb e=>by
  obtain⟨i,hi,rfl⟩:=za6.1 ha
  obtain⟨j,hj,rfl⟩:=za6.1 hb
  grind [List.pairwise_iff_getElem,Nat.lt_trichotomy,absurd]
 rw[zdv,List.pairwise_map]
 exact(zdv.1 hS).imp_of_mem λha hb hne e=>hne (hinj _ (h _ ha) _ (h _ hb) e)
theorem x8j {m:List (List Int)} {x:List Int} (hF:xv6 m) (he:q0t m x=0):ym6 m x:=by
 have hS:=Shw.of he
 have hn:=hF.n7 hS.val
 have hM:=hS.msk
 have h10:=hM.pix10
 have hP:w8y m (qd3 m x):=⟨λ_=>x1i hF.fit hM hn dc dc,λ_ f hf=>yj9 hf,λ_=>by
  obtain⟨g1,g2⟩:=w5u (m:=m) (y:=qd3 m x) hn
  exact xs8 (·.1) (wi4 (qd3 m x) 10 hn) g2 λf hf=>(g1.least f hf).1⟩
 have hmem:∀f∈(qu0 m (qd3 m x)).1.2.2,(qu0 m (qd3 m x)).1.1.1=m/\f∈qe0 m (qd3 m x) 10:=λf hf=>by
  unfold qu0 at hf ⊢
  split at hf
  ·cases hf
  ·rename_i h0
   rw[zaj h0]
   split at hf
   ·cases hf
   ·rename_i h1
    rw[zaj h1]
    exact⟨rfl,(qz8 _ _ (zac _)).2 f ((qo5 _).mem_iff.1 hf)⟩
 refine⟨by have:=hS.len; omega,λ_ _=>⟨⟨hP,λf hf=>?_⟩,λ_ h1=>?_⟩⟩
 ·obtain⟨e1,e2⟩:=hmem f hf
  rw[e1]
  obtain⟨_,_,_,pix,k1,rfl⟩:=xq9 e2
  have hI:=qu3 k1
  have hN:=(Asked.of hI.chk).nam
  have:=hM.rows1
  have:=hM.pix1
  have:=hN.len
  rw[show(qg9 m (qd3 m x) pix).1=(pix,(qg9 m (qd3 m x) pix).1.2) from Prod.ext hI.fst rfl]
  exact⟨ow,ow,ow,by dsimp only; rw[hI.len]; simp,by grind,hN.at_⟩
 ·have h2:∃f,(qu0 m (qd3 m x)).1.2.2=[f]:=by
   have:((qu0 m (qd3 m x)).1.2.2.map (spF (qu0 m (qd3 m x)).1.1.1)).length=1:=h1
   grind [List.length_map,List.length_eq_one_iff]
  obtain⟨f,hf⟩:=h2
  have e1:=(hmem f (by grind)).1
  show(w8o ((qu0 m (qd3 m x)).1.2.2.map (spF (qu0 m (qd3 m x)).1.1.1))).length<=_
  rw[hf,e1]
  show(spF m f).length<=_
  unfold spF
  rw[q2w,hS.len]; simp
theorem xs9 {m:List (List Int)} {x:List Int} (hF:xv6 m) (he:q0t m x=0) (ha:¬agI m x<0):(xs4 m x).2≠0\/(xs4 m x).1=false:=by
 have hS:=Shw.of he
 have hn:=hF.n7 hS.val
 have hM:=hS.msk
 unfold xs4
 rw[zaj (λq=>q he)]
 split
 ·simp
 rename_i ho
 have hr:qw0 m (qd3 m x) []=0:=by
  unfold qw0
  rw[hS.val,zaj dc,zaj (by simp[qd3]),zaj ho]
  unfold xv1
  rw[hS.val,zaj dc]
  rfl
 split
 ·simp
 rename_i hc
 refine .inr ?_
 have hc1:(qw7 m (qd3 m x)).1.length=1:=zaf λq=>hc (.inr q)
 obtain⟨g1,g2⟩:=w5u (m:=m) (y:=qd3 m x) hn
 have hne:w0l (qe0 m (qd3 m x) 10)≠[wp9 m x]:=λq=>ha ((x8c m x).2 ((w8p hS.val hn hS.len hr g1 g2).1 q))
 have hA:qu0 m (qd3 m x)=if w0l (qe0 m (qd3 m x) 10)=[] then(yk3,10) else(x3b m (qd3 m x),0):=by simp_all [qu0,if_neg]
 by_cases h0:w0l (qe0 m (qd3 m x) 10)=[]
 ·rw[zap h0] at hA
  exact absurd (.inl (by show(qu0 m (qd3 m x)).2≠0; grind)) hc
 rw[zaj h0] at hA
 have hK:(qw7 m (qd3 m x)).1=(qr1 (w0l (qe0 m (qd3 m x) 10))).map (spF m):=by unfold qw7; rw[hA]; rfl
 rw[hK] at hc1 ⊢
 rw[zay,(qo5 _).length_eq] at hc1
 obtain⟨f,hf⟩:=zcr.1 hc1
 have hs:qr1 [f]=[f]:=by
  grind [qo5,List.perm_singleton]
 rw[hf] at g1 hne ⊢
 rw[hs]
 have hm:f∈qe0 m (qd3 m x) 10:=(g1.least f (zar.2 rfl)).1
 cases q:x9i [spF m f] x with
 | false=>exact q
 | true=>exact absurd (by rw[(x2z hM hS.len hm).1 q]) hne
open Go Go.RowKit Eng
def y0o (mats:List Nat) (specs:List (Nat × qa8)) (muts:List (Nat × MSpec)):Ctx:={ specs:=specs,tys:=tys,wr:=[],mats:=mats,muts:=muts }
theorem y0p (mats:List Nat) {specs:List (Nat × qa8)} {muts:List (Nat × MSpec)} (h:SpecsOk Tryz.prog specs) (hm:MutsOk muts):Sound Tryz.prog (y0o mats specs muts):=SpecsOk.sound h q03 kr (hmu:=hm)
abbrev qr2:Ty:=.prod (.int .i64) (.prod (.int .i64) (.int .i64))
abbrev Flt:=Int × Int × Int
theorem wp5:Meets Tryz.prog 247 wm4:=by
 refine mt0 (SpecsOk.nil _) Tryz.func247 ?_
 rintro⟨n,lo,hi,⟨⟩⟩ -
 revert n lo hi
 intro(n:Int) (lo:Int) (hi:Int)
 refine vcs ((decide (lo<=n)=true->decide (n<=hi)=inB n lo hi)/\(decide (lo<=n)=false->false=inB n lo hi)) ?_
 grind [inB]
def w81 (m:List (List Int)) (f:Flt):Bool:=inB f.2.1 0 ((m.length:Int)-1)
def w82 (m:List (List Int)) (f:Flt):Bool:=inB f.2.2 0 (((nL m 0).length:Int)-1)
def x3d (m:List (List Int)) (i j:Int):Int:=nI (nL m i.toNat) j.toNat
def fvB (m:List (List Int)) (f:Flt):Bool:=
 if f.1=0 then decide (f.2.1=0) && decide (f.2.2=0) else if f.1=1 then w81 m f && decide (f.2.2=0) else if f.1=2 then w82 m f && decide (f.2.1=0)
 else if f.1=3 then w81 m f && w82 m f && decide (x3d m f.2.1 f.2.2≠0) else false
abbrev sFv:qa8:=qd9 true none [qf9,qr2] [.bool] (λx=>qb7 x.1=true) (λx=>(fvB x.1 x.2.1,()))
theorem wp6 (a b:Int):(a==b)=decide (a=b):=rfl
theorem x3e:Meets Tryz.prog 184 sFv:=by
 refine mt0 (SpecsOk.cons wp5 (SpecsOk.nil _)) Tryz.func184 ?_
 rintro⟨m,⟨kd,r,p⟩,⟨⟩⟩ hv
 revert m kd r p
 intro(m:List (List Int)) (kd:Int) (r:Int) (p:Int) (hv:qb7 m=true)
 refine vcs (fits .i64 ((↑m.length:Int)-(1:Int))/\True/\((0:Int)<=(0:Int)/\(0:Int)<(↑m.length:Int))/\fits .i64 ((↑(nL m (0:Nat)).length:Int)-(1:Int))/\True/\((kd==(0:Int))=true->(kd==(0:Int) && (r==(0:Int) && p==(0:Int)))=fvB m (kd,r,p))/\((kd==(0:Int))=false->((kd==(1:Int))=true->(inB r (0:Int) ((↑m.length:Int)-(1:Int))=true->(p==(0:Int))=fvB m (kd,r,p))/\(inB r (0:Int) ((↑m.length:Int)-(1:Int))=false->false=fvB m (kd,r,p)))/\((kd==(1:Int))=false->((kd==(2:Int))=true->(inB p (0:Int) ((↑(nL m (0:Nat)).length:Int)-(1:Int))=true->(r==(0:Int))=fvB m (kd,r,p))/\(inB p (0:Int) ((↑(nL m (0:Nat)).length:Int)-(1:Int))=false->false=fvB m (kd,r,p)))/\((kd==(2:Int))=false->((kd==(3:Int))=true->(inB r (0:Int) ((↑m.length:Int)-(1:Int))=true->(inB p (0:Int) ((↑(nL m (0:Nat)).length:Int)-(1:Int))=true->((0:Int)<=r/\r<(↑m.length:Int))/\((0:Int)<=p/\p<(↑(nL m r.toNat).length:Int))/\(nI (nL m r.toNat) p.toNat != (0:Int))=fvB m (kd,r,p))/\(inB p (0:Int) ((↑(nL m (0:Nat)).length:Int)-(1:Int))=false->false=fvB m (kd,r,p)))/\(inB r (0:Int) ((↑m.length:Int)-(1:Int))=false->false=fvB m (kd,r,p)))/\((kd==(3:Int))=false->false=fvB m (kd,r,p)))))) ?_
 have hM:=Mk.of hv
 have m1:=hM.rows1
 have m6:=hM.rows6
 have p1:=hM.pix1
 have p10:=hM.pix10
 refine⟨qa6,ow,qa6,λh0=>?_,λh0=>⟨λh1=>?_,λh1=>⟨λh2=>?_,λh2=>⟨λh3=>?_,λh3=>?_⟩⟩⟩⟩
 ·simp_all [fvB,wp6]
 ·simp_all [fvB,w81,wp6]
 ·simp_all [fvB,w82,wp6]
 ·subst h3
  refine⟨λc=>⟨λd=>?_,λd=>by simp[fvB,w82,d]⟩,λc=>by simp[fvB,w81,c]⟩
  have c1:=qh5.1 c
  have d1:=qh5.1 d
  refine⟨ow,⟨d1.1,by rw[hM.each _ ow]; omega⟩,?_⟩
  simp[fvB,w81,w82,c,d,x3d,wp6]; grind
 grind [fvB]
def xt0 (l:List Int):List Int:=List.replicate l.length 0
def qm8 (rows:List (List Int)) (p:Nat) (k:Nat):List (List Int):=(List.range rows.length).map λi=>if i<k then(nL rows i).set p 0 else nL rows i
def qt2 (rows:List (List Int)) (f:Flt):List (List Int):=
 if f.1=1 then rows.set f.2.1.toNat (xt0 (nL rows f.2.1.toNat)) else if f.1=2 then qm8 rows f.2.2.toNat rows.length
 else if f.1=3 then rows.set f.2.1.toNat ((nL rows f.2.1.toNat).set f.2.2.toNat (-(x3d rows f.2.1 f.2.2))) else rows
structure DeedPre (rows:List (List Int)) (f:Flt) (k:Int):Prop where
 kind:f.1=k
 valid:qb7 rows=true
 ok:fvB rows f=true
theorem DeedPre.row {rows:List (List Int)} {kd r p k:Int} (h:DeedPre rows (kd,r,p) k) (hk:kd=1\/kd=3):0<=r/\r<=(rows.length:Int)-1:=by
 have h1:=h.ok
 unfold fvB w81 at h1
 rcases hk with rfl | rfl <;> simp at h1
 all_goals grind [qh5]
theorem DeedPre.pix {rows:List (List Int)} {kd r p k:Int} (h:DeedPre rows (kd,r,p) k) (hk:kd=2\/kd=3):0<=p/\p<=((nL rows 0).length:Int)-1:=by
 have h1:=h.ok
 unfold fvB w82 at h1
 rcases hk with rfl | rfl <;> simp at h1
 all_goals grind [qh5]
abbrev yk7:MSpec:=q5h (q1r [qr2]) true false 24 3 (.int .i64) (λrows x=>DeedPre rows x.1 0) (λ_ _=>.tup .nil) (λrows x=>qt2 rows x.1)
abbrev yk8:MSpec:=q5h (q1r [qr2]) true false 24 3 (.int .i64) (λrows x=>DeedPre rows x.1 1) (λ_ _=>.tup .nil) (λrows x=>qt2 rows x.1)
abbrev yk9:MSpec:=q5h (q1r [qr2]) true false 24 3 (.int .i64) (λrows x=>DeedPre rows x.1 2) (λ_ _=>.tup .nil) (λrows x=>qt2 rows x.1)
abbrev yl0:MSpec:=q5h (q1r [qr2]) true false 24 3 (.int .i64) (λrows x=>DeedPre rows x.1 3) (λ_ _=>.tup .nil) (λrows x=>qt2 rows x.1)
theorem w21:qo7 Tryz.prog 249 yk7:=by
 refine q1t (snd (SpecsOk.nil _)) Tryz.func249 rfl rfl (qm4 [qr2]) (λT rows x=>λ_=>none) (λ_ _ _=>by kernel_rfl) dc ?_ rfl
 rintro T rows ⟨⟨kd,r,p⟩,⟨⟩⟩ h -
 revert rows kd r p
 intro(rows:List (List Int)) (kd:Int) (r:Int) (p:Int) (h:DeedPre rows (kd,r,p) 0)
 refine vcs (rows=qt2 rows (kd,r,p)/\T=T/\True/\True) ?_
 obtain rfl:kd=0:=h.kind
 rfl
theorem w22:qo7 Tryz.prog 250 yk8:=by
 refine q1t (snd (SpecsOk.nil _)) Tryz.func250 rfl rfl (qm4 [qr2]) (λT rows x=>λ_=>none) (λ_ _ _=>by kernel_rfl) dc ?_ rfl
 rintro T rows ⟨⟨kd,r,p⟩,⟨⟩⟩ h -
 revert rows kd r p
 intro(rows:List (List Int)) (kd:Int) (r:Int) (p:Int) (h:DeedPre rows (kd,r,p) 1)
 refine vcs (let Q0:=qe9 (qm7 true) r.toNat; ((0:Int)<=r/\r<(↑(qe3 rows.length (qm7 true)):Int))/\r.toNat<qe3 rows.length (qm7 true)/\List.set rows Q0 (List.replicate (nL rows Q0).length (0:Int))=qt2 rows (kd,r,p)/\T=T/\True/\True) ?_
 obtain rfl:kd=1:=h.kind
 have hr:0<=r/\r<=(rows.length:Int)-1:=h.row (.inl rfl)
 grind [qm7,qe3,qe9,qt2,xt0]
abbrev x47 (f:Flt):AObj:=.box 170 (.cons (.lit (.int .i64 f.1)) (.cons (.lit (.int .i64 f.2.1)) (.cons (.lit (.int .i64 f.2.2)) .nil)))
def yl1 (T:q6v) (rows:List (List Int)) (f:Flt):Nat->Option Inv
 | 0=>some (Inv.of [6,8] 2 (λk:Nat=>[(6,.msl 0 .none),(8,.lit (.int .i64 k))]) (λk=>[.mat 24 3 (.int .i64) (qm8 rows f.2.2.toNat k) .none (some T),x47 f]) (λk=>k<=rows.length) (λk=>rows.length-k))
 | _=>none
theorem q7r (rows:List (List Int)) (p k:Nat):(qm8 rows p k).length=rows.length:=by simp[qm8]
theorem xt1 {rows:List (List Int)} {p k i:Nat} (h:i<rows.length):nL (qm8 rows p k) i=if i<k then(nL rows i).set p 0 else nL rows i:=by
 grind [qp2,q7r,qm8]
theorem xt2 (rows:List (List Int)) (p:Nat):qm8 rows p 0=rows:=by
 grind [List.ext_getElem,q7r,qm8,qp2]
theorem x3f {rows:List (List Int)} {p k:Nat} (hk:k<rows.length):(qm8 rows p k).set k ((nL (qm8 rows p k) k).set p 0)=qm8 rows p (k+1):=by
 rw[xt1 hk,zaj (zbg k)]
 apply zbx (by grind [List.length_set,q7r])
 intro i h1 h2
 rw[zc2]
 simp only[qm8,List.getElem_map,List.getElem_range]
 grind
theorem w23:qo7 Tryz.prog 251 yk9:=by
 refine q1t (snd (SpecsOk.nil _)) Tryz.func251 rfl rfl (qm4 [qr2]) (λT rows x=>yl1 T rows x.1) (λ_ _ _=>by kernel_rfl) dc ?_ rfl
 rintro T rows ⟨⟨kd,r,p⟩,⟨⟩⟩ h -
 revert rows kd r p
 intro(rows:List (List Int)) (kd:Int) (r:Int) (p:Int) (h:DeedPre rows (kd,r,p) 2)
 refine vcs (let Q0:=qe3 rows.length (qm7 true); ∃(v0:Unit),∃(v1:Nat),Nat.le v1 rows.length/\((True/\(0:Int)=(↑v1:Int)/\True)/\(rows=qm8 rows p.toNat v1/\True/\T=T)/\(kd=kd/\r=r/\p=p/\True)/\True)/\∀(v2:Nat),Nat.le v2 rows.length->(decide ((↑v2:Int)<(↑Q0:Int))=true->((0:Int)<=(↑v2:Int)/\(↑v2:Int)<(↑(qe3 (qm8 rows p.toNat v2).length none):Int))/\v2<qe3 (qm8 rows p.toNat v2).length none/\((0:Int)<=p/\p<(↑(nL (qm8 rows p.toNat v2) (qe9 none v2)).length:Int))/\p.toNat<(nL (qm8 rows p.toNat v2) (qe9 none v2)).length/\fits .i64 ((↑v2:Int)+(1:Int))/\∃(v5:Nat),Nat.le v5 rows.length/\rows.length-v5<rows.length-v2/\(True/\(↑v2:Int)+(1:Int)=(↑v5:Int)/\True)/\(List.set (qm8 rows p.toNat v2) (qe9 none v2) (List.set (nL (qm8 rows p.toNat v2) (qe9 none v2)) p.toNat (0:Int))=qm8 rows p.toNat v5/\True/\T=T)/\(kd=kd/\r=r/\p=p/\True)/\True)/\(decide ((↑v2:Int)<(↑Q0:Int))=false->qm8 rows p.toNat v2=qt2 rows (kd,r,p)/\T=T/\True/\True)) ?_
 obtain rfl:kd=2:=h.kind
 have hM:=Mk.of h.valid
 have m6:=hM.rows6
 have hp:0<=p/\p<=((nL rows 0).length:Int)-1:=h.pix (.inl rfl)
 simp only[qm7,qe3,qe9,q7r]
 refine⟨(),0,zae _,⟨rfl,(xt2 _ _).symm⟩,λk hk=>⟨λhlt=>?_,λhge=>?_⟩⟩
 ·have hl:=hM.each k hlt
  have e:nL (qm8 rows p.toNat k) k=nL rows k:=by rw[xt1 hlt,zaj (zbg k)]
  grind [qa6,x3f]
 ·obtain rfl:k=rows.length:=ow
  rfl
theorem w24:qo7 Tryz.prog 252 yl0:=by
 refine q1t (snd (SpecsOk.nil _)) Tryz.func252 rfl rfl (qm4 [qr2]) (λT rows x=>λ_=>none) (λ_ _ _=>by kernel_rfl) dc ?_ rfl
 rintro T rows ⟨⟨kd,r,p⟩,⟨⟩⟩ h -
 revert rows kd r p
 intro(rows:List (List Int)) (kd:Int) (r:Int) (p:Int) (h:DeedPre rows (kd,r,p) 3)
 refine vcs (let Q0:=nL rows (qe9 (qm7 true) r.toNat); let Q1:=qm7 true; ((0:Int)<=r/\r<(↑(qe3 rows.length Q1):Int))/\r.toNat<qe3 rows.length Q1/\((0:Int)<=p/\p<(↑Q0.length:Int))/\p.toNat<Q0.length/\fits .i64 (nI Q0 p.toNat*(-1:Int))/\((0:Int)<=p/\p<(↑Q0.length:Int))/\p.toNat<Q0.length/\List.set rows (qe9 Q1 r.toNat) (List.set Q0 p.toNat (nI Q0 p.toNat*(-1:Int)))=qt2 rows (kd,r,p)/\T=T/\True/\True) ?_
 obtain rfl:kd=3:=h.kind
 have hM:=Mk.of h.valid
 have hr:0<=r/\r<=(rows.length:Int)-1:=h.row (.inr rfl)
 have hp:0<=p/\p<=((nL rows 0).length:Int)-1:=h.pix (.inr rfl)
 have hl:=hM.each r.toNat ow
 have hs:=hM.small r.toNat ow p.toNat ow
 simp only[qm7,qe3,qe9]
 grind [nI,nL,qa6,qt2,x3d]
abbrev yl2:qa8:=wu3 false none [] (λ_=>True) (λ_=>.agg (.cons (.clo 249 .nil) (.cons (.clo 250 .nil) (.cons (.clo 251 .nil) (.cons (.clo 252 .nil) .nil)))))
theorem w25:Meets Tryz.prog 187 yl2:=by
 refine q6j (snd (SpecsOk.nil _)) Tryz.func187 rfl rfl (λ_ _=>none) (λ_=>by kernel_rfl) dc ?_
 rintro⟨⟩ -
 refine vcr (True/\True/\True/\True/\True) ?_
 simp
structure xt3 (m:List (List Int)) (f:Flt):Prop where
 valid:qb7 m=true
 ok:fvB m f=true
abbrev y5v:qa8:=q62 (q1r [qf9,qr2]) true (some 24) (some 3) (λx=>xt3 x.1 x.2.1) (λx=>.dat (.list (.int .i64)) (qt2 x.1 x.2.1))
def y0q (m:List (List Int)) (f:Flt):Nat->Option Inv
 | 0=>some (Inv.of [5,10] 2 (λk:Nat=>[(5,.msl 1 .none),(10,.lit (.int .i64 k))]) (λk=>[x47 f,.mat 24 3 (.int .i64) (m.take k) .none .none]) (λk=>k<=m.length) (λk=>m.length-k))
 | _=>none
theorem kd3 {kd:Int} (h0:¬kd=↑0) (h1:¬kd=↑1) (h2:¬kd=↑2) (h:kd=0\/kd=1\/kd=2\/kd=3):kd=↑3:=by
 omega
theorem xt4:Meets Tryz.prog 140 y5v:=by
 refine q6i (y0p [17] (SpecsOk.cons q82 (SpecsOk.cons w25 (SpecsOk.nil _))) (MutsOk.cons w21 (MutsOk.cons w22 (MutsOk.cons w23 (MutsOk.cons w24 MutsOk.nil))))) Tryz.func140 rfl rfl (qm4 _) (λx=>y0q x.1 x.2.1) (λ_=>by kernel_rfl) dc ?_
 rintro⟨m,⟨kd,r,p⟩,⟨⟩⟩ h
 revert m kd r p
 intro(m:List (List Int)) (kd:Int) (r:Int) (p:Int) (h:xt3 m (kd,r,p))
 refine vcs (∃(v0:Unit),∃(v1:Nat),Nat.le v1 m.length/\((True/\(0:Int)=(↑v1:Int)/\True)/\(kd=kd/\r=r/\p=p/\True)/\List.take v1 m=[]/\True)/\∀(v2:Nat),Nat.le v2 m.length->(decide ((↑v2:Int)<(↑m.length:Int))=true->((0:Int)<=(↑v2:Int)/\(↑v2:Int)<(↑m.length:Int))/\(nL m v2).length<=(100000:Nat)/\((0:Nat)<(0:Nat)+(1:Nat)/\(List.take v2 m).length+((0:Nat)+(1:Nat))<=(1000000:Nat))/\fits .i64 ((↑v2:Int)+(1:Int))/\∃(v5:Nat),Nat.le v5 m.length/\m.length-v5<m.length-v2/\(True/\(↑v2:Int)+(1:Int)=(↑v5:Int)/\True)/\(kd=kd/\r=r/\p=p/\True)/\(List.take v2 m++[nL m v2]=List.take v5 m/\True/\True)/\True)/\(decide ((↑v2:Int)<(↑m.length:Int))=false->True/\(decide (kd=(↑(0:Nat):Int))=true->DeedPre (List.take v2 m) (kd,r,p) (0:Int)/\qt2 (List.take v2 m) (kd,r,p)=qt2 m (kd,r,p))/\(decide (kd=(↑(0:Nat):Int))=false->(decide (kd=(↑(1:Nat):Int))=true->DeedPre (List.take v2 m) (kd,r,p) (1:Int)/\qt2 (List.take v2 m) (kd,r,p)=qt2 m (kd,r,p))/\(decide (kd=(↑(1:Nat):Int))=false->(decide (kd=(↑(2:Nat):Int))=true->DeedPre (List.take v2 m) (kd,r,p) (2:Int)/\qt2 (List.take v2 m) (kd,r,p)=qt2 m (kd,r,p))/\(decide (kd=(↑(2:Nat):Int))=false->kd=(↑(3:Nat):Int)/\DeedPre (List.take v2 m) (kd,r,p) (3:Int)/\qt2 (List.take v2 m) (kd,r,p)=qt2 m (kd,r,p)))))) ?_
 have hM:=Mk.of h.valid
 have m6:=hM.rows6
 have p10:=hM.pix10
 refine⟨(),0,zae _,⟨rfl,rfl⟩,λk hk=>⟨λhlt=>?_,λhge=>?_⟩⟩
 ·have hl:=hM.each k hlt
  exact⟨hlt,ow,by grind,qa6,k+1,hlt,ow,by rfl,(q5k m k hlt).symm⟩
 ·rw[zcs ow]
  have hkd:kd=0\/kd=1\/kd=2\/kd=3:=by
   have h1:=h.ok
   grind [fvB]
  exact⟨λe=>⟨⟨e,h.valid,h.ok⟩,rfl⟩,λn0=>⟨λe=>⟨⟨e,h.valid,h.ok⟩,rfl⟩,λn1=>⟨λe=>⟨⟨e,h.valid,h.ok⟩,rfl⟩,λn2=>⟨kd3 n0 n1 n2 hkd,⟨kd3 n0 n1 n2 hkd,h.valid,h.ok⟩,rfl⟩⟩⟩⟩
abbrev y5w:qa8:=qd9 true none [qf9,qe8] [.bool] (λx=>x.2.1.length<=1000000) (λx=>(decide (q0t x.1 x.2.1=0),()))
theorem xt5:Meets Tryz.prog 37 y5w:=by
 refine mt0 (SpecsOk.cons wx0 (SpecsOk.nil _)) Tryz.func37 ?_
 rintro⟨m,x,⟨⟩⟩ h
 revert m x
 intro(m:List (List Int)) (x:List Int) (h:x.length<=1000000)
 refine vcs (x.length<=(1000000:Nat)/\(q0t m x==(0:Int))=decide (q0t m x=(0:Int))) ?_
 exact⟨h,rfl⟩
def q66 (m:List (List Int)) (k i:Nat):Nat->List Flt
 | 0=>[]
 | j+1=>q66 m k i j++if fvB m ((k:Int),(i:Int),(j:Int)) then[((k:Int),(i:Int),(j:Int))] else[]
def q54 (m:List (List Int)) (k:Nat):Nat->List Flt
 | 0=>[]
 | i+1=>q54 m k i++q66 m k i (nL m 0).length
def ql2 (m:List (List Int)):Nat->List Flt
 | 0=>[]
 | k+1=>ql2 m k++q54 m k m.length
theorem x8k (m:List (List Int)) (k i:Nat) {a b:Nat} (h:a<=b):q66 m k i a <+: q66 m k i b:=by
 induction h with
 | refl=>simp
 | step _ ih=>exact ih.trans (List.prefix_append _ _)
theorem x8l (m:List (List Int)) (k:Nat) {a b:Nat} (h:a<=b):q54 m k a <+: q54 m k b:=by
 induction h with
 | refl=>simp
 | step _ ih=>exact ih.trans (List.prefix_append _ _)
theorem x8m (m:List (List Int)) {a b:Nat} (h:a<=b):ql2 m a <+: ql2 m b:=by
 induction h with
 | refl=>simp
 | step _ ih=>exact ih.trans (List.prefix_append _ _)
theorem yl3 {m:List (List Int)} {k i j:Nat} (hk:k<4) (hi:i<m.length) (hj:j<(nL m 0).length) (h:fvB m ((k:Int),(i:Int),(j:Int))=true):(ql2 m 4)[(ql2 m k).length+(q54 m k i).length+(q66 m k i j).length]? = some ((k:Int),(i:Int),(j:Int)):=by
 have p1:q66 m k i (j+1) <+: q66 m k i (nL m 0).length:=x8k m k i hj
 have p2:q54 m k i++q66 m k i (j+1) <+: q54 m k m.length:=((List.prefix_append_right_inj _).2 p1).trans (x8l m k (show i+1<=m.length from hi))
 have p3:ql2 m k++(q54 m k i++q66 m k i (j+1)) <+: ql2 m 4:=((List.prefix_append_right_inj _).2 p2).trans (x8m m (show k+1<=4 from hk))
 obtain⟨t,e⟩:=p3
 rw[<- e,q66,zap h]
 grind
abbrev fA (f:Flt):qa3 [qr2]:=(f,())
abbrev y5x:q1b:=w1o [qf9] [qr2] (λx=>qb7 x.1=true) (λx=>(ql2 x.1 4).map fA)
def y5y (m:List (List Int)):Nat->Option Inv
 | 0=>some (Inv.of [7] 1 (λk:Nat=>[(7,.lit (.int .i64 k))]) (λk=>[.cnt (some (ql2 m k).length)]) (λk=>k<=4) (λk=>4-k))
 | 1=>some ⟨Nat,Nat,[12],1,λk i=>[(12,.lit (.int .i64 i))],λk i=>[.cnt (some ((ql2 m k).length+(q54 m k i).length))],λk i=>i<=m.length,λk i=>m.length-i⟩
 | 2=>some ⟨Nat × Nat,Nat,[19],1,λq j=>[(19,.lit (.int .i64 j))],λq j=>[.cnt (some ((ql2 m q.1).length+(q54 m q.1 q.2).length+(q66 m q.1 q.2 j).length))],λq j=>j<=(nL m 0).length,λq j=>(nL m 0).length-j⟩
 | _=>none
theorem x3g:q02 Tryz.prog 183 y5x:=by
 refine says (snd (SpecsOk.cons x3e (SpecsOk.nil _))) Tryz.func183 rfl rfl rfl [30] (λx=>y5y x.1) (λ_=>by kernel_rfl) dc ?_
 rintro⟨m,⟨⟩⟩ l h
 revert m
 intro(m:List (List Int)) (h:qb7 m=true)
 refine vcs (let Q0:=(m,PUnit.unit); ∃(v0:Unit),∃(v1:Nat),Nat.le v1 (4:Nat)/\(((0:Int)=(↑v1:Int)/\True)/\some (0:Nat)=some (ql2 m v1).length/\True)/\∀(v2:Nat),Nat.le v2 (4:Nat)->(decide ((↑v2:Int)<(4:Int))=true->∃(v5:Nat),∃(v6:Nat),Nat.le v6 m.length/\(((0:Int)=(↑v6:Int)/\True)/\some (ql2 m v2).length=some ((ql2 m v5).length+(q54 m v5 v6).length)/\True)/\∀(v7:Nat),Nat.le v7 m.length->(decide ((↑v7:Int)<(↑m.length:Int))=true->((0:Int)<=(0:Int)/\(0:Int)<(↑m.length:Int))/\∃(v10:Nat × Nat),∃(v11:Nat),Nat.le v11 (nL m (0:Nat)).length/\(((0:Int)=(↑v11:Int)/\True)/\some ((ql2 m v5).length+(q54 m v5 v7).length)=some ((ql2 m v10.1).length+(q54 m v10.1 v10.2).length+(q66 m v10.1 v10.2 v11).length)/\True)/\∀(v12:Nat),Nat.le v12 (nL m (0:Nat)).length->(decide ((↑v12:Int)<(↑(nL m (0:Nat)).length:Int))=true->qb7 m=true/\(fvB m ((↑v2:Int),(↑v7:Int),(↑v12:Int))=true->Value.func (Fn.yield l) #[] #[]=Value.func (Fn.yield (qh4.l (q08 [qf9] [qr2] [(30:Nat)] Q0 (List.map fA (ql2 m (4:Nat))) l))) #[] #[]/\(qh4.L (q08 [qf9] [qr2] [(30:Nat)] Q0 (List.map fA (ql2 m (4:Nat))) l))[(ql2 m v10.1).length+(q54 m v10.1 v10.2).length+(q66 m v10.1 v10.2 v12).length]?=some (((↑v2:Int),(↑v7:Int),(↑v12:Int)),())/\(fits .i64 ((↑v12:Int)+(1:Int))/\∃(v16:Nat),Nat.le v16 (nL m (0:Nat)).length/\(nL m (0:Nat)).length-v16<(nL m (0:Nat)).length-v12/\((↑v12:Int)+(1:Int)=(↑v16:Int)/\True)/\some ((ql2 m v10.1).length+(q54 m v10.1 v10.2).length+(q66 m v10.1 v10.2 v12).length+(1:Nat))=some ((ql2 m v10.1).length+(q54 m v10.1 v10.2).length+(q66 m v10.1 v10.2 v16).length)/\True)/\True)/\(fvB m ((↑v2:Int),(↑v7:Int),(↑v12:Int))=false->fits .i64 ((↑v12:Int)+(1:Int))/\∃(v16:Nat),Nat.le v16 (nL m (0:Nat)).length/\(nL m (0:Nat)).length-v16<(nL m (0:Nat)).length-v12/\((↑v12:Int)+(1:Int)=(↑v16:Int)/\True)/\some ((ql2 m v10.1).length+(q54 m v10.1 v10.2).length+(q66 m v10.1 v10.2 v12).length)=some ((ql2 m v10.1).length+(q54 m v10.1 v10.2).length+(q66 m v10.1 v10.2 v16).length)/\True))/\(decide ((↑v12:Int)<(↑(nL m (0:Nat)).length:Int))=false->fits .i64 ((↑v7:Int)+(1:Int))/\∃(v15:Nat),Nat.le v15 m.length/\m.length-v15<m.length-v7/\((↑v7:Int)+(1:Int)=(↑v15:Int)/\True)/\some ((ql2 m v10.1).length+(q54 m v10.1 v10.2).length+(q66 m v10.1 v10.2 v12).length)=some ((ql2 m v5).length+(q54 m v5 v15).length)/\True))/\(decide ((↑v7:Int)<(↑m.length:Int))=false->fits .i64 ((↑v2:Int)+(1:Int))/\∃(v10:Nat),Nat.le v10 (4:Nat)/\(4:Nat)-v10<(4:Nat)-v2/\((↑v2:Int)+(1:Int)=(↑v10:Int)/\True)/\some ((ql2 m v5).length+(q54 m v5 v7).length)=some (ql2 m v10).length/\True))/\(decide ((↑v2:Int)<(4:Int))=false->(ql2 m v2).length=(qh4.L (q08 [qf9] [qr2] [(30:Nat)] Q0 (List.map fA (ql2 m (4:Nat))) l)).length)) ?_
 have hM:=Mk.of h
 have m1:=hM.rows1
 have m6:=hM.rows6
 have p10:=hM.pix10
 refine⟨(),0,zae _,⟨rfl,rfl⟩,λk hk=>⟨λhk4=>⟨k,0,zae _,⟨rfl,rfl⟩,λi hi=>⟨λhi6=>⟨ow,(k,i),0,zae _,⟨rfl,rfl⟩,λj hj=>⟨λhj10=>⟨h,λhv=>⟨rfl,?_,qa6,j+1,hj10,ow,ow,?_⟩,λhv=>⟨qa6,j+1,hj10,ow,ow,?_⟩⟩,λhj10=>⟨qa6,i+1,hi6,ow,ow,?_⟩⟩⟩,λhi6=>⟨qa6,k+1,ow,ow,ow,?_⟩⟩⟩,λhk4=>?_⟩⟩
 ·show((ql2 m 4).map fA)[(ql2 m k).length+(q54 m k i).length+(q66 m k i j).length]? = some (fA ((k:Int),(i:Int),(j:Int)))
  grind [yl3]
 ·rw[q66,zap hv,zav]; rfl
 ·simp_all [q66,if_neg,List.append_nil]
 ·obtain rfl:j=(nL m 0).length:=ow
  rw[q54,zav,zcn]
 ·obtain rfl:i=m.length:=ow
  rw[ql2,zav]
 ·obtain rfl:k=4:=ow
  show _=((ql2 m 4).map fA).length
  simp
abbrev y0r:qa8:=wu3 false none [qf9] (λ_=>True) (λx=>.clo 183 (.cons (.imm (.cons (.dat (.list (.int .i64)) x.1) .nil) 0) .nil))
theorem w83:Meets Tryz.prog 138 y0r:=by
 refine q6j (snd (SpecsOk.nil _)) Tryz.func138 rfl rfl (λx _=>none) (λ_=>by kernel_rfl) dc ?_
 rintro⟨m,⟨⟩⟩ -
 revert m
 intro(m:List (List Int))
 refine vcr (((m=m/\True)/\(0:Nat)=(0:Nat))/\True) ?_
 simp
end Go.Proofs.YtnchigbbjajiiaaGreat
namespace Eng
open Go Go.RowKit Go.Proofs Go.Shelf
variable {P : Program} {ρ : Ren}
theorem same_setCell {w:World} {b:Nat} {a:Addr} (h:a.block=b) (v:Value):Kept (λk=>k=b) w (w.setCell a v):=
 ⟨rfl,rfl,rfl,by simp,λk hk=>zdc _ _ _ _ (λe=>hk.2 ow)⟩
theorem Kept.trans {D D':Nat->Prop} {A B C:World} (h:Kept D A B) (k:Kept D' B C) (hd:∀b,D' b->D b\/A.heap.size<=b):Kept D A C:=
 ⟨k.os.trans h.os,k.tape.trans h.tape,k.output.trans h.output,zam h.size k.size,λb hb=>(k.block b ⟨zbe hb.1 h.size,λe=>(hd b e).elim hb.2 (λx=>by omega)⟩).trans (h.block b hb)⟩
theorem wa8 {D D':Nat->Prop} {A B:World} (h:Kept D A B) (hd:∀b,D b->D' b):Kept D' A B:=Same.mono h λb hb=>⟨hb.1,λe=>hb.2 (hd b e)⟩
theorem kept_alloc (w:World) (o:Obj):Kept (λ_=>False) w (w.alloc o):=by
 have:=Ls.below_alloc w o
 exact⟨this.os,this.tape,this.output,this.size,λb hb=>this.block b hb.1⟩
theorem bcc (L:Lays.n240 P ρ) (X:Builder.X72 P ρ) {w:World} {b:Nat} {v:Value} {q:ByteArray} (h:BldOk (λ_=>none) w 0 (ρ.t 72) (ρ.t 5) b v q) :
  Calls P (ρ.f 240) #[.pointer (some ⟨b,0,none⟩)] w λe w'=>e=.returned (.tuple #[])/\(w'.heap[b]? = some (.cells #[.pointer (some ⟨b,0,none⟩),v] (ρ.t 72) (0,0))/\Kept (λk=>k=b) w w'):=by
 obtain⟨p,hp,hc⟩:=h.cell
 rcases hp with rfl | rfl
 ·refine(Any.Builder_copyCheck_fresh L X b w (by grind [World.cell?]) (by grind [World.shape?]) (by grind [World.frozen?])).mono ?_
  rintro e w' ⟨rfl,rfl⟩
  exact⟨rfl,by grind [World.setCell],same_setCell (a:=⟨b,0,none⟩) rfl _⟩
 ·refine(Any.Builder_copyCheck_used L X b w (by grind [World.cell?])).mono ?_
  rintro e w' ⟨rfl,rfl⟩
  exact⟨rfl,hc,Same.refl _ _⟩
theorem y5z {T e b:Nat} {v v' p:Value} {q q':ByteArray} {w w1 w2:World} (h:BldOk (λ_=>none) w 0 T e b v q) (hTe:T≠e) (k1:Kept (λk=>k=b) w w1) (k2:Kept (λx=>v.ownBlock=some x) w1 w2) (hb:w2.heap[b]? = some (.cells #[.pointer (some ⟨b,0,none⟩),p] T (0,0))) (ho:w2.ownsRow 0 e 1 v' q'.size (Lib.byteCells q'.data.toList))
  (hn:∀x,v'.ownBlock=some x->v.ownBlock=some x\/w.heap.size<=x):w95 w b v T e q' (w2.setCell ⟨b,1,none⟩ v'):=by
 have hne:v'.ownBlock≠some b:=Lib.ownBlock_ne ho hb hTe
 refine⟨Kept.trans (Kept.trans (wa8 k1 λx hx=>h.blkIs.2 (.inl hx)) k2 λx hx=>.inl (h.blkIs.2 (.inr hx))) (same_setCell (b:=b) rfl v') λx hx=>.inl (h.blkIs.2 (.inl hx)),v',⟨zae _,⟨_,.inr rfl,?_⟩,?_,hne,rfl,λ_ _=>rfl⟩,hn⟩
 ·grind [World.setCell]
 ·exact ho.kept (row:=some b) ⟨rfl,rfl,rfl,by simp,λk _ hk=>zdc _ _ _ _ (λe=>hk (by grind))⟩ (Or.inr hne)
theorem x3h {w w1:World} {b e:Nat} {v:Value} {n:Nat} {xs:List Value} (h:w.ownsRow 0 e 1 v n xs) (hne:v.ownBlock≠some b) (k1:Kept (λk=>k=b) w w1):w1.ownsRow 0 e 1 v n xs:=
 qn8 h λx hx=>k1.block x ⟨(own_blk h hx).2.1,λe'=>hne (by grind [qi2])⟩
theorem w84 {w w':World} {row:Option Nat} (h:w.grownBy w' row):Kept (λx=>row=some x) w w':=qu4 h λr e=>e
theorem w85 (q:ByteArray) {c:Int} (h0:0<=c) (h1:c<256):Lib.byteCells q.data.toList++[.int .u8 c]=Lib.byteCells (q.push c.toNat.toUInt8).data.toList:=by
 have:((c.toNat.toUInt8).toNat:Int)=c:=by
  grind [Nat.toUInt8_eq,UInt8.toNat_ofNat']
 simp_all [Lib.byteCells,ByteArray.push,Array.toList_push,List.map_append,List.map_cons,List.map_nil]
set_option maxHeartbeats 2000000 in
set_option maxRecDepth 100000 in
theorem x3i (L:Lays.n167 P ρ) (X:Builder.Extra P ρ) {w:World} {b:Nat} {v:Value} {q:ByteArray} (h:BldOk (λ_=>none) w 0 (ρ.t 72) (ρ.t 5) b v q) (c:Int) (h0:0<=c) (h1:c<256) (hs:q.size+1<=1000000000) :
  Calls P (ρ.f 167) #[.pointer (some ⟨b,0,none⟩),.int .u8 c] w λe w'=>e=.returned .nilIface/\w95 w b v (ρ.t 72) (ρ.t 5) (q.push c.toNat.toUInt8) w':=by
 obtain⟨i0,hi,hz0,hz1,hz2⟩:=info_parts X.infoByte
 have mixed:=L.mixed
 have t72:=L.t72; have a72:=L.a72; have z72:=L.z72; have v72:=L.v72; have u72:=run_underlying L.t72
 have t70:=L.t70; have a70:=L.a70; have z70:=L.z70; have v70:=L.v70; have u70:=run_underlying L.t70
 have t5:=L.t5; have a5:=L.a5; have z5:=L.z5; have v5:=L.v5; have u5:=run_underlying L.t5
 have t37:=L.t37; have a37:=L.a37; have z37:=L.z37; have v37:=L.v37; have u37:=run_underlying L.t37
 have t9:=L.t9; have a9:=L.a9; have z9:=L.z9; have v9:=L.v9; have u9:=run_underlying L.t9
 have t4:=L.t4; have a4:=L.a4; have z4:=L.z4; have v4:=L.v4; have u4:=run_underlying L.t4
 have t164:=L.t164; have a164:=L.a164; have z164:=L.z164; have v164:=L.v164; have u164:=run_underlying L.t164
 have e240:∀args w,(callFunc (ρ.f 240) args).run P w=.ok (.enter (ρ.f 240) args) w:=enters_of L.f240 kr rfl
 go_enter L.f167,Body.n167_ntmps ρ
 go_wp2_with (go_at_fn (ρ.f 240); refine(bcc { L with } X.toX72 h).mono ?_)
 rintro e w1 ⟨rfl,hbk,hk1⟩
 have hown:=x3h h.own h.ne hk1
 have c0:w1.cell? ⟨b,0,none⟩=some (.pointer (some ⟨b,0,none⟩)):=by rw[Lib.cell_of_heap hbk]; rfl
 have c1:w1.cell? ⟨b,1,none⟩=some v:=by rw[Lib.cell_of_heap hbk]; rfl
 go_wp2_with (at_builtin; refine wpList_append_own_at _ rfl _ _ (ρ.t 37) rfl 0 (ρ.t 5) i0 (.int .u8 0) 1 1 L.t37 hi hz0 hz1 hz2 rfl dc _ _ _ rfl (hown.alloc _) ⟨w1.heap.size,0,none⟩ 1 1 [.int .u8 c] rfl rfl ?c1 ?c2 ?c3 ?c4 ?c5 ?_)
 case c1=>grind [cell_one_new]
 case c2=>intro u hu; simp at hu; subst hu; rfl
 case c3=>grind [maxLen]
 case c4=>omega
 case c5=>simp
 intro v' w2 hown' hgrow _ hat
 have hlt:b<w1.heap.size:=(zal.1 hbk).1
 have hb2:w2.heap[b]? = some (.cells #[.pointer (some ⟨b,0,none⟩),v] (ρ.t 72) (0,0)):=by
  rw[hgrow.block b (by simp; omega) (λe=>h.ne e.symm),Lib.alloc_old w1 _ b hlt]
  omega
 have d0:w2.cell? ⟨b,0,none⟩=some (.pointer (some ⟨b,0,none⟩)):=by rw[Lib.cell_of_heap hb2]; rfl
 have d1:w2.cell? ⟨b,1,none⟩=some v:=by rw[Lib.cell_of_heap hb2]; rfl
 have f1:w2.frozen? ⟨b,1,none⟩=false:=Lib.frozen_of_heap hb2 1
 have hk2:Kept (λx=>v.ownBlock=some x) w1 w2:=Kept.trans (wa8 (kept_alloc w1 _) λ_ h=>h.elim) (w84 hgrow) λx hx=>.inl hx
 have hn:∀x,v'.ownBlock=some x->v.ownBlock=some x\/w.heap.size<=x:=λx hx=>by
  rcases hat with hat | hat
  ·grind
  ·rw[hat] at hx
   have:=zaa hx
   right; rw[<- this]; have:=hk1.size; omega
 rw[w85 q h0 h1] at hown'
 obtain⟨g,cap,rfl⟩:∃g cap,v'=.slice (some ⟨g,0,none⟩) (q.size+1) cap:=by
  rcases hown'.2 with⟨_,h0⟩ | ⟨g,cap,cur,hv,_⟩
  all_goals grind
 go_wp2
 go_ret
 exact⟨rfl,y5z h X.neB5 hk1 hk2 hb2 (by simp_all) hn⟩
set_option maxHeartbeats 1000000 in
set_option maxRecDepth 100000 in
theorem x8o (L:Lays.n169 P ρ) (X:Builder.Extra P ρ) {w:World} {b:Nat} {v:Value} {q:ByteArray} (h:BldOk (λ_=>none) w 0 (ρ.t 72) (ρ.t 5) b v q) :
  Calls P (ρ.f 169) #[.pointer (some ⟨b,0,none⟩)] w λe w'=>e=.returned (.string q)/\Kept (Blk (q67 b v)) w w':=by
 obtain⟨p,hp,hbk⟩:=h.cell
 have bel:∀{w':World},Below w.heap.size w w'->Kept (Blk (q67 b v)) w w':=λhb=>wj5 hb
 obtain⟨l,rfl⟩:∃l:List UInt8,q=⟨l.toArray⟩:=⟨q.data.toList,rfl⟩
 have hown:w.ownsRow 0 (ρ.t 5) 1 v l.length (Lib.byteCells l):=by
  have:=h.own
  rwa [show(ByteArray.mk l.toArray).size=l.length from rfl,show(ByteArray.mk l.toArray).data.toList=l from rfl] at this
 clear h
 by_cases h0:l=[]
 ·subst h0
  rcases hown.2 with⟨rfl,_⟩ | ⟨g,cap,cur,rfl,_,hg,_,_,_,_⟩
  ·exact(Any.Builder_String_nil L X w.heap.size b p w hbk).mono λe w' ⟨e1,e2⟩=>⟨e1,bel e2⟩
  ·by_cases hc0:cap=0
   ·subst hc0
    exact(Any.Builder_String_noroom L X w.heap.size b g p cur w (zac _) hbk hg).mono λe w' ⟨e1,e2⟩=>⟨e1,bel e2⟩
   ·exact(Any.Builder_String_room L X w.heap.size b g cap p w hc0 hbk).mono λe w' ⟨e1,e2⟩=>⟨e1,bel e2⟩
 have hl0:l.length≠0:=by grind
 obtain⟨g,cap,cur,rfl,hg,hnc,hcm,hcs,htake⟩:∃g cap cur,v=.slice (some ⟨g,0,none⟩) l.length cap/\w.heap[g]? = some (.cells cur (ρ.t 5) (0,0))/\l.length<=cap/\cap<=maxLen/\cur.size=cap*1/\cur.toList.take (l.length*1)=Lib.byteCells l:=by
  rcases hown.2 with⟨_,hz⟩ | ⟨g,cap,cur,hv,_,r⟩
  all_goals grind
 have c1:w.drew.cell? ⟨b,1,none⟩=some (.slice (some ⟨g,0,none⟩) l.length cap):=by
  have:w.drew.heap[b]? = some (.cells #[p,.slice (some ⟨g,0,none⟩) l.length cap] (ρ.t 72) (0,0)):=hbk
  rw[Lib.cell_of_heap this]; rfl
 have hSD:(Builtin.unsafeSliceData_ #[(ρ.t 37)] (ρ.t 127) #[.slice (some ⟨g,0,none⟩) l.length cap]).run P w.drew=.ok (.pointer (some ⟨g,0,none⟩)) w.drew:=
  Lib.run_unsafeSliceData_row _ _ _ _ _ _ ow
 have hUS:(Builtin.unsafeString_ #[(ρ.t 127),(ρ.t 3)] (ρ.t 9) #[.pointer (some ⟨g,0,none⟩),.int .i64 l.length]).run P w.drew=.ok (.string ⟨l.toArray⟩) (w.drew.freeze ⟨g,0,none⟩ l.length):=by
  refine Lib.run_unsafeString_row w.drew (ρ.t 127) (ρ.t 3) (ρ.t 9) (ρ.t 5) L.t127 X.cellsByte g cur.size (by have hg':w.drew.heap[g]? = some (.cells cur (ρ.t 5) (0,0)):=hg; grind [World.shape?]) l h0 ow (by grind [maxLen]) ?_
  intro j x hx
  have:=hown.cells (g:=g) rfl j (.int .u8 x.toNat) (by grind [Lib.byteCells])
  exact this
 have hfin:Kept (Blk (q67 b (.slice (some ⟨g,0,none⟩) l.length cap))) w (w.drew.freeze ⟨g,0,none⟩ l.length):=by
  refine wa8 (D:=λx=>x=g) ?_ λx hx=>q70.2 (.inr (by rw[hx]; rfl))
  unfold World.freeze
  split
  ·omega
  ·refine⟨rfl,rfl,rfl,by simp,λx hx=>?_⟩
   show(Array.modify w.heap g _)[x]? = _
   grind
 have mixed:=L.mixed
 have t72:=L.t72; have a72:=L.a72; have z72:=L.z72; have v72:=L.v72; have u72:=run_underlying L.t72
 have t70:=L.t70; have a70:=L.a70; have z70:=L.z70; have v70:=L.v70; have u70:=run_underlying L.t70
 have t37:=L.t37; have a37:=L.a37; have z37:=L.z37; have v37:=L.v37; have u37:=run_underlying L.t37
 have t127:=L.t127; have a127:=L.a127; have z127:=L.z127; have v127:=L.v127; have u127:=run_underlying L.t127
 have t3:=L.t3; have a3:=L.a3; have z3:=L.z3; have v3:=L.v3; have u3:=run_underlying L.t3
 have t9:=L.t9; have a9:=L.a9; have z9:=L.z9; have v9:=L.v9; have u9:=run_underlying L.t9
 have t5:=X.t5; have a5:=X.a5; have z5:=X.z5; have v5:=X.v5; have u5:=run_underlying X.t5
 go_enter L.f169,Body.n169_ntmps ρ
 go_wp2
 go_region_o
 all_goals (go_wp2; go_ret; simp_all)
end Eng
namespace Go.Proofs
open Go.Shelf
shelf_lay Lays.n169 Nm 169 at Tryz as Tryz.layOut
def Tryz.layWrt_ren:Go.Shelf.Ren:=⟨fun | 167=>185 | 240=>248 | 276=>278 | n=>n,fun | 0=>0 | 4=>4 | 5=>5 | 9=>9 | 20=>20 | 37=>208 | 70=>207 | 72=>210 | 75=>212 | 80=>214 | 164=>283 | n=>n,λn=>n⟩
theorem Tryz.layWrt:Lays.n167 Tryz.prog Tryz.layWrt_ren where
 mixed:=kr
 f167:=Tryz.func185.trans (za2 some kr)
 f240:=Tryz.func248.trans (za2 some kr)
 f276:=Tryz.func278.trans (za2 some kr)
 t0:=Tryz.underlying0
 a0:=Tryz.isAgg0
 z0:=Tryz.sizeOf0
 v0:=Tryz.zeroValue0
 t4:=Tryz.underlying4
 a4:=Tryz.isAgg4
 z4:=Tryz.sizeOf4
 v4:=Tryz.zeroValue4
 t5:=Tryz.underlying5
 a5:=Tryz.isAgg5
 z5:=Tryz.sizeOf5
 v5:=Tryz.zeroValue5
 t9:=Tryz.underlying9
 a9:=Tryz.isAgg9
 z9:=Tryz.sizeOf9
 v9:=Tryz.zeroValue9
 t20:=Tryz.underlying20
 a20:=Tryz.isAgg20
 z20:=Tryz.sizeOf20
 v20:=Tryz.zeroValue20
 t37:=Tryz.underlying208
 a37:=Tryz.isAgg208
 z37:=Tryz.sizeOf208
 v37:=Tryz.zeroValue208
 t70:=Tryz.underlying207
 a70:=Tryz.isAgg207
 z70:=Tryz.sizeOf207
 v70:=Tryz.zeroValue207
 t72:=Tryz.underlying210
 a72:=Tryz.isAgg210
 z72:=Tryz.sizeOf210
 v72:=Tryz.zeroValue210
 t75:=Tryz.underlying212
 a75:=Tryz.isAgg212
 z75:=Tryz.sizeOf212
 v75:=Tryz.zeroValue212
 t164:=Tryz.underlying283
 a164:=Tryz.isAgg283
 z164:=Tryz.sizeOf283
 v164:=Tryz.zeroValue283
theorem Tryz.extraWrt:Builder.Extra Tryz.prog Tryz.layWrt_ren where
 sizeBuilder:=kr
 liesBuilder:=kr
 t5:=Tryz.underlying5
 a5:=Tryz.isAgg5
 z5:=Tryz.sizeOf5
 v5:=Tryz.zeroValue5
 infoByte:=kr
 cellsByte:=kr
 sizeByte:=kr
 neB5:=dc
theorem Tryz.extraOut:Builder.Extra Tryz.prog Tryz.layOut_ren where
 sizeBuilder:=kr
 liesBuilder:=kr
 t5:=Tryz.underlying5
 a5:=Tryz.isAgg5
 z5:=Tryz.sizeOf5
 v5:=Tryz.zeroValue5
 infoByte:=kr
 cellsByte:=kr
 sizeByte:=kr
 neB5:=dc
end Go.Proofs
namespace Go.Proofs.YtnchigbbjajiiaaGreat
open Go Go.Proofs Go.RowKit Eng Ls Go.Shelf
theorem yl4:q6e Tryz.prog 185 ⟨210,5,0⟩:=
 ⟨⟨_,_,Tryz.func185,rfl,rfl⟩,λw b v q h=>λc h0 h1 hs=>x3i Tryz.layWrt Tryz.extraWrt h c h0 h1 hs⟩
theorem out_ok:q6e Tryz.prog 186 ⟨210,5,2⟩:=
 ⟨⟨_,_,Tryz.func186,rfl,rfl⟩,λw b v q h=>x8o Tryz.layOut Tryz.extraOut h⟩
def x8p:List (Nat × w02):=[(185,⟨210,5,0⟩),(186,⟨210,5,2⟩)]
theorem x3j:∀f B,find x8p f=some B->q6e Tryz.prog f B:=by
 intro f B h
 unfold x8p at h
 rcases q8l h with⟨rfl,rfl⟩ | h
 ·exact yl4
 rcases q8l h with⟨rfl,rfl⟩ | h
 ·exact out_ok
 cases h
def y0s (specs:List (Nat × qa8)):Ctx:={ specs:=specs,tys:=tys,wr:=[],blds:=x8p }
theorem y0t {specs:List (Nat × qa8)} (h:SpecsOk Tryz.prog specs):Sound Tryz.prog (y0s specs):=SpecsOk.sound h q03 kr (hbl:=x3j)
open Go Go.Proofs Go.RowKit Eng Ls
def yl5:ByteArray:=⟨#[45,46,43]⟩
def x8q (i:Nat):Int:=Eng.byteAt yl5 i
theorem w86 (s:ByteArray) (i:Nat):0<=byteAt s i/\byteAt s i<256:=by
 unfold byteAt
 split
 ·rename_i b _; have:=b.toNat_lt; omega
 simp
def rowT (s:ByteArray) (r:List Int):Nat->ByteArray
 | 0=>s
 | k+1=>(rowT s r k).push (x8q (nI r k+1).toNat).toNat.toUInt8
def w0o (m:List (List Int)):Nat->ByteArray
 | 0=>⟨#[]⟩
 | k+1=>(rowT (w0o m k) (nL m k) (nL m k).length).push 10
theorem wa9 (s:ByteArray) (r:List Int):∀k,(rowT s r k).size=s.size+k
 | 0=>rfl
 | k+1=>by rw[rowT,ByteArray.size_push,wa9 s r k]; omega
theorem w0p {m:List (List Int)} (h:Mk m):∀k,k<=m.length->(w0o m k).size=k*((nL m 0).length+1)
 | 0,_=>by rw[zdg]; rfl
 | k+1,hk=>by rw[w0o,ByteArray.size_push,wa9,w0p h k ow,h.each k ow,zdx]; omega
def w9f (m:List (List Int)):ByteArray:=if qb7 m then w0o m m.length else⟨#[]⟩
abbrev y50:qa8:=qd9 true none [qf9] [.str] (λ_=>True) (λx=>(w9f x.1,()))
def y0u (m:List (List Int)):Nat->Option Inv
 | 0=>some (Inv.of [3,13] 1 (λk:Nat=>[(3,.msl 0 none),(13,.lit (.int .i64 k))]) (λk=>[.bld 210 5 (w0o m k)]) (λk=>k<=m.length) (λk=>m.length-k))
 | 1=>some ⟨Nat,Nat,[3,19],1,λk t=>[(3,.msl 0 none),(19,.lit (.int .i64 t))],λk t=>[.bld 210 5 (rowT (w0o m k) (nL m k) t)],λk t=>t<=(nL m k).length,λk t=>(nL m k).length-t⟩
 | _=>none
theorem w0q:Meets Tryz.prog 139 y50:=by
 refine meets (y0t (SpecsOk.cons qs7 (SpecsOk.nil _))) Tryz.func139 rfl rfl (λx=>y0u x.1) (λ_=>by kernel_rfl) dc ?_
 rintro⟨m,⟨⟩⟩ -
 revert m
 intro(m:List (List Int))
 refine vcs (True/\((!qb7 m)=true->Value.string { data:=#[] }=Value.string (w9f m))/\((!qb7 m)=false->∃(v1:Unit),∃(v2:Nat),Nat.le v2 m.length/\((True/\(0:Int)=(↑v2:Int)/\True)/\{ data:=#[] }=w0o m v2/\True)/\∀(v3:Nat),Nat.le v3 m.length->(decide ((↑v3:Int)<(↑m.length:Int))=true->((0:Int)<=(↑v3:Int)/\(↑v3:Int)<(↑m.length:Int))/\∃(v6:Nat),∃(v7:Nat),Nat.le v7 (nL m v6).length/\((True/\(0:Int)=(↑v7:Int)/\True)/\w0o m v3=rowT (w0o m v6) (nL m v6) v7/\True)/\∀(v8:Nat),Nat.le v8 (nL m v6).length->(decide ((↑v8:Int)<(↑(nL m v3).length:Int))=true->((0:Int)<=(↑v8:Int)/\(↑v8:Int)<(↑(nL m v3).length:Int))/\fits .i64 (nI (nL m v3) v8+(1:Int))/\((0:Int)<=nI (nL m v3) v8+(1:Int)/\nI (nL m v3) v8+(1:Int)<(↑(3:Nat):Int))/\((0:Int)<=byteAt { data:=#[(45:UInt8),(46:UInt8),(43:UInt8)] } (nI (nL m v3) v8+(1:Int)).toNat/\byteAt { data:=#[(45:UInt8),(46:UInt8),(43:UInt8)] } (nI (nL m v3) v8+(1:Int)).toNat<(256:Int)/\ByteArray.size (rowT (w0o m v6) (nL m v6) v8)+(1:Nat)<=(1000000000:Nat))/\fits .i64 ((↑v8:Int)+(1:Int))/\∃(v11:Nat),Nat.le v11 (nL m v6).length/\(nL m v6).length-v11<(nL m v6).length-v8/\(True/\(↑v8:Int)+(1:Int)=(↑v11:Int)/\True)/\ByteArray.push (rowT (w0o m v6) (nL m v6) v8) (Nat.toUInt8 (byteAt { data:=#[(45:UInt8),(46:UInt8),(43:UInt8)] } (nI (nL m v3) v8+(1:Int)).toNat).toNat)=rowT (w0o m v6) (nL m v6) v11/\True)/\(decide ((↑v8:Int)<(↑(nL m v3).length:Int))=false->((0:Int)<=(10:Int)/\(10:Int)<(256:Int)/\ByteArray.size (rowT (w0o m v6) (nL m v6) v8)+(1:Nat)<=(1000000000:Nat))/\fits .i64 ((↑v3:Int)+(1:Int))/\∃(v11:Nat),Nat.le v11 m.length/\m.length-v11<m.length-v3/\(True/\(↑v3:Int)+(1:Int)=(↑v11:Int)/\True)/\ByteArray.push (rowT (w0o m v6) (nL m v6) v8) (Nat.toUInt8 (10:Nat))=w0o m v11/\True))/\(decide ((↑v3:Int)<(↑m.length:Int))=false->Value.string (w0o m v3)=Value.string (w9f m)))) ?_
 refine⟨λh=>by simp[w9f,h],λhv=>?_⟩
 have hM:=Mk.of hv
 have hsz:=w0p hM
 have m6:=hM.rows6
 have p10:=hM.pix10
 refine⟨(),0,zae _,⟨rfl,rfl⟩,λk hk=>⟨λhlt=>⟨hlt,k,0,zae _,⟨rfl,rfl⟩,λt ht=>?_⟩,λhge=>?_⟩⟩
 ·have hs0:=hsz k hk
  have hk6:k*((nL m 0).length+1)<=6*11:=zbh ow ow
  have hl:=hM.each k hlt
  have hs1:=wa9 (w0o m k) (nL m k) t
  refine⟨λh1=>?_,λh1=>?_⟩
  ·have hb:=hM.small k hlt t ow
   have hby:=w86 ⟨#[45,46,43]⟩ (Int.toNat (nI (nL m k) t+1))
   exact⟨h1,qa6,⟨ow,by grind⟩,⟨hby.1,hby.2,ow⟩,qa6,t+1,ow,ow,ow,rfl⟩
  ·obtain rfl:t=(nL m k).length:=ow
   exact⟨ow,qa6,k+1,ow,ow,ow,rfl⟩
 ·obtain rfl:k=m.length:=ow
  grind [w9f]
def textF (m:List (List Int)) (f:Flt):ByteArray:=w9f (qt2 m f)
abbrev nFt (l:List Flt) (k:Nat):Flt:=l.getD k (0,0,0)
def q44 (m:List (List Int)) (L:List Flt):Nat->List (ByteArray × Bool)
 | 0=>[]
 | k+1=>q60 (q44 m L k) (textF m (nFt L k)) true
def y0v (m:List (List Int)) (L:List Flt) (k:Nat):Bool:=(q48 (q44 m L k) (textF m (nFt L k))).getD false
def w0r (m:List (List Int)) (L:List Flt):Nat->List Flt
 | 0=>[]
 | k+1=>w0r m L k++if y0v m L k then[] else[nFt L k]
theorem w5w (m:List (List Int)) (L:List Flt):∀k,(w0r m L k).length<=k
 | 0=>zac _
 | k+1=>by
  have:=w5w m L k
  grind [w0r,List.length_append]
theorem w5x (m:List (List Int)) (k i:Nat):∀j,(q66 m k i j).length<=j
 | 0=>zac _
 | j+1=>by
  have:=w5x m k i j
  grind [q66,List.length_append]
theorem w5y {m:List (List Int)} (h:Mk m) (k:Nat):∀i,(q54 m k i).length<=i*10
 | 0=>zae _
 | i+1=>by
  have h1:=w5y h k i
  have h2:=w5x m k i (nL m 0).length
  have h3:=h.pix10
  grind [q54,List.length_append]
theorem x3k {m:List (List Int)} (h:Mk m):(ql2 m 4).length<=240:=by
 have h1:=h.rows6
 grind [w5y,ql2,List.length_append,List.length_nil]
theorem w5z {m:List (List Int)} {k i:Nat} {f:Flt}:∀j,f∈q66 m k i j->fvB m f=true
 | 0,h=>by cases h
 | j+1,h=>by
  rw[q66] at h
  rcases zak.1 h with h | h
  ·exact w5z j h
  grind
theorem w50 {m:List (List Int)} {k:Nat} {f:Flt}:∀i,f∈q54 m k i->fvB m f=true
 | 0,h=>by cases h
 | i+1,h=>by
  rw[q54] at h
  rcases zak.1 h with h | h
  ·exact w50 i h
  grind [w5z]
theorem w51 {m:List (List Int)} {f:Flt}:∀k,f∈ql2 m k->fvB m f=true
 | 0,h=>by cases h
 | k+1,h=>by
  rw[ql2] at h
  rcases zak.1 h with h | h
  ·exact w51 k h
  grind [w50]
abbrev sAl:qa8:=qd9 true (some 170) [qf9] [.list qr2] (λx=>qb7 x.1=true) (λx=>(w0r x.1 (ql2 x.1 4) (ql2 x.1 4).length,()))
def y0w (m:List (List Int)) (k:Nat):List AObj:=[.box 23 (.cons (.dat (.list (.int .i64)) m) .nil),.box 70 (.cons (.own 4) .nil),.mp .bool (q44 m (ql2 m 4) k),.box 166 (.cons (.own 2) .nil),.vec 170 qr2 (w0r m (ql2 m 4) k)]
def y51 (m:List (List Int)):Nat->Option Inv
 | 0=>some (Inv.of [] 5 (λ_=>[]) (λc:Nat=>y0w m c) (λc=>c<=(ql2 m 4).length) (λc=>c))
 | _=>none
theorem x3l:Meets Tryz.prog 92 sAl:=by
 refine meets (yd0 (SpecsOk.cons w83 (SpecsOk.cons xt4 (SpecsOk.cons w0q (SpecsOk.nil _)))) (ItsOk.cons x3g ItsOk.nil)) Tryz.func92 rfl rfl (λx=>y51 x.1) (λ_=>by kernel_rfl) dc ?_
 rintro⟨m,⟨⟩⟩ h
 revert m
 intro(m:List (List Int)) (h:qb7 m=true)
 refine vcs (True/\qb7 m=true/\∃(v0:Unit),∃(v1:Nat),Nat.le v1 (ql2 m (4:Nat)).length/\v1=(0:Nat)/\((m=m/\True)/\(True/\True)/\[]=q44 m (ql2 m (4:Nat)) v1/\(True/\True)/\w0r m (ql2 m (4:Nat)) v1=[]/\True)/\∀(v2:Nat),Nat.le v2 (ql2 m (4:Nat)).length->(∀(v4:(Int × Int × Int) × qa3._f [] PUnit.unit),(List.map fA (ql2 m (4:Nat)))[v2]?=some v4->xt3 m (v4.1.1,v4.1.2.1,v4.1.2.2)/\True/\((!Option.getD (q48 (q44 m (ql2 m (4:Nat)) v2) (w9f (q3b (Ty.int .i64) (qt2 m (v4.1.1,v4.1.2.1,v4.1.2.2)) none))) (Ty.dflt Ty.bool))=true->((0:Nat)<List.length [(v4.1.1,v4.1.2.1,v4.1.2.2)]/\Nat.le ((w0r m (ql2 m (4:Nat)) v2).length+List.length [(v4.1.1,v4.1.2.1,v4.1.2.2)]) (1000000:Nat))/\∃(v7:Nat),Nat.le v7 (ql2 m (4:Nat)).length/\v7=v2+(1:Nat)/\(m=m/\True)/\(True/\True)/\q60 (q44 m (ql2 m (4:Nat)) v2) (w9f (q3b (Ty.int .i64) (qt2 m (v4.1.1,v4.1.2.1,v4.1.2.2)) none)) true=q44 m (ql2 m (4:Nat)) v7/\(True/\True)/\w0r m (ql2 m (4:Nat)) v2++[(v4.1.1,v4.1.2.1,v4.1.2.2)]=w0r m (ql2 m (4:Nat)) v7/\True)/\((!Option.getD (q48 (q44 m (ql2 m (4:Nat)) v2) (w9f (q3b (Ty.int .i64) (qt2 m (v4.1.1,v4.1.2.1,v4.1.2.2)) none))) (Ty.dflt Ty.bool))=false->∃(v7:Nat),Nat.le v7 (ql2 m (4:Nat)).length/\v7=v2+(1:Nat)/\(m=m/\True)/\(True/\True)/\q60 (q44 m (ql2 m (4:Nat)) v2) (w9f (q3b (Ty.int .i64) (qt2 m (v4.1.1,v4.1.2.1,v4.1.2.2)) none)) true=q44 m (ql2 m (4:Nat)) v7/\(True/\True)/\w0r m (ql2 m (4:Nat)) v2=w0r m (ql2 m (4:Nat)) v7/\True))/\(v2=(List.map fA (ql2 m (4:Nat))).length->w0r m (ql2 m (4:Nat)) v2=w0r m (ql2 m (4:Nat)) (ql2 m (4:Nat)).length)) ?_
 have hM:=Mk.of h
 have hle:=x3k hM
 refine⟨h,(),0,zae _,rfl,⟨rfl,rfl⟩,λk hk=>⟨?_,λe=>?_⟩⟩
 ·rintro⟨⟨kd,r,p⟩,⟨⟩⟩ hf
  rw[zbm] at hf
  obtain⟨f',h1,h2⟩:=zb5.1 hf
  obtain rfl:f'=(kd,r,p):=za2 Prod.fst h2
  have hlt:=(zag.1 h1).1
  have hn:nFt (ql2 m 4) k=(kd,r,p):=by grind
  have hv:fvB m (kd,r,p)=true:=w51 4 (zah h1)
  have hlen:=w5w m (ql2 m 4) k
  have e1:y0v m (ql2 m 4) k=(q48 (q44 m (ql2 m 4) k) (w9f (qt2 m (kd,r,p)))).getD false:=by grind [y0v,textF]
  have e2:q60 (q44 m (ql2 m 4) k) (w9f (qt2 m (kd,r,p))) true=q44 m (ql2 m 4) (k+1):=by rw[q44,textF,hn]
  refine⟨⟨h,hv⟩,λhb=>⟨ow,k+1,hlt,rfl,e2,?_⟩,λhb=>⟨k+1,hlt,rfl,e2,?_⟩⟩
  ·rw[w0r,zaj (by rw[e1]; exact ne_true_of_eq_false hb),hn]
  ·rw[w0r,zap (e1.trans hb),zca]
 grind
def x8r (m:List (List Int)):List Flt × Int:=if qb7 m then(w0r m (ql2 m 4) (ql2 m 4).length,0) else([],1)
abbrev y0x:qa8:=qd9 false none [qf9] [.list qr2,qc0] (λ_=>True) (λx=>((x8r x.1).1,(x8r x.1).2,()))
theorem w87:Meets Tryz.prog 43 y0x:=by
 refine mt0 (SpecsOk.cons qs7 (SpecsOk.cons x3l (SpecsOk.nil _))) Tryz.func43 ?_
 rintro⟨m,⟨⟩⟩ -
 revert m
 intro(m:List (List Int))
 refine vcs (True/\((!qb7 m)=true->(x8r m).1=[]/\(1:Int)=(x8r m).2/\True)/\((!qb7 m)=false->qb7 m=true/\w0r m (ql2 m (4:Nat)) (ql2 m (4:Nat)).length=(x8r m).1/\(0:Int)=(x8r m).2/\True)) ?_
 grind [x8r]
open Go Go.RowKit Ls Eng
theorem own_blk {w:World} {B e n:Nat} {A:Option Addr} {c:Nat} {xs:List Value} (h:w.ownsRow B e 1 (.slice A n c) n xs):∀ad,A=some ad->B<=ad.block:=by
 intro ad e1
 rcases h.2 with⟨h,_⟩ | ⟨g,cap,cur,h,hb,_⟩
 all_goals grind
abbrev x8s:qa8:=qd9 true none [.list (.int .i64)] [.list (.int .i64)] (λx=>x.1.length<=100000) (λx=>(x.1,()))
theorem w0s:Meets Tryz.prog 48 x8s:=q2k ⟨_,_,Tryz.func48,rfl,rfl⟩ λw m x vs hm hp hx=>by
 obtain⟨l,⟨⟩⟩:=x
 obtain⟨u,us,rfl,h1,h2⟩:=hx
 obtain rfl:us=[]:=h2
 obtain⟨A,c,rfl,hSI⟩:=rd_SI hm (show Rd m (.list (.int .i64)) l [u] from h1)
 refine(clone_any A l.length c l w hSI hp).mono λe w' ⟨A',c',e1,e2,e3⟩=>⟨_,e1,e3,[_],rfl,_,_,rfl,?_,rfl⟩
 exact x6m (x3r e2) (own_blk e2)
set_option maxRecDepth 100000 in
set_option maxHeartbeats 400000 in
theorem clone_nil (w:World):Calls Tryz.prog 48 #[.slice none 0 0] w λe w'=>e=.returned (.slice none 0 0)/\Below w.heap.size w w':=by
 have hq:=λw=>Lib.run_eql_slice_nil (P:=Tryz.prog) w 24 3 none 0 0 0 0 Tryz.underlying24
 go_enter Tryz.func48,Tryz.ntmps48
 go_wp2
 go_ret
 exact⟨rfl,zdd _ _⟩
abbrev x8t:qa8:=qd9 true none [.nlist (.int .i64)] [.nlist (.int .i64)] (λx=>x.1.length<=100000) (λx=>(x.1,()))
theorem w0t:Meets Tryz.prog 48 x8t:=q2k ⟨_,_,Tryz.func48,rfl,rfl⟩ λw m x vs hm hp hx=>by
 obtain⟨l,⟨⟩⟩:=x
 obtain⟨u,us,rfl,h1,h2⟩:=hx
 obtain rfl:us=[]:=h2
 have h1:Rd m (.nlist (.int .i64)) l [u]:=h1
 obtain⟨h3,h4⟩:=h1
 by_cases h0:(l:List Int).length=0
 ·obtain rfl:l=[]:=zax h0
  obtain rfl:u=.slice none 0 0:=(zad (h4 rfl)).1
  refine(clone_nil w).mono λe w' ⟨e1,e2⟩=>⟨_,e1,e2,[_],rfl,_,_,rfl,⟨⟨none,0,rfl,zac _,by simp,λh=>absurd h (zbg _)⟩,λ_=>rfl⟩,rfl⟩
 ·obtain⟨A,c,rfl,hSI⟩:=rd_SI hm (show Rd m (.list (.int .i64)) l [u] from h3)
  refine(clone_any A _ c l w hSI hp).mono λe w' ⟨A',c',e1,e2,e3⟩=>⟨_,e1,e3,[_],rfl,_,_,rfl,⟨?_,λh=>absurd h h0⟩,rfl⟩
  exact x6m (x3r e2) (own_blk e2)
theorem yl6 {R:Type} (b:Bool) (x y:R):Det (λk:R->Prop=>(b=true->k x)/\(b=false->k y)):=λk H=>by
 cases b with
 | true=>grind
 | false=>grind
abbrev x8u:qa8:=
 {fresh:=true,own:=some 3,run:=λargs k=>qg4 [.nlist (.int .i64)] args λx=>need (x.1.length<=100000) λ_=>(x.1.isEmpty=true->k (.lit (.slice none 0 0)))/\(x.1.isEmpty=false->k (.dat (.int .i64) x.1)),
  one:=λargs k h=>(qd4 (qo9 [.nlist (.int .i64)] args) λx=>qg7 (yl6 x.1.isEmpty _ _)) k h }
theorem w0u:Meets Tryz.prog 48 x8u:=by
 refine⟨⟨_,_,Tryz.func48,rfl,rfl⟩,λw m args vs k hm hargs hrun=>?_⟩
 obtain⟨⟨l,⟨⟩⟩,⟨hp,hk⟩,hx⟩:=qj6 hrun hargs
 have hp:l.length<=100000:=hp
 have hk:(l.isEmpty=true->k (.lit (.slice none 0 0)))/\(l.isEmpty=false->k (.dat (.int .i64) l)):=hk
 obtain⟨u,us,rfl,h1,h2⟩:=hx
 obtain rfl:us=[]:=h2
 have h1:Rd m (.nlist (.int .i64)) l [u]:=h1
 obtain⟨h3,h4⟩:=h1
 by_cases h0:(l:List Int).length=0
 ·obtain rfl:l=[]:=zax h0
  obtain rfl:u=.slice none 0 0:=(zad (h4 rfl)).1
  refine(clone_nil w).mono λe w' ⟨e1,e2⟩=>?_
  exact⟨_,λ_=>none,e1,e2,(λb o h=>by cases h),(λb o h=>by cases h),.inr (.inl ⟨hk.1 rfl,rfl⟩)⟩
 ·obtain⟨A,c,rfl,hSI⟩:=rd_SI hm (show Rd m (.list (.int .i64)) l [u] from h3)
  refine(clone_any A l.length c l w hSI hp).mono λe w' ⟨A',c',e1,e2,e3⟩=>?_
  have he:l.isEmpty=false:=by grind
  exact⟨_,λ_=>none,e1,e3,(λb o h=>by cases h),(λb o h=>by cases h),.inl ⟨.int .i64,l,ints l,hk.2 he,e2,rdL_ints _ l,λ_ _=>rfl⟩⟩
abbrev q15:Ty:=.prod .bool (.list (.int .i64))
abbrev Frm:=Bool × List Int
theorem q00:Meets Tryz.prog 80 wm4:=by
 refine mt0 (SpecsOk.nil _) Tryz.func80 ?_
 rintro⟨n,lo,hi,⟨⟩⟩ -
 revert n lo hi
 intro(n:Int) (lo:Int) (hi:Int)
 refine vcs ((decide (lo<=n)=true->decide (n<=hi)=inB n lo hi)/\(decide (lo<=n)=false->false=inB n lo hi)) ?_
 grind [inB]
def x9k (n:Int):Bool:=inB n (0-1000) 1000
abbrev y2s:qa8:=qd9 true none [qc0] [.bool] (λ_=>True) (λx=>(!x9k x.1,()))
theorem xt6:Meets Tryz.prog 177 y2s:=by
 refine mt0 (SpecsOk.cons q00 (SpecsOk.nil _)) Tryz.func177 ?_
 rintro⟨n,⟨⟩⟩ -
 revert n
 intro(n:Int)
 refine vcs (True/\(!inB n (-1000:Int) (1000:Int))=!x9k n) ?_
 exact(zdz _).symm
def q55 (m:List (List Int)) (x:List Int):Bool:=decide (x.length=(nL m 0).length) && x.all x9k
abbrev y52:qa8:=qd9 true none [qf9,qe8] [.bool] (λx=>qb7 x.1=true) (λx=>(q55 x.1 x.2.1,()))
theorem w0v:Meets Tryz.prog 128 y52:=by
 refine mt0 (SpecsOk.cons (qy8 (fs:=[(177,y2s)]) (SpecsOk.cons xt6 (SpecsOk.nil _))) (SpecsOk.nil _)) Tryz.func128 ?_
 rintro⟨m,x,⟨⟩⟩ h
 revert m x
 intro(m:List (List Int)) (x:List Int) (h:qb7 m=true)
 refine vcs (((0:Int)<=(0:Int)/\(0:Int)<(↑m.length:Int))/\(((↑x.length:Int)==(↑(nL m (0:Nat)).length:Int))=true->∃(v1:qa3 [Ty.int .i64]->Prop),∃(v2:qa3 [Ty.int .i64]->Bool),(∀(v3:Int × qa3._f [] PUnit.unit),v1 v3->True/\(!x9k v3.1)=v2 v3)/\(x.length<=(1000000:Nat)/\∀(v3:Nat),v3<x.length->v1 (nI x v3,()))/\(!List.any x λ(v3:Int)=>v2 (v3,()))=q55 m x)/\(((↑x.length:Int)==(↑(nL m (0:Nat)).length:Int))=false->false=q55 m x)) ?_
 refine⟨by have:=(Mk.of h).rows1; omega,λhl=>⟨λ_=>True,λx=>!x9k x.1,λ_ _=>(zdz _).symm,⟨by have:=(Mk.of h).pix10; omega,λ_ _=>trivial⟩,?_⟩,λhl=>?_⟩
 all_goals grind [q55,decide_eq_true,nL,List.not_all_eq_any_not,decide_eq_false]
abbrev y2t:qa8:=hspec [] true none [.d qe8,.cap qf9] [.bool] (λx=>qb7 x.2.1=true) (λx=>(!q55 x.2.1 x.1,()))
theorem xt7:Meets Tryz.prog 127 y2t:=by
 refine qk7 (SpecsOk.nil _) (snd (SpecsOk.cons w0v (SpecsOk.nil _))) Tryz.func127 rfl rfl (λ_ _=>none) (λ_=>by kernel_rfl) dc ?_
 rintro⟨x,m,⟨⟩⟩ h
 revert x m
 intro(x:List Int) (m:List (List Int)) (h:qb7 m=true)
 refine vcr (qb7 m=true/\(!q55 m x)=!q55 m x) ?_
 grind
def vpB (m p:List (List Int)):Bool:=qb7 m && inB p.length 1 60 && p.all (q55 m)
abbrev sVP:qa8:=qd9 true none [qf9,qf9] [.bool] (λ_=>True) (λx=>(vpB x.1 x.2.1,()))
theorem x3m:Meets Tryz.prog 78 sVP:=by
 refine mt0 (SpecsOk.cons qs7 (SpecsOk.cons q00 (SpecsOk.cons (wv5 (fs:=[(127,y2t)]) (SpecsOk.cons xt7 (SpecsOk.nil _))) (SpecsOk.nil _)))) Tryz.func78 ?_
 rintro⟨m,p,⟨⟩⟩ -
 revert m p
 intro(m:List (List Int)) (p:List (List Int))
 refine vcs (True/\(qb7 m=true->True/\(inB (↑p.length:Int) (1:Int) (60:Int)=true->∃(v2:qa3 [Ty.list (Ty.int .i64)]->Prop),∃(v3:qa3 [Ty.list (Ty.int .i64)]->Bool),(∀(v4:List Int × qa3._f [] PUnit.unit),v2 v4->qb7 m=true/\(!q55 m v4.1)=v3 v4)/\(p.length<=(1000000:Nat)/\∀(v4:Nat),v4<p.length->v2 (nL p v4,()))/\(!List.any p λ(v4:List Int)=>v3 (v4,()))=vpB m p)/\(inB (↑p.length:Int) (1:Int) (60:Int)=false->false=vpB m p))/\(qb7 m=false->false=vpB m p)) ?_
 refine⟨λhv=>⟨λhl=>⟨λ_=>True,λx=>!q55 m x.1,λ_ _=>⟨hv,(zdz _).symm⟩,⟨by grind [qh5],λ_ _=>trivial⟩,?_⟩,λhl=>?_⟩,λhv=>?_⟩
 all_goals grind [vpB,List.not_all_eq_any_not]
def wc1 (a b:List Int) (k:Nat):List Int:=(List.range k).map λi=>nI b i-nI a i
def x48 (a b:List Int):List Int:=wc1 a b b.length
structure w52 (a b:List Int):Prop where
 le:b.length<=a.length
 len:b.length<=1000
 ba:∀i,i<b.length->qd8 100000 (nI a i)
 bb:∀i,i<b.length->qd8 100000 (nI b i)
theorem w0w (a b:List Int) (k:Nat):(wc1 a b k).length=k:=by simp[wc1]
abbrev y53:qa8:=qd9 true (some 3) [qe8,qe8] [qe8] (λx=>w52 x.1 x.2.1) (λx=>(x48 x.1 x.2.1,()))
def y0y (a b:List Int):Nat->Option Inv
 | 0=>some (Inv.of [5,10] 1 (λk:Nat=>[(5,.own 0),(10,.lit (.int .i64 k))]) (λk=>[.vec 3 (.int .i64) (wc1 a b k)]) (λk=>k<=b.length) (λk=>b.length-k))
 | _=>none
theorem xt8:Meets Tryz.prog 79 y53:=by
 refine mts (SpecsOk.nil _) Tryz.func79 (λx=>y0y x.1 x.2.1) ?_
 rintro⟨a,b,⟨⟩⟩ h
 revert a b
 intro(a:List Int) (b:List Int) (h:w52 a b)
 refine vcs (∃(v0:Unit),∃(v1:Nat),Nat.le v1 b.length/\((True/\(0:Int)=(↑v1:Int)/\True)/\wc1 a b v1=[]/\True)/\∀(v2:Nat),Nat.le v2 b.length->(decide ((↑v2:Int)<(↑b.length:Int))=true->((0:Int)<=(↑v2:Int)/\(↑v2:Int)<(↑b.length:Int))/\((0:Int)<=(↑v2:Int)/\(↑v2:Int)<(↑a.length:Int))/\fits .i64 (nI b v2-nI a v2)/\((0:Nat)<List.length [nI b v2-nI a v2]/\Nat.le ((wc1 a b v2).length+List.length [nI b v2-nI a v2]) (1000000:Nat))/\fits .i64 ((↑v2:Int)+(1:Int))/\∃(v5:Nat),Nat.le v5 b.length/\b.length-v5<b.length-v2/\(True/\(↑v2:Int)+(1:Int)=(↑v5:Int)/\True)/\wc1 a b v2++[nI b v2-nI a v2]=wc1 a b v5/\True)/\(decide ((↑v2:Int)<(↑b.length:Int))=false->wc1 a b v2=x48 a b)) ?_
 have hl:=h.len
 refine⟨(),0,zae _,⟨rfl,rfl⟩,λk hk=>⟨λhlt=>?_,λhge=>?_⟩⟩
 ·have h1:=h.ba k hlt
  have h2:=h.bb k hlt
  have h3:=h.le
  unfold qd8 at h1 h2
  exact⟨hlt,ow,qa6,by grind [w0w],qa6,k+1,hlt,ow,ow,by simp[wc1,List.range_succ]⟩
 ·obtain rfl:k=b.length:=ow
  rfl
structure Vp (m p:List (List Int)):Prop where
 msk:Mk m
 val:qb7 m=true
 lo:1<=p.length
 hi:p.length<=60
 len:∀i,i<p.length->(nL p i).length=(nL m 0).length
 bd:∀i,i<p.length->∀j,j<(nL m 0).length->qd8 1000 (nI (nL p i) j)
theorem Vp.of {m p:List (List Int)} (h:vpB m p=true):Vp m p:=by
 unfold vpB at h
 rw[zaz,zaz,qh5,zan] at h
 obtain⟨⟨h1,h2⟩,h3⟩:=h
 have h4:∀i,i<p.length->(nL p i).length=(nL m 0).length/\∀n∈nL p i,x9k n=true:=λi hi=>by
  have:=h3 (nL p i) (by grind [qp2,hi,List.getElem_mem])
  simp_all [q55,Bool.and_eq_true,decide_eq_true_eq,List.all_eq_true]
 refine⟨Mk.of h1,h1,ow,ow,λi hi=>(h4 i hi).1,λi hi j hj=>?_⟩
 have h5:=(h4 i hi).2 (nI (nL p i) j) (by grind [qg5,hi,List.getElem_mem])
 have h6:=qh5.1 h5
 omega
theorem Vp.chg {m p:List (List Int)} (h:Vp m p) {i j:Nat} (hi:i<p.length) (hj:j<p.length):w52 (nL p i) (nL p j):=by
 have h1:=h.len i hi
 have h2:=h.len j hj
 have h3:=h.msk.pix10
 refine⟨ow,ow,λk hk=>?_,λk hk=>?_⟩
 ·have:=h.bd i hi k ow; omega
 ·have:=h.bd j hj k ow; omega
def x8v (m p:List (List Int)) (e:Nat) (i:Nat):Frm:=if i % e=0 then(true,nL p i) else(false,(qn2 m (x48 (nL p (i-1)) (nL p i))).1)
def qr0 (m p:List (List Int)) (e:Nat) (k:Nat):List Frm:=(List.range k).map (x8v m p e)
structure w53 (m p:List (List Int)) (e:Int):Prop where
 ok:vpB m p=true
 lo:1<=e
 hi:e<=60
theorem wb0 (m p:List (List Int)) (e k:Nat):(qr0 m p e k).length=k:=by simp[qr0]
abbrev y54:qa8:=qd9 false none [qf9,qf9,qc0] [.list q15] (λx=>w53 x.1 x.2.1 x.2.2.1) (λx=>(qr0 x.1 x.2.1 x.2.2.1.toNat x.2.1.length,()))
def y0z (m p:List (List Int)) (e:Nat):Nat->Option Inv
 | 0=>some (Inv.of [7,13] 1 (λk:Nat=>[(7,.own 0),(13,.lit (.int .i64 k))]) (λk=>[.vec 158 q15 (qr0 m p e k)]) (λk=>k<=p.length) (λk=>p.length-k))
 | _=>none
theorem xt9:Meets Tryz.prog 81 y54:=by
 refine mts (SpecsOk.cons w0s (SpecsOk.cons xt8 (SpecsOk.cons q2s (SpecsOk.nil _)))) Tryz.func81 (λx=>y0z x.1 x.2.1 x.2.2.1.toNat) ?_
 rintro⟨m,p,e,⟨⟩⟩ h
 revert m p e
 intro(m:List (List Int)) (p:List (List Int)) (e:Int) (h:w53 m p e)
 refine vcs (∃(v0:Unit),∃(v1:Nat),Nat.le v1 p.length/\((True/\(0:Int)=(↑v1:Int)/\True)/\qr0 m p e.toNat v1=[]/\True)/\∀(v2:Nat),Nat.le v2 p.length->(decide ((↑v2:Int)<(↑p.length:Int))=true->((0:Int)<=(↑v2:Int)/\(↑v2:Int)<(↑p.length:Int))/\e≠(0:Int)/\(nL p v2).length<=(100000:Nat)/\((!Int.tmod (↑v2:Int) e==(0:Int))=true->fits .i64 ((↑v2:Int)-(1:Int))/\((0:Int)<=(↑v2:Int)-(1:Int)/\(↑v2:Int)-(1:Int)<(↑p.length:Int))/\w52 (nL p ((↑v2:Int)-(1:Int)).toNat) (nL p v2)/\(x48 (nL p ((↑v2:Int)-(1:Int)).toNat) (nL p v2)).length<=(1000000:Nat)/\((0:Nat)<List.length [(Int.tmod (↑v2:Int) e==(0:Int),(qn2 m (x48 (nL p ((↑v2:Int)-(1:Int)).toNat) (nL p v2))).1)]/\Nat.le ((qr0 m p e.toNat v2).length+List.length [(Int.tmod (↑v2:Int) e==(0:Int),(qn2 m (x48 (nL p ((↑v2:Int)-(1:Int)).toNat) (nL p v2))).1)]) (1000000:Nat))/\fits .i64 ((↑v2:Int)+(1:Int))/\∃(v6:Nat),Nat.le v6 p.length/\p.length-v6<p.length-v2/\(True/\(↑v2:Int)+(1:Int)=(↑v6:Int)/\True)/\qr0 m p e.toNat v2++[(Int.tmod (↑v2:Int) e==(0:Int),(qn2 m (x48 (nL p ((↑v2:Int)-(1:Int)).toNat) (nL p v2))).1)]=qr0 m p e.toNat v6/\True)/\((!Int.tmod (↑v2:Int) e==(0:Int))=false->((0:Nat)<List.length [(Int.tmod (↑v2:Int) e==(0:Int),nL p v2)]/\Nat.le ((qr0 m p e.toNat v2).length+List.length [(Int.tmod (↑v2:Int) e==(0:Int),nL p v2)]) (1000000:Nat))/\fits .i64 ((↑v2:Int)+(1:Int))/\∃(v6:Nat),Nat.le v6 p.length/\p.length-v6<p.length-v2/\(True/\(↑v2:Int)+(1:Int)=(↑v6:Int)/\True)/\qr0 m p e.toNat v2++[(Int.tmod (↑v2:Int) e==(0:Int),nL p v2)]=qr0 m p e.toNat v6/\True))/\(decide ((↑v2:Int)<(↑p.length:Int))=false->qr0 m p e.toNat v2=qr0 m p e.toNat p.length)) ?_
 have hv:=Vp.of h.ok
 have p60:=hv.hi
 have lo:=h.lo
 have hi:=h.hi
 refine⟨(),0,zae _,⟨rfl,rfl⟩,λk hk=>⟨λhlt=>?_,λhge=>?_⟩⟩
 ·have hl:=hv.len k hlt
  have p10:=hv.msk.pix10
  have el:=wb0 m p e.toNat k
  have hsn:qr0 m p e.toNat (k+1)=qr0 m p e.toNat k++[x8v m p e.toNat k]:=by simp[qr0,List.range_succ]
  have htm:(k:Int).tmod e=((k % e.toNat:Nat):Int):=by
   grind
  rw[htm]
  refine⟨hlt,ow,ow,λh0=>?_,λh0=>?_⟩
  ·have hk0:k≠0:=λe0=>h0 (by simp_all)
   have e1:((k:Int)-1).toNat=k-1:=ow
   have hc:=hv.chg (i:=k-1) (j:=k) ow hlt
   have hcl:(x48 (nL p (k-1)) (nL p k)).length=(nL p k).length:=w0w _ _ _
   rw[e1]
   refine⟨qa6,⟨ow,ow⟩,hc,ow,ow,qa6,k+1,hlt,ow,ow,?_⟩
   rw[hsn,x8v,zaj (λq=>h0 ow)]
   grind
  ·refine⟨ow,qa6,k+1,hlt,ow,ow,?_⟩
   have h1:k % e.toNat=0:=ow
   simp_all [x8v,if_pos]
 grind
abbrev y55:qa8:=q62 (q1r [qf9,qe8,qc0]) true (some 24) (some 3) (λx=>q4q x.1 x.2.1 x.2.2.1=0->w18 x.1 x.2.1 x.2.2.1) (λx=>.tup (.cons (.dat (.list (.int .i64)) (ql9 x.1 x.2.1 x.2.2.1).1) (.cons (.lit (.int .i64 (ql9 x.1 x.2.1 x.2.2.1).2)) .nil)))
def x49 (m:List (List Int)) (out:List (List Int)):List AObj:=[.box 23 (.cons (.dat (.list (.int .i64)) m) .nil),.box 121 (.cons (.clo 273 .nil) .nil),.box 22 (.cons (.msl 3 .none) .nil),.mat 24 3 (.int .i64) out .none .none]
def y00 (m:List (List Int)) (L:List Fit):Nat->Option Inv
 | 0=>some (Inv.of [] 4 (λ_=>[]) (λc:Nat=>x49 m (whL (nL m 0).length (L.take c))) (λc=>c<=L.length) (λc=>c))
 | 1=>some (Eng.Inv.mk (Nat × Fit) Nat [12,13,37] 6 (λq i=>[(12,.own 5),(13,.lit (.bool (whB q.2 i))),(37,.lit (.int .i64 i))]) (λq i=>x49 m (whL (nL m 0).length (L.take q.1))++[.box 55 (.cons (.dat (.int .i64) q.2.1) (.cons (.dat qv9 q.2.2) .nil)),.vec 3 (.int .i64) (whX (nL m 0).length q.2 i)]) (λq i=>i<=q.2.1.length) (λq i=>q.2.1.length-i))
 | _=>none
theorem xu0:Meets Tryz.prog 235 y55:=by
 refine q6i (x6z [65] [] (SpecsOk.cons ww4 (SpecsOk.cons q9f (SpecsOk.cons xi6 (SpecsOk.nil _)))) MutsOk.nil (ItsOk.cons wh4 ItsOk.nil)) Tryz.func235 rfl rfl (qm4 _) (λx=>y00 x.1 (qe0 x.1 x.2.1 x.2.2.1)) (λ_=>by kernel_rfl) dc ?_
 rintro⟨m,y,k,⟨⟩⟩ h
 revert m y k
 intro(m:List (List Int)) (y:List Int) (k:Int) (h:q4q m y k=0->w18 m y k)
 refine vcs (let Q0:=qe0 m y k; let Q1:=ql9 m y k; True/\((q4q m y k != (0:Int))=true->Q1.1=[]/\q4q m y k=Q1.2/\True)/\((q4q m y k != (0:Int))=false->True/\q9c m y k/\∃(v1:Unit),∃(v2:Nat),Nat.le v2 Q0.length/\v2=(0:Nat)/\((m=m/\True)/\(True/\True)/\(True/\True)/\whL (nL m (0:Nat)).length (List.take v2 Q0)=[]/\True)/\∀(v3:Nat),Nat.le v3 Q0.length->(∀(v5:(List Int × List (Int × Int)) × qa3._f [] PUnit.unit),(List.map (λ(v7:List Int × List (Int × Int))=>(v7,())) Q0)[v3]?=some v5->((0:Int)<=(0:Int)/\(0:Int)<(↑m.length:Int))/\((↑(nL m (0:Nat)).length:Int)=(↑(nL m (0:Nat)).length:Int)/\(0:Int)<=(↑(nL m (0:Nat)).length:Int)/\(↑(nL m (0:Nat)).length:Int)<=(1000000:Int))/\∃(v7:Nat × Fit),∃(v8:Nat),Nat.le v8 v7.2.1.length/\((True/\true=whB v7.2 v8/\(0:Int)=(↑v8:Int)/\True)/\(m=m/\True)/\(True/\True)/\(True/\True)/\(whL (nL m (0:Nat)).length (List.take v3 Q0)=whL (nL m (0:Nat)).length (List.take v7.1 Q0)/\True/\True)/\(v5.1.1=v7.2.1/\v5.1.2=v7.2.2/\True)/\List.replicate (↑(nL m (0:Nat)).length:Int).toNat (Ty.dflt (TI.ty T3))=whX (nL m (0:Nat)).length v7.2 v8/\True)/\∀(v9:Nat),Nat.le v9 v7.2.1.length->(decide ((↑v9:Int)<(↑v5.1.1.length:Int))=true->((0:Int)<=(↑v9:Int)/\(↑v9:Int)<(↑v5.1.1.length:Int))/\((0:Int)<=(↑v9:Int)/\(↑v9:Int)<(↑v7.2.2.length:Int))/\(whB v7.2 v9=true->((0:Int)<=(↑v9:Int)/\(↑v9:Int)<(↑v7.2.2.length:Int))/\True/\((0:Int)<=nI v5.1.1 v9/\nI v5.1.1 v9<(↑(whX (nL m (0:Nat)).length v7.2 v9).length:Int))/\(nI v5.1.1 v9).toNat<(whX (nL m (0:Nat)).length v7.2 v9).length/\fits .i64 ((↑v9:Int)+(1:Int))/\∃(v13:Nat),Nat.le v13 v7.2.1.length/\v7.2.1.length-v13<v7.2.1.length-v9/\(True/\shB ((qf0 qv9 v7.2.2 v9).1,(qf0 qv9 v7.2.2 v9).2)=whB v7.2 v13/\(↑v9:Int)+(1:Int)=(↑v13:Int)/\True)/\(m=m/\True)/\(True/\True)/\(True/\True)/\(whL (nL m (0:Nat)).length (List.take v7.1 Q0)=whL (nL m (0:Nat)).length (List.take v7.1 Q0)/\True/\True)/\(v7.2.1=v7.2.1/\v7.2.2=v7.2.2/\True)/\List.set (whX (nL m (0:Nat)).length v7.2 v9) (nI v5.1.1 v9).toNat (qf0 qv9 v7.2.2 v9).1=whX (nL m (0:Nat)).length v7.2 v13/\True)/\(whB v7.2 v9=false->((0:Int)<=nI v5.1.1 v9/\nI v5.1.1 v9<(↑(whX (nL m (0:Nat)).length v7.2 v9).length:Int))/\(nI v5.1.1 v9).toNat<(whX (nL m (0:Nat)).length v7.2 v9).length/\fits .i64 ((↑v9:Int)+(1:Int))/\∃(v13:Nat),Nat.le v13 v7.2.1.length/\v7.2.1.length-v13<v7.2.1.length-v9/\(True/\false=whB v7.2 v13/\(↑v9:Int)+(1:Int)=(↑v13:Int)/\True)/\(m=m/\True)/\(True/\True)/\(True/\True)/\(whL (nL m (0:Nat)).length (List.take v7.1 Q0)=whL (nL m (0:Nat)).length (List.take v7.1 Q0)/\True/\True)/\(v7.2.1=v7.2.1/\v7.2.2=v7.2.2/\True)/\List.set (whX (nL m (0:Nat)).length v7.2 v9) (nI v5.1.1 v9).toNat (qf0 qv9 v7.2.2 v9).1=whX (nL m (0:Nat)).length v7.2 v13/\True))/\(decide ((↑v9:Int)<(↑v5.1.1.length:Int))=false->(whB v7.2 v9=true->((0:Nat)<(0:Nat)+(1:Nat)/\(whL (nL m (0:Nat)).length (List.take v7.1 Q0)).length+((0:Nat)+(1:Nat))<=(1000000:Nat))/\∃(v13:Nat),Nat.le v13 Q0.length/\v13=v3+(1:Nat)/\(m=m/\True)/\(True/\True)/\(True/\True)/\(whL (nL m (0:Nat)).length (List.take v7.1 Q0)++[whX (nL m (0:Nat)).length v7.2 v9]=whL (nL m (0:Nat)).length (List.take v13 Q0)/\True/\True)/\True)/\(whB v7.2 v9=false->∃(v13:Nat),Nat.le v13 Q0.length/\v13=v3+(1:Nat)/\(m=m/\True)/\(True/\True)/\(True/\True)/\(whL (nL m (0:Nat)).length (List.take v7.1 Q0)=whL (nL m (0:Nat)).length (List.take v13 Q0)/\True/\True)/\True)))/\(v3=(List.map (λ(v6:List Int × List (Int × Int))=>(v6,())) Q0).length->whL (nL m (0:Nat)).length (List.take v3 Q0)=Q1.1/\(0:Int)=Q1.2/\True))) ?_
 refine⟨λhe=>by grind [ql9],λhe=>?_⟩
 have hw:=h he
 have hlen:=hw.pre.len
 have hea:=hw.each
 have hone:=hw.pre.pre.one
 have hpx:=hw.pre.pre.pix
 have hR:ql9 m y k=(whL (nL m 0).length (qe0 m y k),0):=by rw[ql9,zap he]
 refine⟨hw.pre.pre,(),0,zae _,rfl,rfl,?_⟩
 rw[hR]
 generalize qe0 m y k=L at hlen hea ⊢
 rintro c hc
 refine⟨?_,λhfin=>?_⟩
 ·rintro⟨f,⟨⟩⟩ hf
  rw[zbm] at hf
  obtain⟨f',h1,h2⟩:=zb5.1 hf
  obtain rfl:f'=f:=za2 Prod.fst h2
  have hlt:=(zag.1 h1).1
  have hfi:=hea f' (zah h1)
  have hf1:=hfi.len
  have hf2:=hfi.lenB
  have hsn:=x07 (nL m 0).length h1
  have hwl:(whL (nL m 0).length (L.take c)).length<=c:=by
   have h3:=zd6 (λf:Fit=>if whB f f.1.length=true then some (whX (nL m 0).length f f.1.length) else none) (L.take c)
   grind [whL,nL,List.length_take]
  dsimp only
  refine⟨ow,ow,(c,f'),0,zae _,⟨⟨rfl,rfl⟩,rfl,⟨rfl,rfl⟩,rfl⟩,λi hi=>⟨λhlt2=>?_,λhge=>?_⟩⟩
  ·have hat:=hfi.at_ i hlt2
   have hxl:=q5t (nL m 0).length f' i
   dsimp only at hi ⊢
   rw[hxl]
   refine⟨hlt2,ow,λhb=>⟨ow,hat,ow,qa6,i+1,hlt2,ow,⟨?_,ow⟩,rfl⟩,λhb=>⟨hat,ow,qa6,i+1,hlt2,ow,⟨?_,ow⟩,rfl⟩⟩
   ·rw[whB,hb,Bool.true_and]; rfl
   ·rw[whB,hb,Bool.false_and]
  grind
 grind
abbrev y01:qa8:=qd9 true none [q15] [.bool] (λ_=>True) (λx=>(decide (x.1.2.length=0),()))
theorem w88:Meets Tryz.prog 234 y01:=by
 refine mt0 (SpecsOk.nil _) Tryz.func234 ?_
 rintro⟨⟨b,l⟩,⟨⟩⟩ -
 revert b l
 intro(b:Bool) (l:List Int)
 refine vcr (((↑l.length:Int)==(0:Int))=decide (l.length=(0:Nat))) ?_
 grind
def qt3 (a b:List Int):Nat->List Int
 | 0=>a
 | k+1=>(qt3 a b k).set k (nI (qt3 a b k) k+nI b k)
def nextL (m:List (List Int)) (b:List Int) (f:Frm) (t:Int):List Int:=
 if f.2.length=0 then[] else if f.1=true then f.2 else if b=[] then[]
 else if(ql9 m f.2 t).2=0/\(ql9 m f.2 t).1.length=1 then(if q55 m (qt3 (nL (ql9 m f.2 t).1 0) b b.length) then qt3 (nL (ql9 m f.2 t).1 0) b b.length else[])
 else[]
structure w26 (m:List (List Int)) (b:List Int) (f:Frm) (t:Int):Prop where
 val:qb7 m=true
 before:b=[]\/q55 m b=true
 len:f.2.length<=100000
 wh:f.1=false->q4q m f.2 t=0->w18 m f.2 t
theorem w0x (l:List Int) {p q:Nat} (h:q≠p) (x:Int):nI (l.set p x) q=nI l q:=by
 simp_all [nI,qf0,List.getD_eq_getElem?_getD,List.getElem?_set_ne,Ne.symm]
theorem w0y (a b:List Int):∀k,(qt3 a b k).length=a.length
 | 0=>rfl
 | k+1=>by rw[qt3,zba,w0y a b k]
theorem wp7 (a b:List Int):∀(k c:Nat),k<=c->nI (qt3 a b k) c=nI a c
 | 0,c,_=>rfl
 | k+1,c,h=>by rw[qt3,w0x _ ow,wp7 a b k c ow]
theorem x3n {m:List (List Int)} {x:List Int} (h:q55 m x=true):x.length=(nL m 0).length/\∀j,j<x.length->qd8 1000 (nI x j):=by
 unfold q55 at h
 rw[zaz,zbd,zan] at h
 refine⟨h.1,λj hj=>?_⟩
 have:=qh5.1 (h.2 (nI x j) (by grind [qg5,List.getElem_mem]))
 omega
theorem x5b (n:Nat) (f:Fit):∀i,whB f i=true->∀c,c<n->qd8 1000000 (nI (whX n f i) c)
 | 0,_,c,hc=>by
  simp_all [qg5,q5t,whX,List.getElem_replicate,qd8]
 | i+1,h,c,hc=>by
  rw[whB,zaz] at h
  by_cases e:c=(nI f.1 i).toNat
  ·have h2:=h.2
   unfold shB at h2
   rw[zaz] at h2
   have h3:=qh5.1 h2.2
   simp_all [whX,qg5,List.length_set,q5t,List.getElem_set_self,qd8]
  ·rw[whX,w0x _ e]
   exact x5b n f i h.1 c hc
theorem xu1 {m:List (List Int)} {y:List Int} {k:Int} {r:List Int} (h:r∈(ql9 m y k).1):r.length=(nL m 0).length/\∀c,c<r.length->qd8 1000000 (nI r c):=by
 unfold ql9 at h
 split at h
 ·unfold whL at h
  obtain⟨f,_,h2⟩:=zcu.1 h
  split at h2
  ·rename_i hb
   obtain rfl:=zaa h2
   exact⟨q5t _ _ _,λc hc=>x5b _ f _ hb c (by grind [q5t])⟩
  grind
 grind
theorem x3o {m:List (List Int)} {b:List Int} {l:List Int} {t:Int} (h0:¬l.length=0) (hb:b.isEmpty=false) (hw:(ql9 m l t).2=0/\(ql9 m l t).1.length=1) :
  nextL m b (false,l) t=if q55 m (qt3 (nL (ql9 m l t).1 0) b b.length) then qt3 (nL (ql9 m l t).1 0) b b.length else[]:=by
 simp_all [nextL,if_neg,if_pos]
abbrev y02:qa8:=qd9 false none [qf9,.nlist qc0,q15,qc0] [.nlist qc0] (λx=>w26 x.1 x.2.1 x.2.2.1 x.2.2.2.1) (λx=>(nextL x.1 x.2.1 x.2.2.1 x.2.2.2.1,()))
def yl7 (m:List (List Int)) (b:List Int) (f:Frm) (t:Int):Nat->Option Inv
 | 0=>some (Inv.of [11,49] 2 (λk:Nat=>[(11,.msl 1 (some 0)),(49,.lit (.int .i64 k))]) (λk=>[.box 202 (.cons (.lit (.bool f.1)) (.cons (.dat (.int .i64) f.2) .nil)),.mat 24 3 (.int .i64) [qt3 (nL (ql9 m f.2 t).1 0) b k] .none .none]) (λk=>k<=b.length) (λk=>b.length-k))
 | _=>none
theorem w89:Meets Tryz.prog 179 y02:=by
 refine meets (x6z [] [] (SpecsOk.cons w88 (SpecsOk.cons w0t (SpecsOk.cons xu0 (SpecsOk.cons w0v (SpecsOk.nil _))))) MutsOk.nil ItsOk.nil) Tryz.func179 rfl rfl (λx=>yl7 x.1 x.2.1 x.2.2.1 x.2.2.2.1) (λ_=>by kernel_rfl) dc ?_
 rintro⟨m,b,⟨key,l⟩,t,⟨⟩⟩ h
 revert m b key l t
 intro(m:List (List Int)) (b:List Int) (key:Bool) (l:List Int) (t:Int) (h:w26 m b (key,l) t)
 refine vcs (let Q0:=ql9 m l t; let Q1:=qe3 Q0.1.length none; True/\(decide (l.length=(0:Nat))=true->nextL m b (key,l) t=[])/\(decide (l.length=(0:Nat))=false->(key=true->(0:Nat)<l.length/\l.length<=(100000:Nat)/\l=nextL m b (key,l) t)/\(key=false->(List.isEmpty b=true->nextL m b (key,l) t=[])/\(List.isEmpty b=false->(q4q m l t=(0:Int)->w18 m l t)/\((Q0.2 != (0:Int))=true->nextL m b (key,l) t=[])/\((Q0.2 != (0:Int))=false->(((↑Q1:Int) != (1:Int))=true->nextL m b (key,l) t=[])/\(((↑Q1:Int) != (1:Int))=false->((0:Int)<=(0:Int)/\(0:Int)<(↑Q1:Int))/\(0:Nat)<qe3 Q0.1.length none/\∃(v5:Unit),∃(v6:Nat),Nat.le v6 b.length/\((some (0:Nat)=some (0:Nat)/\(0:Int)=(↑v6:Int)/\True)/\(key=key/\l=l/\True)/\(Q0.1=[qt3 (nL Q0.1 (0:Nat)) b v6]/\True/\True)/\True)/\∀(v7:Nat),Nat.le v7 b.length->(decide ((↑v7:Int)<(↑b.length:Int))=true->((0:Int)<=(↑v7:Int)/\(↑v7:Int)<(↑b.length:Int))/\((0:Int)<=(↑v7:Int)/\(↑v7:Int)<(↑(nL [qt3 (nL Q0.1 (0:Nat)) b v7] (0:Nat)).length:Int))/\v7<(nL [qt3 (nL Q0.1 (0:Nat)) b v7] (0:Nat)).length/\fits .i64 (nI (nL [qt3 (nL Q0.1 (0:Nat)) b v7] (0:Nat)) v7+qf0 qc0 b v7)/\((0:Int)<=(↑v7:Int)/\(↑v7:Int)<(↑(nL [qt3 (nL Q0.1 (0:Nat)) b v7] (0:Nat)).length:Int))/\v7<(nL [qt3 (nL Q0.1 (0:Nat)) b v7] (0:Nat)).length/\fits .i64 ((↑v7:Int)+(1:Int))/\∃(v10:Nat),Nat.le v10 b.length/\b.length-v10<b.length-v7/\(some (0:Nat)=some (0:Nat)/\(↑v7:Int)+(1:Int)=(↑v10:Int)/\True)/\(key=key/\l=l/\True)/\(List.set [qt3 (nL Q0.1 (0:Nat)) b v7] (0:Nat) (List.set (nL [qt3 (nL Q0.1 (0:Nat)) b v7] (0:Nat)) v7 (nI (nL [qt3 (nL Q0.1 (0:Nat)) b v7] (0:Nat)) v7+qf0 qc0 b v7))=[qt3 (nL Q0.1 (0:Nat)) b v10]/\True/\True)/\True)/\(decide ((↑v7:Int)<(↑b.length:Int))=false->qb7 m=true/\((!q55 m (nL [qt3 (nL Q0.1 (0:Nat)) b v7] (0:Nat)))=true->nextL m b (key,l) t=[])/\((!q55 m (nL [qt3 (nL Q0.1 (0:Nat)) b v7] (0:Nat)))=false->nL [qt3 (nL Q0.1 (0:Nat)) b v7] (0:Nat)=nextL m b (key,l) t/\Nat.le (1:Nat) (nL [qt3 (nL Q0.1 (0:Nat)) b v7] (0:Nat)).length)))))))) ?_
 refine⟨λh0=>zap h0,λh0=>⟨λhk=>⟨ow,h.len,?_⟩,λhk=>⟨λhb=>?_,λhb=>?_⟩⟩⟩
 ·simp_all [nextL,if_neg,if_pos]
 ·simp_all [nextL,if_neg,if_pos,List.isEmpty_iff]
 subst hk
 have hno:¬((ql9 m l t).2=0/\(ql9 m l t).1.length=1)->nextL m b (false,l) t=[]:=λhn=>by
  simp_all [nextL,if_neg]
 refine⟨h.wh rfl,λhe=>hno λq=>he q.1,λhe=>?_⟩
 simp only[qe3,qe9]
 refine⟨λhn=>hno λq=>hn ow,λhn=>⟨ow,ow,(),0,zae _,⟨rfl,?_⟩,λk hk=>?_⟩⟩
 ·show _=[nL _ 0]
  obtain⟨r,hr⟩:=zcr.1 (show(ql9 m l t).1.length=1 by omega)
  rw[hr]; rfl
 have hpb:q55 m b=true:=by
  rcases h.before with e | e
  all_goals grind
 obtain⟨hbl,hbb⟩:=x3n hpb
 have hM:=Mk.of h.val
 have p1:=hM.pix1
 have p10:=hM.pix10
 obtain⟨hrl,hrb⟩:=xu1 (show nL (ql9 m l t).1 0∈(ql9 m l t).1 by grind [qp2,List.getElem_mem])
 simp only[w0y]
 refine⟨λhlt=>?_,λhge=>?_⟩
 ·have h1:=hbb k hlt
  have h2:=hrb k ow
  rw[wp7 _ _ k k (zac k)]
  unfold qd8 at h1 h2
  exact⟨hlt,ow,ow,qa6,ow,ow,qa6,k+1,hlt,ow,ow,by simp_all [qt3,wp7,Nat.le_refl]⟩
 ·obtain rfl:k=b.length:=ow
  have hn':=x3o (m:=m) h0 hb ⟨he,ow⟩
  exact⟨h.val,λhp=>by grind,λhp=>⟨by grind,ow⟩⟩
abbrev nFr (F:List Frm) (i:Nat):Frm:=qf0 (.prod .bool (.list (.int .i64))) F i
def qs3 (m:List (List Int)) (F:List Frm) (t:Int):Nat->List Int
 | 0=>[]
 | k+1=>nextL m (qs3 m F t k) (nFr F k) t
def xu2 (m:List (List Int)) (F:List Frm) (t:Int):Prop:=∀i,i<F.length->(nFr F i).1=false->q4q m (nFr F i).2 t=0->w18 m (nFr F i).2 t
structure w0z (F:List Frm) (m:List (List Int)) (t:Int):Prop where
 val:qb7 m=true
 size:F.length<=1000000
 len:∀i,i<F.length->(nFr F i).2.length<=100000
 key:∀i,i<F.length->(nFr F i).1=true->q55 m (nFr F i).2=true
 wh:xu2 m F t
abbrev y56 (i:Nat) (l:List Int):qa3 [qc0,.nlist qc0]:=((i:Int),l,())
def xv8 (F:List Frm) (m:List (List Int)) (t:Int):List (qa3 [qc0,.nlist qc0]):=(List.range F.length).map λi=>y56 i (qs3 m F t (i+1))
abbrev y03:q1b:=w1o [.list q15,qf9,qc0] [qc0,.nlist qc0] (λx=>w0z x.1 x.2.1 x.2.2.1) (λx=>xv8 x.1 x.2.1 x.2.2.1)
def y04 (F:List Frm) (m:List (List Int)) (t:Int):Nat->Option Inv
 | 0=>some (Inv.of [5,8,10] 1 (λk:Nat=>[(5,.ndat false (.int .i64) (qs3 m F t k)),(8,.dat (.prod .bool (.list (.int .i64))) F),(10,.lit (.int .i64 k))]) (λk=>[.cnt (some k)]) (λk=>k<=F.length) (λk=>F.length-k))
 | _=>none
theorem w54 {m:List (List Int)} {b:List Int} {f:Frm} {t:Int} (hk:f.1=true->q55 m f.2=true):nextL m b f t=[]\/q55 m (nextL m b f t)=true:=by
 unfold nextL
 grind
theorem w55 {F:List Frm} {m:List (List Int)} {t:Int} (h:w0z F m t):∀k,k<=F.length->qs3 m F t k=[]\/q55 m (qs3 m F t k)=true
 | 0,_=>.inl rfl
 | k+1,hk=>w54 (h.key k hk)
theorem w56 {m:List (List Int)} {x:List Int} (h:q55 m x=true):x.length=(nL m 0).length:=by
 simp_all [q55,Bool.and_eq_true,decide_eq_true_eq]
theorem xu3:q02 Tryz.prog 178 y03:=by
 refine says (snd (SpecsOk.cons w89 (SpecsOk.cons w0u (SpecsOk.nil _)))) Tryz.func178 rfl rfl rfl [21] (λx=>y04 x.1 x.2.1 x.2.2.1) (λ_=>by kernel_rfl) dc ?_
 rintro⟨F,m,t,⟨⟩⟩ l h
 revert F m t
 intro(F:List Frm) (m:List (List Int)) (t:Int) (h:w0z F m t)
 refine vcs (let Q0:=(F,m,t,PUnit.unit); let Q1:=xv8 F m t; ∃(v0:Unit),∃(v1:Nat),Nat.le v1 F.length/\((qs3 m F t v1=[]/\F=F/\(0:Int)=(↑v1:Int)/\True)/\some (0:Nat)=some v1/\True)/\∀(v2:Nat),Nat.le v2 F.length->(decide ((↑v2:Int)<(↑F.length:Int))=true->((0:Int)<=(↑v2:Int)/\(↑v2:Int)<(↑F.length:Int))/\w26 m (qs3 m F t v2) ((qf0 (Ty.prod Ty.bool (Ty.list (Ty.int .i64))) F v2).1,(qf0 (Ty.prod Ty.bool (Ty.list (Ty.int .i64))) F v2).2) t/\(nextL m (qs3 m F t v2) ((qf0 (Ty.prod Ty.bool (Ty.list (Ty.int .i64))) F v2).1,(qf0 (Ty.prod Ty.bool (Ty.list (Ty.int .i64))) F v2).2) t).length<=(100000:Nat)/\(List.isEmpty (nextL m (qs3 m F t v2) ((qf0 (Ty.prod Ty.bool (Ty.list (Ty.int .i64))) F v2).1,(qf0 (Ty.prod Ty.bool (Ty.list (Ty.int .i64))) F v2).2) t)=true->Value.slice none (0:Nat) (0:Nat)=Value.slice none (0:Nat) (0:Nat)/\Value.func (Fn.yield l) #[] #[]=Value.func (Fn.yield (qh4.l (q08 [Ty.list q15,qf9,qc0] [qc0,Ty.nlist qc0] [(21:Nat)] Q0 Q1 l))) #[] #[]/\Value.slice none (0:Nat) (0:Nat)=Value.slice none (0:Nat) (0:Nat)/\(qh4.L (q08 [Ty.list q15,qf9,qc0] [qc0,Ty.nlist qc0] [(21:Nat)] Q0 Q1 l))[v2]?=some ((↑v2:Int),[],())/\(fits .i64 ((↑v2:Int)+(1:Int))/\∃(v6:Nat),Nat.le v6 F.length/\F.length-v6<F.length-v2/\(nextL m (qs3 m F t v2) ((qf0 (Ty.prod Ty.bool (Ty.list (Ty.int .i64))) F v2).1,(qf0 (Ty.prod Ty.bool (Ty.list (Ty.int .i64))) F v2).2) t=qs3 m F t v6/\F=F/\(↑v2:Int)+(1:Int)=(↑v6:Int)/\True)/\some (v2+(1:Nat))=some v6/\True)/\True)/\(List.isEmpty (nextL m (qs3 m F t v2) ((qf0 (Ty.prod Ty.bool (Ty.list (Ty.int .i64))) F v2).1,(qf0 (Ty.prod Ty.bool (Ty.list (Ty.int .i64))) F v2).2) t)=false->Value.func (Fn.yield l) #[] #[]=Value.func (Fn.yield (qh4.l (q08 [Ty.list q15,qf9,qc0] [qc0,Ty.nlist qc0] [(21:Nat)] Q0 Q1 l))) #[] #[]/\(0:Nat)<(nextL m (qs3 m F t v2) ((qf0 (Ty.prod Ty.bool (Ty.list (Ty.int .i64))) F v2).1,(qf0 (Ty.prod Ty.bool (Ty.list (Ty.int .i64))) F v2).2) t).length/\(qh4.L (q08 [Ty.list q15,qf9,qc0] [qc0,Ty.nlist qc0] [(21:Nat)] Q0 Q1 l))[v2]?=some ((↑v2:Int),nextL m (qs3 m F t v2) ((qf0 (Ty.prod Ty.bool (Ty.list (Ty.int .i64))) F v2).1,(qf0 (Ty.prod Ty.bool (Ty.list (Ty.int .i64))) F v2).2) t,())/\(fits .i64 ((↑v2:Int)+(1:Int))/\∃(v6:Nat),Nat.le v6 F.length/\F.length-v6<F.length-v2/\(nextL m (qs3 m F t v2) ((qf0 (Ty.prod Ty.bool (Ty.list (Ty.int .i64))) F v2).1,(qf0 (Ty.prod Ty.bool (Ty.list (Ty.int .i64))) F v2).2) t=qs3 m F t v6/\F=F/\(↑v2:Int)+(1:Int)=(↑v6:Int)/\True)/\some (v2+(1:Nat))=some v6/\True)/\True))/\(decide ((↑v2:Int)<(↑F.length:Int))=false->v2=(qh4.L (q08 [Ty.list q15,qf9,qc0] [qc0,Ty.nlist qc0] [(21:Nat)] Q0 Q1 l)).length)) ?_
 have hsz:=h.size
 have key:∀k,k<F.length->(xv8 F m t)[k]? = some ((k:Int),nextL m (qs3 m F t k) (nFr F k) t,()):=λk hk=>by
  unfold xv8
  rw[zbm,List.getElem?_range hk]
  rfl
 refine⟨(),0,zae _,⟨⟨rfl,rfl⟩,rfl⟩,λk hk=>⟨λhlt=>?_,λhge=>?_⟩⟩
 ·have hn:nextL m (qs3 m F t k) (nFr F k) t=[]\/q55 m (nextL m (qs3 m F t k) (nFr F k) t)=true:=w54 (h.key k hlt)
  have hl:(nextL m (qs3 m F t k) (nFr F k) t).length<=100000:=by
   rcases hn with e | e
   ·grind
   ·have h1:=w56 e
    have h2:=(Mk.of h.val).pix10
    omega
  refine⟨hlt,⟨h.val,w55 h k hk,h.len k hlt,h.wh k hlt⟩,hl,λhe=>⟨rfl,?_,qa6,k+1,hlt,ow,⟨rfl,ow⟩,rfl⟩,λhe=>?_⟩
  ·have e:=List.isEmpty_iff.1 he
   have h1:=key k hlt
   rw[show nextL m (qs3 m F t k) (nFr F k) t=[] from e] at h1
   exact h1
  ·have hp:0<(nextL m (qs3 m F t k) (nFr F k) t).length:=by
    grind
   exact⟨rfl,hp,key k hlt,qa6,k+1,hlt,ow,⟨rfl,ow⟩,rfl⟩
 ·obtain rfl:k=F.length:=ow
  show _=(xv8 F m t).length
  simp[xv8]
abbrev y57:qa8:=wu3 false none [qf9,.list q15,qc0] (λ_=>True) (λx=>.clo 178 (.cons (.imm (.cons (.dat (.prod .bool (.list (.int .i64))) x.2.1) .nil) 0) (.cons (.imm (.cons (.dat (.list (.int .i64)) x.1) .nil) 0) (.cons (.imm (.cons (.lit (.int .i64 x.2.2.1)) .nil) 0) .nil))))
theorem xu4:Meets Tryz.prog 129 y57:=by
 refine q6j (snd (SpecsOk.nil _)) Tryz.func129 rfl rfl (λx _=>none) (λ_=>by kernel_rfl) dc ?_
 rintro⟨m,F,t,⟨⟩⟩ -
 revert m F t
 intro(m:List (List Int)) (F:List Frm) (t:Int)
 refine vcr (((F=F/\True)/\(0:Nat)=(0:Nat))/\((m=m/\True)/\(0:Nat)=(0:Nat))/\((t=t/\True)/\(0:Nat)=(0:Nat))/\True) ?_
 simp
structure xu5 (m p:List (List Int)) (e t:Int):Prop where
 enc:w53 m p e
 wh:xu2 m (qr0 m p e.toNat p.length) t
def xv9 (m p:List (List Int)) (e t:Int):Bool:=(List.range p.length).all λi=>decide (qs3 m (qr0 m p e.toNat p.length) t (i+1)=nL p i)
abbrev y58:qa8:=qd9 true none [qf9,qf9,qc0,qc0] [.bool] (λx=>xu5 x.1 x.2.1 x.2.2.1 x.2.2.2.1) (λx=>(xv9 x.1 x.2.1 x.2.2.1 x.2.2.2.1,()))
structure x3p (m p:List (List Int)) (e t:Int) (c:Nat):Prop where
 le:c<=p.length
 all:∀i,i<c->qs3 m (qr0 m p e.toNat p.length) t (i+1)=nL p i
def y05 (m p:List (List Int)) (e t:Int):Nat->Option Inv
 | 0=>some (Inv.of [] 2 (λ_=>[]) (λc:Nat=>[.box 22 (.cons (.dat (.list (.int .i64)) p) .nil),.box 4 (.cons (.lit (.bool false)) .nil)]) (λc=>x3p m p e t c) (λc=>c))
 | _=>none
theorem xu6:Meets Tryz.prog 82 y58:=by
 refine meets (yd0 (SpecsOk.cons xt9 (SpecsOk.cons xu4 (SpecsOk.cons xh6 (SpecsOk.nil _)))) (ItsOk.cons xu3 ItsOk.nil)) Tryz.func82 rfl rfl (λx=>y05 x.1 x.2.1 x.2.2.1 x.2.2.2.1) (λ_=>by kernel_rfl) dc ?_
 rintro⟨m,p,e,t,⟨⟩⟩ h
 revert m p e t
 intro(m:List (List Int)) (p:List (List Int)) (e:Int) (t:Int) (h:xu5 m p e t)
 refine vcs (let Q0:=qr0 m p e.toNat p.length; w53 m p e/\True/\w0z Q0 m t/\∃(v0:Unit),∃(v1:Nat),x3p m p e t v1/\v1=(0:Nat)/\((p=p/\True)/\(false=false/\True)/\True)/\∀(v2:Nat),x3p m p e t v2->(∀(v4:Int × qa3._f [Ty.nlist qc0] ⟨qa3._f [] PUnit.unit,PUnit.unit⟩),(xv8 Q0 m t)[v2]?=some v4->(List.isEmpty v4.2.1=true->false=xv9 m p e t)/\(List.isEmpty v4.2.1=false->((0:Int)<=v4.1/\v4.1<(↑p.length:Int))/\v4.2.1.length<=(1000000:Nat)/\((!decide (v4.2.1=nL p v4.1.toNat))=true->false=xv9 m p e t)/\((!decide (v4.2.1=nL p v4.1.toNat))=false->∃(v8:Nat),x3p m p e t v8/\v8=v2+(1:Nat)/\(p=p/\True)/\(false=false/\True)/\True)))/\(v2=(xv8 Q0 m t).length->true=xv9 m p e t)) ?_
 have hv:=Vp.of h.enc.ok
 have p60:=hv.hi
 have p1:=hv.msk.pix1
 have p10:=hv.msk.pix10
 generalize hF:qr0 m p e.toNat p.length=F
 have hFl:F.length=p.length:=by grind [wb0]
 have hat:∀i,i<p.length->nFr F i=x8v m p e.toNat i:=λi hi=>by
  rw[<- hF]
  unfold nFr
  grind [qp5,wb0,qr0]
 have hpic:∀i,i<p.length->q55 m (nL p i)=true:=λi hi=>by
  have h1:=h.enc.ok
  simp_all [vpB,Bool.and_eq_true,List.all_eq_true,qp2,List.getElem_mem]
 have hD:w0z F m t:=by
  refine⟨hv.val,ow,λi hi=>?_,λi hi hk=>?_,?_⟩
  ·rw[hat i ow]
   unfold x8v
   split
   ·have:=hv.len i ow; grind
   ·show(qn2 m _).1.length<=_
    unfold qn2
    split
    ·have:=hv.msk.rows6; grind [qd3,List.length_map,List.length_range]
    simp
  ·rw[hat i ow] at hk ⊢
   unfold x8v at hk ⊢
   grind
  ·rw[<- hF]; exact h.wh
 have hrig:xv9 m p e t=(List.range p.length).all λi=>decide (qs3 m F t (i+1)=nL p i):=by unfold xv9; rw[hF]
 have hno:∀i,i<p.length->¬qs3 m F t (i+1)=nL p i->false=xv9 m p e t:=λi hi hne=>by
  grind
 refine⟨h.enc,hD,(),0,⟨zae _,λi hi=>absurd hi ow⟩,rfl,λc hc=>⟨?_,λhfin=>?_⟩⟩
 ·rintro⟨i,x,⟨⟩⟩ hx
  unfold xv8 at hx
  rw[zbm] at hx
  obtain⟨j,hj,e1⟩:=zb5.1 hx
  have hcl:c<F.length:=by
   grind
  rw[List.getElem?_range hcl] at hj
  obtain rfl:=zaa hj
  obtain⟨rfl,rfl⟩:i=(c:Int)/\x=qs3 m F t (c+1):=⟨(za2 Prod.fst e1).symm,(za2 (λq=>q.2.1) e1).symm⟩
  dsimp only
  have hcp:c<p.length:=ow
  have hl:=hv.len c hcp
  refine⟨λhemp=>hno c hcp λq=>?_,λhemp=>⟨⟨ow,ow⟩,?_,λhne=>?_,λheq=>?_⟩⟩
  ·grind
  ·rcases w55 hD (c+1) hcl with q | q
   ·grind
   grind [w56]
  ·exact hno c hcp hne
  ·refine⟨c+1,⟨hcp,λi hi=>?_⟩,rfl⟩
   rw[hF]
   by_cases q:i=c
   ·subst q; exact heq
   ·have:=hc.all i ow; grind
 ·have hfin:c=p.length:=by grind [xv8]
  rw[hrig]
  symm
  rw[zan]
  intro i hi
  have hi:=za4.1 hi
  have:=hc.all i ow
  grind
def w57 (m p:List (List Int)) (e t:Int):Bool × Int:=if vpB m p=false then(false,1) else if inB e 1 60 && inB t 0 (nL m 0).length then(xv9 m p e t,0) else(false,7)
abbrev y59:qa8:=qd9 true none [qf9,qf9,qc0,qc0] [.bool,qc0] (λx=>(w57 x.1 x.2.1 x.2.2.1 x.2.2.2.1).2=0->xu2 x.1 (qr0 x.1 x.2.1 x.2.2.1.toNat x.2.1.length) x.2.2.2.1) (λx=>((w57 x.1 x.2.1 x.2.2.1 x.2.2.2.1).1,(w57 x.1 x.2.1 x.2.2.1 x.2.2.2.1).2,()))
theorem xu7:Meets Tryz.prog 34 y59:=by
 refine mt0 (SpecsOk.cons x3m (SpecsOk.cons q00 (SpecsOk.cons xu6 (SpecsOk.nil _)))) Tryz.func34 ?_
 rintro⟨m,p,e,t,⟨⟩⟩ h
 revert m p e t
 intro(m:List (List Int)) (p:List (List Int)) (e:Int) (t:Int) (h:(w57 m p e t).2=0->xu2 m (qr0 m p e.toNat p.length) t)
 refine vcs (let Q0:=w57 m p e t; True/\((!vpB m p)=true->false=Q0.1/\(1:Int)=Q0.2/\True)/\((!vpB m p)=false->True/\((!inB e (1:Int) (60:Int))=true->false=Q0.1/\(7:Int)=Q0.2/\True)/\((!inB e (1:Int) (60:Int))=false->((0:Int)<=(0:Int)/\(0:Int)<(↑m.length:Int))/\True/\((!inB t (0:Int) (↑(nL m (0:Nat)).length:Int))=true->false=Q0.1/\(7:Int)=Q0.2/\True)/\((!inB t (0:Int) (↑(nL m (0:Nat)).length:Int))=false->xu5 m p e t/\xv9 m p e t=Q0.1/\(0:Int)=Q0.2/\True)))) ?_
 have h7:vpB m p=true->(inB e 1 60 && inB t 0 (nL m 0).length)=false->(w57 m p e t).1=false/\(w57 m p e t).2=7:=λhv hb=>by grind [w57]
 refine⟨λhv=>by grind [w57],λhv=>⟨λhe=>?_,λhe=>⟨by have:=(Vp.of hv).msk.rows1; omega,λht=>?_,λht=>?_⟩⟩⟩
 ·grind
 ·grind
 ·have hs:w57 m p e t=(xv9 m p e t,0):=by grind [w57]
  rw[hs] at h ⊢
  exact⟨⟨⟨hv,(qh5.1 he).1,(qh5.1 he).2⟩,h rfl⟩,rfl,rfl⟩
def smB (m:List (List Int)) (n:Int):Bool:=(m.all λl=>decide ((l.length:Int)<=n)) && decide (m.length<=6)
structure ym7 (m:List (List Int)) (n:Int) (k:Nat):Prop where
 le:k<=m.length
 all:∀i,i<k->((nL m i).length:Int)<=n
def y6a (m:List (List Int)) (n:Int):Nat->Option Inv
 | 0=>some (Inv.of [9] 0 (λk:Nat=>[(9,.lit (.int .i64 k))]) (λ_=>[]) (λk=>ym7 m n k) (λk=>m.length-k))
 | _=>none
abbrev sSm:qa8:=qd9 true none [qf9,qc0] [.bool] (λx=>x.1.length<=9223372036854775807) (λx=>(smB x.1 x.2.1,()))
theorem x3q:Meets Tryz.prog 8 sSm:=by
 refine mts (SpecsOk.nil _) Tryz.func8 (λx=>y6a x.1 x.2.1) ?_
 rintro⟨m,n,⟨⟩⟩ h
 revert m n
 intro(m:List (List Int)) (n:Int) (h:m.length<=9223372036854775807)
 refine vcs (∃(v0:Unit),∃(v1:Nat),ym7 m n v1/\(((0:Int)=(↑v1:Int)/\True)/\True)/\∀(v2:Nat),ym7 m n v2->(decide ((↑v2:Int)<(↑m.length:Int))=true->((0:Int)<=(↑v2:Int)/\(↑v2:Int)<(↑m.length:Int))/\(decide (n<(↑(nL m v2).length:Int))=true->false=smB m n)/\(decide (n<(↑(nL m v2).length:Int))=false->fits .i64 ((↑v2:Int)+(1:Int))/\∃(v6:Nat),ym7 m n v6/\m.length-v6<m.length-v2/\((↑v2:Int)+(1:Int)=(↑v6:Int)/\True)/\True))/\(decide ((↑v2:Int)<(↑m.length:Int))=false->decide ((↑m.length:Int)<=(6:Int))=smB m n)) ?_
 refine⟨(),0,⟨zae _,λi hi=>absurd hi ow⟩,rfl,λk hk=>⟨λhlt=>⟨hlt,λhn=>?_,λhn=>?_⟩,λhge=>?_⟩⟩
 ·grind [smB,decide,List.all_eq_false,nL,qp2,List.getElem_mem]
 ·refine⟨qa6,k+1,⟨hlt,λi hi=>?_⟩,ow,ow⟩
  by_cases q:i=k
  ·grind
  ·exact hk.all i ow
 ·have hkl:=hk.le
  have:(m.all λl=>decide ((l.length:Int)<=n))=true:=by
   rw[zan]
   intro l hl
   obtain⟨i,hi,rfl⟩:=zb6 hl
   have:=hk.all i ow
   grind [qp2,decide_eq_true]
  unfold smB
  grind
def x8w (l:List (List Int)) (k:Nat):Nat->Int × Int
 | 0=>(0,1)
 | i+1=>w2e (x8w l k i) (ofR (q3u (szV (nL l i)) ((x9g (nL l i)).take k)) (szL (nL l i)))
theorem w58 (l:List (List Int)) (k:Nat):∀n,qj0 l k n=x8w l k n
 | 0=>rfl
 | n+1=>by
  rw[qj0,x8w,w58 l k n]
  grind [shR,q7p]
abbrev m9:List (List Int):=[[1,1,0],[0,1,1]]
abbrev p9:List (List Int):=[[0,0,0],[0,5,0]]
theorem y6b:qs1 m9=(1,0):=by
 have hc:(qf1 m9).1=[[1,-1,1]]:=by rfl
 have hv:qb7 m9=true:=by rfl
 unfold qs1 ordL
 rw[zap hv,hc]
 show(((ordF [[1,-1,1]] 3 0:Nat):Int),(0:Int))=(1,0)
 simp only[ordF,w58]
 rfl
theorem cc9:x1p m9:=x2g λ_=>by show 3<=7; decide
theorem y6c:w57 m9 p9 2 1=(true,0):=by rfl
theorem wh9:xu2 m9 (qr0 m9 p9 2 2) 1:=by
 intro i hi h1 h2
 have hi:i<2:=hi
 match i,hi,h1 with
 | 0,_,h1=>cases h1
 | 1,_,_=>
  show w18 m9 [5,5] 1
  have hL:qe0 m9 [5,5] 1=[([1],[(5,1)])]:=by rfl
  refine⟨⟨⟨dc,dc,dc,dc,dc,λj hj s hs=>?_⟩,by grind⟩,λf hf=>?_⟩
  ·have hN:fitsN m9 1=2:=by rfl
   have:=q4u hs
   grind [xk0]
  ·rw[hL] at hf
   obtain rfl:=zar.1 hf
   refine⟨rfl,dc,λj hj=>?_⟩
   obtain rfl:j=0:=by grind
   exact⟨dc,dc⟩
abbrev y06:qa8:=qd9 true none [] [.bool] (λ_=>True) (λ_=>(true,()))
theorem w9a:Meets Tryz.prog 10 y06:=by
 refine mt0 (SpecsOk.cons q9y (SpecsOk.cons w87 (SpecsOk.cons xu7 (SpecsOk.nil _)))) Tryz.func10 ?_
 rintro⟨⟩ -
 refine vcs (x1p [[(1:Int),(1:Int),(0:Int)],[(0:Int),(1:Int),(1:Int)]]/\True/\((0:Int)=(0:Int)->∀(v1:Nat),Nat.le (Nat.succ v1) (2:Nat)->(nFr (qr0 [[(1:Int),(1:Int),(0:Int)],[(0:Int),(1:Int),(1:Int)]] [[(0:Int),(0:Int),(0:Int)],[(0:Int),(5:Int),(0:Int)]] (2:Nat) (2:Nat)) v1).1=false->q4q [[(1:Int),(1:Int),(0:Int)],[(0:Int),(1:Int),(1:Int)]] (nFr (qr0 [[(1:Int),(1:Int),(0:Int)],[(0:Int),(1:Int),(1:Int)]] [[(0:Int),(0:Int),(0:Int)],[(0:Int),(5:Int),(0:Int)]] (2:Nat) (2:Nat)) v1).2 (1:Int)=(0:Int)->w18 [[(1:Int),(1:Int),(0:Int)],[(0:Int),(1:Int),(1:Int)]] (nFr (qr0 [[(1:Int),(1:Int),(0:Int)],[(0:Int),(1:Int),(1:Int)]] [[(0:Int),(0:Int),(0:Int)],[(0:Int),(5:Int),(0:Int)]] (2:Nat) (2:Nat)) v1).2 (1:Int))/\(((0:Int)==(0:Int))=true->(((qs1 [[(1:Int),(1:Int),(0:Int)],[(0:Int),(1:Int),(1:Int)]]).1==(1:Int))=true->(((0:Int)==(0:Int))=true->(((↑(6:Nat):Int)==(6:Int))=true->(((0:Int)==(0:Int))=true->(w57 [[(1:Int),(1:Int),(0:Int)],[(0:Int),(1:Int),(1:Int)]] [[(0:Int),(0:Int),(0:Int)],[(0:Int),(5:Int),(0:Int)]] (2:Int) (1:Int)).1=true)/\(((0:Int)==(0:Int))=false->false=true))/\(((↑(6:Nat):Int)==(6:Int))=false->false=true))/\(((0:Int)==(0:Int))=false->false=true))/\(((qs1 [[(1:Int),(1:Int),(0:Int)],[(0:Int),(1:Int),(1:Int)]]).1==(1:Int))=false->false=true))/\(((0:Int)==(0:Int))=false->false=true)) ?_
 have ho:(qs1 m9).1=1:=za2 Prod.fst y6b
 have hs:(w57 m9 p9 2 1).1=true:=za2 Prod.fst y6c
 exact⟨cc9,wh9,⟨⟨λ_=>⟨⟨λ_=>⟨hs,λq=>absurd trivial q⟩,λq=>absurd rfl q⟩,λq=>absurd trivial q⟩,λq=>absurd ho q⟩,λq=>absurd trivial q⟩⟩
open Go Go.Proofs Go.RowKit Eng
open Go Go.RowKit Eng Ls
open Go Go.RowKit Eng
theorem xu8 {m:List (List Int)} {n:Nat} (h:smB m n=true) (h1:1<=m.length):(nL m 0).length<=n:=by
 unfold smB at h
 rw[zaz,zan] at h
 have:=za3 (h.1 (nL m 0) (by grind [qp2,List.getElem_mem]))
 omega
def y07 (l:List Int):Nat->Option Inv
 | 0=>some (Inv.of [3,8] 0 (λk:Nat=>[(3,.lit (.int .i64 (nzTo l k))),(8,.lit (.int .i64 k))]) (λ_=>[]) (λk=>k<=l.length) (λk=>l.length-k))
 | _=>none
abbrev y6d:qa8:=qd9 true none [qe8] [qc0] (λx=>x.1.length<=1000000) (λx=>((nzTo x.1 x.1.length:Nat),()))
theorem xu9:Meets Tryz.prog 27 y6d:=by
 refine mts (SpecsOk.nil _) Tryz.func27 (λx=>y07 x.1) ?_
 rintro⟨l,⟨⟩⟩ h
 revert l
 intro(l:List Int) (h:l.length<=1000000)
 refine vcs (∃(v0:Unit),∃(v1:Nat),Nat.le v1 l.length/\(((0:Int)=(↑(nzTo l v1):Int)/\(0:Int)=(↑v1:Int)/\True)/\True)/\∀(v2:Nat),Nat.le v2 l.length->(decide ((↑v2:Int)<(↑l.length:Int))=true->((0:Int)<=(↑v2:Int)/\(↑v2:Int)<(↑l.length:Int))/\((nI l v2 != (0:Int))=true->fits .i64 ((↑(nzTo l v2):Int)+(1:Int))/\fits .i64 ((↑v2:Int)+(1:Int))/\∃(v6:Nat),Nat.le v6 l.length/\l.length-v6<l.length-v2/\((↑(nzTo l v2):Int)+(1:Int)=(↑(nzTo l v6):Int)/\(↑v2:Int)+(1:Int)=(↑v6:Int)/\True)/\True)/\((nI l v2 != (0:Int))=false->fits .i64 ((↑v2:Int)+(1:Int))/\∃(v6:Nat),Nat.le v6 l.length/\l.length-v6<l.length-v2/\((↑(nzTo l v2):Int)=(↑(nzTo l v6):Int)/\(↑v2:Int)+(1:Int)=(↑v6:Int)/\True)/\True))/\(decide ((↑v2:Int)<(↑l.length:Int))=false->(↑(nzTo l v2):Int)=(↑(nzTo l l.length):Int))) ?_
 refine⟨(),0,zae _,⟨rfl,rfl⟩,λi hi=>⟨λhlt=>?_,λhge=>?_⟩⟩
 ·have:=xi0 l i
  exact⟨hlt,λhz=>⟨qa6,qa6,i+1,hlt,ow,by rw[nzTo,zap hz]; omega,ow⟩,λhz=>⟨qa6,i+1,hlt,ow,by rw[nzTo,zaj (λq=>q hz)],ow⟩⟩
 ·obtain rfl:i=l.length:=ow
  rfl
structure ym8 (l:List Int) (k:Nat):Prop where
 le:k<=l.length
 all:∀i,i<k->nI l i=0
def y08 (y:List Int):Nat->Option Inv
 | 0=>some (Inv.of [79] 0 (λk:Nat=>[(79,.lit (.int .i64 k))]) (λ_=>[]) (λk=>ym8 y k) (λk=>y.length-k))
 | _=>none
def tbH (m:List (List Int)):List Int:=(q41 m (badR m ((qs1 m).1+1)).1).1
structure Byd (m:List (List Int)) (x:List Int) (h:List Int):Prop where
 bad:(badR m ((ordL m:Nat)+1))=(x,0)
 nz:(nzTo x x.length:Int)<=(ordL m:Nat)+1
 sh:q0t m x=0
 ags:q41 m x=(h,0)
 ag:¬agI m x<0
 len:h.length=(nL m 0).length
 ker:w2y m h=true
 shh:q0t m h=0
 zer:∀i,i<m.length->nI (qd3 m h) i=0
theorem byd {m:List (List Int)} (hF:xv6 m) (hv:qb7 m=true) (ho:ordL m≠(nL m 0).length):∃x h,Byd m x h:=by
 have hM:=Mk.of hv
 have m10:=hM.pix10
 have hle:=x44 m
 have h7:=hF.n7 hv
 have hc1:q9x m ((ordL m:Nat)+1) 1=0:=by
  unfold q9x
  rw[zaj (by grind),qh5.2 ⟨ow,ow⟩]
  rfl
 have hb:(hasB m ((ordL m:Nat)+1))=(true,0):=by
  unfold hasB
  grind
 obtain⟨b1,_,b3⟩:=x8a hF ((ordL m:Nat)+1)
 rw[hb] at b1 b3
 obtain⟨n,hn,_,n1,n2,hcn,i,hi,hf,hx⟩:=b3 rfl
 obtain⟨k1,k2,k3⟩:=yj8 hF hv n2 (by grind) hi hf
 rw[<- hx] at k1 k2 k3
 generalize hX:(badR m ((ordL m:Nat)+1)).1=x at *
 unfold yz7 at k1
 rw[zaz,zaz,zbd,zbd,zbd] at k1
 obtain⟨⟨q1,_⟩,q3⟩:=k1
 have hE:q0t m x=0:=zaf λq=>by simp_all [q41,q1,if_neg]
 have hag:¬agI m x<0:=λq=>by simp_all [q41,q1,if_pos]
 have hlt:=(wv3 (.list (.int .i64)) (λh=>agB h x) (qf1 m).1).1
 have hj:(agI m x).toNat<(qf1 m).1.length:=by
  have:agI m x=ixT (.list (.int .i64)) (λh=>agB h x) (qf1 m).1:=rfl
  omega
 obtain⟨s,hc⟩:=q4y hv h7 hj
 have hA:q41 m x=(nL (qf1 m).1 (agI m x).toNat,0):=by simp_all [q41,if_pos,if_neg]
 generalize nL (qf1 m).1 (agI m x).toNat=h at *
 have hsm:=hc.small
 have hout:wv6 h=false:=by
  unfold wv6
  rw[zb1]
  intro v hv
  obtain⟨c,hcc,rfl⟩:=za6.1 hv
  have:=hsm c
  grind [qg5,inB,qh5]
 have hp:=hc.nam.at_ 0 hc.pos
 have hnz:w0k h h.length=false:=w5n (hc.on 0 hc.pos) _ (by rw[hc.len]; omega)
 have hdots:xp9 m h=true:=zan.2 λi hi=>zb8 (by
  have hi:=za4.1 hi
  rw[xn2,hM.each i hi]
  exact hc.sol i hi)
 have hshh:q0t m h=0:=by
  unfold q0t w73
  have:(h.all λe=>inB e (0-1000000) 1000000)=true:=by
   rw[zan]
   intro v hv
   obtain⟨c,hcc,rfl⟩:=za6.1 hv
   have:=hsm c
   grind [qg5,qh5]
  rw[zaj (by grind),zaj (by have:=hc.len; omega),this]; rfl
 refine⟨x,h,⟨Prod.ext hX b1,ow,hE,hA,hag,hc.len,?_,hshh,λi hi=>?_⟩⟩
 ·unfold w2y
  rw[hv,hout,hnz,hdots,zb8 hc.len]; rfl
 ·rw[w5m hM hi]
  exact hc.sol i hi
abbrev y6e:qa8:=qd9 true none [qf9] [.bool] (λx=>x4g x.1) (λ_=>(true,()))
theorem xv0:Meets Tryz.prog 7 y6e:=by
 refine mts (SpecsOk.cons x3q (SpecsOk.cons w9a (SpecsOk.cons q9y (SpecsOk.cons xr1 (SpecsOk.cons xu9 (SpecsOk.cons xt5 (SpecsOk.cons xq2 (SpecsOk.cons xs7 (SpecsOk.cons q2s (SpecsOk.cons xs5 (SpecsOk.nil _))))))))))) Tryz.func7 (λx=>y08 (qn2 x.1 (tbH x.1)).1) ?_
 rintro⟨m,⟨⟩⟩ h
 revert m
 intro(m:List (List Int)) (h:x4g m)
 refine vcs (let Q0:=qn2 m (tbH m); m.length<=(9223372036854775807:Nat)/\((!smB m (6:Int))=true->True/\true=true)/\((!smB m (6:Int))=false->x1p m/\(((qs1 m).2 != (0:Int))=true->True/\true=true)/\(((qs1 m).2 != (0:Int))=false->((0:Int)<=(0:Int)/\(0:Int)<(↑m.length:Int))/\(((qs1 m).1==(↑(nL m (0:Nat)).length:Int))=true->True/\true=true)/\(((qs1 m).1==(↑(nL m (0:Nat)).length:Int))=false->fits .i64 ((qs1 m).1+(1:Int))/\xv6 m/\(((badR m ((qs1 m).1+(1:Int))).2 != (0:Int))=true->false=true)/\(((badR m ((qs1 m).1+(1:Int))).2 != (0:Int))=false->(badR m ((qs1 m).1+(1:Int))).1.length<=(1000000:Nat)/\fits .i64 ((qs1 m).1+(1:Int))/\(decide ((qs1 m).1+(1:Int)<(↑(nzTo (badR m ((qs1 m).1+(1:Int))).1 (badR m ((qs1 m).1+(1:Int))).1.length):Int))=true->false=true)/\(decide ((qs1 m).1+(1:Int)<(↑(nzTo (badR m ((qs1 m).1+(1:Int))).1 (badR m ((qs1 m).1+(1:Int))).1.length):Int))=false->(badR m ((qs1 m).1+(1:Int))).1.length<=(1000000:Nat)/\((!decide (q0t m (badR m ((qs1 m).1+(1:Int))).1=(0:Int)))=true->false=true)/\((!decide (q0t m (badR m ((qs1 m).1+(1:Int))).1=(0:Int)))=false->AgPre m (badR m ((qs1 m).1+(1:Int))).1/\(((q41 m (badR m ((qs1 m).1+(1:Int))).1).2 != (0:Int))=true->false=true)/\(((q41 m (badR m ((qs1 m).1+(1:Int))).1).2 != (0:Int))=false->(q41 m (badR m ((qs1 m).1+(1:Int))).1).1.length<=(1000:Nat)/\((!w2y m (q41 m (badR m ((qs1 m).1+(1:Int))).1).1)=true->false=true)/\((!w2y m (q41 m (badR m ((qs1 m).1+(1:Int))).1).1)=false->(q41 m (badR m ((qs1 m).1+(1:Int))).1).1.length<=(1000000:Nat)/\∃(v8:Unit),∃(v9:Nat),ym8 Q0.1 v9/\(((0:Int)=(↑v9:Int)/\True)/\True)/\∀(v10:Nat),ym8 Q0.1 v10->(decide ((↑v10:Int)<(↑(qn2 m (q41 m (badR m ((qs1 m).1+(1:Int))).1).1).1.length:Int))=true->((0:Int)<=(↑v10:Int)/\(↑v10:Int)<(↑(qn2 m (q41 m (badR m ((qs1 m).1+(1:Int))).1).1).1.length:Int))/\((nI (qn2 m (q41 m (badR m ((qs1 m).1+(1:Int))).1).1).1 v10 != (0:Int))=true->false=true)/\((nI (qn2 m (q41 m (badR m ((qs1 m).1+(1:Int))).1).1).1 v10 != (0:Int))=false->fits .i64 ((↑v10:Int)+(1:Int))/\∃(v14:Nat),ym8 Q0.1 v14/\Q0.1.length-v14<Q0.1.length-v10/\((↑v10:Int)+(1:Int)=(↑v14:Int)/\True)/\True))/\(decide ((↑v10:Int)<(↑(qn2 m (q41 m (badR m ((qs1 m).1+(1:Int))).1).1).1.length:Int))=false->ym6 m (badR m ((qs1 m).1+(1:Int))).1/\(((qn2 m (q41 m (badR m ((qs1 m).1+(1:Int))).1).1).2==(0:Int))=true->(((xs4 m (badR m ((qs1 m).1+(1:Int))).1).2 != (0:Int))=true->True/\true=true)/\(((xs4 m (badR m ((qs1 m).1+(1:Int))).1).2 != (0:Int))=false->((!(xs4 m (badR m ((qs1 m).1+(1:Int))).1).1)=true->True/\true=true)/\((!(xs4 m (badR m ((qs1 m).1+(1:Int))).1).1)=false->false=true)))/\(((qn2 m (q41 m (badR m ((qs1 m).1+(1:Int))).1).1).2==(0:Int))=false->false=true))))))))))) ?_
 refine⟨h.rows,λhsm=>⟨x2g λhv=>?_,λho=>?_⟩⟩
 ·have:=xu8 (n:=6) hsm (Mk.of hv).rows1; omega
 have hv:qb7 m=true:=by
  grind [qs1]
 have hM:=Mk.of hv
 have hn:=xu8 (n:=6) hsm hM.rows1
 have r1:=hM.rows1
 have r6:=hM.rows6
 have hF:xv6 m:=⟨h,λ_=>by omega⟩
 have hO:qs1 m=(((ordL m:Nat):Int),0):=by simp_all [qs1,if_pos]
 have hle:=x44 m
 refine⟨ow,λhne=>?_⟩
 have hT:tbH m=(q41 m (badR m ((qs1 m).1+1)).1).1:=rfl
 rw[hT]
 rw[hO] at hne ⊢
 obtain⟨x,c,hB⟩:=byd hF hv λq=>hne ow
 have hS:=Shw.of hB.sh
 have hxl:=hS.len
 have hcl:=hB.len
 rw[hB.bad]
 dsimp only
 rw[hB.ags]
 dsimp only
 rw[wx2 hB.shh,wx1]
 have hyl:(qd3 m c).length=m.length:=by simp[qd3]
 have nf:=xs9 hF hB.sh hB.ag
 have hz:=hB.zer
 refine⟨qa6,hF,λq=>absurd rfl q,λ_=>⟨ow,qa6,λq=>absurd hB.nz ow,λ_=>⟨ow,λq=>absurd hB.sh q,λ_=>⟨⟨hF,ow⟩,λq=>absurd rfl q,λ_=>⟨ow,λq=>(by rw[hB.ker] at q; cases q),λ_=>⟨ow,(),0,⟨zae _,λi hi=>absurd hi ow⟩,rfl,λk hk=>⟨λhlt=>⟨hlt,λq=>absurd (hz k ow) q,λ_=>⟨qa6,k+1,⟨hlt,λi hi=>hz i ow⟩,ow,by rfl⟩⟩,λhge=>⟨x8j hF hB.sh,λ_ q1 q2=>?_,λq=>absurd hB.shh q⟩⟩⟩⟩⟩⟩⟩⟩
 grind
open Go.ChangeShapes Go.WideShapes Go.ChangeAt Go.RowKit Go.Deep Ls
theorem own:ownKnob Tryz.prog.godebug=none:=kr
theorem laidOut:laidOutB Tryz.prog=true:=kr
theorem y09 {H:Type} {enc:TypeId × Value->H} {W:World} {t e q:TypeId} {v:Value} {d:DataW H} {p:List MemPlace} (ht:Tryz.prog.underlying t=some (.slice e)) (he:Tryz.prog.underlying e=some (.slice q)) (hq:Tryz.prog.underlying q=some (.int .i64))
  (ce:Tryz.prog.cellsOf e=1) (cq:Tryz.prog.cellsOf q=1)
  (hv:∃a l c,v=.slice a l c) (h:DataW.Trod enc Tryz.prog W 0 (λ_=>true) true t v d p):∃a l c m,v=.slice a l c/\SM W a l c m:=by
 obtain⟨a,l,c,rfl⟩:=hv
 obtain⟨fuel,hf⟩:=h
 rcases open_int_rows ht he hq ce cq hf with⟨hcs,_⟩ | ⟨x,l',c',A,L,C,Z,hcs,_,hl,hm,_,hr⟩
 ·simp[Value.cells] at hcs
  obtain⟨rfl,rfl,rfl⟩:=hcs
  exact⟨_,_,_,[],rfl,SM.nil W⟩
 ·simp[Value.cells] at hcs
  obtain⟨rfl,rfl,rfl⟩:=hcs
  refine⟨_,_,_,(List.range l).map (λr=>(Z r).take (L r)),rfl,by simp,hl,hm,λ_=>⟨x,rfl,λk hk=>?_⟩⟩
  obtain⟨h1,h2,h3,h4,_,h6,h7⟩:=hr k ow
  have e0:nthL ((List.range l).map (λr=>(Z r).take (L r))) k=(Z k).take (L k):=by grind [nthL]
  have e1:((Z k).take (L k)).length=L k:=by grind
  rw[e0,e1]
  refine⟨A k,C k,h1,e1,h2,h3,λhp=>?_⟩
  cases hA:A k with
  | none=>grind
  | some a'=>
   refine⟨a',rfl,λj hj=>?_⟩
   grind [nth]
open Go Go.RowKit Eng Ls
theorem x8y {w:World} {A:Option Addr} {n c:Nat} {m:List (List Int)} (s:SM w A n c m):x4g m:=by
 have hl:=s.len
 have hn:=s.nmax
 refine⟨ow,λi hi=>?_⟩
 obtain⟨ad,_,h⟩:=s.at_ ow
 obtain⟨A',c',_,h2⟩:=h i ow
 have e:nL m i=nthL m i:=by
  rw[qp2 m i hi]
  unfold nthL
  rw[za1,zao hi]
  rfl
 rw[e]
 exact h2.nmax
end Go.Proofs.YtnchigbbjajiiaaGreat
