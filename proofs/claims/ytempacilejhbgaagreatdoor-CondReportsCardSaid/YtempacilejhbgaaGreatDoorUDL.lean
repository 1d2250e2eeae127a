/- THE ROW OF CondReports: it returns true for every input, and its argument reads as it did; 'laid': Itoa's table. No condition. -/
import Derived.Test.YtempacilejhbgaaGreatDoorUDLay
import Derived.Test.YtempacilejhbgaaGreatDoorR9
import Derived.Test.YtempacilejhbgaaGreatDoorRows
import Derived.Test.YtempacilejhbgaaGreatDoorCore
import Derived.ProofKit
import Derived.OpenShut
import Derived.ShutString
import Derived.ChangeOld
import Derived.Below
import Derived.Deep.Matrix
import Derived.Test.YtempacilejhbgaaGreatDoorV7
import Derived.MakeChecks
import Derived.Lib.LaidTab
import Derived.LaidMore
import Derived.Stop.Joined
set_option linter.unusedVariables false
set_option linter.unusedSimpArgs false
namespace Go.Proofs.YtempacilejhbgaaGreatDoor
open Go Go.RowKit Eng
def wm4 (m:List (List Int)) (k:Nat):Int × Int:=qg5 (qc9 m).1 (k+1) (qc9 m).1.length
def w7i (k:Int) (q:Int × Int):ByteArray:=itB k++⟨#[32]⟩++itB q.1++⟨#[47]⟩++itB q.2++⟨#[10]⟩
def qk2 (m:List (List Int)):Nat->ByteArray
 | 0=>⟨#[]⟩
 | k+1=>qk2 m k++w7i ((k:Int)+1) (wm4 m k)
def xb7 (m:List (List Int)):Nat->Nat->Nat
 | 0,k=>k
 | f+1,k=>if(wm4 m k).1=(wm4 m k).2 then k else xb7 m f (k+1)
def xx6 (m:List (List Int)):Nat:=xb7 m (nL m 0).length 0
def wm1 (m:List (List Int)):ByteArray:=if validB m=true then qk2 m (xx6 m)++⟨#[111,114,100,101,114,32]⟩++itB (ordL m:Nat)++⟨#[10]⟩ else⟨#[]⟩
theorem wb4 {m:List (List Int)} (h:wm3 m) (hv:validB m=true) {k:Nat} (hk:k<(nL m 0).length):qt4 (wm4 m k):=by
 have:=qt0 ((xw0 (m:=m) h.n7).shs hv (k+1) (by omega)) _ (Nat.le_refl _)
 rw[Int.toNat_natCast] at this
 exact this
theorem w7j {k:Int} {q:Int × Int} (h0:0<=k) (h1:k<=1000) (hq:qt4 q):(w7i k q).size<=70:=by
 have q1:=hq.n
 have q2:=hq.d
 unfold lil at q1 q2
 have a1:=qo2 (n:=k) (by omega) (by omega)
 have a2:=qo2 (n:=q.1) (by omega) (by omega)
 have a3:=qo2 (n:=q.2) (by omega) (by omega)
 have s1:(⟨#[32]⟩:ByteArray).size=1:=rfl
 have s2:(⟨#[47]⟩:ByteArray).size=1:=rfl
 have s3:(⟨#[10]⟩:ByteArray).size=1:=rfl
 unfold w7i
 simp only[ByteArray.size_append,s1,s2,s3]
 omega
theorem rep_size {m:List (List Int)} (h:wm3 m) (hv:validB m=true):∀k,k<=(nL m 0).length->(qk2 m k).size<=70*k
 | 0,_=>Nat.le_refl _
 | k+1,hk=>by
  have m10:=(Mk.of hv).pix10
  have:=rep_size h hv k (by omega)
  have:=w7j (k:=(k:Int)+1) (by omega) (by omega) (wb4 h hv (k:=k) (by omega))
  rw[qk2,ByteArray.size_append]
  omega
structure q7p (m:List (List Int)) (k:Nat):Prop where
 le:k<=(nL m 0).length
 eq:xx6 m=xb7 m ((nL m 0).length-k) k
def xw5 (m:List (List Int)) (s0 s1:Nat):Nat->Option Inv
 | 0=>some (Inv.of [s0,s1] 0 (λk:Nat=>[(s0,.lit (.string (qk2 m k))),(s1,.lit (.int .i64 ((k:Int)+1)))]) (λ_=>[]) (λk=>q7p m k) (λk=>(nL m 0).length-k))
 | _=>none
abbrev x22:qb9:=qg6 true none [tMask] [.str] (λx=>wm3 x.1) (λx=>(wm1 x.1,()))
theorem xn2 {m0:View} (hT:Tab m0):MeetsAt Tryz.prog m0 7 x22:=by
 refine wo3 (xr5 (SpecsAt.cons (w24.at m0) (SpecsAt.cons (wm0.at m0) (SpecsAt.cons (w46 hT) (SpecsAt.nil _ _))))) hT.cells Tryz.func7 rfl rfl (λx=>xw5 x.1 5 6) (λ_=>by kernel_rfl) (by decide) ?_
 rintro⟨m,⟨⟩⟩ h
 revert m
 intro(m:List (List Int)) (h:wm3 m)
 refine @qe7 _ (wm3 m/\(((qy4 m).2 != (0:Int))=true->Value.string { data:=#[] }=Value.string (wm1 m))/\(((qy4 m).2 != (0:Int))=false->∃(v1:Unit),∃(v2:Nat),q7p m v2/\((Value.string { data:=#[] }=Value.string (qk2 m v2)/\(1:Int)=(↑v2:Int)+(1:Int)/\True)/\True)/\∀(v3:Nat),q7p m v3->((0:Int)<=(0:Int)/\(0:Int)<(↑m.length:Int))/\(decide ((↑v3:Int)+(1:Int)<=(↑(nL m (0:Nat)).length:Int))=true->w0v m ((↑v3:Int)+(1:Int))/\(((whR m ((↑v3:Int)+(1:Int))).1.1==(whR m ((↑v3:Int)+(1:Int))).1.2)=true->ByteArray.size (qk2 m v3)+(6:Nat)<=(9223372036854775807:Nat)/\((-9223372036854775808:Int)<=(qy4 m).1/\(qy4 m).1<=(9223372036854775807:Ty.den tInt))/\ByteArray.size (qk2 m v3++{ data:=#[(111:UInt8),(114:UInt8),(100:UInt8),(101:UInt8),(114:UInt8),(32:UInt8)] })+ByteArray.size (itB (qy4 m).1)<=(9223372036854775807:Nat)/\ByteArray.size (qk2 m v3++{ data:=#[(111:UInt8),(114:UInt8),(100:UInt8),(101:UInt8),(114:UInt8),(32:UInt8)] }++itB (qy4 m).1)+(1:Nat)<=(9223372036854775807:Nat)/\Value.string (qk2 m v3++{ data:=#[(111:UInt8),(114:UInt8),(100:UInt8),(101:UInt8),(114:UInt8),(32:UInt8)] }++itB (qy4 m).1++{ data:=#[(10:UInt8)] })=Value.string (wm1 m))/\(((whR m ((↑v3:Int)+(1:Int))).1.1==(whR m ((↑v3:Int)+(1:Int))).1.2)=false->((-9223372036854775808:Int)<=(↑v3:Int)+(1:Int)/\(↑v3:Int)+(1:Int)<=(9223372036854775807:Ty.den tInt))/\ByteArray.size (itB ((↑v3:Int)+(1:Int)))+(1:Nat)<=(9223372036854775807:Nat)/\((-9223372036854775808:Int)<=(whR m ((↑v3:Int)+(1:Int))).1.1/\(whR m ((↑v3:Int)+(1:Int))).1.1<=(9223372036854775807:Ty.den tInt))/\ByteArray.size (itB ((↑v3:Int)+(1:Int))++{ data:=#[(32:UInt8)] })+ByteArray.size (itB (whR m ((↑v3:Int)+(1:Int))).1.1)<=(9223372036854775807:Nat)/\ByteArray.size (itB ((↑v3:Int)+(1:Int))++{ data:=#[(32:UInt8)] }++itB (whR m ((↑v3:Int)+(1:Int))).1.1)+(1:Nat)<=(9223372036854775807:Nat)/\((-9223372036854775808:Int)<=(whR m ((↑v3:Int)+(1:Int))).1.2/\(whR m ((↑v3:Int)+(1:Int))).1.2<=(9223372036854775807:Ty.den tInt))/\ByteArray.size (itB ((↑v3:Int)+(1:Int))++{ data:=#[(32:UInt8)] }++itB (whR m ((↑v3:Int)+(1:Int))).1.1++{ data:=#[(47:UInt8)] })+ByteArray.size (itB (whR m ((↑v3:Int)+(1:Int))).1.2)<=(9223372036854775807:Nat)/\ByteArray.size (itB ((↑v3:Int)+(1:Int))++{ data:=#[(32:UInt8)] }++itB (whR m ((↑v3:Int)+(1:Int))).1.1++{ data:=#[(47:UInt8)] }++itB (whR m ((↑v3:Int)+(1:Int))).1.2)+(1:Nat)<=(9223372036854775807:Nat)/\ByteArray.size (qk2 m v3)+ByteArray.size (itB ((↑v3:Int)+(1:Int))++{ data:=#[(32:UInt8)] }++itB (whR m ((↑v3:Int)+(1:Int))).1.1++{ data:=#[(47:UInt8)] }++itB (whR m ((↑v3:Int)+(1:Int))).1.2++{ data:=#[(10:UInt8)] })<=(9223372036854775807:Nat)/\fits .i64 ((↑v3:Int)+(1:Int)+(1:Int))/\∃(v7:Nat),q7p m v7/\(nL m (0:Nat)).length-v7<(nL m (0:Nat)).length-v3/\(Value.string (qk2 m v3++(itB ((↑v3:Int)+(1:Int))++{ data:=#[(32:UInt8)] }++itB (whR m ((↑v3:Int)+(1:Int))).1.1++{ data:=#[(47:UInt8)] }++itB (whR m ((↑v3:Int)+(1:Int))).1.2++{ data:=#[(10:UInt8)] }))=Value.string (qk2 m v7)/\(↑v3:Int)+(1:Int)+(1:Int)=(↑v7:Int)+(1:Int)/\True)/\True))/\(decide ((↑v3:Int)+(1:Int)<=(↑(nL m (0:Nat)).length:Int))=false->ByteArray.size (qk2 m v3)+(6:Nat)<=(9223372036854775807:Nat)/\((-9223372036854775808:Int)<=(qy4 m).1/\(qy4 m).1<=(9223372036854775807:Ty.den tInt))/\ByteArray.size (qk2 m v3++{ data:=#[(111:UInt8),(114:UInt8),(100:UInt8),(101:UInt8),(114:UInt8),(32:UInt8)] })+ByteArray.size (itB (qy4 m).1)<=(9223372036854775807:Nat)/\ByteArray.size (qk2 m v3++{ data:=#[(111:UInt8),(114:UInt8),(100:UInt8),(101:UInt8),(114:UInt8),(32:UInt8)] }++itB (qy4 m).1)+(1:Nat)<=(9223372036854775807:Nat)/\Value.string (qk2 m v3++{ data:=#[(111:UInt8),(114:UInt8),(100:UInt8),(101:UInt8),(114:UInt8),(32:UInt8)] }++itB (qy4 m).1++{ data:=#[(10:UInt8)] })=Value.string (wm1 m)))) (by kernel_rfl) ?_
 try simp only[z0,z1,z2,z3,z4,z5,z6,z7,z8,z9,z10,Int.reduceEq,z11,z12,z13,z14,z15,z16,z17,z18,z19,z20,z21,z22,z23,z24,z25,z26,z27,z28,z29,z30,Int.reduceLE,Int.reduceLT,z31,z32,z33,z34,qa3]
 try simp only[qb6,qb7,qc7,z31,z32,z2,z1]
 refine⟨h,λhe=>?_,λhe=>?_⟩
 ·cases hv:validB m with
  | true=>exact absurd (by rw[show qy4 m=(((ordL m:Nat):Int),0) from if_pos hv]) he
  | false=>unfold wm1; rw[if_neg (by rw[hv]; decide)]
 have hv:validB m=true:=by
  cases hv:validB m with
  | true=>rfl
  | false=>rw[show qy4 m=(0,1) from if_neg (by rw[hv]; decide)] at he; cases he
 have hM:=Mk.of hv
 have m1:=hM.rows1
 have m10:=hM.pix10
 have h7:=h.n7 hv
 have hO:=xf1 m
 have o21:=qo2 (n:=((ordL m:Nat):Int)) (by omega) (by omega)
 rw[show qy4 m=(((ordL m:Nat):Int),0) from if_pos hv]
 dsimp only
 have fin:∀k,q7p m k->xx6 m=k->wm1 m=qk2 m k++⟨#[111,114,100,101,114,32]⟩++itB (ordL m:Nat)++⟨#[10]⟩:=λk hk e=>by
  unfold wm1
  rw[if_pos hv,e]
 have s6:(⟨#[111,114,100,101,114,32]⟩:ByteArray).size=6:=rfl
 refine⟨(),0,⟨Nat.zero_le _,rfl⟩,⟨rfl,rfl⟩,λk hk=>⟨by omega,λhle=>?_,λhgt=>?_⟩⟩
 ·have hsz:=rep_size h hv k hk.le
  have hq:=wb4 h hv (k:=k) (by omega)
  have e1:((k:Int)+1)=((k+1:Nat):Int):=by push_cast; rfl
  have hw:(whR m ((k:Int)+1)).1=wm4 m k:=by rw[e1]; exact xe8 hv h7 (by omega)
  have hstep:xb7 m ((nL m 0).length-k) k=if(wm4 m k).1=(wm4 m k).2 then k else xb7 m ((nL m 0).length-(k+1)) (k+1):=by
   obtain⟨f,hf⟩:∃f,(nL m 0).length-k=f+1:=⟨(nL m 0).length-k-1,by omega⟩
   rw[hf,show(nL m 0).length-(k+1)=f by omega,xb7]
  rw[hw]
  have q1:=hq.n
  have q2:=hq.d
  unfold lil at q1 q2
  have a1:=qo2 (n:=(k:Int)+1) (by omega) (by omega)
  have a2:=qo2 (n:=(wm4 m k).1) (by omega) (by omega)
  have a3:=qo2 (n:=(wm4 m k).2) (by omega) (by omega)
  have s1:(⟨#[32]⟩:ByteArray).size=1:=rfl
  have s2:(⟨#[47]⟩:ByteArray).size=1:=rfl
  have s3:(⟨#[10]⟩:ByteArray).size=1:=rfl
  refine⟨⟨h,hv,by omega,by omega⟩,λhb=>?_,λhb=>?_⟩
  ·have e:=fin k hk (by rw[hk.eq,hstep,if_pos hb])
   rw[e]
   simp only[ByteArray.size_append,s6]
   exact⟨by omega,⟨by omega,by omega⟩,by omega,by omega,trivial⟩
  ·have e:qk2 m (k+1)=qk2 m k++w7i ((k:Int)+1) (wm4 m k):=rfl
   simp only[ByteArray.size_append,s1,s2,s3]
   exact⟨⟨by omega,by omega⟩,by omega,⟨by omega,by omega⟩,by omega,by omega,⟨by omega,by omega⟩,by omega,by omega,by omega,qa7 (by omega) (by omega),k+1,⟨by omega,by rw[hk.eq,hstep,if_neg hb]⟩,by omega,by rw[e]; rfl,by push_cast; rfl⟩
 ·have hsz:=rep_size h hv k hk.le
  have hkn:k=(nL m 0).length:=by have:=hk.le; omega
  have e:=fin k hk (by rw[hk.eq,hkn,Nat.sub_self]; rfl)
  rw[e]
  simp only[ByteArray.size_append,s6]
  exact⟨by omega,⟨by omega,by omega⟩,by omega,by omega,trivial⟩
def xw6 (m:List (List Int)):Nat->Option Inv
 | 0=>some (Inv.of [3,16] 1 (λk:Nat=>[(3,.msl 0 none),(16,.lit (.int .i64 k))]) (λk=>[.bld 38 5 (qk2 m k)]) (λk=>q7p m k) (λk=>(nL m 0).length-k))
 | _=>none
theorem xw7 {m0:View} (hT:Tab m0):MeetsAt Tryz.prog m0 6 x22:=by
 refine wo3 (w82 (SpecsAt.cons (q40.at m0) (SpecsAt.cons (q3x.at m0) (SpecsAt.cons (q6u.at m0) (SpecsAt.cons (q3d.at m0) (SpecsAt.cons (w46 hT) (SpecsAt.nil _ _))))))) hT.cells Tryz.func6 rfl rfl (λx=>xw6 x.1) (λ_=>by kernel_rfl) (by decide) ?_
 rintro⟨m,⟨⟩⟩ h
 revert m
 intro(m:List (List Int)) (h:wm3 m)
 refine @qe7 _ (True/\((!validB m)=true->Value.string { data:=#[] }=Value.string (wm1 m))/\((!validB m)=false->(validB m=true->q7o m)/\((0:Int)<=(0:Int)/\(0:Int)<(↑m.length:Int))/\∃(v1:Unit),∃(v2:Nat),q7p m v2/\((True/\(0:Int)=(↑v2:Int)/\True)/\{ data:=#[] }=qk2 m v2/\True)/\∀(v3:Nat),q7p m v3->(decide ((↑v3:Int)<(↑(nL m (0:Nat)).length:Int))=true->fits .i64 ((↑v3:Int)+(1:Int))/\q6t (qc9 m).1 ((↑v3:Int)+(1:Int))/\(((qg5 (qc9 m).1 ((↑v3:Int)+(1:Int)).toNat (qc9 m).1.length).1==(qg5 (qc9 m).1 ((↑v3:Int)+(1:Int)).toNat (qc9 m).1.length).2)=true->ByteArray.size (qk2 m v3)+(6:Nat)<=(9223372036854775807:Nat)/\(validB m=true/\wy9 m)/\((-9223372036854775808:Int)<=(↑(ordL m):Int)/\(↑(ordL m):Int)<=(9223372036854775807:Ty.den tInt))/\ByteArray.size (qk2 m v3++{ data:=#[(111:UInt8),(114:UInt8),(100:UInt8),(101:UInt8),(114:UInt8),(32:UInt8)] })+ByteArray.size (itB (↑(ordL m):Int))<=(9223372036854775807:Nat)/\ByteArray.size (qk2 m v3++{ data:=#[(111:UInt8),(114:UInt8),(100:UInt8),(101:UInt8),(114:UInt8),(32:UInt8)] }++itB (↑(ordL m):Int))+(1:Nat)<=(9223372036854775807:Nat)/\Value.string (qk2 m v3++{ data:=#[(111:UInt8),(114:UInt8),(100:UInt8),(101:UInt8),(114:UInt8),(32:UInt8)] }++itB (↑(ordL m):Int)++{ data:=#[(10:UInt8)] })=Value.string (wm1 m))/\(((qg5 (qc9 m).1 ((↑v3:Int)+(1:Int)).toNat (qc9 m).1.length).1==(qg5 (qc9 m).1 ((↑v3:Int)+(1:Int)).toNat (qc9 m).1.length).2)=false->fits .i64 ((↑v3:Int)+(1:Int))/\((-9223372036854775808:Int)<=(↑v3:Int)+(1:Int)/\(↑v3:Int)+(1:Int)<=(9223372036854775807:Ty.den tInt))/\ByteArray.size (itB ((↑v3:Int)+(1:Int)))+(1:Nat)<=(9223372036854775807:Nat)/\((-9223372036854775808:Int)<=(qg5 (qc9 m).1 ((↑v3:Int)+(1:Int)).toNat (qc9 m).1.length).1/\(qg5 (qc9 m).1 ((↑v3:Int)+(1:Int)).toNat (qc9 m).1.length).1<=(9223372036854775807:Ty.den tInt))/\ByteArray.size (itB ((↑v3:Int)+(1:Int))++{ data:=#[(32:UInt8)] })+ByteArray.size (itB (qg5 (qc9 m).1 ((↑v3:Int)+(1:Int)).toNat (qc9 m).1.length).1)<=(9223372036854775807:Nat)/\ByteArray.size (itB ((↑v3:Int)+(1:Int))++{ data:=#[(32:UInt8)] }++itB (qg5 (qc9 m).1 ((↑v3:Int)+(1:Int)).toNat (qc9 m).1.length).1)+(1:Nat)<=(9223372036854775807:Nat)/\((-9223372036854775808:Int)<=(qg5 (qc9 m).1 ((↑v3:Int)+(1:Int)).toNat (qc9 m).1.length).2/\(qg5 (qc9 m).1 ((↑v3:Int)+(1:Int)).toNat (qc9 m).1.length).2<=(9223372036854775807:Ty.den tInt))/\ByteArray.size (itB ((↑v3:Int)+(1:Int))++{ data:=#[(32:UInt8)] }++itB (qg5 (qc9 m).1 ((↑v3:Int)+(1:Int)).toNat (qc9 m).1.length).1++{ data:=#[(47:UInt8)] })+ByteArray.size (itB (qg5 (qc9 m).1 ((↑v3:Int)+(1:Int)).toNat (qc9 m).1.length).2)<=(9223372036854775807:Nat)/\ByteArray.size (itB ((↑v3:Int)+(1:Int))++{ data:=#[(32:UInt8)] }++itB (qg5 (qc9 m).1 ((↑v3:Int)+(1:Int)).toNat (qc9 m).1.length).1++{ data:=#[(47:UInt8)] }++itB (qg5 (qc9 m).1 ((↑v3:Int)+(1:Int)).toNat (qc9 m).1.length).2)+(1:Nat)<=(9223372036854775807:Nat)/\ByteArray.size (qk2 m v3)+ByteArray.size (itB ((↑v3:Int)+(1:Int))++{ data:=#[(32:UInt8)] }++itB (qg5 (qc9 m).1 ((↑v3:Int)+(1:Int)).toNat (qc9 m).1.length).1++{ data:=#[(47:UInt8)] }++itB (qg5 (qc9 m).1 ((↑v3:Int)+(1:Int)).toNat (qc9 m).1.length).2++{ data:=#[(10:UInt8)] })<=(1000000000:Nat)/\fits .i64 ((↑v3:Int)+(1:Int))/\∃(v7:Nat),q7p m v7/\(nL m (0:Nat)).length-v7<(nL m (0:Nat)).length-v3/\(True/\(↑v3:Int)+(1:Int)=(↑v7:Int)/\True)/\qk2 m v3++(itB ((↑v3:Int)+(1:Int))++{ data:=#[(32:UInt8)] }++itB (qg5 (qc9 m).1 ((↑v3:Int)+(1:Int)).toNat (qc9 m).1.length).1++{ data:=#[(47:UInt8)] }++itB (qg5 (qc9 m).1 ((↑v3:Int)+(1:Int)).toNat (qc9 m).1.length).2++{ data:=#[(10:UInt8)] })=qk2 m v7/\True))/\(decide ((↑v3:Int)<(↑(nL m (0:Nat)).length:Int))=false->ByteArray.size (qk2 m v3)+(6:Nat)<=(9223372036854775807:Nat)/\(validB m=true/\wy9 m)/\((-9223372036854775808:Int)<=(↑(ordL m):Int)/\(↑(ordL m):Int)<=(9223372036854775807:Ty.den tInt))/\ByteArray.size (qk2 m v3++{ data:=#[(111:UInt8),(114:UInt8),(100:UInt8),(101:UInt8),(114:UInt8),(32:UInt8)] })+ByteArray.size (itB (↑(ordL m):Int))<=(9223372036854775807:Nat)/\ByteArray.size (qk2 m v3++{ data:=#[(111:UInt8),(114:UInt8),(100:UInt8),(101:UInt8),(114:UInt8),(32:UInt8)] }++itB (↑(ordL m):Int))+(1:Nat)<=(9223372036854775807:Nat)/\Value.string (qk2 m v3++{ data:=#[(111:UInt8),(114:UInt8),(100:UInt8),(101:UInt8),(114:UInt8),(32:UInt8)] }++itB (↑(ordL m):Int)++{ data:=#[(10:UInt8)] })=Value.string (wm1 m)))) (by kernel_rfl) ?_
 try simp only[z0,z1,z2,z3,z4,z5,z6,z7,z8,z9,z10,Int.reduceEq,z11,z12,z13,z14,z15,z16,z17,z18,z19,z20,z21,z22,z23,z24,z25,z26,z27,z28,z29,z30,Int.reduceLE,Int.reduceLT,z31,z32,z33,z34,qa3]
 try simp only[qb6,qb7,qc7,z31,z32,z2,z1]
 refine⟨λhv=>by unfold wm1; rw[if_neg (by rw[hv]; decide)],λhv=>?_⟩
 have hM:=Mk.of hv
 have m1:=hM.rows1
 have m10:=hM.pix10
 have h7:=h.n7 hv
 have hcc:wy9 m:=xw0 λ_=>h7
 have hO:=xf1 m
 have o21:=qo2 (n:=((ordL m:Nat):Int)) (by omega) (by omega)
 have fin:∀k,q7p m k->xx6 m=k->wm1 m=qk2 m k++⟨#[111,114,100,101,114,32]⟩++itB (ordL m:Nat)++⟨#[10]⟩:=λk hk e=>by
  unfold wm1
  rw[if_pos hv,e]
 have s6:(⟨#[111,114,100,101,114,32]⟩:ByteArray).size=6:=rfl
 refine⟨λhv=>xv4 hv,by omega,(),0,⟨Nat.zero_le _,rfl⟩,⟨rfl,rfl⟩,λk hk=>⟨λhlt=>?_,λhge=>?_⟩⟩
 ·have hsz:=rep_size h hv k hk.le
  have hq:=wb4 h hv (k:=k) (by omega)
  have hT:=hcc.shs hv (k+1) (by omega)
  have e1:((k+1:Nat):Int)=(k:Int)+1:=by push_cast; rfl
  rw[e1] at hT
  have hw:qg5 (qc9 m).1 ((k:Int)+1).toNat (qc9 m).1.length=wm4 m k:=by rw[show((k:Int)+1).toNat=k+1 by omega]; rfl
  have hstep:xb7 m ((nL m 0).length-k) k=if(wm4 m k).1=(wm4 m k).2 then k else xb7 m ((nL m 0).length-(k+1)) (k+1):=by
   obtain⟨f,hf⟩:∃f,(nL m 0).length-k=f+1:=⟨(nL m 0).length-k-1,by omega⟩
   rw[hf,show(nL m 0).length-(k+1)=f by omega,xb7]
  rw[hw]
  have q1:=hq.n
  have q2:=hq.d
  unfold lil at q1 q2
  have a1:=qo2 (n:=(k:Int)+1) (by omega) (by omega)
  have a2:=qo2 (n:=(wm4 m k).1) (by omega) (by omega)
  have a3:=qo2 (n:=(wm4 m k).2) (by omega) (by omega)
  have s1:(⟨#[32]⟩:ByteArray).size=1:=rfl
  have s2:(⟨#[47]⟩:ByteArray).size=1:=rfl
  have s3:(⟨#[10]⟩:ByteArray).size=1:=rfl
  have f1:fits IntKind.i64 ((k:Int)+1):=qa7 (by omega) (by omega)
  refine⟨f1,hT,λhb=>?_,λhb=>?_⟩
  ·have e:=fin k hk (by rw[hk.eq,hstep,if_pos hb])
   rw[e]
   simp only[ByteArray.size_append,s6]
   exact⟨by omega,⟨hv,hcc⟩,⟨by omega,by omega⟩,by omega,by omega,trivial⟩
  ·have e:qk2 m (k+1)=qk2 m k++w7i ((k:Int)+1) (wm4 m k):=rfl
   simp only[ByteArray.size_append,s1,s2,s3]
   exact⟨f1,⟨by omega,by omega⟩,by omega,⟨by omega,by omega⟩,by omega,by omega,⟨by omega,by omega⟩,by omega,by omega,by omega,f1,k+1,⟨by omega,by rw[hk.eq,hstep,if_neg hb]⟩,by omega,by push_cast; rfl,by rw[e]; rfl⟩
 ·have hsz:=rep_size h hv k hk.le
  have hkn:k=(nL m 0).length:=by have:=hk.le; omega
  have e:=fin k hk (by rw[hk.eq,hkn,Nat.sub_self]; rfl)
  rw[e]
  simp only[ByteArray.size_append,s6]
  exact⟨by omega,⟨hv,hcc⟩,⟨by omega,by omega⟩,by omega,by omega,trivial⟩
abbrev x2d:qb9:=qg6 true none [tMask] [.bool] (λx=>w7l x.1) (λ_=>(true,()))
theorem q7q {m0:View} (hT:Tab m0):MeetsAt Tryz.prog m0 3 x2d:=by
 refine wo3 (xr5 (SpecsAt.cons (w2t.at m0) (SpecsAt.cons (w7g.at m0) (SpecsAt.cons (xw7 hT) (SpecsAt.cons (xn2 hT) (SpecsAt.nil _ _)))))) hT.cells Tryz.func3 rfl rfl (λ_ _=>none) (λ_=>by kernel_rfl) (by decide) ?_
 rintro⟨m,⟨⟩⟩ hh
 revert m
 intro(m:List (List Int)) (hh:w7l m)
 refine @qe7 _ (m.length<=(9223372036854775807:Nat)/\((!w2r m)=true->True/\true=true)/\((!w2r m)=false->wm3 m/\wm3 m/\(decide (wm1 m=wm1 m)=true->True/\true=true)/\(decide (wm1 m=wm1 m)=false->false=true))) (by kernel_rfl) ?_
 try simp only[z0,z1,z2,z3,z4,z5,z6,z7,z8,z9,z10,Int.reduceEq,z11,z12,z13,z14,z15,z16,z17,z18,z19,z20,z21,z22,z23,z24,z25,z26,z27,z28,z29,z30,Int.reduceLE,Int.reduceLT,z31,z32,z33,z34,qa3]
 try simp only[qb6,qb7,qc7,z31,z32,z2,z1]
 have f7:w2r m=true->wm3 m:=λh6=>⟨hh,λhv=>xn0 h6 hv⟩
 exact⟨hh.rows,λh6=>⟨f7 h6,f7 h6,λq=>absurd trivial q⟩⟩
open Go.ChangeShapes Go.WideShapes Go.ChangeAt Go.RowKit Go.Deep Ls
theorem own:ownKnob Tryz.prog.godebug=none:=by kernel_rfl
theorem laidOut:laidOutB Tryz.prog=true:=by kernel_rfl
theorem x2e {H:Type} {enc:TypeId × Value->H} {W:World} {t e q:TypeId} {v:Value} {d:DataW H} {p:List MemPlace} (ht:Tryz.prog.underlying t=some (.slice e)) (he:Tryz.prog.underlying e=some (.slice q)) (hq:Tryz.prog.underlying q=some (.int .i64))
  (ce:Tryz.prog.cellsOf e=1) (cq:Tryz.prog.cellsOf q=1)
  (hv:∃a l c,v=.slice a l c) (h:DataW.Trod enc Tryz.prog W 0 (λ_=>true) true t v d p):∃a l c m,v=.slice a l c/\SM W a l c m:=by
 obtain⟨a,l,c,rfl⟩:=hv
 obtain⟨fuel,hf⟩:=h
 rcases open_int_rows ht he hq ce cq hf with⟨hcs,_⟩ | ⟨x,l',c',A,L,C,Z,hcs,_,hl,hm,_,hr⟩
 ·simp[Value.cells] at hcs
  obtain⟨rfl,rfl,rfl⟩:=hcs
  exact⟨_,_,_,[],rfl,SM.nil W⟩
 ·simp[Value.cells] at hcs
  obtain⟨rfl,rfl,rfl⟩:=hcs
  refine⟨_,_,_,(List.range l).map (λr=>(Z r).take (L r)),rfl,by simp,hl,hm,λ_=>⟨x,rfl,λk hk=>?_⟩⟩
  obtain⟨h1,h2,h3,h4,_,h6,h7⟩:=hr k (by omega)
  have e0:nthL ((List.range l).map (λr=>(Z r).take (L r))) k=(Z k).take (L k):=by simp[nthL,hk]
  have e1:((Z k).take (L k)).length=L k:=by simp; omega
  rw[e0,e1]
  refine⟨A k,C k,h1,e1,h2,h3,λhp=>?_⟩
  cases hA:A k with
  | none=>have:=h6 hA; omega
  | some a'=>
   refine⟨a',rfl,λj hj=>?_⟩
   rw[(h7 a' hA).2 j (by omega)]
   simp[nth,hj]
end Go.Proofs.YtempacilejhbgaaGreatDoor
set_option linter.unusedVariables false
namespace Go.Proofs.YtempacilejhbgaaGreatDoor
open Go Go.RowKit Eng Ls
theorem xn3 {w:World} {A:Option Addr} {n c:Nat} {m:List (List Int)} (s:SM w A n c m):w7l m:=by
 have hl:=s.len
 have hn:=s.nmax
 refine⟨by omega,λi hi=>?_⟩
 obtain⟨ad,_,h⟩:=s.at_ (by omega)
 obtain⟨A',c',_,h2⟩:=h i (by omega)
 have e:nL m i=nthL m i:=by
  rw[ql4 m i hi]
  unfold nthL
  rw[List.getD_eq_getElem?_getD,List.getElem?_eq_getElem hi]
  rfl
 rw[e]
 exact h2.nmax
open Go Go.RowKit Eng
theorem q81 : Tryz.prog.globalNamed "internal/strconv.uint64pow10" = some 0 := by kernel_rfl
theorem xb8:(Tryz.prog.globals[0]?).map (·.type)=some 110:=by kernel_rfl
theorem ws6 {W : World} (h : laidMetH Tryz.prog Rows.condReportsRow.laid W) : Lib.TabIs Tryz.prog W "internal/strconv.uint64pow10" .u64 Lib.pow10Tab := by
 rw[MakeChecks.laidMetH_plain _ _ _ (by kernel_rfl)] at h
 obtain⟨ps,⟨g0,t0,cs0,f0,p0,q0,hg0,ht0,hv0,hd0,⟨g1,t1,cs1,f1,p1,q1,hg1,ht1,hv1,hd1,⟨g2,t2,cs2,f2,p2,q2,hg2,ht2,hv2,hd2,_,_⟩,_⟩,_⟩,_⟩:=h
 obtain rfl:=Option.some.inj (q81.symm.trans hg2)
 obtain rfl:=Option.some.inj (xb8.symm.trans ht2)
 unfold Lib.TabIs
 rw[hv2,<- Lib.cells_of_tab (k:=.u64) (zs:=Lib.pow10Tab) Tryz.underlying110 Tryz.underlying96 (by kernel_rfl) (by kernel_rfl) hd2]
theorem xb9 {W : World} (h : Lib.TabIs Tryz.prog W "internal/strconv.uint64pow10" .u64 Lib.pow10Tab) : Tab (View.cells fun b => W.heap[b]?) := by
 refine⟨Cells.of,λw hw=>?_⟩
 unfold Lib.TabIs World.var? at *
 rw[q81] at h ⊢
 simp only[Option.bind_some] at h ⊢
 split at h
 ·rename_i cs t f hc
  have:w.heap[0]? = some (.cells cs t f):=hw 0 _ (by unfold View.cells; dsimp only; rw[hc])
  rw[this]
  exact h
 ·cases h
theorem full_on (W:World):(View.cells λb=>W.heap[b]?).on W:=λb o hb=>View.cells_le _ b o hb
theorem q4q (W:World) {A0:Option Addr} {c0:Nat} {z0:List (List Int)} (s0:Ls.SM W A0 z0.length c0 z0) (hL:laidMetH Tryz.prog Rows.condReportsRow.laid W):Calls Tryz.prog 3 #[.slice A0 z0.length c0] W λe W'=>e=.returned (.bool true)/\Below W.heap.size W W':=by
 have hx:qs1 (λb=>W.heap[b]?) [.list tInts] (z0,()) [.slice A0 z0.length c0]:=⟨_,_,rfl,xr2 s0,rfl⟩
 exact w1s (x:=((z0,()):qa4 [tMask])) (q7q (xb9 (ws6 hL))) (full_on W) (xn3 s0) hx
open Go.ChangeShapes Go.WideShapes Go.ChangeAt Go.RowKit Go.Deep Eng Ls
set_option linter.unusedVariables false
theorem door_met (os:Os) (args:Array Value):laidMetH Tryz.prog Rows.condReportsRow.laid ((World.doorLaid Tryz.prog 400 os).forCall (λ_ _=>0) ⟨#[],args,[]⟩).memory:=
 laidMetH_of_parts3 (fuel:=8) (laidMet_of_run' 8 (by kernel_rfl) (by kernel_rfl)) (by kernel_rfl) (by kernel_rfl)
set_option maxRecDepth 100000 in
theorem q3g (os:Os) (started:os.Started) (H:Type) (enc:TypeId × Value->H) :
  ReturnsInHanded {} Tryz.checked os 3 .any (λw args=>(Rows.condReportsSpec.pre enc Tryz.prog Tryz.f3 [] false w args/\laidMetH Tryz.prog Rows.condReportsRow.laid w)/\sizedMet enc Tryz.prog Tryz.f3 (OpenSpec.ofChange Rows.condReportsSpec) false w args)
   (Rows.condReportsSpec.post enc Tryz.prog Tryz.f3 false true false false):=by
 refine returnsInHanded_of_change_and (C:=Tryz.checked) (X:=λw _=>laidMetH Tryz.prog Rows.condReportsRow.laid w) (λ_ _ _ hh h=>h.of_heap hh) own started (by kernel_rfl) Tryz.func3
  (ChangeSpec.witness_shaped (enc:=enc) (C:=Tryz.checked) (os:=os) (X:=λw _=>laidMetH Tryz.prog Rows.condReportsRow.laid w) false (World.doorLaid Tryz.prog 400 os) #[.slice none 0 0] 8 rfl (World.shaped_of_RefB (by kernel_rfl) (by kernel_rfl)) (by kernel_rfl) (by kernel_rfl) (by kernel_rfl) (door_met os _)) ?_
 intro W base args ds gs before hval0 hW _ _ hL _
 have hval:∀(j:Nat) t v,Tryz.f3.params[j]? = some t->args[j]? = some v->Value.okWide Tryz.prog W .any base t v:=hval0
 have hW':=hW
 obtain⟨p,q,hA0,hV,rfl,hfz,hnd⟩:=hW
 have hA:DataW.TrodAll enc Tryz.prog W 0 (λ_=>true) true Tryz.f3.params.toList args.toList ds p:=hA0
 rw[Tryz.params3] at hA hval
 obtain⟨v0,vs0,d0,ds0,p0,q0,hargs,rfl,rfl,h0,r0⟩:=trodAll_cons hA
 obtain⟨rfl,rfl,rfl⟩:=trodAll_nil r0
 obtain rfl:args=#[v0]:=by cases args; simp_all
 obtain⟨rfl,rfl⟩:=trodVars_none hV
 have k0:=h0
 have lt0:∀x∈p0,x.block<W.heap.size:=by obtain⟨m,hm⟩:=k0; exact DataW.trod_lt m _ _ _ hm
 obtain⟨A0,n0,c0,z0,rfl,s0⟩:=x2e Tryz.underlying23 Tryz.underlying27 Tryz.underlying3 (by kernel_rfl) (by kernel_rfl) (okWide_slice Tryz.underlying23 (hval 0 23 v0 rfl rfl)) h0
 clear hA0 hval0
 obtain rfl:=s0.len
 refine(q4q W s0 hL).mono λe W' ⟨he,bel⟩=>?_
 subst he
 exact⟨_,rfl,_,_,_,[],_,[],hW',trodAll_mk1 (shut_bool Tryz.underlying4 _),(trodAll_cons_mk (Below.trod laidOut (by kernel_rfl) (of_decide_eq_true (by kernel_rfl)) k0 bel lt0) trodAll_mk0),rfl,bel.frame _,λh=>by cases h⟩
theorem q0q:Rows.CondReportsSaid:=
 OpenClaim.holds_of_wide 3 Tryz.f3 rfl rfl rfl rfl rfl rfl rfl ⟨rfl,rfl,rfl,rfl,rfl⟩ rfl rfl rfl rfl rfl (by kernel_rfl) Tryz.func3 (by kernel_rfl)
  (of_decide_eq_true (by kernel_rfl)) (by unfold Func.isWrapper; first | (rw[if_pos (by decide +kernel)]; kernel_rfl) | (rw[if_neg (by decide +kernel)]; exact⟨rfl,rfl⟩))
  (λos started H enc _=>q3g os started H enc)
#print axioms q0q
end Go.Proofs.YtempacilejhbgaaGreatDoor
