/- Twins, program and reference: contracts by the engine. No condition. -/
import Derived.Test.YtempacilejhbgaaGreatV19
set_option linter.unusedVariables false
set_option linter.unusedSimpArgs false
namespace Go.Proofs.YtempacilejhbgaaGreat
open Go Go.RowKit Eng
def nzTo (l:List Int):Nat->Nat
 | 0=>0
 | k+1=>if nI l k≠0 then nzTo l k+1 else nzTo l k
theorem ww8 (l:List Int):∀k,nzTo l k<=k
 | 0=>Nat.le_refl _
 | k+1=>by have:=ww8 l k; rw[nzTo]; split <;> omega
def qr0 (a b:List Int):Nat->Int
 | 0=>0
 | k+1=>qr0 a b k+nI a k*nI b k
structure ww9 (a b:List Int):Prop where
 len:a.length<=10
 le:a.length<=b.length
 sa:∀i,i<a.length->-1<=nI a i/\nI a i<=1
 sb:∀i,i<a.length->qd5 1000000 (nI b i)
theorem q72 {x y K:Int} (hx:-1<=x/\x<=1) (hy:qd5 K y):qd5 K (x*y):=by
 unfold qd5 at *
 rcases(show x=-1\/x=0\/x=1 by omega) with rfl | rfl | rfl
 ·rw[show(-1:Int)*y=-y by omega]; omega
 ·rw[Int.zero_mul]; omega
 ·rw[Int.one_mul]; exact hy
theorem wg1 {a b:List Int} (h:ww9 a b):∀k,k<=a.length->qd5 (1000000*k) (qr0 a b k)
 | 0,_=>by unfold qd5; simp[qr0]
 | k+1,hk=>by
  have h1:=wg1 h k (by omega)
  have h2:=q72 (h.sa k (by omega)) (h.sb k (by omega))
  unfold qd5 at *
  rw[qr0]
  omega
abbrev x51:qc0:=qf3 true none [tInts,tInts] [tInt] (λx=>ww9 x.1 x.2.1) (λx=>(qr0 x.1 x.2.1 x.1.length,()))
def xf6 (a b:List Int):Nat->Option Inv
 | 0=>some (Inv.of [5,10] 0 (λk:Nat=>[(5,.lit (.int .i64 (qr0 a b k))),(10,.lit (.int .i64 k))]) (λ_=>[]) (λk=>k<=a.length) (λk=>a.length-k))
 | _=>none
theorem wp8:qd2 Tryz.prog 143 x51:=by
 refine meets (snd (SpecsOk.nil _)) Tryz.func143 rfl rfl (λx=>xf6 x.1 x.2.1) (λ_=>by kernel_rfl) (by decide) ?_
 rintro⟨a,b,⟨⟩⟩ h
 revert a b
 intro(a:List Int) (b:List Int) (h:ww9 a b)
 refine @qd4 _ (∃(v0:Unit),∃(v1:Nat),Nat.le v1 a.length/\(((0:Int)=qr0 a b v1/\(0:Int)=(↑v1:Int)/\True)/\True)/\∀(v2:Nat),Nat.le v2 a.length->(decide ((↑v2:Int)<(↑a.length:Int))=true->((0:Int)<=(↑v2:Int)/\(↑v2:Int)<(↑a.length:Int))/\((0:Int)<=(↑v2:Int)/\(↑v2:Int)<(↑b.length:Int))/\fits .i64 (nI a v2*nI b v2)/\fits .i64 (qr0 a b v2+nI a v2*nI b v2)/\fits .i64 ((↑v2:Int)+(1:Int))/\∃(v5:Nat),Nat.le v5 a.length/\a.length-v5<a.length-v2/\(qr0 a b v2+nI a v2*nI b v2=qr0 a b v5/\(↑v2:Int)+(1:Int)=(↑v5:Int)/\True)/\True)/\(decide ((↑v2:Int)<(↑a.length:Int))=false->qr0 a b v2=qr0 a b a.length)) (by kernel_rfl) ?_
 try simp only[z0,z1,z2,z3,z4,z5,z6,z7,z8,z9,z10,Int.reduceEq,z11,z12,z13,z14,z15,z16,z17,z18,z19,z20,z21,z22,z23,z24,z25,z26,z27,z28,z29,z30,Int.reduceLE,Int.reduceLT,z31,z32,z33,z34,qa1]
 try simp only[qb3,qb4,qb9,z31,z32,z2,z1]
 have hl:=h.len
 have hle:=h.le
 refine⟨(),0,Nat.zero_le _,⟨rfl,rfl⟩,λk hk=>⟨λhlt=>?_,λhge=>?_⟩⟩
 ·have h1:=wg1 h k hk
  have h2:=q72 (h.sa k hlt) (h.sb k hlt)
  unfold qd5 at h1 h2
  exact⟨hlt,by omega,qa5 (by omega) (by omega),qa5 (by omega) (by omega),qa5 (by omega) (by omega),k+1,hlt,by omega,rfl,by omega⟩
 ·obtain rfl:k=a.length:=by omega
  rfl
def x0p (a b:List Int):Nat->Option Inv
 | 0=>some (Inv.of [5,9] 0 (λk:Nat=>[(5,.lit (.int .i64 (qr0 a b k))),(9,.lit (.int .i64 k))]) (λ_=>[]) (λk=>k<=a.length) (λk=>a.length-k))
 | _=>none
theorem w3z:qd2 Tryz.prog 68 x51:=by
 refine meets (snd (SpecsOk.nil _)) Tryz.func68 rfl rfl (λx=>x0p x.1 x.2.1) (λ_=>by kernel_rfl) (by decide) ?_
 rintro⟨a,b,⟨⟩⟩ h
 revert a b
 intro(a:List Int) (b:List Int) (h:ww9 a b)
 refine @qd4 _ (∃(v0:Unit),∃(v1:Nat),Nat.le v1 a.length/\(((0:Int)=qr0 a b v1/\(0:Int)=(↑v1:Int)/\True)/\True)/\∀(v2:Nat),Nat.le v2 a.length->(decide ((↑v2:Int)<(↑a.length:Int))=true->((0:Int)<=(↑v2:Int)/\(↑v2:Int)<(↑a.length:Int))/\((0:Int)<=(↑v2:Int)/\(↑v2:Int)<(↑b.length:Int))/\fits .i64 (nI a v2*nI b v2)/\fits .i64 (qr0 a b v2+nI a v2*nI b v2)/\fits .i64 ((↑v2:Int)+(1:Int))/\∃(v5:Nat),Nat.le v5 a.length/\a.length-v5<a.length-v2/\(qr0 a b v2+nI a v2*nI b v2=qr0 a b v5/\(↑v2:Int)+(1:Int)=(↑v5:Int)/\True)/\True)/\(decide ((↑v2:Int)<(↑a.length:Int))=false->qr0 a b v2=qr0 a b a.length)) (by kernel_rfl) ?_
 try simp only[z0,z1,z2,z3,z4,z5,z6,z7,z8,z9,z10,Int.reduceEq,z11,z12,z13,z14,z15,z16,z17,z18,z19,z20,z21,z22,z23,z24,z25,z26,z27,z28,z29,z30,Int.reduceLE,Int.reduceLT,z31,z32,z33,z34,qa1]
 try simp only[qb3,qb4,qb9,z31,z32,z2,z1]
 have hl:=h.len
 have hle:=h.le
 refine⟨(),0,Nat.zero_le _,⟨rfl,rfl⟩,λk hk=>⟨λhlt=>?_,λhge=>?_⟩⟩
 ·have h1:=wg1 h k hk
  have h2:=q72 (h.sa k hlt) (h.sb k hlt)
  unfold qd5 at h1 h2
  exact⟨hlt,by omega,qa5 (by omega) (by omega),qa5 (by omega) (by omega),qa5 (by omega) (by omega),k+1,hlt,by omega,rfl,by omega⟩
 ·obtain rfl:k=a.length:=by omega
  rfl
abbrev x0q:qc0:=hspec [] true none [.cap tMask] [tInt] (λx=>0<x.1.length) (λx=>((nL x.1 0).length,()))
theorem w30:qd2 Tryz.prog 163 x0q:=by
 refine qr9 (SpecsOk.nil _) (snd (SpecsOk.nil _)) Tryz.func163 rfl rfl (λ_ _=>none) (λ_=>by kernel_rfl) (by decide) ?_
 rintro⟨m,⟨⟩⟩ h
 revert m
 intro(m:List (List Int)) (h:0<m.length)
 refine @qd4 _ (((0:Int)<=(0:Int)/\(0:Int)<(↑m.length:Int))/\(↑(nL m (0:Nat)).length:Int)=(↑(nL m (0:Nat)).length:Int)) (by kernel_rfl) ?_
 try simp only[z0,z1,z2,z3,z4,z5,z6,z7,z8,z9,z10,Int.reduceEq,z11,z12,z13,z14,z15,z16,z17,z18,z19,z20,z21,z22,z23,z24,z25,z26,z27,z28,z29,z30,Int.reduceLE,Int.reduceLT,z31,z32,z33,z34,qa1]
 try simp only[qb3,qb4,qb9,z31,z32,z2,z1]
 omega
abbrev x0r:qc0:=hspec [] true none [.d tInt,.cap tInt] [.bool] (λx=>qd5 BIG x.2.1) (λx=>(inB x.1 (0-x.2.1) x.2.1,()))
theorem w31:qd2 Tryz.prog 186 x0r:=by
 refine qr9 (SpecsOk.nil _) (snd (SpecsOk.cons qs6 (SpecsOk.nil _))) Tryz.func186 rfl rfl (λ_ _=>none) (λ_=>by kernel_rfl) (by decide) ?_
 rintro⟨n,k,⟨⟩⟩ h
 revert n k
 intro(n:Int) (k:Int) (h:qd5 BIG k)
 refine @qd4 _ (fits .i64 ((0:Int)-k)/\True/\inB n ((0:Int)-k) k=inB n ((0:Int)-k) k) (by kernel_rfl) ?_
 try simp only[z0,z1,z2,z3,z4,z5,z6,z7,z8,z9,z10,Int.reduceEq,z11,z12,z13,z14,z15,z16,z17,z18,z19,z20,z21,z22,z23,z24,z25,z26,z27,z28,z29,z30,Int.reduceLE,Int.reduceLT,z31,z32,z33,z34,qa1]
 try simp only[qb3,qb4,qb9,z31,z32,z2,z1]
 unfold qd5 BIG at h
 exact qa5 (by omega) (by omega)
def wx0 (m:List (List Int)) (l:List Int) (n k:Int):Int:=if validB m=false then 1 else if(l.length:Int)≠n then 9 else if(l.all λe=>inB e (0-k) k)=false then 7 else 0
abbrev x8s (fs:List (Nat × qc0)):qc0:=hspec fs true none [.d tMask,.d tInts,.fn [] tInt,.d tInt] [tInt] (λx=>(validB x.1=true->x.2.2.1.1 ())/\qd5 BIG x.2.2.2.1/\x.2.1.length<=1000000) (λx=>(wx0 x.1 x.2.1 (x.2.2.1.2 ()) x.2.2.2.1,()))
theorem w7s {fs:List (Nat × qc0)} (hfs:SpecsOk Tryz.prog fs):qd2 Tryz.prog 162 (x8s fs):=by
 refine qr9 hfs (snd (SpecsOk.cons q51 (SpecsOk.cons (q9d (fs:=[(186,x0r)]) (SpecsOk.cons w31 (SpecsOk.nil _))) (SpecsOk.nil _)))) Tryz.func162 rfl rfl (λ_ _=>none) (λ_=>by kernel_rfl) (by decide) ?_
 rintro⟨m,l,⟨p,f⟩,k,⟨⟩⟩ h
 revert m l p f k
 intro(m:List (List Int)) (l:List Int) (p:qa6 []->Prop) (f:qa6 []->Int) (k:Int) (h:(validB m=true->p ())/\qd5 BIG k/\l.length<=1000000)
 refine @qd4 _ (True/\((!validB m)=true->(1:Int)=wx0 m l (f ()) k)/\((!validB m)=false->p ()/\(((↑l.length:Int) != f ())=true->(9:Int)=wx0 m l (f ()) k)/\(((↑l.length:Int) != f ())=false->∃(v2:qa6 [tInt]->Prop),∃(v3:qa6 [tInt]->Bool),(∀(v4:Int × qa6._f [] PUnit.unit),v2 v4->qd5 BIG k/\inB v4.1 ((0:Int)-k) k=v3 v4)/\(l.length<=(1000000:Nat)/\∀(v4:Nat),v4<l.length->v2 (nI l v4,()))/\((!List.all l λ(v5:Int)=>v3 (v5,()))=true->(7:Int)=wx0 m l (f ()) k)/\((!List.all l λ(v5:Int)=>v3 (v5,()))=false->(0:Int)=wx0 m l (f ()) k)))) (by kernel_rfl) ?_
 try simp only[z0,z1,z2,z3,z4,z5,z6,z7,z8,z9,z10,Int.reduceEq,z11,z12,z13,z14,z15,z16,z17,z18,z19,z20,z21,z22,z23,z24,z25,z26,z27,z28,z29,z30,Int.reduceLE,Int.reduceLT,z31,z32,z33,z34,qa1]
 try simp only[qb3,qb4,qb9,z31,z32,z2,z1]
 obtain⟨h1,h2,h3⟩:=h
 refine⟨λhv=>by simp[wx0,hv],λhv=>⟨h1 hv,λhl=>by simp[wx0,hv,hl],λhl=>⟨λ_=>True,λx=>inB x.1 (0-k) k,λ_ _=>⟨h2,rfl⟩,⟨h3,λ_ _=>trivial⟩,λha=>?_,λha=>?_⟩⟩⟩
 ·unfold wx0; rw[if_neg (by rw[hv]; decide),if_neg (λq=>q hl),if_pos ha]
 ·unfold wx0; rw[if_neg (by rw[hv]; decide),if_neg (λq=>q hl),if_neg (by rw[ha]; decide)]
def q38 (m:List (List Int)) (x:List Int):Int:=wx0 m x (nL m 0).length 1000000
abbrev x8t:qc0:=qf3 true none [tMask,tInts] [tInt] (λx=>x.2.1.length<=1000000) (λx=>(q38 x.1 x.2.1,()))
theorem w7t:qd2 Tryz.prog 142 x8t:=by
 refine meets (snd (SpecsOk.cons (w7s (fs:=[(163,x0q)]) (SpecsOk.cons w30 (SpecsOk.nil _))) (SpecsOk.nil _))) Tryz.func142 rfl rfl (λ_ _=>none) (λ_=>by kernel_rfl) (by decide) ?_
 rintro⟨m,x,⟨⟩⟩ h
 revert m x
 intro(m:List (List Int)) (x:List Int) (h:x.length<=1000000)
 refine @qd4 _ (∃(v0:qa6 []->Prop),∃(v1:qa6 []->Int),(∀(v2:Unit),v0 v2->(0:Nat)<m.length/\(↑(nL m (0:Nat)).length:Int)=v1 v2)/\((validB m=true->v0 ())/\qd5 BIG (1000000:Int)/\x.length<=(1000000:Nat))/\wx0 m x (v1 ()) (1000000:Int)=q38 m x) (by kernel_rfl) ?_
 try simp only[z0,z1,z2,z3,z4,z5,z6,z7,z8,z9,z10,Int.reduceEq,z11,z12,z13,z14,z15,z16,z17,z18,z19,z20,z21,z22,z23,z24,z25,z26,z27,z28,z29,z30,Int.reduceLE,Int.reduceLT,z31,z32,z33,z34,qa1]
 try simp only[qb3,qb4,qb9,z31,z32,z2,z1]
 exact⟨λ_=>0<m.length,λ_=>((nL m 0).length:Int),λ_ hp=>⟨hp,rfl⟩,⟨λhv=>by have:=(Mk.of hv).rows1; omega,⟨by decide,by decide⟩,h⟩,rfl⟩
structure Shw (m:List (List Int)) (x:List Int):Prop where
 msk:Mk m
 val:validB m=true
 len:x.length=(nL m 0).length
 bd:∀i,i<x.length->qd5 1000000 (nI x i)
theorem Shw.of {m:List (List Int)} {x:List Int} (h:q38 m x=0):Shw m x:=by
 unfold q38 wx0 at h
 split at h
 ·cases h
 ·rename_i hv
  have hv:validB m=true:=by cases e:validB m with | true=>rfl | false=>exact absurd e hv
  split at h
  ·cases h
  ·rename_i hl
   split at h
   ·cases h
   ·rename_i ha
    have ha:(x.all λe=>inB e (0-1000000) 1000000)=true:=by simpa using ha
    refine⟨Mk.of hv,hv,by omega,λi hi=>?_⟩
    have:=inB_iff.1 (List.all_eq_true.1 ha (nI x i) (by rw[qf6 x i hi]; exact List.getElem_mem hi))
    unfold qd5; omega
theorem Shw.dot {m:List (List Int)} {x:List Int} (h:Shw m x) (k:Nat) (hk:k<m.length):ww9 (nL m k) x:=by
 have h1:=h.msk.each k hk
 have h2:=h.msk.pix10
 have h3:=h.len
 exact⟨by omega,by omega,λi hi=>h.msk.small k hk i (by omega),λi hi=>h.bd i (by omega)⟩
def q2y (m:List (List Int)) (x:List Int):List Int:=(List.range m.length).map λi=>qr0 (nL m i) x (nL m i).length
def readR (m:List (List Int)) (x:List Int):List Int × Int:=if q38 m x=0 then(q2y m x,0) else([],q38 m x)
abbrev x4n:qc0:=qf3 true none [tMask,tInts] [tInts,tInt] (λx=>x.2.1.length<=1000000) (λx=>((readR x.1 x.2.1).1,(readR x.1 x.2.1).2,()))
def x0s (m:List (List Int)) (x:List Int):Nat->Option Inv
 | 0=>some (Inv.of [7,18] 1 (λk:Nat=>[(7,.own 0),(18,.lit (.int .i64 k))]) (λk=>[.vec 3 (.int .i64) ((q2y m x).take k)]) (λk=>k<=m.length) (λk=>m.length-k))
 | _=>none
theorem w33:qd2 Tryz.prog 113 x4n:=by
 refine meets (snd (SpecsOk.cons w7t (SpecsOk.cons wp8 (SpecsOk.nil _)))) Tryz.func113 rfl rfl (λx=>x0s x.1 x.2.1) (λ_=>by kernel_rfl) (by decide) ?_
 rintro⟨m,x,⟨⟩⟩ h
 revert m x
 intro(m:List (List Int)) (x:List Int) (h:x.length<=1000000)
 refine @qd4 _ (let Q0:=q2y m x; let Q1:=readR m x; x.length<=(1000000:Nat)/\((q38 m x != (0:Int))=true->Q1.1=[]/\q38 m x=Q1.2/\True)/\((q38 m x != (0:Int))=false->∃(v1:Unit),∃(v2:Nat),Nat.le v2 m.length/\((True/\(0:Int)=(↑v2:Int)/\True)/\List.take v2 Q0=[]/\True)/\∀(v3:Nat),Nat.le v3 m.length->(decide ((↑v3:Int)<(↑m.length:Int))=true->((0:Int)<=(↑v3:Int)/\(↑v3:Int)<(↑m.length:Int))/\ww9 (nL m v3) x/\((0:Nat)<List.length [qr0 (nL m v3) x (nL m v3).length]/\Nat.le ((List.take v3 Q0).length+List.length [qr0 (nL m v3) x (nL m v3).length]) (1000000:Nat))/\fits .i64 ((↑v3:Int)+(1:Int))/\∃(v6:Nat),Nat.le v6 m.length/\m.length-v6<m.length-v3/\(True/\(↑v3:Int)+(1:Int)=(↑v6:Int)/\True)/\List.take v3 Q0++[qr0 (nL m v3) x (nL m v3).length]=List.take v6 Q0/\True)/\(decide ((↑v3:Int)<(↑m.length:Int))=false->List.take v3 Q0=Q1.1/\(0:Int)=Q1.2/\True))) (by kernel_rfl) ?_
 try simp only[z0,z1,z2,z3,z4,z5,z6,z7,z8,z9,z10,Int.reduceEq,z11,z12,z13,z14,z15,z16,z17,z18,z19,z20,z21,z22,z23,z24,z25,z26,z27,z28,z29,z30,Int.reduceLE,Int.reduceLT,z31,z32,z33,z34,qa1]
 try simp only[qb3,qb4,qb9,z31,z32,z2,z1]
 refine⟨h,λhe=>by simp[readR,he],λhe=>?_⟩
 have hS:=Shw.of he
 have hM:=hS.msk
 have h6:=hM.rows6
 have h10:=hM.pix10
 have hlen:(q2y m x).length=m.length:=by simp[q2y]
 have hR:readR m x=(q2y m x,0):=by simp[readR,he]
 rw[hR]
 refine⟨(),0,Nat.zero_le _,⟨rfl,rfl⟩,λk hk=>⟨λhlt=>⟨hlt,hS.dot k hlt,by rw[List.length_take]; omega,qa5 (by omega) (by omega),k+1,hlt,by omega,by omega,?_⟩,λhge=>⟨List.take_of_length_le (by omega),rfl⟩⟩⟩
 rw[q2t _ k (by omega),qf6 (q2y m x) k (by omega)]
 simp[q2y]
def q5o (l:List Int) (n k:Int):Int:=if(l.length:Int)≠n then 9 else if(l.all λe=>inB e (0-k) k)=false then 7 else 0
abbrev x4o:qc0:=qf3 true none [tInts,tInt,tInt] [tInt] (λx=>qd5 BIG x.2.2.1/\x.1.length<=1000000) (λx=>(q5o x.1 x.2.1 x.2.2.1,()))
structure xf7 (l:List Int) (k:Int) (i:Nat):Prop where
 le:i<=l.length
 ok:∀j,j<i->inB (nI l j) (0-k) k=true
def x0t (l:List Int) (k:Int):Nat->Option Inv
 | 0=>some (Inv.of [15] 0 (λi:Nat=>[(15,.lit (.int .i64 i))]) (λ_=>[]) (λi=>xf7 l k i) (λi=>l.length-i))
 | _=>none
theorem w34:qd2 Tryz.prog 141 x4o:=by
 refine meets (snd (SpecsOk.cons qz8 (SpecsOk.nil _))) Tryz.func141 rfl rfl (λx=>x0t x.1 x.2.2.1) (λ_=>by kernel_rfl) (by decide) ?_
 rintro⟨l,n,k,⟨⟩⟩ h
 revert l n k
 intro(l:List Int) (n:Int) (k:Int) (h:qd5 BIG k/\l.length<=1000000)
 refine @qd4 _ ((((↑l.length:Int) != n)=true->(9:Int)=q5o l n k)/\(((↑l.length:Int) != n)=false->∃(v1:Unit),∃(v2:Nat),xf7 l k v2/\(((0:Int)=(↑v2:Int)/\True)/\True)/\∀(v3:Nat),xf7 l k v3->(decide ((↑v3:Int)<(↑l.length:Int))=true->((0:Int)<=(↑v3:Int)/\(↑v3:Int)<(↑l.length:Int))/\fits .i64 ((0:Int)-k)/\True/\((!inB (nI l v3) ((0:Int)-k) k)=true->(7:Int)=q5o l n k)/\((!inB (nI l v3) ((0:Int)-k) k)=false->fits .i64 ((↑v3:Int)+(1:Int))/\∃(v7:Nat),xf7 l k v7/\l.length-v7<l.length-v3/\((↑v3:Int)+(1:Int)=(↑v7:Int)/\True)/\True))/\(decide ((↑v3:Int)<(↑l.length:Int))=false->(0:Int)=q5o l n k))) (by kernel_rfl) ?_
 try simp only[z0,z1,z2,z3,z4,z5,z6,z7,z8,z9,z10,Int.reduceEq,z11,z12,z13,z14,z15,z16,z17,z18,z19,z20,z21,z22,z23,z24,z25,z26,z27,z28,z29,z30,Int.reduceLE,Int.reduceLT,z31,z32,z33,z34,qa1]
 try simp only[qb3,qb4,qb9,z31,z32,z2,z1]
 obtain⟨hk,hl⟩:=h
 unfold qd5 BIG at hk
 refine⟨λhn=>by simp[q5o,hn],λhn=>?_⟩
 refine⟨(),0,⟨Nat.zero_le _,λj hj=>absurd hj (Nat.not_lt_zero _)⟩,rfl,λi hi=>⟨λhlt=>⟨hlt,qa5 (by omega) (by omega),λh1=>?_,λh1=>⟨qa5 (by omega) (by omega),i+1,⟨hlt,λj hj=>?_⟩,by omega,by omega⟩⟩,λhge=>?_⟩⟩
 ·have:(l.all λe=>inB e (0-k) k)=false:=by
   cases e:l.all λe=>inB e (0-k) k with
   | false=>rfl
   | true=>
    have:=List.all_eq_true.1 e (nI l i) (by rw[qf6 l i hlt]; exact List.getElem_mem hlt)
    rw[h1] at this; cases this
  unfold q5o; rw[if_neg (λq=>q hn),if_pos this]
 ·by_cases e:j=i
  ·subst e; exact h1
  ·exact hi.ok j (by omega)
 ·have:(l.all λe=>inB e (0-k) k)=true:=by
   rw[List.all_eq_true]
   intro x hx
   obtain⟨j,hj,rfl⟩:=List.getElem_of_mem hx
   rw[<- qf6 l j hj]
   exact hi.ok j (by omega)
  unfold q5o; rw[if_neg (λq=>q hn),if_neg (by rw[this]; decide)]
theorem q9y {m:List (List Int)} (hv:validB m=true) {x:List Int}:q38 m x=q5o x (nL m 0).length 1000000:=by simp[q38,wx0,q5o,hv]
structure xr6 (m:List (List Int)) (x:List Int):Prop where
 fit:wd6 m
 len:x.length<=1000000
abbrev x0u:qc0:=qf3 true none [tMask,tInts] [tInts,tInt] (λx=>xr6 x.1 x.2.1) (λx=>((readR x.1 x.2.1).1,(readR x.1 x.2.1).2,()))
def xr7 (m:List (List Int)) (x:List Int):Nat->Option Inv
 | 0=>some (Inv.of [7,24] 1 (λk:Nat=>[(7,.own 0),(24,.lit (.int .i64 k))]) (λk=>[.vec 3 (.int .i64) ((q2y m x).take k)]) (λk=>k<=m.length) (λk=>m.length-k))
 | _=>none
theorem wx1:qd2 Tryz.prog 112 x0u:=by
 refine meets (snd (SpecsOk.cons q3t (SpecsOk.cons w34 (SpecsOk.cons w3z (SpecsOk.nil _))))) Tryz.func112 rfl rfl (λx=>xr7 x.1 x.2.1) (λ_=>by kernel_rfl) (by decide) ?_
 rintro⟨m,x,⟨⟩⟩ h
 revert m x
 intro(m:List (List Int)) (x:List Int) (h:xr6 m x)
 refine @qd4 _ (let Q0:=readR m x; let Q1:=q2y m x; wd6 m/\((!validB m)=true->Q0.1=[]/\(1:Int)=Q0.2/\True)/\((!validB m)=false->((0:Int)<=(0:Int)/\(0:Int)<(↑m.length:Int))/\(qd5 BIG (1000000:Int)/\x.length<=(1000000:Nat))/\((q5o x (↑(nL m (0:Nat)).length:Int) (1000000:Int) != (0:Int))=true->Q0.1=[]/\q5o x (↑(nL m (0:Nat)).length:Int) (1000000:Int)=Q0.2/\True)/\((q5o x (↑(nL m (0:Nat)).length:Int) (1000000:Int) != (0:Int))=false->∃(v2:Unit),∃(v3:Nat),Nat.le v3 m.length/\((True/\(0:Int)=(↑v3:Int)/\True)/\List.take v3 Q1=[]/\True)/\∀(v4:Nat),Nat.le v4 m.length->(decide ((↑v4:Int)<(↑m.length:Int))=true->((0:Int)<=(↑v4:Int)/\(↑v4:Int)<(↑m.length:Int))/\ww9 (nL m v4) x/\((0:Nat)<List.length [qr0 (nL m v4) x (nL m v4).length]/\Nat.le ((List.take v4 Q1).length+List.length [qr0 (nL m v4) x (nL m v4).length]) (1000000:Nat))/\fits .i64 ((↑v4:Int)+(1:Int))/\∃(v7:Nat),Nat.le v7 m.length/\m.length-v7<m.length-v4/\(True/\(↑v4:Int)+(1:Int)=(↑v7:Int)/\True)/\List.take v4 Q1++[qr0 (nL m v4) x (nL m v4).length]=List.take v7 Q1/\True)/\(decide ((↑v4:Int)<(↑m.length:Int))=false->List.take v4 Q1=Q0.1/\(0:Int)=Q0.2/\True)))) (by kernel_rfl) ?_
 try simp only[z0,z1,z2,z3,z4,z5,z6,z7,z8,z9,z10,Int.reduceEq,z11,z12,z13,z14,z15,z16,z17,z18,z19,z20,z21,z22,z23,z24,z25,z26,z27,z28,z29,z30,Int.reduceLE,Int.reduceLT,z31,z32,z33,z34,qa1]
 try simp only[qb3,qb4,qb9,z31,z32,z2,z1]
 refine⟨h.fit,λhv=>by simp[readR,q38,wx0,hv],λhv=>⟨by have:=(Mk.of hv).rows1; omega,⟨⟨by decide,by decide⟩,h.len⟩,λhe=>?_,λhe=>?_⟩⟩
 ·rw[<- q9y hv] at he ⊢
  simp[readR,he]
 ·rw[<- q9y hv] at he
  have hS:=Shw.of he
  have h6:=hS.msk.rows6
  have hlen:(q2y m x).length=m.length:=by simp[q2y]
  have hR:readR m x=(q2y m x,0):=by simp[readR,he]
  rw[hR]
  refine⟨(),0,Nat.zero_le _,⟨rfl,rfl⟩,λk hk=>⟨λhlt=>⟨hlt,hS.dot k hlt,by rw[List.length_take]; omega,qa5 (by omega) (by omega),k+1,hlt,by omega,by omega,?_⟩,λhge=>⟨List.take_of_length_le (by omega),rfl⟩⟩⟩
  rw[q2t _ k (by omega),qf6 (q2y m x) k (by omega)]
  simp[q2y]
end Go.Proofs.YtempacilejhbgaaGreat
