/- Twins, program and reference: contracts by the engine. No condition. -/
import Derived.Test.YtdibdlelmkcccaaV20
set_option linter.unusedVariables false
set_option linter.unusedSimpArgs false
namespace Go.Proofs.Ytdibdlelmkcccaa
open Go Go.RowKit Eng
def qo9 (a b:List Int):Nat->Int
 | 0=>0
 | k+1=>qo9 a b k+nI a k*nI b k
structure wq1 (a b:List Int):Prop where
 len:a.length<=10
 le:a.length<=b.length
 sa:∀i,i<a.length->-1<=nI a i/\nI a i<=1
 sb:∀i,i<a.length->qf3 1000000 (nI b i)
theorem q69 {x y K:Int} (hx:-1<=x/\x<=1) (hy:qf3 K y):qf3 K (x*y):=by
 unfold qf3 at *
 rcases(show x=-1\/x=0\/x=1 by omega) with rfl | rfl | rfl
 ·rw[show(-1:Int)*y=-y by omega]; omega
 ·rw[Int.zero_mul]; omega
 ·rw[Int.one_mul]; exact hy
theorem wb5 {a b:List Int} (h:wq1 a b):∀k,k<=a.length->qf3 (1000000*k) (qo9 a b k)
 | 0,_=>by unfold qf3; simp[qo9]
 | k+1,hk=>by
  have h1:=wb5 h k (by omega)
  have h2:=q69 (h.sa k (by omega)) (h.sb k (by omega))
  unfold qf3 at *
  rw[qo9]
  omega
abbrev x2a:qc9:=qh6 true none [qf6,qf6] [qg1] (λx=>wq1 x.1 x.2.1) (λx=>(qo9 x.1 x.2.1 x.1.length,()))
def w9a (a b:List Int):Nat->Option Inv
 | 0=>some (Inv.of [5,10] 0 (λk:Nat=>[(5,.lit (.int .i64 (qo9 a b k))),(10,.lit (.int .i64 k))]) (λ_=>[]) (λk=>k<=a.length) (λk=>a.length-k))
 | _=>none
theorem wk5:qe1 Try.prog 94 x2a:=by
 refine meets (snd (SpecsOk.nil _)) Try.func94 rfl rfl (λx=>w9a x.1 x.2.1) (λ_=>by kernel_rfl) (by decide) ?_
 rintro⟨a,b,⟨⟩⟩ h
 revert a b
 intro(a:List Int) (b:List Int) (h:wq1 a b)
 refine qe6 (B:=∃(v0:Unit),∃(v1:Nat),Nat.le v1 (List.length a)/\(((0:Int)=qo9 a b v1/\(0:Int)=(↑v1:Int)/\True)/\True)/\∀(v2:Nat),Nat.le v2 (List.length a)->(decide ((↑v2:Int)<(↑(List.length a):Int))=true->((0:Int)<=(↑v2:Int)/\(↑v2:Int)<(↑(List.length a):Int))/\((0:Int)<=(↑v2:Int)/\(↑v2:Int)<(↑(List.length b):Int))/\fits .i64 (qa3 (Ty.int .i64) a (Int.toNat (↑v2:Int))*qa3 (Ty.int .i64) b (Int.toNat (↑v2:Int)))/\fits .i64 (qo9 a b v2+qa3 (Ty.int .i64) a (Int.toNat (↑v2:Int))*qa3 (Ty.int .i64) b (Int.toNat (↑v2:Int)))/\fits .i64 ((↑v2:Int)+(1:Int))/\∃(v5:Nat),Nat.le v5 (List.length a)/\List.length a-v5<List.length a-v2/\(qo9 a b v2+qa3 (Ty.int .i64) a (Int.toNat (↑v2:Int))*qa3 (Ty.int .i64) b (Int.toNat (↑v2:Int))=qo9 a b v5/\(↑v2:Int)+(1:Int)=(↑v5:Int)/\True)/\True)/\(decide ((↑v2:Int)<(↑(List.length a):Int))=false->qo9 a b v2=qo9 a b (List.length a))) (by kernel_rfl) ?_
 try simp only[z0,z1,z2,z3,z4,z5,z6,z7,z8,z9,z10,Int.reduceEq,z11,z12,z13,z14,z15,z16,z17,z18,z19,z20,z21,z22,z23,z24,z25,z26,z27,z28,z29,z30,Int.reduceLE,Int.reduceLT,z31,z32,z33,z34,qa4]
 try simp only[qb8,qb9,qd2,List.set_cons_zero,List.cons.injEq,and_true,true_and]
 have hl:=h.len
 have hle:=h.le
 refine⟨(),0,Nat.zero_le _,⟨rfl,rfl⟩,λk hk=>⟨λhlt=>?_,λhge=>?_⟩⟩
 ·have h1:=wb5 h k hk
  have h2:=q69 (h.sa k hlt) (h.sb k hlt)
  unfold qf3 at h1 h2
  exact⟨hlt,by omega,qa8 (by omega) (by omega),qa8 (by omega) (by omega),qa8 (by omega) (by omega),k+1,hlt,by omega,rfl,by omega⟩
 ·obtain rfl:k=a.length:=by omega
  rfl
def xr1 (a b:List Int):Nat->Option Inv
 | 0=>some (Inv.of [5,9] 0 (λk:Nat=>[(5,.lit (.int .i64 (qo9 a b k))),(9,.lit (.int .i64 k))]) (λ_=>[]) (λk=>k<=a.length) (λk=>a.length-k))
 | _=>none
theorem w2a:qe1 Try.prog 95 x2a:=by
 refine meets (snd (SpecsOk.nil _)) Try.func95 rfl rfl (λx=>xr1 x.1 x.2.1) (λ_=>by kernel_rfl) (by decide) ?_
 rintro⟨a,b,⟨⟩⟩ h
 revert a b
 intro(a:List Int) (b:List Int) (h:wq1 a b)
 refine qe6 (B:=∃(v0:Unit),∃(v1:Nat),Nat.le v1 (List.length a)/\(((0:Int)=qo9 a b v1/\(0:Int)=(↑v1:Int)/\True)/\True)/\∀(v2:Nat),Nat.le v2 (List.length a)->(decide ((↑v2:Int)<(↑(List.length a):Int))=true->((0:Int)<=(↑v2:Int)/\(↑v2:Int)<(↑(List.length a):Int))/\((0:Int)<=(↑v2:Int)/\(↑v2:Int)<(↑(List.length b):Int))/\fits .i64 (qa3 (Ty.int .i64) a (Int.toNat (↑v2:Int))*qa3 (Ty.int .i64) b (Int.toNat (↑v2:Int)))/\fits .i64 (qo9 a b v2+qa3 (Ty.int .i64) a (Int.toNat (↑v2:Int))*qa3 (Ty.int .i64) b (Int.toNat (↑v2:Int)))/\fits .i64 ((↑v2:Int)+(1:Int))/\∃(v5:Nat),Nat.le v5 (List.length a)/\List.length a-v5<List.length a-v2/\(qo9 a b v2+qa3 (Ty.int .i64) a (Int.toNat (↑v2:Int))*qa3 (Ty.int .i64) b (Int.toNat (↑v2:Int))=qo9 a b v5/\(↑v2:Int)+(1:Int)=(↑v5:Int)/\True)/\True)/\(decide ((↑v2:Int)<(↑(List.length a):Int))=false->qo9 a b v2=qo9 a b (List.length a))) (by kernel_rfl) ?_
 try simp only[z0,z1,z2,z3,z4,z5,z6,z7,z8,z9,z10,Int.reduceEq,z11,z12,z13,z14,z15,z16,z17,z18,z19,z20,z21,z22,z23,z24,z25,z26,z27,z28,z29,z30,Int.reduceLE,Int.reduceLT,z31,z32,z33,z34,qa4]
 try simp only[qb8,qb9,qd2,List.set_cons_zero,List.cons.injEq,and_true,true_and]
 have hl:=h.len
 have hle:=h.le
 refine⟨(),0,Nat.zero_le _,⟨rfl,rfl⟩,λk hk=>⟨λhlt=>?_,λhge=>?_⟩⟩
 ·have h1:=wb5 h k hk
  have h2:=q69 (h.sa k hlt) (h.sb k hlt)
  unfold qf3 at h1 h2
  exact⟨hlt,by omega,qa8 (by omega) (by omega),qa8 (by omega) (by omega),qa8 (by omega) (by omega),k+1,hlt,by omega,rfl,by omega⟩
 ·obtain rfl:k=a.length:=by omega
  rfl
abbrev xr2:qc9:=hspec [] true none [.cap qk0] [qg1] (λx=>0<x.1.length) (λx=>((nL x.1 0).length,()))
theorem w2b:qe1 Try.prog 122 xr2:=by
 refine qp4 (SpecsOk.nil _) (snd (SpecsOk.nil _)) Try.func122 rfl rfl (λ_ _=>none) (λ_=>by kernel_rfl) (by decide) ?_
 rintro⟨m,⟨⟩⟩ h
 revert m
 intro(m:List (List Int)) (h:0<m.length)
 refine qe6 (B:=((0:Int)<=(0:Int)/\(0:Int)<(↑(List.length m):Int))/\(↑(List.length (qa3 (Ty.list (Ty.int .i64)) m (0:Nat))):Int)=(↑(List.length (nL m (0:Nat))):Int)) (by kernel_rfl) ?_
 try simp only[z0,z1,z2,z3,z4,z5,z6,z7,z8,z9,z10,Int.reduceEq,z11,z12,z13,z14,z15,z16,z17,z18,z19,z20,z21,z22,z23,z24,z25,z26,z27,z28,z29,z30,Int.reduceLE,Int.reduceLT,z31,z32,z33,z34,qa4]
 try simp only[qb8,qb9,qd2,List.set_cons_zero,List.cons.injEq,and_true,true_and]
 omega
abbrev xr3:qc9:=hspec [] true none [.d qg1,.cap qg1] [.bool] (λx=>qf3 BIG x.2.1) (λx=>(inB x.1 (0-x.2.1) x.2.1,()))
theorem w2c:qe1 Try.prog 147 xr3:=by
 refine qp4 (SpecsOk.nil _) (snd (SpecsOk.cons qt4 (SpecsOk.nil _))) Try.func147 rfl rfl (λ_ _=>none) (λ_=>by kernel_rfl) (by decide) ?_
 rintro⟨n,k,⟨⟩⟩ h
 revert n k
 intro(n:Int) (k:Int) (h:qf3 BIG k)
 refine qe6 (B:=fits .i64 ((0:Int)-k)/\True/\inB n ((0:Int)-k) k=inB n ((0:Int)-k) k) (by kernel_rfl) ?_
 try simp only[z0,z1,z2,z3,z4,z5,z6,z7,z8,z9,z10,Int.reduceEq,z11,z12,z13,z14,z15,z16,z17,z18,z19,z20,z21,z22,z23,z24,z25,z26,z27,z28,z29,z30,Int.reduceLE,Int.reduceLT,z31,z32,z33,z34,qa4]
 try simp only[qb8,qb9,qd2,List.set_cons_zero,List.cons.injEq,and_true,true_and]
 unfold qf3 BIG at h
 exact qa8 (by omega) (by omega)
def wm7 (m:List (List Int)) (l:List Int) (n k:Int):Int:=if qd3 m=false then 1 else if(l.length:Int)≠n then 9 else if(l.all λe=>inB e (0-k) k)=false then 7 else 0
abbrev x4l (fs:List (Nat × qc9)):qc9:=hspec fs true none [.d qk0,.d qf6,.fn [] qg1,.d qg1] [qg1] (λx=>(qd3 x.1=true->x.2.2.1.1 ())/\qf3 BIG x.2.2.2.1/\x.2.1.length<=1000000) (λx=>(wm7 x.1 x.2.1 (x.2.2.1.2 ()) x.2.2.2.1,()))
theorem w5y {fs:List (Nat × qc9)} (hfs:SpecsOk Try.prog fs):qe1 Try.prog 121 (x4l fs):=by
 refine qp4 hfs (snd (SpecsOk.cons q5g (SpecsOk.cons (q8o (fs:=[(147,xr3)]) (SpecsOk.cons w2c (SpecsOk.nil _))) (SpecsOk.nil _)))) Try.func121 rfl rfl (λ_ _=>none) (λ_=>by kernel_rfl) (by decide) ?_
 rintro⟨m,l,⟨p,f⟩,k,⟨⟩⟩ h
 revert m l p f k
 intro(m:List (List Int)) (l:List Int) (p:qa7 []->Prop) (f:qa7 []->Int) (k:Int) (h:(qd3 m=true->p ())/\qf3 BIG k/\l.length<=1000000)
 refine qe6 (B:=True/\((!qd3 m)=true->(1:Int)=wm7 m l (f ()) k)/\((!qd3 m)=false->p ()/\(((↑(List.length l):Int) != f ())=true->(9:Int)=wm7 m l (f ()) k)/\(((↑(List.length l):Int) != f ())=false->∃(v2:qa7 [qg1]->Prop),∃(v3:qa7 [qg1]->Bool),(∀(v4:Int × qa7._f [] PUnit.unit),v2 v4->qf3 BIG k/\inB (Prod.fst v4) ((0:Int)-k) k=v3 v4)/\(List.length l<=(1000000:Nat)/\∀(v4:Nat),v4<List.length l->v2 (nI l v4,()))/\((!List.all l λ(v5:Int)=>v3 (v5,()))=true->(7:Int)=wm7 m l (f ()) k)/\((!List.all l λ(v5:Int)=>v3 (v5,()))=false->(0:Int)=wm7 m l (f ()) k)))) (by kernel_rfl) ?_
 try simp only[z0,z1,z2,z3,z4,z5,z6,z7,z8,z9,z10,Int.reduceEq,z11,z12,z13,z14,z15,z16,z17,z18,z19,z20,z21,z22,z23,z24,z25,z26,z27,z28,z29,z30,Int.reduceLE,Int.reduceLT,z31,z32,z33,z34,qa4]
 try simp only[qb8,qb9,qd2,List.set_cons_zero,List.cons.injEq,and_true,true_and]
 obtain⟨h1,h2,h3⟩:=h
 refine⟨λhv=>by simp[wm7,hv],λhv=>⟨h1 hv,λhl=>by simp[wm7,hv,hl],λhl=>⟨λ_=>True,λx=>inB x.1 (0-k) k,λ_ _=>⟨h2,rfl⟩,⟨h3,λ_ _=>trivial⟩,λha=>?_,λha=>?_⟩⟩⟩
 ·unfold wm7; rw[if_neg (by rw[hv]; decide),if_neg (λq=>q hl),if_pos ha]
 ·unfold wm7; rw[if_neg (by rw[hv]; decide),if_neg (λq=>q hl),if_neg (by rw[ha]; decide)]
def q4x (m:List (List Int)) (x:List Int):Int:=wm7 m x (nL m 0).length 1000000
abbrev x4m:qc9:=qh6 true none [qk0,qf6] [qg1] (λx=>x.2.1.length<=1000000) (λx=>(q4x x.1 x.2.1,()))
theorem w5z:qe1 Try.prog 93 x4m:=by
 refine meets (snd (SpecsOk.cons (w5y (fs:=[(122,xr2)]) (SpecsOk.cons w2b (SpecsOk.nil _))) (SpecsOk.nil _))) Try.func93 rfl rfl (λ_ _=>none) (λ_=>by kernel_rfl) (by decide) ?_
 rintro⟨m,x,⟨⟩⟩ h
 revert m x
 intro(m:List (List Int)) (x:List Int) (h:x.length<=1000000)
 refine qe6 (B:=∃(v0:qa7 []->Prop),∃(v1:qa7 []->Int),(∀(v2:Unit),v0 v2->(0:Nat)<List.length m/\(↑(List.length (nL m (0:Nat))):Int)=v1 v2)/\((qd3 m=true->v0 ())/\qf3 BIG (1000000:Int)/\List.length x<=(1000000:Nat))/\wm7 m x (v1 ()) (1000000:Int)=q4x m x) (by kernel_rfl) ?_
 try simp only[z0,z1,z2,z3,z4,z5,z6,z7,z8,z9,z10,Int.reduceEq,z11,z12,z13,z14,z15,z16,z17,z18,z19,z20,z21,z22,z23,z24,z25,z26,z27,z28,z29,z30,Int.reduceLE,Int.reduceLT,z31,z32,z33,z34,qa4]
 try simp only[qb8,qb9,qd2,List.set_cons_zero,List.cons.injEq,and_true,true_and]
 exact⟨λ_=>0<m.length,λ_=>((nL m 0).length:Int),λ_ hp=>⟨hp,rfl⟩,⟨λhv=>by have:=(Mk.of hv).rows1; omega,⟨by decide,by decide⟩,h⟩,rfl⟩
structure Shw (m:List (List Int)) (x:List Int):Prop where
 msk:Mk m
 val:qd3 m=true
 len:x.length=(nL m 0).length
 bd:∀i,i<x.length->qf3 1000000 (nI x i)
theorem Shw.of {m:List (List Int)} {x:List Int} (h:q4x m x=0):Shw m x:=by
 unfold q4x wm7 at h
 split at h
 ·cases h
 ·rename_i hv
  have hv:qd3 m=true:=by cases e:qd3 m with | true=>rfl | false=>exact absurd e hv
  split at h
  ·cases h
  ·rename_i hl
   split at h
   ·cases h
   ·rename_i ha
    have ha:(x.all λe=>inB e (0-1000000) 1000000)=true:=by simpa using ha
    refine⟨Mk.of hv,hv,by omega,λi hi=>?_⟩
    have:=qp5.1 (List.all_eq_true.1 ha (nI x i) (by rw[qh9 x i hi]; exact List.getElem_mem hi))
    unfold qf3; omega
theorem Shw.dot {m:List (List Int)} {x:List Int} (h:Shw m x) (k:Nat) (hk:k<m.length):wq1 (nL m k) x:=by
 have h1:=h.msk.each k hk
 have h2:=h.msk.pix10
 have h3:=h.len
 exact⟨by omega,by omega,λi hi=>h.msk.small k hk i (by omega),λi hi=>h.bd i (by omega)⟩
def qo2 (m:List (List Int)) (x:List Int):List Int:=(List.range m.length).map λi=>qo9 (nL m i) x (nL m i).length
def qk6 (m:List (List Int)) (x:List Int):List Int × Int:=if q4x m x=0 then(qo2 m x,0) else([],q4x m x)
abbrev x0v:qc9:=qh6 true none [qk0,qf6] [qf6,qg1] (λx=>x.2.1.length<=1000000) (λx=>((qk6 x.1 x.2.1).1,(qk6 x.1 x.2.1).2,()))
def xr4 (m:List (List Int)) (x:List Int):Nat->Option Inv
 | 0=>some (Inv.of [7,18] 1 (λk:Nat=>[(7,.own 0),(18,.lit (.int .i64 k))]) (λk=>[.vec 3 (.int .i64) ((qo2 m x).take k)]) (λk=>k<=m.length) (λk=>m.length-k))
 | _=>none
theorem w2d:qe1 Try.prog 59 x0v:=by
 refine meets (snd (SpecsOk.cons w5z (SpecsOk.cons wk5 (SpecsOk.nil _)))) Try.func59 rfl rfl (λx=>xr4 x.1 x.2.1) (λ_=>by kernel_rfl) (by decide) ?_
 rintro⟨m,x,⟨⟩⟩ h
 revert m x
 intro(m:List (List Int)) (x:List Int) (h:x.length<=1000000)
 refine qe6 (B:=List.length x<=(1000000:Nat)/\((q4x m x != (0:Int))=true->Prod.fst (qk6 m x)=[]/\q4x m x=Prod.snd (qk6 m x)/\True)/\((q4x m x != (0:Int))=false->∃(v1:Unit),∃(v2:Nat),Nat.le v2 (List.length m)/\((True/\(0:Int)=(↑v2:Int)/\True)/\List.take v2 (qo2 m x)=[]/\True)/\∀(v3:Nat),Nat.le v3 (List.length m)->(decide ((↑v3:Int)<(↑(List.length m):Int))=true->((0:Int)<=(↑v3:Int)/\(↑v3:Int)<(↑(List.length m):Int))/\wq1 (qa3 (Ty.list (Ty.int .i64)) m (Int.toNat (↑v3:Int))) x/\((0:Nat)<List.length [qo9 (qa3 (Ty.list (Ty.int .i64)) m (Int.toNat (↑v3:Int))) x (List.length (qa3 (Ty.list (Ty.int .i64)) m (Int.toNat (↑v3:Int))))]/\Nat.le (List.length (List.take v3 (qo2 m x))+List.length [qo9 (qa3 (Ty.list (Ty.int .i64)) m (Int.toNat (↑v3:Int))) x (List.length (qa3 (Ty.list (Ty.int .i64)) m (Int.toNat (↑v3:Int))))]) (1000000:Nat))/\fits .i64 ((↑v3:Int)+(1:Int))/\∃(v6:Nat),Nat.le v6 (List.length m)/\List.length m-v6<List.length m-v3/\(True/\(↑v3:Int)+(1:Int)=(↑v6:Int)/\True)/\List.take v3 (qo2 m x)++[qo9 (qa3 (Ty.list (Ty.int .i64)) m (Int.toNat (↑v3:Int))) x (List.length (qa3 (Ty.list (Ty.int .i64)) m (Int.toNat (↑v3:Int))))]=List.take v6 (qo2 m x)/\True)/\(decide ((↑v3:Int)<(↑(List.length m):Int))=false->List.take v3 (qo2 m x)=Prod.fst (qk6 m x)/\(0:Int)=Prod.snd (qk6 m x)/\True))) (by kernel_rfl) ?_
 try simp only[z0,z1,z2,z3,z4,z5,z6,z7,z8,z9,z10,Int.reduceEq,z11,z12,z13,z14,z15,z16,z17,z18,z19,z20,z21,z22,z23,z24,z25,z26,z27,z28,z29,z30,Int.reduceLE,Int.reduceLT,z31,z32,z33,z34,qa4]
 try simp only[qb8,qb9,qd2,List.set_cons_zero,List.cons.injEq,and_true,true_and]
 refine⟨h,λhe=>by simp[qk6,he],λhe=>?_⟩
 have hS:=Shw.of he
 have hM:=hS.msk
 have h6:=hM.rows6
 have h10:=hM.pix10
 have hlen:(qo2 m x).length=m.length:=by simp[qo2]
 have hR:qk6 m x=(qo2 m x,0):=by simp[qk6,he]
 rw[hR]
 refine⟨(),0,Nat.zero_le _,⟨rfl,rfl⟩,λk hk=>⟨λhlt=>⟨hlt,hS.dot k hlt,by rw[List.length_take]; omega,qa8 (by omega) (by omega),k+1,hlt,by omega,by omega,?_⟩,λhge=>⟨List.take_of_length_le (by omega),rfl⟩⟩⟩
 rw[q2j _ k (by omega),qh9 (qo2 m x) k (by omega)]
 simp[qo2]
end Go.Proofs.Ytdibdlelmkcccaa
set_option linter.unusedVariables false
set_option linter.unusedSimpArgs false
namespace Go.Proofs.Ytdibdlelmkcccaa
open Go Go.RowKit Eng
def q4h (l:List Int) (n k:Int):Int:=if(l.length:Int)≠n then 9 else if(l.all λe=>inB e (0-k) k)=false then 7 else 0
abbrev x0w:qc9:=qh6 true none [qf6,qg1,qg1] [qg1] (λx=>qf3 BIG x.2.2.1/\x.1.length<=1000000) (λx=>(q4h x.1 x.2.1 x.2.2.1,()))
structure w9b (l:List Int) (k:Int) (i:Nat):Prop where
 le:i<=l.length
 ok:∀j,j<i->inB (nI l j) (0-k) k=true
def xr5 (l:List Int) (k:Int):Nat->Option Inv
 | 0=>some (Inv.of [15] 0 (λi:Nat=>[(15,.lit (.int .i64 i))]) (λ_=>[]) (λi=>w9b l k i) (λi=>l.length-i))
 | _=>none
theorem q85:qe1 Try.prog 78 x0w:=by
 refine meets (snd (SpecsOk.cons qz5 (SpecsOk.nil _))) Try.func78 rfl rfl (λx=>xr5 x.1 x.2.2.1) (λ_=>by kernel_rfl) (by decide) ?_
 rintro⟨l,n,k,⟨⟩⟩ h
 revert l n k
 intro(l:List Int) (n:Int) (k:Int) (h:qf3 BIG k/\l.length<=1000000)
 refine qe6 (B:=(((↑(List.length l):Int) != n)=true->(9:Int)=q4h l n k)/\(((↑(List.length l):Int) != n)=false->∃(v1:Unit),∃(v2:Nat),w9b l k v2/\(((0:Int)=(↑v2:Int)/\True)/\True)/\∀(v3:Nat),w9b l k v3->(decide ((↑v3:Int)<(↑(List.length l):Int))=true->((0:Int)<=(↑v3:Int)/\(↑v3:Int)<(↑(List.length l):Int))/\fits .i64 ((0:Int)-k)/\True/\((!inB (qa3 (Ty.int .i64) l (Int.toNat (↑v3:Int))) ((0:Int)-k) k)=true->(7:Int)=q4h l n k)/\((!inB (qa3 (Ty.int .i64) l (Int.toNat (↑v3:Int))) ((0:Int)-k) k)=false->fits .i64 ((↑v3:Int)+(1:Int))/\∃(v7:Nat),w9b l k v7/\List.length l-v7<List.length l-v3/\((↑v3:Int)+(1:Int)=(↑v7:Int)/\True)/\True))/\(decide ((↑v3:Int)<(↑(List.length l):Int))=false->(0:Int)=q4h l n k))) (by kernel_rfl) ?_
 try simp only[z0,z1,z2,z3,z4,z5,z6,z7,z8,z9,z10,Int.reduceEq,z11,z12,z13,z14,z15,z16,z17,z18,z19,z20,z21,z22,z23,z24,z25,z26,z27,z28,z29,z30,Int.reduceLE,Int.reduceLT,z31,z32,z33,z34,qa4]
 try simp only[qb8,qb9,qd2,List.set_cons_zero,List.cons.injEq,and_true,true_and]
 obtain⟨hk,hl⟩:=h
 unfold qf3 BIG at hk
 refine⟨λhn=>by simp[q4h,hn],λhn=>?_⟩
 refine⟨(),0,⟨Nat.zero_le _,λj hj=>absurd hj (Nat.not_lt_zero _)⟩,rfl,λi hi=>⟨λhlt=>⟨hlt,qa8 (by omega) (by omega),λh1=>?_,λh1=>⟨qa8 (by omega) (by omega),i+1,⟨hlt,λj hj=>?_⟩,by omega,by omega⟩⟩,λhge=>?_⟩⟩
 ·have:(l.all λe=>inB e (0-k) k)=false:=by
   cases e:l.all λe=>inB e (0-k) k with
   | false=>rfl
   | true=>
    have:=List.all_eq_true.1 e (nI l i) (by rw[qh9 l i hlt]; exact List.getElem_mem hlt)
    rw[h1] at this; cases this
  unfold q4h; rw[if_neg (λq=>q hn),if_pos this]
 ·by_cases e:j=i
  ·subst e; exact h1
  ·exact hi.ok j (by omega)
 ·have:(l.all λe=>inB e (0-k) k)=true:=by
   rw[List.all_eq_true]
   intro x hx
   obtain⟨j,hj,rfl⟩:=List.getElem_of_mem hx
   rw[<- qh9 l j hj]
   exact hi.ok j (by omega)
  unfold q4h; rw[if_neg (λq=>q hn),if_neg (by rw[this]; decide)]
theorem q4i {m:List (List Int)} (hv:qd3 m=true) {x:List Int}:q4x m x=q4h x (nL m 0).length 1000000:=by simp[q4x,wm7,q4h,hv]
theorem q3m (m:List (List Int)) (x:List Int):(qk6 m x).2=q4x m x:=by
 unfold qk6
 split
 ·rename_i h; exact h.symm
 ·rfl
theorem q3n {m:List (List Int)} {x:List Int} (h:q4x m x=0):(qk6 m x).1=qo2 m x:=by simp[qk6,h]
structure wk6 (m:List (List Int)) (x:List Int):Prop where
 fit:q6o m
 len:x.length<=1000000
abbrev x0x:qc9:=qh6 true none [qk0,qf6] [.bool] (λx=>wk6 x.1 x.2.1) (λx=>(decide (q4x x.1 x.2.1=0),()))
theorem w2e:qe1 Try.prog 47 x0x:=by
 refine meets (snd (SpecsOk.cons q5h (SpecsOk.cons q85 (SpecsOk.nil _)))) Try.func47 rfl rfl (λ_ _=>none) (λ_=>by kernel_rfl) (by decide) ?_
 rintro⟨m,x,⟨⟩⟩ h
 revert m x
 intro(m:List (List Int)) (x:List Int) (h:wk6 m x)
 refine qe6 (B:=q6o m/\(qd3 m=true->((0:Int)<=(0:Int)/\(0:Int)<(↑(List.length m):Int))/\(qf3 BIG (1000000:Int)/\List.length x<=(1000000:Nat))/\(q4h x (↑(List.length (qa3 (Ty.list (Ty.int .i64)) m (0:Nat))):Int) (1000000:Int)==(0:Int))=decide (q4x m x=(0:Int)))/\(qd3 m=false->false=decide (q4x m x=(0:Int)))) (by kernel_rfl) ?_
 try simp only[z0,z1,z2,z3,z4,z5,z6,z7,z8,z9,z10,Int.reduceEq,z11,z12,z13,z14,z15,z16,z17,z18,z19,z20,z21,z22,z23,z24,z25,z26,z27,z28,z29,z30,Int.reduceLE,Int.reduceLT,z31,z32,z33,z34,qa4]
 try simp only[qb8,qb9,qd2,List.set_cons_zero,List.cons.injEq,and_true,true_and]
 refine⟨h.fit,λhv=>⟨by have:=(Mk.of hv).rows1; omega,⟨⟨by decide,by decide⟩,h.len⟩,?_⟩,λhv=>by simp[q4x,wm7,hv]⟩
 rw[q4i hv]
 exact(Bool.beq_eq_decide_eq _ _)
abbrev xr6:qc9:=qh6 true none [qk0,qf6] [qf6,qg1] (λx=>wk6 x.1 x.2.1) (λx=>((qk6 x.1 x.2.1).1,(qk6 x.1 x.2.1).2,()))
def xh8 (m:List (List Int)) (x:List Int):Nat->Option Inv
 | 0=>some (Inv.of [7,24] 1 (λk:Nat=>[(7,.own 0),(24,.lit (.int .i64 k))]) (λk=>[.vec 3 (.int .i64) ((qo2 m x).take k)]) (λk=>k<=m.length) (λk=>m.length-k))
 | _=>none
theorem wq3:qe1 Try.prog 63 xr6:=by
 refine meets (snd (SpecsOk.cons q5h (SpecsOk.cons q85 (SpecsOk.cons w2a (SpecsOk.nil _))))) Try.func63 rfl rfl (λx=>xh8 x.1 x.2.1) (λ_=>by kernel_rfl) (by decide) ?_
 rintro⟨m,x,⟨⟩⟩ h
 revert m x
 intro(m:List (List Int)) (x:List Int) (h:wk6 m x)
 refine qe6 (B:=q6o m/\((!qd3 m)=true->Prod.fst (qk6 m x)=[]/\(1:Int)=Prod.snd (qk6 m x)/\True)/\((!qd3 m)=false->((0:Int)<=(0:Int)/\(0:Int)<(↑(List.length m):Int))/\(qf3 BIG (1000000:Int)/\List.length x<=(1000000:Nat))/\((q4h x (↑(List.length (qa3 (Ty.list (Ty.int .i64)) m (0:Nat))):Int) (1000000:Int) != (0:Int))=true->Prod.fst (qk6 m x)=[]/\q4h x (↑(List.length (qa3 (Ty.list (Ty.int .i64)) m (0:Nat))):Int) (1000000:Int)=Prod.snd (qk6 m x)/\True)/\((q4h x (↑(List.length (qa3 (Ty.list (Ty.int .i64)) m (0:Nat))):Int) (1000000:Int) != (0:Int))=false->∃(v2:Unit),∃(v3:Nat),Nat.le v3 (List.length m)/\((True/\(0:Int)=(↑v3:Int)/\True)/\List.take v3 (qo2 m x)=[]/\True)/\∀(v4:Nat),Nat.le v4 (List.length m)->(decide ((↑v4:Int)<(↑(List.length m):Int))=true->((0:Int)<=(↑v4:Int)/\(↑v4:Int)<(↑(List.length m):Int))/\wq1 (qa3 (Ty.list (Ty.int .i64)) m (Int.toNat (↑v4:Int))) x/\((0:Nat)<List.length [qo9 (qa3 (Ty.list (Ty.int .i64)) m (Int.toNat (↑v4:Int))) x (List.length (qa3 (Ty.list (Ty.int .i64)) m (Int.toNat (↑v4:Int))))]/\Nat.le (List.length (List.take v4 (qo2 m x))+List.length [qo9 (qa3 (Ty.list (Ty.int .i64)) m (Int.toNat (↑v4:Int))) x (List.length (qa3 (Ty.list (Ty.int .i64)) m (Int.toNat (↑v4:Int))))]) (1000000:Nat))/\fits .i64 ((↑v4:Int)+(1:Int))/\∃(v7:Nat),Nat.le v7 (List.length m)/\List.length m-v7<List.length m-v4/\(True/\(↑v4:Int)+(1:Int)=(↑v7:Int)/\True)/\List.take v4 (qo2 m x)++[qo9 (qa3 (Ty.list (Ty.int .i64)) m (Int.toNat (↑v4:Int))) x (List.length (qa3 (Ty.list (Ty.int .i64)) m (Int.toNat (↑v4:Int))))]=List.take v7 (qo2 m x)/\True)/\(decide ((↑v4:Int)<(↑(List.length m):Int))=false->List.take v4 (qo2 m x)=Prod.fst (qk6 m x)/\(0:Int)=Prod.snd (qk6 m x)/\True)))) (by kernel_rfl) ?_
 try simp only[z0,z1,z2,z3,z4,z5,z6,z7,z8,z9,z10,Int.reduceEq,z11,z12,z13,z14,z15,z16,z17,z18,z19,z20,z21,z22,z23,z24,z25,z26,z27,z28,z29,z30,Int.reduceLE,Int.reduceLT,z31,z32,z33,z34,qa4]
 try simp only[qb8,qb9,qd2,List.set_cons_zero,List.cons.injEq,and_true,true_and]
 refine⟨h.fit,λhv=>by simp[qk6,q4x,wm7,hv],λhv=>⟨by have:=(Mk.of hv).rows1; omega,⟨⟨by decide,by decide⟩,h.len⟩,λhe=>?_,λhe=>?_⟩⟩
 ·rw[<- q4i hv] at he ⊢
  simp[qk6,he]
 ·rw[<- q4i hv] at he
  have hS:=Shw.of he
  have h6:=hS.msk.rows6
  have hlen:(qo2 m x).length=m.length:=by simp[qo2]
  have hR:qk6 m x=(qo2 m x,0):=by simp[qk6,he]
  rw[hR]
  refine⟨(),0,Nat.zero_le _,⟨rfl,rfl⟩,λk hk=>⟨λhlt=>⟨hlt,hS.dot k hlt,by rw[List.length_take]; omega,qa8 (by omega) (by omega),k+1,hlt,by omega,by omega,?_⟩,λhge=>⟨List.take_of_length_le (by omega),rfl⟩⟩⟩
  rw[q2j _ k (by omega),qh9 (qo2 m x) k (by omega)]
  simp[qo2]
abbrev x0y:qc9:=qh6 true none [qf6] [qg1] (λx=>x.1.length<=1000000) (λx=>((nzTo x.1 x.1.length:Int),()))
def xr7 (l:List Int):Nat->Option Inv
 | 0=>some (Inv.of [3,8] 0 (λk:Nat=>[(3,.lit (.int .i64 (nzTo l k))),(8,.lit (.int .i64 k))]) (λ_=>[]) (λk=>k<=l.length) (λk=>l.length-k))
 | _=>none
theorem w2f:qe1 Try.prog 62 x0y:=by
 refine meets (snd (SpecsOk.nil _)) Try.func62 rfl rfl (λx=>xr7 x.1) (λ_=>by kernel_rfl) (by decide) ?_
 rintro⟨l,⟨⟩⟩ h
 revert l
 intro(l:List Int) (h:l.length<=1000000)
 refine qe6 (B:=∃(v0:Unit),∃(v1:Nat),Nat.le v1 (List.length l)/\(((0:Int)=(↑(nzTo l v1):Int)/\(0:Int)=(↑v1:Int)/\True)/\True)/\∀(v2:Nat),Nat.le v2 (List.length l)->(decide ((↑v2:Int)<(↑(List.length l):Int))=true->((0:Int)<=(↑v2:Int)/\(↑v2:Int)<(↑(List.length l):Int))/\((qa3 (Ty.int .i64) l (Int.toNat (↑v2:Int)) != (0:Int))=true->fits .i64 ((↑(nzTo l v2):Int)+(1:Int))/\fits .i64 ((↑v2:Int)+(1:Int))/\∃(v6:Nat),Nat.le v6 (List.length l)/\List.length l-v6<List.length l-v2/\((↑(nzTo l v2):Int)+(1:Int)=(↑(nzTo l v6):Int)/\(↑v2:Int)+(1:Int)=(↑v6:Int)/\True)/\True)/\((qa3 (Ty.int .i64) l (Int.toNat (↑v2:Int)) != (0:Int))=false->fits .i64 ((↑v2:Int)+(1:Int))/\∃(v6:Nat),Nat.le v6 (List.length l)/\List.length l-v6<List.length l-v2/\((↑(nzTo l v2):Int)=(↑(nzTo l v6):Int)/\(↑v2:Int)+(1:Int)=(↑v6:Int)/\True)/\True))/\(decide ((↑v2:Int)<(↑(List.length l):Int))=false->(↑(nzTo l v2):Int)=(↑(nzTo l (List.length l)):Int))) (by kernel_rfl) ?_
 try simp only[z0,z1,z2,z3,z4,z5,z6,z7,z8,z9,z10,Int.reduceEq,z11,z12,z13,z14,z15,z16,z17,z18,z19,z20,z21,z22,z23,z24,z25,z26,z27,z28,z29,z30,Int.reduceLE,Int.reduceLT,z31,z32,z33,z34,qa4]
 try simp only[qb8,qb9,qd2,List.set_cons_zero,List.cons.injEq,and_true,true_and]
 refine⟨(),0,Nat.zero_le _,⟨rfl,rfl⟩,λi hi=>⟨λhlt=>?_,λhge=>?_⟩⟩
 ·have:=q04 l i
  exact⟨hlt,λhz=>⟨qa8 (by omega) (by omega),qa8 (by omega) (by omega),i+1,hlt,by omega,by rw[nzTo,if_pos hz]; omega,by omega⟩,λhz=>⟨qa8 (by omega) (by omega),i+1,hlt,by omega,by rw[nzTo,if_neg (λq=>q hz)],by omega⟩⟩
 ·obtain rfl:i=l.length:=by omega
  rfl
def w2g (l:List Int) (k:Int):Bool:=decide ((nzTo l l.length:Int)<=k)
abbrev x4n:qc9:=hspec [] true none [.d qf6,.cap qg1] [.bool] (λx=>x.1.length<=1000000) (λx=>(w2g x.1 x.2.1,()))
def x0z (l:List Int):Nat->Option Inv
 | 0=>some (Inv.of [4,9] 0 (λk:Nat=>[(4,.lit (.int .i64 (nzTo l k))),(9,.lit (.int .i64 k))]) (λ_=>[]) (λk=>k<=l.length) (λk=>l.length-k))
 | _=>none
theorem w50:qe1 Try.prog 60 x4n:=by
 refine qp4 (SpecsOk.nil _) (snd (SpecsOk.nil _)) Try.func60 rfl rfl (λx=>x0z x.1) (λ_=>by kernel_rfl) (by decide) ?_
 rintro⟨l,k,⟨⟩⟩ h
 revert l k
 intro(l:List Int) (k:Int) (h:l.length<=1000000)
 refine qe6 (B:=∃(v0:Unit),∃(v1:Nat),Nat.le v1 (List.length l)/\(((0:Int)=(↑(nzTo l v1):Int)/\(0:Int)=(↑v1:Int)/\True)/\True)/\∀(v2:Nat),Nat.le v2 (List.length l)->(decide ((↑v2:Int)<(↑(List.length l):Int))=true->((0:Int)<=(↑v2:Int)/\(↑v2:Int)<(↑(List.length l):Int))/\((qa3 (Ty.int .i64) l (Int.toNat (↑v2:Int)) != (0:Int))=true->fits .i64 ((↑(nzTo l v2):Int)+(1:Int))/\fits .i64 ((↑v2:Int)+(1:Int))/\∃(v6:Nat),Nat.le v6 (List.length l)/\List.length l-v6<List.length l-v2/\((↑(nzTo l v2):Int)+(1:Int)=(↑(nzTo l v6):Int)/\(↑v2:Int)+(1:Int)=(↑v6:Int)/\True)/\True)/\((qa3 (Ty.int .i64) l (Int.toNat (↑v2:Int)) != (0:Int))=false->fits .i64 ((↑v2:Int)+(1:Int))/\∃(v6:Nat),Nat.le v6 (List.length l)/\List.length l-v6<List.length l-v2/\((↑(nzTo l v2):Int)=(↑(nzTo l v6):Int)/\(↑v2:Int)+(1:Int)=(↑v6:Int)/\True)/\True))/\(decide ((↑v2:Int)<(↑(List.length l):Int))=false->decide ((↑(nzTo l v2):Int)<=k)=w2g l k)) (by kernel_rfl) ?_
 try simp only[z0,z1,z2,z3,z4,z5,z6,z7,z8,z9,z10,Int.reduceEq,z11,z12,z13,z14,z15,z16,z17,z18,z19,z20,z21,z22,z23,z24,z25,z26,z27,z28,z29,z30,Int.reduceLE,Int.reduceLT,z31,z32,z33,z34,qa4]
 try simp only[qb8,qb9,qd2,List.set_cons_zero,List.cons.injEq,and_true,true_and]
 refine⟨(),0,Nat.zero_le _,⟨rfl,rfl⟩,λi hi=>⟨λhlt=>?_,λhge=>?_⟩⟩
 ·have:=q04 l i
  exact⟨hlt,λhz=>⟨qa8 (by omega) (by omega),qa8 (by omega) (by omega),i+1,hlt,by omega,by rw[nzTo,if_pos hz]; omega,by omega⟩,λhz=>⟨qa8 (by omega) (by omega),i+1,hlt,by omega,by rw[nzTo,if_neg (λq=>q hz)],by omega⟩⟩
 ·obtain rfl:i=l.length:=by omega
  rfl
def qj0 (m:List (List Int)) (k:Int) (a b:List Int):Bool:=decide (q4x m a=0) && decide (q4x m b=0) && inB k 1 10 && w2g a k && w2g b k && decide (qo2 m a=qo2 m b) && !decide (a=b)
structure wb6 (m:List (List Int)) (a b:List Int):Prop where
 fit:q6o m
 la:a.length<=1000000
 lb:b.length<=1000000
abbrev xr8:qc9:=qh6 true none [qk0,qg1,qf6,qf6] [.bool] (λx=>wb6 x.1 x.2.2.1 x.2.2.2.1) (λx=>(qj0 x.1 x.2.1 x.2.2.1 x.2.2.2.1,()))
theorem w2h:qe1 Try.prog 30 xr8:=by
 refine meets (snd (SpecsOk.cons w2d (SpecsOk.cons qt5 (SpecsOk.cons w50 (SpecsOk.cons w5q (SpecsOk.nil _)))))) Try.func30 rfl rfl (λ_ _=>none) (λ_=>by kernel_rfl) (by decide) ?_
 rintro⟨m,k,a,b,⟨⟩⟩ h
 revert m k a b
 intro(m:List (List Int)) (k:Int) (a:List Int) (b:List Int) (h:wb6 m a b)
 refine qe6 (B:=List.length a<=(1000000:Nat)/\List.length b<=(1000000:Nat)/\((Prod.snd (qk6 m a)==(0:Int))=true->((Prod.snd (qk6 m b)==(0:Int))=true->True/\(inB k (1:Int) (10:Int)=true->List.length a<=(1000000:Nat)/\(w2g a k=true->List.length b<=(1000000:Nat)/\(w2g b k=true->List.length (Prod.fst (qk6 m a))<=(1000000:Nat)/\(decide (Prod.fst (qk6 m a)=Prod.fst (qk6 m b))=true->List.length a<=(1000000:Nat)/\(!decide (a=b))=qj0 m k a b)/\(decide (Prod.fst (qk6 m a)=Prod.fst (qk6 m b))=false->false=qj0 m k a b))/\(w2g b k=false->false=qj0 m k a b))/\(w2g a k=false->false=qj0 m k a b))/\(inB k (1:Int) (10:Int)=false->false=qj0 m k a b))/\((Prod.snd (qk6 m b)==(0:Int))=false->false=qj0 m k a b))/\((Prod.snd (qk6 m a)==(0:Int))=false->false=qj0 m k a b)) (by kernel_rfl) ?_
 try simp only[z0,z1,z2,z3,z4,z5,z6,z7,z8,z9,z10,Int.reduceEq,z11,z12,z13,z14,z15,z16,z17,z18,z19,z20,z21,z22,z23,z24,z25,z26,z27,z28,z29,z30,Int.reduceLE,Int.reduceLT,z31,z32,z33,z34,qa4]
 try simp only[qb8,qb9,qd2,List.set_cons_zero,List.cons.injEq,and_true,true_and]
 rw[q3m,q3m]
 refine⟨h.la,h.lb,λh1=>⟨λh2=>⟨λh3=>⟨h.la,λh4=>⟨h.lb,λh5=>?_,λh5=>by simp[qj0,h5]⟩,λh4=>by simp[qj0,h4]⟩,λh3=>by simp[qj0,h3]⟩,λh2=>by simp[qj0,h2]⟩,λh1=>by simp[qj0,h1]⟩
 rw[q3n h1,q3n h2]
 have h6:=(Shw.of h1).msk.rows6
 exact⟨by simp[qo2]; omega,λe=>⟨h.la,by simp[qj0,h1,h2,h3,h4,h5,e]⟩,λe=>by simp[qj0,e]⟩
theorem wq4:qe1 Try.prog 31 xr8:=by
 refine meets (snd (SpecsOk.cons w2e (SpecsOk.cons q3j (SpecsOk.cons w2f (SpecsOk.cons q80 (SpecsOk.cons wq3 (SpecsOk.nil _))))))) Try.func31 rfl rfl (λ_ _=>none) (λ_=>by kernel_rfl) (by decide) ?_
 rintro⟨m,k,a,b,⟨⟩⟩ h
 revert m k a b
 intro(m:List (List Int)) (k:Int) (a:List Int) (b:List Int) (h:wb6 m a b)
 refine qe6 (B:=wk6 m a/\((!decide (q4x m a=(0:Int)))=true->false=qj0 m k a b)/\((!decide (q4x m a=(0:Int)))=false->wk6 m b/\((!decide (q4x m b=(0:Int)))=true->false=qj0 m k a b)/\((!decide (q4x m b=(0:Int)))=false->True/\((!inB k (1:Int) (10:Int))=true->false=qj0 m k a b)/\((!inB k (1:Int) (10:Int))=false->List.length a<=(1000000:Nat)/\(decide (k<(↑(nzTo a (List.length a)):Int))=true->false=qj0 m k a b)/\(decide (k<(↑(nzTo a (List.length a)):Int))=false->List.length b<=(1000000:Nat)/\(decide (k<(↑(nzTo b (List.length b)):Int))=true->false=qj0 m k a b)/\(decide (k<(↑(nzTo b (List.length b)):Int))=false->List.length a<=(1000000:Nat)/\(decide (a=b)=true->false=qj0 m k a b)/\(decide (a=b)=false->wk6 m a/\wk6 m b/\((Prod.snd (qk6 m a)==(0:Int))=true->((Prod.snd (qk6 m b)==(0:Int))=true->List.length (Prod.fst (qk6 m a))<=(1000000:Nat)/\decide (Prod.fst (qk6 m a)=Prod.fst (qk6 m b))=qj0 m k a b)/\((Prod.snd (qk6 m b)==(0:Int))=false->false=qj0 m k a b))/\((Prod.snd (qk6 m a)==(0:Int))=false->false=qj0 m k a b)))))))) (by kernel_rfl) ?_
 try simp only[z0,z1,z2,z3,z4,z5,z6,z7,z8,z9,z10,Int.reduceEq,z11,z12,z13,z14,z15,z16,z17,z18,z19,z20,z21,z22,z23,z24,z25,z26,z27,z28,z29,z30,Int.reduceLE,Int.reduceLT,z31,z32,z33,z34,qa4]
 try simp only[qb8,qb9,qd2,List.set_cons_zero,List.cons.injEq,and_true,true_and]
 have fa:∀l:List Int,(nzTo l l.length:Int)<=k->w2g l k=true:=λl hl=>decide_eq_true hl
 have fb:∀l:List Int,k<(nzTo l l.length:Int)->w2g l k=false:=λl hl=>decide_eq_false (by omega)
 rw[q3m,q3m]
 refine⟨⟨h.fit,h.la⟩,λh1=>by simp[qj0,h1],λh1=>⟨⟨h.fit,h.lb⟩,λh2=>by simp[qj0,h2],λh2=>⟨λh3=>by simp[qj0,h3],λh3=>⟨h.la,λh4=>by simp[qj0,fb _ h4],λh4=>⟨h.lb,λh5=>by simp[qj0,fb _ h5],λh5=>⟨h.la,λe=>by simp[qj0,e],λe=>⟨⟨h.fit,h.la⟩,⟨h.fit,h.lb⟩,λ_=>⟨λ_=>?_,λq=>absurd h2 q⟩,λq=>absurd h1 q⟩⟩⟩⟩⟩⟩⟩
 rw[q3n h1,q3n h2]
 have h6:=(Shw.of h1).msk.rows6
 exact⟨by simp[qo2]; omega,by simp[qj0,h1,h2,h3,fa _ h4,fa _ h5,e]⟩
end Go.Proofs.Ytdibdlelmkcccaa
