/- The reference's circuits: contracts by the engine. No condition. -/
import Derived.Test.YtnchigbbjajiiaaGreatV19
set_option linter.unusedVariables false
set_option linter.unusedSimpArgs false
namespace Go.Proofs.YtnchigbbjajiiaaGreat
open Go Go.RowKit Eng
def q2l (l:List Int):Nat->Nat
 | 0=>0
 | k+1=>if nI l k≠0 then q2l l k+1 else q2l l k
theorem xe8 (l:List Int):∀k,q2l l k<=k
 | 0=>zab _
 | k+1=>by have:=xe8 l k; grind [q2l]
def qr4 (a b:List Int):Nat->Int
 | 0=>0
 | k+1=>qr4 a b k+nI a k*nI b k
structure w1k (a b:List Int):Prop where
 len:a.length<=10
 le:a.length<=b.length
 sa:∀i,i<a.length->-1<=nI a i/\nI a i<=1
 sb:∀i,i<a.length->qc0 1000000 (nI b i)
theorem q8n {x y K:Int} (hx:-1<=x/\x<=1) (hy:qc0 K y):qc0 K (x*y):=by
 unfold qc0 at *
 rcases(show x=-1\/x=0\/x=1 by omega) with rfl | rfl | rfl
 all_goals omega
theorem wl3 {a b:List Int} (h:w1k a b):∀k,k<=a.length->qc0 (1000000*k) (qr4 a b k)
 | 0,_=>by simp_all [qc0,qr4]
 | k+1,hk=>by
  have h1:=wl3 h k ow
  have h2:=q8n (h.sa k ow) (h.sb k ow)
  unfold qc0 at *
  grind [qr4]
abbrev yt9:qb3:=qe8 true none [tInts,tInts] [tInt] (λx=>w1k x.1 x.2.1) (λx=>(qr4 x.1 x.2.1 x.1.length,()))
def xy6 (a b:List Int):Nat->Option Inv
 | 0=>some (Inv.of [5,10] 0 (λk:Nat=>[(5,.lit (.int .i64 (qr4 a b k))),(10,.lit (.int .i64 k))]) (λ_=>[]) (λk=>k<=a.length) (λk=>a.length-k))
 | _=>none
theorem ww2:Meets Tryz.prog 57 yt9:=by
 refine mts (SpecsOk.nil _) Tryz.func57 (λx=>xy6 x.1 x.2.1) ?_
 rintro⟨a,b,⟨⟩⟩ h
 revert a b
 intro(a:List Int) (b:List Int) (h:w1k a b)
 refine vcs (∃(v0:Unit),∃(v1:Nat),Nat.le v1 a.length/\(((0:Int)=qr4 a b v1/\(0:Int)=(↑v1:Int)/\True)/\True)/\∀(v2:Nat),Nat.le v2 a.length->(decide ((↑v2:Int)<(↑a.length:Int))=true->((0:Int)<=(↑v2:Int)/\(↑v2:Int)<(↑a.length:Int))/\((0:Int)<=(↑v2:Int)/\(↑v2:Int)<(↑b.length:Int))/\fits .i64 (nI a v2*nI b v2)/\fits .i64 (qr4 a b v2+nI a v2*nI b v2)/\fits .i64 ((↑v2:Int)+(1:Int))/\∃(v5:Nat),Nat.le v5 a.length/\a.length-v5<a.length-v2/\(qr4 a b v2+nI a v2*nI b v2=qr4 a b v5/\(↑v2:Int)+(1:Int)=(↑v5:Int)/\True)/\True)/\(decide ((↑v2:Int)<(↑a.length:Int))=false->qr4 a b v2=qr4 a b a.length)) ?_
 have hl:=h.len
 have hle:=h.le
 refine⟨(),0,zae _,⟨rfl,rfl⟩,λk hk=>⟨λhlt=>?_,λhge=>?_⟩⟩
 ·have h1:=wl3 h k hk
  have h2:=q8n (h.sa k hlt) (h.sb k hlt)
  unfold qc0 at h1 h2
  exact⟨hlt,ow,qa3,qa3,qa3,k+1,hlt,ow,rfl,ow⟩
 grind
def x8y (a b:List Int):Nat->Option Inv
 | 0=>some (Inv.of [5,9] 0 (λk:Nat=>[(5,.lit (.int .i64 (qr4 a b k))),(9,.lit (.int .i64 k))]) (λ_=>[]) (λk=>k<=a.length) (λk=>a.length-k))
 | _=>none
theorem w7b:Meets Tryz.prog 151 yt9:=by
 refine mts (SpecsOk.nil _) Tryz.func151 (λx=>x8y x.1 x.2.1) ?_
 rintro⟨a,b,⟨⟩⟩ h
 revert a b
 intro(a:List Int) (b:List Int) (h:w1k a b)
 refine vcs (∃(v0:Unit),∃(v1:Nat),Nat.le v1 a.length/\(((0:Int)=qr4 a b v1/\(0:Int)=(↑v1:Int)/\True)/\True)/\∀(v2:Nat),Nat.le v2 a.length->(decide ((↑v2:Int)<(↑a.length:Int))=true->((0:Int)<=(↑v2:Int)/\(↑v2:Int)<(↑a.length:Int))/\((0:Int)<=(↑v2:Int)/\(↑v2:Int)<(↑b.length:Int))/\fits .i64 (nI a v2*nI b v2)/\fits .i64 (qr4 a b v2+nI a v2*nI b v2)/\fits .i64 ((↑v2:Int)+(1:Int))/\∃(v5:Nat),Nat.le v5 a.length/\a.length-v5<a.length-v2/\(qr4 a b v2+nI a v2*nI b v2=qr4 a b v5/\(↑v2:Int)+(1:Int)=(↑v5:Int)/\True)/\True)/\(decide ((↑v2:Int)<(↑a.length:Int))=false->qr4 a b v2=qr4 a b a.length)) ?_
 have hl:=h.len
 have hle:=h.le
 refine⟨(),0,zae _,⟨rfl,rfl⟩,λk hk=>⟨λhlt=>?_,λhge=>?_⟩⟩
 ·have h1:=wl3 h k hk
  have h2:=q8n (h.sa k hlt) (h.sb k hlt)
  unfold qc0 at h1 h2
  exact⟨hlt,ow,qa3,qa3,qa3,k+1,hlt,ow,rfl,ow⟩
 grind
abbrev x8z:qb3:=hspec [] true none [.cap tMask] [tInt] (λx=>0<x.1.length) (λx=>((nL x.1 0).length,()))
theorem w7c:Meets Tryz.prog 102 x8z:=by
 refine qu0 (SpecsOk.nil _) (snd (SpecsOk.nil _)) Tryz.func102 rfl rfl (λ_ _=>none) (λ_=>by kernel_rfl) dc ?_
 rintro⟨m,⟨⟩⟩ h
 revert m
 intro(m:List (List Int)) (h:0<m.length)
 refine vcs (((0:Int)<=(0:Int)/\(0:Int)<(↑m.length:Int))/\(↑(nL m (0:Nat)).length:Int)=(↑(nL m (0:Nat)).length:Int)) ?_
 omega
abbrev x9a:qb3:=hspec [] true none [.d tInt,.cap tInt] [.bool] (λx=>qc0 BIG x.2.1) (λx=>(inB x.1 (0-x.2.1) x.2.1,()))
theorem w7d:Meets Tryz.prog 143 x9a:=by
 refine qu0 (SpecsOk.nil _) (snd (SpecsOk.cons qu7 (SpecsOk.nil _))) Tryz.func143 rfl rfl (λ_ _=>none) (λ_=>by kernel_rfl) dc ?_
 rintro⟨n,k,⟨⟩⟩ h
 revert n k
 intro(n:Int) (k:Int) (h:qc0 BIG k)
 refine vcs (fits .i64 ((0:Int)-k)/\True/\inB n ((0:Int)-k) k=inB n ((0:Int)-k) k) ?_
 unfold qc0 BIG at h
 grind [qa3]
def w38 (m:List (List Int)) (l:List Int) (n k:Int):Int:=if validB m=false then 1 else if(l.length:Int)≠n then 9 else if(l.all λe=>inB e (0-k) k)=false then 7 else 0
abbrev yx9 (fs:List (Nat × qb3)):qb3:=hspec fs true none [.d tMask,.d tInts,.fn [] tInt,.d tInt] [tInt] (λx=>(validB x.1=true->x.2.2.1.1 ())/\qc0 BIG x.2.2.2.1/\x.2.1.length<=1000000) (λx=>(w38 x.1 x.2.1 (x.2.2.1.2 ()) x.2.2.2.1,()))
theorem xe9 {fs:List (Nat × qb3)} (hfs:SpecsOk Tryz.prog fs):Meets Tryz.prog 101 (yx9 fs):=by
 refine qu0 hfs (snd (SpecsOk.cons q6w (SpecsOk.cons (wc8 (fs:=[(143,x9a)]) (SpecsOk.cons w7d (SpecsOk.nil _))) (SpecsOk.nil _)))) Tryz.func101 rfl rfl (λ_ _=>none) (λ_=>by kernel_rfl) dc ?_
 rintro⟨m,l,⟨p,f⟩,k,⟨⟩⟩ h
 revert m l p f k
 intro(m:List (List Int)) (l:List Int) (p:qa5 []->Prop) (f:qa5 []->Int) (k:Int) (h:(validB m=true->p ())/\qc0 BIG k/\l.length<=1000000)
 refine vcs (True/\((!validB m)=true->(1:Int)=w38 m l (f ()) k)/\((!validB m)=false->p ()/\(((↑l.length:Int) != f ())=true->(9:Int)=w38 m l (f ()) k)/\(((↑l.length:Int) != f ())=false->∃(v2:qa5 [tInt]->Prop),∃(v3:qa5 [tInt]->Bool),(∀(v4:Int × qa5._f [] PUnit.unit),v2 v4->qc0 BIG k/\inB v4.1 ((0:Int)-k) k=v3 v4)/\(l.length<=(1000000:Nat)/\∀(v4:Nat),v4<l.length->v2 (nI l v4,()))/\((!List.all l λ(v5:Int)=>v3 (v5,()))=true->(7:Int)=w38 m l (f ()) k)/\((!List.all l λ(v5:Int)=>v3 (v5,()))=false->(0:Int)=w38 m l (f ()) k)))) ?_
 obtain⟨h1,h2,h3⟩:=h
 refine⟨λhv=>by grind [w38],λhv=>⟨h1 hv,λhl=>by grind [w38],λhl=>⟨λ_=>True,λx=>inB x.1 (0-k) k,λ_ _=>⟨h2,rfl⟩,⟨h3,λ_ _=>trivial⟩,λha=>?_,λha=>?_⟩⟩⟩
 all_goals simp_all [w38,if_neg,if_pos]
def qr6 (m:List (List Int)) (x:List Int):Int:=w38 m x (nL m 0).length 1000000
abbrev yy0:qb3:=qe8 true none [tMask,tInts] [tInt] (λx=>x.2.1.length<=1000000) (λx=>(qr6 x.1 x.2.1,()))
theorem xf1:Meets Tryz.prog 56 yy0:=by
 refine mt0 (SpecsOk.cons (xe9 (fs:=[(102,x8z)]) (SpecsOk.cons w7c (SpecsOk.nil _))) (SpecsOk.nil _)) Tryz.func56 ?_
 rintro⟨m,x,⟨⟩⟩ h
 revert m x
 intro(m:List (List Int)) (x:List Int) (h:x.length<=1000000)
 refine vcs (∃(v0:qa5 []->Prop),∃(v1:qa5 []->Int),(∀(v2:Unit),v0 v2->(0:Nat)<m.length/\(↑(nL m (0:Nat)).length:Int)=v1 v2)/\((validB m=true->v0 ())/\qc0 BIG (1000000:Int)/\x.length<=(1000000:Nat))/\w38 m x (v1 ()) (1000000:Int)=qr6 m x) ?_
 exact⟨λ_=>0<m.length,λ_=>((nL m 0).length:Int),λ_ hp=>⟨hp,rfl⟩,⟨λhv=>by have:=(Mk.of hv).rows1; omega,⟨dc,dc⟩,h⟩,rfl⟩
structure Shw (m:List (List Int)) (x:List Int):Prop where
 msk:Mk m
 val:validB m=true
 len:x.length=(nL m 0).length
 bd:∀i,i<x.length->qc0 1000000 (nI x i)
theorem Shw.of {m:List (List Int)} {x:List Int} (h:qr6 m x=0):Shw m x:=by
 unfold qr6 w38 at h
 split at h
 ·cases h
 ·rename_i hv
  have hv:validB m=true:=by grind
  split at h
  ·cases h
  ·rename_i hl
   split at h
   ·cases h
   ·rename_i ha
    have ha:(x.all λe=>inB e (0-1000000) 1000000)=true:=by grind
    refine⟨Mk.of hv,hv,ow,λi hi=>?_⟩
    have:=inB_iff.1 (zar.1 ha (nI x i) (by grind [qf1,List.getElem_mem]))
    omega
theorem Shw.dot {m:List (List Int)} {x:List Int} (h:Shw m x) (k:Nat) (hk:k<m.length):w1k (nL m k) x:=by
 have h1:=h.msk.each k hk
 have h2:=h.msk.pix10
 have h3:=h.len
 exact⟨ow,ow,λi hi=>h.msk.small k hk i ow,λi hi=>h.bd i ow⟩
def qd4 (m:List (List Int)) (x:List Int):List Int:=(List.range m.length).map λi=>qr4 (nL m i) x (nL m i).length
def readR (m:List (List Int)) (x:List Int):List Int × Int:=if qr6 m x=0 then(qd4 m x,0) else([],qr6 m x)
abbrev yl9:qb3:=qe8 true none [tMask,tInts] [tInts,tInt] (λx=>x.2.1.length<=1000000) (λx=>((readR x.1 x.2.1).1,(readR x.1 x.2.1).2,()))
def x9c (m:List (List Int)) (x:List Int):Nat->Option Inv
 | 0=>some (Inv.of [7,18] 1 (λk:Nat=>[(7,.own 0),(18,.lit (.int .i64 k))]) (λk=>[.vec 3 (.int .i64) ((qd4 m x).take k)]) (λk=>k<=m.length) (λk=>m.length-k))
 | _=>none
theorem w7e:Meets Tryz.prog 15 yl9:=by
 refine mts (SpecsOk.cons xf1 (SpecsOk.cons ww2 (SpecsOk.nil _))) Tryz.func15 (λx=>x9c x.1 x.2.1) ?_
 rintro⟨m,x,⟨⟩⟩ h
 revert m x
 intro(m:List (List Int)) (x:List Int) (h:x.length<=1000000)
 refine vcs (let Q0:=qd4 m x; let Q1:=readR m x; x.length<=(1000000:Nat)/\((qr6 m x != (0:Int))=true->Q1.1=[]/\qr6 m x=Q1.2/\True)/\((qr6 m x != (0:Int))=false->∃(v1:Unit),∃(v2:Nat),Nat.le v2 m.length/\((True/\(0:Int)=(↑v2:Int)/\True)/\List.take v2 Q0=[]/\True)/\∀(v3:Nat),Nat.le v3 m.length->(decide ((↑v3:Int)<(↑m.length:Int))=true->((0:Int)<=(↑v3:Int)/\(↑v3:Int)<(↑m.length:Int))/\w1k (nL m v3) x/\((0:Nat)<List.length [qr4 (nL m v3) x (nL m v3).length]/\Nat.le ((List.take v3 Q0).length+List.length [qr4 (nL m v3) x (nL m v3).length]) (1000000:Nat))/\fits .i64 ((↑v3:Int)+(1:Int))/\∃(v6:Nat),Nat.le v6 m.length/\m.length-v6<m.length-v3/\(True/\(↑v3:Int)+(1:Int)=(↑v6:Int)/\True)/\List.take v3 Q0++[qr4 (nL m v3) x (nL m v3).length]=List.take v6 Q0/\True)/\(decide ((↑v3:Int)<(↑m.length:Int))=false->List.take v3 Q0=Q1.1/\(0:Int)=Q1.2/\True))) ?_
 refine⟨h,λhe=>by grind [readR],λhe=>?_⟩
 have hS:=Shw.of he
 have hM:=hS.msk
 have h6:=hM.rows6
 have h10:=hM.pix10
 have hlen:(qd4 m x).length=m.length:=by simp[qd4]
 have hR:readR m x=(qd4 m x,0):=by grind [readR]
 rw[hR]
 refine⟨(),0,zae _,⟨rfl,rfl⟩,λk hk=>⟨λhlt=>⟨hlt,hS.dot k hlt,by grind,qa3,k+1,hlt,ow,ow,?_⟩,λhge=>⟨zbc ow,rfl⟩⟩⟩
 grind [q1o,qf1,qd4]
def q6k (l:List Int) (n k:Int):Int:=if(l.length:Int)≠n then 9 else if(l.all λe=>inB e (0-k) k)=false then 7 else 0
abbrev ym0:qb3:=qe8 true none [tInts,tInt,tInt] [tInt] (λx=>qc0 BIG x.2.2.1/\x.1.length<=1000000) (λx=>(q6k x.1 x.2.1 x.2.2.1,()))
structure xy7 (l:List Int) (k:Int) (i:Nat):Prop where
 le:i<=l.length
 ok:∀j,j<i->inB (nI l j) (0-k) k=true
def x9d (l:List Int) (k:Int):Nat->Option Inv
 | 0=>some (Inv.of [15] 0 (λi:Nat=>[(15,.lit (.int .i64 i))]) (λ_=>[]) (λi=>xy7 l k i) (λi=>l.length-i))
 | _=>none
theorem w7f:Meets Tryz.prog 150 ym0:=by
 refine mts (SpecsOk.cons q0r (SpecsOk.nil _)) Tryz.func150 (λx=>x9d x.1 x.2.2.1) ?_
 rintro⟨l,n,k,⟨⟩⟩ h
 revert l n k
 intro(l:List Int) (n:Int) (k:Int) (h:qc0 BIG k/\l.length<=1000000)
 refine vcs ((((↑l.length:Int) != n)=true->(9:Int)=q6k l n k)/\(((↑l.length:Int) != n)=false->∃(v1:Unit),∃(v2:Nat),xy7 l k v2/\(((0:Int)=(↑v2:Int)/\True)/\True)/\∀(v3:Nat),xy7 l k v3->(decide ((↑v3:Int)<(↑l.length:Int))=true->((0:Int)<=(↑v3:Int)/\(↑v3:Int)<(↑l.length:Int))/\fits .i64 ((0:Int)-k)/\True/\((!inB (nI l v3) ((0:Int)-k) k)=true->(7:Int)=q6k l n k)/\((!inB (nI l v3) ((0:Int)-k) k)=false->fits .i64 ((↑v3:Int)+(1:Int))/\∃(v7:Nat),xy7 l k v7/\l.length-v7<l.length-v3/\((↑v3:Int)+(1:Int)=(↑v7:Int)/\True)/\True))/\(decide ((↑v3:Int)<(↑l.length:Int))=false->(0:Int)=q6k l n k))) ?_
 obtain⟨hk,hl⟩:=h
 unfold qc0 BIG at hk
 refine⟨λhn=>by grind [q6k],λhn=>?_⟩
 refine⟨(),0,⟨zae _,λj hj=>absurd hj (zav _)⟩,rfl,λi hi=>⟨λhlt=>⟨hlt,qa3,λh1=>?_,λh1=>⟨qa3,i+1,⟨hlt,λj hj=>?_⟩,ow,ow⟩⟩,λhge=>?_⟩⟩
 ·have:(l.all λe=>inB e (0-k) k)=false:=by
   grind [inB,List.all_eq_true,nI,qf1,List.getElem_mem]
  simp_all [q6k,if_neg,if_pos]
 ·by_cases e:j=i
  ·grind
  ·exact hi.ok j ow
 ·have:(l.all λe=>inB e (0-k) k)=true:=by
   rw[zar]
   intro x hx
   obtain⟨j,hj,rfl⟩:=zaz hx
   rw[<- qf1 l j hj]
   exact hi.ok j ow
  simp_all [q6k,if_neg]
theorem we3 {m:List (List Int)} (hv:validB m=true) {x:List Int}:qr6 m x=q6k x (nL m 0).length 1000000:=by grind [qr6,w38,q6k]
theorem xf2 (m:List (List Int)) (x:List Int):(readR m x).2=qr6 m x:=by
 grind [readR]
theorem xf3 {m:List (List Int)} {x:List Int} (h:qr6 m x=0):(readR m x).1=qd4 m x:=by simp[readR,h]
structure xf4 (m:List (List Int)) (x:List Int):Prop where
 fit:q6g m
 len:x.length<=1000000
abbrev x9e:qb3:=qe8 true none [tMask,tInts] [tInts,tInt] (λx=>xf4 x.1 x.2.1) (λx=>((readR x.1 x.2.1).1,(readR x.1 x.2.1).2,()))
def x4v (m:List (List Int)) (x:List Int):Nat->Option Inv
 | 0=>some (Inv.of [7,24] 1 (λk:Nat=>[(7,.own 0),(24,.lit (.int .i64 k))]) (λk=>[.vec 3 (.int .i64) ((qd4 m x).take k)]) (λk=>k<=m.length) (λk=>m.length-k))
 | _=>none
theorem q8o:Meets Tryz.prog 108 x9e:=by
 refine mts (SpecsOk.cons q6y (SpecsOk.cons w7f (SpecsOk.cons w7b (SpecsOk.nil _)))) Tryz.func108 (λx=>x4v x.1 x.2.1) ?_
 rintro⟨m,x,⟨⟩⟩ h
 revert m x
 intro(m:List (List Int)) (x:List Int) (h:xf4 m x)
 refine vcs (let Q0:=readR m x; let Q1:=qd4 m x; q6g m/\((!validB m)=true->Q0.1=[]/\(1:Int)=Q0.2/\True)/\((!validB m)=false->((0:Int)<=(0:Int)/\(0:Int)<(↑m.length:Int))/\(qc0 BIG (1000000:Int)/\x.length<=(1000000:Nat))/\((q6k x (↑(nL m (0:Nat)).length:Int) (1000000:Int) != (0:Int))=true->Q0.1=[]/\q6k x (↑(nL m (0:Nat)).length:Int) (1000000:Int)=Q0.2/\True)/\((q6k x (↑(nL m (0:Nat)).length:Int) (1000000:Int) != (0:Int))=false->∃(v2:Unit),∃(v3:Nat),Nat.le v3 m.length/\((True/\(0:Int)=(↑v3:Int)/\True)/\List.take v3 Q1=[]/\True)/\∀(v4:Nat),Nat.le v4 m.length->(decide ((↑v4:Int)<(↑m.length:Int))=true->((0:Int)<=(↑v4:Int)/\(↑v4:Int)<(↑m.length:Int))/\w1k (nL m v4) x/\((0:Nat)<List.length [qr4 (nL m v4) x (nL m v4).length]/\Nat.le ((List.take v4 Q1).length+List.length [qr4 (nL m v4) x (nL m v4).length]) (1000000:Nat))/\fits .i64 ((↑v4:Int)+(1:Int))/\∃(v7:Nat),Nat.le v7 m.length/\m.length-v7<m.length-v4/\(True/\(↑v4:Int)+(1:Int)=(↑v7:Int)/\True)/\List.take v4 Q1++[qr4 (nL m v4) x (nL m v4).length]=List.take v7 Q1/\True)/\(decide ((↑v4:Int)<(↑m.length:Int))=false->List.take v4 Q1=Q0.1/\(0:Int)=Q0.2/\True)))) ?_
 refine⟨h.fit,λhv=>by grind [readR,qr6,w38],λhv=>⟨by have:=(Mk.of hv).rows1; omega,⟨⟨dc,dc⟩,h.len⟩,λhe=>?_,λhe=>?_⟩⟩
 ·grind [we3,readR]
 ·rw[<- we3 hv] at he
  have hS:=Shw.of he
  have h6:=hS.msk.rows6
  have hlen:(qd4 m x).length=m.length:=by simp[qd4]
  have hR:readR m x=(qd4 m x,0):=by grind [readR]
  rw[hR]
  refine⟨(),0,zae _,⟨rfl,rfl⟩,λk hk=>⟨λhlt=>⟨hlt,hS.dot k hlt,by grind,qa3,k+1,hlt,ow,ow,?_⟩,λhge=>⟨zbc ow,rfl⟩⟩⟩
  grind [q1o,qf1,qd4]
def qi1 (m:List (List Int)) (s:List Int):List (List Int):=qf8 (qg9 m s)
def qq9 (v:List Int):Nat->Bool
 | 0=>true
 | k+1=>qq9 v k && (nI v k != 0)
def q04 (m:List (List Int)) (s:List Int):Bool:=decide (s.length≠0) && decide (s.length<=m.length+1)
def q3k (m:List (List Int)) (n:Nat) (s:List Int):List Int:=qd3 n s (nL (qi1 m s) 0) s.length
def wl4 (m:List (List Int)) (n:Nat) (s:List Int):List Int:=if nI (q3k m n s) (nI s 0).toNat<0 then qk3 (q3k m n s) (-1) else q3k m n s
def qu2 (m:List (List Int)) (s:List Int):Bool:=q04 m s && decide ((qi1 m s).length=1) && qq9 (nL (qi1 m s) 0) s.length
def qh2 (m:List (List Int)) (n:Nat) (L:List (List Int)):Nat->List (List Int)
 | 0=>[]
 | c+1=>if qu2 m (nL L c) then qh2 m n L c++[wl4 m n (nL L c)] else qh2 m n L c
def q5j (m:List (List Int)):List (List Int) × Int:=if validB m=false then([],1) else(qh2 m (nL m 0).length (qc8 (nL m 0).length) (qc8 (nL m 0).length).length,0)
structure yy1 (m:List (List Int)):Prop where
 n7:(nL m 0).length<=7
 kr:∀s∈qc8 (nL m 0).length,q04 m s=true->x6x (qg9 m s)/\wv7 m s
structure xy8 (m:List (List Int)):Prop where
 fit:q6g m
 ok:validB m=true->yy1 m
theorem we4 (m:List (List Int)) (n:Nat) (L:List (List Int)):∀c,(qh2 m n L c).length<=c
 | 0=>zab _
 | c+1=>by
  have:=we4 m n L c
  grind [qh2]
theorem q5k {d:List (List Int)} {P:List Int} {n:Nat} (h:ye2 d P n) (hn:n<=1000):∀f,f<=n->∀x∈qh4 d P n f,x.length=n/\q5d x
 | 0,_,x,hx=>by cases hx
 | f+1,hf,x,hx=>by
  rw[qh4] at hx
  split at hx
  ·rename_i hfree
   rcases zal.1 hx with hx | hx
   ·exact q5k h hn f ow x hx
   ·obtain rfl:=zaw.1 hx
    refine⟨by rw[qn6,q4o],by grind [qn6,q4o],λx hx=>?_⟩
    obtain⟨y,hy,rfl⟩:=zba.1 hx
    exact ql7 (wl1 h ow hfree _ (zab _) y hy)
  ·exact q5k h hn f ow x hx
theorem w1l {rows:List (List Int)} (h:x6x rows) (x:List Int) (hx:x∈qf8 rows):x.length=rdW rows/\q5d x:=
 q5k h.ar h.rd.w _ (zab _) x hx
theorem xy9 {m:List (List Int)} (hm:0<m.length) (s:List Int):rdW (qg9 m s)=s.length:=by
 grind [rdW,qk5,qi0]
abbrev yy2:qb3:=qe8 false none [tMask] [tMask,tInt] (λx=>xy8 x.1) (λx=>((q5j x.1).1,(q5j x.1).2,()))
def ym1 (m:List (List Int)) (n:Nat):Nat->Option Inv
 | 0=>some (Inv.of [4,21] 1 (λc:Nat=>[(4,.own 0),(21,.lit (.int .i64 c))]) (λc=>[.vec 24 (.list (.int .i64)) (qh2 m n (qc8 n) c)]) (λc=>c<=(qc8 n).length) (λc=>(qc8 n).length-c))
 | 1=>some (Eng.Inv.mk (Nat × List Int) Nat [4,8,9,50] 2 (λq k=>[(4,.own 0),(8,.own 1),(9,.lit (.bool (qq9 (nL (qi1 m q.2) 0) k))),(50,.lit (.int .i64 k))]) (λq k=>[.vec 24 (.list (.int .i64)) (qh2 m n (qc8 n) q.1),.vec 3 (.int .i64) (qd3 n q.2 (nL (qi1 m q.2) 0) k)]) (λq k=>k<=q.2.length) (λq k=>q.2.length-k))
 | _=>none
theorem xf5:Meets Tryz.prog 152 yy2:=by
 refine mts (SpecsOk.cons q6y (SpecsOk.cons q8i (SpecsOk.cons w68 (SpecsOk.cons xy5 (SpecsOk.cons wv6 (SpecsOk.nil _)))))) Tryz.func152 (λx=>ym1 x.1 (nL x.1 0).length) ?_
 rintro⟨m,⟨⟩⟩ h
 revert m
 intro(m:List (List Int)) (h:xy8 m)
 refine vcs (q6g m/\((!validB m)=true->(q5j m).1=[]/\(1:Int)=(q5j m).2/\True)/\((!validB m)=false->((0:Int)<=(0:Int)/\(0:Int)<(↑m.length:Int))/\((0:Ty.den tInt)<=(↑(nL m (0:Nat)).length:Int)/\(↑(nL m (0:Nat)).length:Int)<=(7:Ty.den tInt))/\∃(v1:Unit),∃(v2:Nat),Nat.le v2 (qc8 (nL m (0:Nat)).length).length/\((True/\(0:Int)=(↑v2:Int)/\True)/\qh2 m (nL m (0:Nat)).length (qc8 (nL m (0:Nat)).length) v2=[]/\True)/\∀(v3:Nat),Nat.le v3 (qc8 (nL m (0:Nat)).length).length->(decide ((↑v3:Int)<(↑(qc8 (↑(nL m (0:Nat)).length:Int).toNat).length:Int))=true->((0:Int)<=(↑v3:Int)/\(↑v3:Int)<(↑(qc8 (↑(nL m (0:Nat)).length:Int).toNat).length:Int))/\(((↑(nL (qc8 (↑(nL m (0:Nat)).length:Int).toNat) v3).length:Int)==(0:Int))=true->fits .i64 ((↑v3:Int)+(1:Int))/\∃(v7:Nat),Nat.le v7 (qc8 (nL m (0:Nat)).length).length/\(qc8 (nL m (0:Nat)).length).length-v7<(qc8 (nL m (0:Nat)).length).length-v3/\(True/\(↑v3:Int)+(1:Int)=(↑v7:Int)/\True)/\qh2 m (nL m (0:Nat)).length (qc8 (nL m (0:Nat)).length) v3=qh2 m (nL m (0:Nat)).length (qc8 (nL m (0:Nat)).length) v7/\True)/\(((↑(nL (qc8 (↑(nL m (0:Nat)).length:Int).toNat) v3).length:Int)==(0:Int))=false->fits .i64 ((↑m.length:Int)+(1:Int))/\(decide ((↑m.length:Int)+(1:Int)<(↑(nL (qc8 (↑(nL m (0:Nat)).length:Int).toNat) v3).length:Int))=true->fits .i64 ((↑v3:Int)+(1:Int))/\∃(v8:Nat),Nat.le v8 (qc8 (nL m (0:Nat)).length).length/\(qc8 (nL m (0:Nat)).length).length-v8<(qc8 (nL m (0:Nat)).length).length-v3/\(True/\(↑v3:Int)+(1:Int)=(↑v8:Int)/\True)/\qh2 m (nL m (0:Nat)).length (qc8 (nL m (0:Nat)).length) v3=qh2 m (nL m (0:Nat)).length (qc8 (nL m (0:Nat)).length) v8/\True)/\(decide ((↑m.length:Int)+(1:Int)<(↑(nL (qc8 (↑(nL m (0:Nat)).length:Int).toNat) v3).length:Int))=false->wv7 m (nL (qc8 (↑(nL m (0:Nat)).length:Int).toNat) v3)/\x6x (qg9 m (nL (qc8 (↑(nL m (0:Nat)).length:Int).toNat) v3))/\(((↑(qf8 (qg9 m (nL (qc8 (↑(nL m (0:Nat)).length:Int).toNat) v3))).length:Int) != (1:Int))=true->fits .i64 ((↑v3:Int)+(1:Int))/\∃(v9:Nat),Nat.le v9 (qc8 (nL m (0:Nat)).length).length/\(qc8 (nL m (0:Nat)).length).length-v9<(qc8 (nL m (0:Nat)).length).length-v3/\(True/\(↑v3:Int)+(1:Int)=(↑v9:Int)/\True)/\qh2 m (nL m (0:Nat)).length (qc8 (nL m (0:Nat)).length) v3=qh2 m (nL m (0:Nat)).length (qc8 (nL m (0:Nat)).length) v9/\True)/\(((↑(qf8 (qg9 m (nL (qc8 (↑(nL m (0:Nat)).length:Int).toNat) v3))).length:Int) != (1:Int))=false->((0:Int)<=(0:Int)/\(0:Int)<(↑m.length:Int))/\((↑(nL m (0:Nat)).length:Int)=(↑(nL m (0:Nat)).length:Int)/\(0:Int)<=(↑(nL m (0:Nat)).length:Int)/\(↑(nL m (0:Nat)).length:Int)<=(1000000:Int))/\∃(v9:Nat × List Int),∃(v10:Nat),Nat.le v10 v9.2.length/\((True/\True/\true=qq9 (nL (qi1 m v9.2) (0:Nat)) v10/\(0:Int)=(↑v10:Int)/\True)/\qh2 m (nL m (0:Nat)).length (qc8 (nL m (0:Nat)).length) v3=qh2 m (nL m (0:Nat)).length (qc8 (nL m (0:Nat)).length) v9.1/\List.replicate (↑(nL m (0:Nat)).length:Int).toNat (Ty.dflt (TI.ty T3))=qd3 (nL m (0:Nat)).length v9.2 (nL (qi1 m v9.2) (0:Nat)) v10/\True)/\∀(v11:Nat),Nat.le v11 v9.2.length->(decide ((↑v11:Int)<(↑(nL (qc8 (↑(nL m (0:Nat)).length:Int).toNat) v3).length:Int))=true->((0:Int)<=(↑v11:Int)/\(↑v11:Int)<(↑(nL (qc8 (↑(nL m (0:Nat)).length:Int).toNat) v3).length:Int))/\((0:Int)<=(0:Int)/\(0:Int)<(↑(qf8 (qg9 m (nL (qc8 (↑(nL m (0:Nat)).length:Int).toNat) v3))).length:Int))/\((0:Int)<=(↑v11:Int)/\(↑v11:Int)<(↑(nL (qf8 (qg9 m (nL (qc8 (↑(nL m (0:Nat)).length:Int).toNat) v3))) (0:Nat)).length:Int))/\((0:Int)<=nI (nL (qc8 (↑(nL m (0:Nat)).length:Int).toNat) v3) v11/\nI (nL (qc8 (↑(nL m (0:Nat)).length:Int).toNat) v3) v11<(↑(qd3 (nL m (0:Nat)).length v9.2 (nL (qi1 m v9.2) (0:Nat)) v11).length:Int))/\(nI (nL (qc8 (↑(nL m (0:Nat)).length:Int).toNat) v3) v11).toNat<(qd3 (nL m (0:Nat)).length v9.2 (nL (qi1 m v9.2) (0:Nat)) v11).length/\(qq9 (nL (qi1 m v9.2) (0:Nat)) v11=true->((0:Int)<=(0:Int)/\(0:Int)<(↑(qf8 (qg9 m (nL (qc8 (↑(nL m (0:Nat)).length:Int).toNat) v3))).length:Int))/\((0:Int)<=(↑v11:Int)/\(↑v11:Int)<(↑(nL (qf8 (qg9 m (nL (qc8 (↑(nL m (0:Nat)).length:Int).toNat) v3))) (0:Nat)).length:Int))/\fits .i64 ((↑v11:Int)+(1:Int))/\∃(v15:Nat),Nat.le v15 v9.2.length/\v9.2.length-v15<v9.2.length-v11/\(True/\True/\(nI (nL (qf8 (qg9 m (nL (qc8 (↑(nL m (0:Nat)).length:Int).toNat) v3))) (0:Nat)) v11 != (0:Int))=qq9 (nL (qi1 m v9.2) (0:Nat)) v15/\(↑v11:Int)+(1:Int)=(↑v15:Int)/\True)/\qh2 m (nL m (0:Nat)).length (qc8 (nL m (0:Nat)).length) v9.1=qh2 m (nL m (0:Nat)).length (qc8 (nL m (0:Nat)).length) v9.1/\List.set (qd3 (nL m (0:Nat)).length v9.2 (nL (qi1 m v9.2) (0:Nat)) v11) (nI (nL (qc8 (↑(nL m (0:Nat)).length:Int).toNat) v3) v11).toNat (nI (nL (qf8 (qg9 m (nL (qc8 (↑(nL m (0:Nat)).length:Int).toNat) v3))) (0:Nat)) v11)=qd3 (nL m (0:Nat)).length v9.2 (nL (qi1 m v9.2) (0:Nat)) v15/\True)/\(qq9 (nL (qi1 m v9.2) (0:Nat)) v11=false->fits .i64 ((↑v11:Int)+(1:Int))/\∃(v15:Nat),Nat.le v15 v9.2.length/\v9.2.length-v15<v9.2.length-v11/\(True/\True/\false=qq9 (nL (qi1 m v9.2) (0:Nat)) v15/\(↑v11:Int)+(1:Int)=(↑v15:Int)/\True)/\qh2 m (nL m (0:Nat)).length (qc8 (nL m (0:Nat)).length) v9.1=qh2 m (nL m (0:Nat)).length (qc8 (nL m (0:Nat)).length) v9.1/\List.set (qd3 (nL m (0:Nat)).length v9.2 (nL (qi1 m v9.2) (0:Nat)) v11) (nI (nL (qc8 (↑(nL m (0:Nat)).length:Int).toNat) v3) v11).toNat (nI (nL (qf8 (qg9 m (nL (qc8 (↑(nL m (0:Nat)).length:Int).toNat) v3))) (0:Nat)) v11)=qd3 (nL m (0:Nat)).length v9.2 (nL (qi1 m v9.2) (0:Nat)) v15/\True))/\(decide ((↑v11:Int)<(↑(nL (qc8 (↑(nL m (0:Nat)).length:Int).toNat) v3).length:Int))=false->((!qq9 (nL (qi1 m v9.2) (0:Nat)) v11)=true->fits .i64 ((↑v3:Int)+(1:Int))/\∃(v15:Nat),Nat.le v15 (qc8 (nL m (0:Nat)).length).length/\(qc8 (nL m (0:Nat)).length).length-v15<(qc8 (nL m (0:Nat)).length).length-v3/\(True/\(↑v3:Int)+(1:Int)=(↑v15:Int)/\True)/\qh2 m (nL m (0:Nat)).length (qc8 (nL m (0:Nat)).length) v9.1=qh2 m (nL m (0:Nat)).length (qc8 (nL m (0:Nat)).length) v15/\True)/\((!qq9 (nL (qi1 m v9.2) (0:Nat)) v11)=false->((0:Int)<=(0:Int)/\(0:Int)<(↑(nL (qc8 (↑(nL m (0:Nat)).length:Int).toNat) v3).length:Int))/\((0:Int)<=nI (nL (qc8 (↑(nL m (0:Nat)).length:Int).toNat) v3) (0:Nat)/\nI (nL (qc8 (↑(nL m (0:Nat)).length:Int).toNat) v3) (0:Nat)<(↑(qd3 (nL m (0:Nat)).length v9.2 (nL (qi1 m v9.2) (0:Nat)) v11).length:Int))/\(nI (nL (qc8 (↑(nL m (0:Nat)).length:Int).toNat) v3) (0:Nat)).toNat<(qd3 (nL m (0:Nat)).length v9.2 (nL (qi1 m v9.2) (0:Nat)) v11).length/\(decide (nI (qd3 (nL m (0:Nat)).length v9.2 (nL (qi1 m v9.2) (0:Nat)) v11) (nI (nL (qc8 (↑(nL m (0:Nat)).length:Int).toNat) v3) (0:Nat)).toNat<(0:Int))=true->xe3 (qd3 (nL m (0:Nat)).length v9.2 (nL (qi1 m v9.2) (0:Nat)) v11) (-1:Int)/\((0:Nat)<List.length [qk3 (qd3 (nL m (0:Nat)).length v9.2 (nL (qi1 m v9.2) (0:Nat)) v11) (-1:Int)]/\Nat.le ((qh2 m (nL m (0:Nat)).length (qc8 (nL m (0:Nat)).length) v9.1).length+List.length [qk3 (qd3 (nL m (0:Nat)).length v9.2 (nL (qi1 m v9.2) (0:Nat)) v11) (-1:Int)]) (1000000:Nat))/\fits .i64 ((↑v3:Int)+(1:Int))/\∃(v16:Nat),Nat.le v16 (qc8 (nL m (0:Nat)).length).length/\(qc8 (nL m (0:Nat)).length).length-v16<(qc8 (nL m (0:Nat)).length).length-v3/\(True/\(↑v3:Int)+(1:Int)=(↑v16:Int)/\True)/\qh2 m (nL m (0:Nat)).length (qc8 (nL m (0:Nat)).length) v9.1++[qk3 (qd3 (nL m (0:Nat)).length v9.2 (nL (qi1 m v9.2) (0:Nat)) v11) (-1:Int)]=qh2 m (nL m (0:Nat)).length (qc8 (nL m (0:Nat)).length) v16/\True)/\(decide (nI (qd3 (nL m (0:Nat)).length v9.2 (nL (qi1 m v9.2) (0:Nat)) v11) (nI (nL (qc8 (↑(nL m (0:Nat)).length:Int).toNat) v3) (0:Nat)).toNat<(0:Int))=false->((0:Nat)<(0:Nat)+(1:Nat)/\Nat.le ((qh2 m (nL m (0:Nat)).length (qc8 (nL m (0:Nat)).length) v9.1).length+((0:Nat)+(1:Nat))) (1000000:Nat))/\fits .i64 ((↑v3:Int)+(1:Int))/\∃(v16:Nat),Nat.le v16 (qc8 (nL m (0:Nat)).length).length/\(qc8 (nL m (0:Nat)).length).length-v16<(qc8 (nL m (0:Nat)).length).length-v3/\(True/\(↑v3:Int)+(1:Int)=(↑v16:Int)/\True)/\qh2 m (nL m (0:Nat)).length (qc8 (nL m (0:Nat)).length) v9.1++[qd3 (nL m (0:Nat)).length v9.2 (nL (qi1 m v9.2) (0:Nat)) v11]=qh2 m (nL m (0:Nat)).length (qc8 (nL m (0:Nat)).length) v16/\True)))))))/\(decide ((↑v3:Int)<(↑(qc8 (↑(nL m (0:Nat)).length:Int).toNat).length:Int))=false->qh2 m (nL m (0:Nat)).length (qc8 (nL m (0:Nat)).length) v3=(q5j m).1/\(0:Int)=(q5j m).2/\True))) ?_
 refine⟨h.fit,λhv=>by grind [q5j],λhv=>?_⟩
 have hM:=Mk.of hv
 have hO:=h.ok hv
 have hm1:=hM.rows1
 have hm6:=hM.rows6
 have hn7:=hO.n7
 have hkr:=hO.kr
 have hR:q5j m=(qh2 m (nL m 0).length (qc8 (nL m 0).length) (qc8 (nL m 0).length).length,0):=by grind [q5j]
 rw[hR]
 have hst:=q1q (n:=(nL m 0).length) (k:=128) hn7 (zab _)
 change(qc8 (nL m 0).length).length<=128/\∀s∈qc8 (nL m 0).length,_ at hst
 obtain⟨hsl,hsm⟩:=hst
 generalize hnn:(nL m 0).length=n at *
 simp only[show ∀x,qf8 (qg9 m x)=qi1 m x from λ_=>rfl]
 clear hR
 generalize qc8 n=SA at *
 refine⟨ow,ow,(),0,zae _,⟨rfl,rfl⟩,λc hc=>⟨λhlt=>?_,λhge=>?_⟩⟩
 ·have hcl:=we4 m n SA c
  have hs2:=hsm _ (qn7 SA c hlt)
  have hk2:=hkr _ (qn7 SA c hlt)
  obtain⟨s,hs⟩:∃s,nL SA c=s:=⟨_,rfl⟩
  rw[hs] at hs2 hk2 ⊢
  have hs1:=hs2.1
  have no:qu2 m s=false->qh2 m n SA c=qh2 m n SA (c+1):=λq=>by
   simp_all [qh2,if_neg]
  have nok:q04 m s=false->qu2 m s=false:=λq=>by simp[qu2,q]
  refine⟨hlt,λh0=>⟨qa3,c+1,hlt,ow,ow,no (nok ?_)⟩,λh0=>⟨qa3,λh1=>⟨qa3,c+1,hlt,ow,ow,no (nok ?_)⟩,λh1=>?_⟩⟩
  ·grind [q04]
  ·grind [q04]
  have hok:q04 m s=true:=by
   unfold q04
   grind
  obtain⟨hK,hC⟩:=hk2 hok
  refine⟨hC,hK,λh2=>⟨qa3,c+1,hlt,ow,ow,no ?_⟩,λh2=>?_⟩
  ·grind [qi1,qu2]
  have h2:(qi1 m s).length=1:=ow
  have hkm:=w1l hK (nL (qi1 m s) 0) (qn7 (qi1 m s) 0 ow)
  rw[xy9 ow] at hkm
  obtain⟨hkl,hkb⟩:=hkm
  have hat:∀j,j<s.length->0<=nI s j/\nI s j<n:=λj hj=>hs2.2 _ (by grind [qf1,List.getElem_mem])
  have hat':∀j i,j<s.length->0<=nI s j/\nI s j<((qd3 n s (nL (qi1 m s) 0) i).length:Int):=λj i hj=>by
   grind [qj5]
  refine⟨ow,ow,(c,s),0,zae _,⟨⟨rfl,rfl⟩,rfl,rfl⟩,λj hj=>⟨λhjl=>?_,λhjl=>?_⟩⟩
  ·dsimp only at hj ⊢
   have ha:=hat' j j hjl
   refine⟨hjl,ow,ow,ha,ow,λhw=>⟨ow,ow,qa3,j+1,hjl,ow,⟨by rw[qq9,hw,ze2],ow⟩,rfl⟩,λhw=>⟨qa3,j+1,hjl,ow,⟨by rw[qq9,hw,Bool.false_and],ow⟩,rfl⟩⟩
  ·dsimp only at hj ⊢
   obtain rfl:j=s.length:=ow
   refine⟨λhw=>⟨qa3,c+1,hlt,ow,ow,no (by grind [qu2])⟩,λhw=>?_⟩
   have yes:qu2 m s=true:=by grind [qu2]
   have hsb:q5d (qd3 n s (nL (qi1 m s) 0) s.length):=q1r hkb ow hkl _ (zab _)
   have ha:=hat' 0 s.length ow
   have hst:=qj5 n s (nL (qi1 m s) 0) s.length
   refine⟨ow,ha,ow,λhng=>⟨⟨hsb.1,λi hi=>?_⟩,ow,qa3,c+1,hlt,ow,ow,?_⟩,λhng=>⟨ow,qa3,c+1,hlt,ow,ow,?_⟩⟩
   ·have:=q1m hsb hi
    omega
   ·simp_all [qh2,if_pos,wl4,nI,q3k]
   ·rw[qh2,hs,zao yes,wl4]
    rw[zak (show ¬nI (q3k m n s) (nI s 0).toNat<0 from by show ¬nI (qd3 n s (nL (qi1 m s) 0) s.length) (nI s 0).toNat<0; omega)]
    rfl
 grind
end Go.Proofs.YtnchigbbjajiiaaGreat
