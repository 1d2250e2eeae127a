/- Fractions of little terms compared: contracts by the engine. No condition. -/
import Derived.Test.YtnchigbbjajiiaaGreatW4
import Derived.Test.YtnchigbbjajiiaaGreatW14
import Derived.Test.YtnchigbbjajiiaaGreatQ32
import Derived.Test.YtnchigbbjajiiaaGreatV15
import Derived.Test.YtnchigbbjajiiaaGreatW19
import Derived.Test.YtnchigbbjajiiaaGreatTys
import Derived.Test.YtnchigbbjajiiaaGreatEng3
import Derived.Test.YtnchigbbjajiiaaGreatV0
import Derived.Test.YtnchigbbjajiiaaGreatCore
import Derived.Test.YtnchigbbjajiiaaGreatProg
import Derived.Test.YtnchigbbjajiiaaGreatV5
import Derived.Test.YtnchigbbjajiiaaGreatApp
import Derived.Test.YtnchigbbjajiiaaGreatQ33
set_option linter.unusedVariables false
set_option linter.unusedSimpArgs false
namespace Go.Proofs.YtnchigbbjajiiaaGreat
open Go Go.RowKit Eng
open Go Go.RowKit Eng Ls
end Go.Proofs.YtnchigbbjajiiaaGreat
namespace Go.Proofs.YtnchigbbjajiiaaGreat.K
open Go Go.RowKit Eng Ls
abbrev tInt:Ty:=.int .i64
abbrev tInts:Ty:=.list (.int .i64)
abbrev tMask:Ty:=.list (.list (.int .i64))
def ctx (specs:List (Nat × qb3)) (wr:List Nat):Ctx:={ specs:=specs,tys:=tys,wr:=wr }
theorem snd {specs:List (Nat × qb3)} (h:SpecsOk Tryz.prog specs) (wr:List Nat):Sound Tryz.prog (ctx specs wr):=SpecsOk.sound h q4f kq
open Go.RowKit Ls
def inB (n lo hi:Int):Bool:=decide (lo<=n) && decide (n<=hi)
theorem inB_iff {n lo hi:Int}:inB n lo hi=true↔lo<=n/\n<=hi:=by simp[inB]
def wf9 (s:Int):List Int->List Int->Int
 | a :: l,b :: r=>wf9 (wrap64 (s+wrap64 (a*b))) l r
 | _,_=>s
theorem xl4 (A B:List Int) (k:Nat) (h:k<A.length) (h2:k<B.length) (s:Int) :
  wf9 s (A.take (k+1)) (B.take (k+1))=wrap64 (wf9 s (A.take k) (B.take k)+wrap64 (nth A k*nth B k)):=by
 induction A generalizing B k s with
 | nil=>simp at h
 | cons a l ih=>
  cases B with
  | nil=>simp at h2
  | cons b r=>
   cases k with
   | zero=>simp[wf9,nth]
   | succ k=>
    simp only[List.take_succ_cons,wf9]
    have:=ih r k (by simpa using h) (by simpa using h2) (wrap64 (s+wrap64 (a*b)))
    rw[this]; simp[nth]
theorem xl5 (A B:List Int) (h:A.length<=B.length) (s:Int):wf9 s A (B.take A.length)=wf9 s A B:=by
 induction A generalizing B s with
 | nil=>cases B <;> simp[wf9]
 | cons a l ih=>
  cases B with
  | nil=>simp[wf9]
  | cons b r=>simp only[List.length_cons,List.take_succ_cons,wf9]; exact ih r (by simpa using h) _
def rowB (l:List Int):Bool:=inB l.length 1 10 && l.all λn=>inB n (-1) 1
def yz5 (m:List (List Int)) (l:List Int):Bool:=decide (l.length=(nthL m 0).length) && rowB l
def validB (m:List (List Int)):Bool:=inB m.length 1 6 && m.all (yz5 m)
def listedE (len most:Int) (l:List Int):Int:=if(l.length:Int)≠len then 9 else if l.all (λn=>inB n (-most) most) then 0 else 7
def yn8 (m:List (List Int)) (len most:Int) (x:List Int):Int:=if validB m then listedE len most x else 1
def ya5 (m:List (List Int)) (x:List Int):Int:=yn8 m (nthL m 0).length 1000000 x
def yn9 (m:List (List Int)) (x:List Int):List Int:=m.map λl=>wf9 0 l x
def readR (m:List (List Int)) (x:List Int):List Int:=if ya5 m x=0 then yn9 m x else[]
set_option maxHeartbeats 400000 in
theorem x5w (A B:Option Addr) (n m c d:Nat) (xs ys:List Int) (w:World)
  (ha:SI w A n c xs) (hb:SI w B m d ys) (hnm:n<=m) :
  Calls Tryz.prog 151 #[.slice A n c,.slice B m d] w λe w'=>e=.returned (.int .i64 (wf9 0 xs ys))/\∃n,w'=w.drewN n:=by
 have hn:=ha.nmax; have hm:=hb.nmax
 obtain rfl:=ha.len; obtain rfl:=hb.len
 go_enter Tryz.func151,Tryz.ntmps151
 go_wp2
 go_loopw [5,6,9] (λs _ i wr=>∃k:Nat,k<=xs.length/\i=.int .i64 k/\s=.int .i64 (wf9 0 (xs.take k) (ys.take k))/\∃n,wr=w.drewN n) (λ_ _ i _=>xs.length-(intOf i).toNat)
 case atStart=>exact⟨0,zae _,rfl,w8m (by simp[wf9]),0,rfl⟩
 case round=>
  obtain⟨k,hk,rfl,rfl,q,rfl⟩:=hrel
  by_cases hlt:k<xs.length
  ·obtain⟨ad,rfl,hca⟩:=ha.at_ ow
   obtain⟨bd,rfl,hcb⟩:=hb.at_ ow
   have h1:=hca k hlt
   have h2:=hcb k ow
   clear hca hcb ha hb
   have HS:=hidx (xl4 xs ys k hlt ow 0)
   have h3:(0:Int)<=k:=ow
   have h4:(k:Int)<xs.length:=ow
   have h5:(k:Int)<ys.length:=ow
   go_wp2
   go_quiet (fail)
   go_wp2
   go_roundw
   case rel=>exact⟨k+1,ow,by go_num,w8m (by rw[HS.out]),_,rfl⟩
   case measure=>simp[intOf]; omega
  ·go_wp2
   go_ret
   exact⟨x2z (by rw[zbc ow,<- xl5 xs ys hnm,show k=xs.length by omega]),q,rfl⟩
def w45:List Int->List Int->Int
 | a :: l,b :: r=>a*b+w45 l r
 | _,_=>0
theorem x2t {x y K L:Int} (hx1:-K<=x) (hx2:x<=K) (hy1:-L<=y) (hy2:y<=L):-(K*L)<=x*y/\x*y<=K*L:=by
 have hK:0<=K:=ow
 have hL:0<=L:=ow
 obtain⟨k,rfl⟩:=zcl hK
 obtain⟨l,rfl⟩:=zcl hL
 have h1:x.natAbs<=k:=ow
 have h2:y.natAbs<=l:=ow
 have h3:(x*y).natAbs<=k*l:=by rw[zbp]; exact zbj h1 h2
 have h4:((k*l:Nat):Int)=(k:Int)*(l:Int):=by simp
 omega
def Bd (K:Int) (l:List Int):Prop:=∀k,k<l.length->-K<=nth l k/\nth l k<=K
structure Sm (l:List Int):Prop where
 len:l.length<=10
 bd:Bd 1 l
open Go Go.RowKit Eng Ls
theorem rdL_ints {m:View}:∀l:List Int,RdL m tInt l (ints l)
 | []=>rfl
 | x :: r=>⟨[.int .i64 x],ints r,rfl,rfl,rdL_ints r⟩
theorem yo0 (A B:Option Addr) (n m c d:Nat) (xs ys:List Int) (w:World)
  (ha:SI w A n c xs) (hb:SI w B m d ys) (hnm:n<=m) :
  Calls Tryz.prog 151 #[.slice A n c,.slice B m d] w λe w'=>e=.returned (.int .i64 (wf9 0 xs ys))/\Below w.heap.size w w':=
 (x5w A B n m c d xs ys w ha hb hnm).mono λ_ _ ⟨h1,q,h2⟩=>⟨h1,h2 ▸ below_drewN (zdl _ w) q⟩
open Go Go.RowKit Eng Ls
end Go.Proofs.YtnchigbbjajiiaaGreat.K
namespace Go.Proofs.YtnchigbbjajiiaaGreat
open Go Go.RowKit Eng
def cq (m:List (List Int)) (i j:Nat):Int:=sm m.length λa=>nI (nL m a) i*nI (nL m a) j
structure ye8 (m:List (List Int)) (pix:List Int) (v:List (Int × Int)):Prop where
 one:0<m.length
 n2:(nL m 0).length<=1000
 len:pix.length<=v.length
 big:pix.length<=1000000
 at_:∀k,k<pix.length->0<=nI pix k/\nI pix k<(nL m 0).length
abbrev yo1:qb3:=qe8 true (some 43) [tMask,tFit] [q4g] (λx=>ye8 x.1 x.2.1.1 x.2.1.2) (λx=>(wa1 (nL x.1 0).length x.2.1.1 x.2.1.2 x.2.1.1.length,()))
def ya6 (n:Nat) (pix:List Int) (v:List (Int × Int)):Nat->Option Inv
 | 0=>some (Inv.of [5,16] 2 (λk:Nat=>[(5,.own 1),(16,.lit (.int .i64 k))]) (λk=>[.box 55 (.cons (.dat (.int .i64) pix) (.cons (.dat qo4 v) .nil)),.vec 43 qo4 (ovr qo4 (λ_=>(0,1)) (List.replicate n (0,0)) k)]) (λk=>k<=n) (λk=>n-k))
 | 1=>some (Inv.of [5,27] 2 (λk:Nat=>[(5,.own 1),(27,.lit (.int .i64 k))]) (λk=>[.box 55 (.cons (.dat (.int .i64) pix) (.cons (.dat qo4 v) .nil)),.vec 43 qo4 (wa1 n pix v k)]) (λk=>k<=pix.length) (λk=>pix.length-k))
 | _=>none
theorem w7t:Meets Tryz.prog 160 yo1:=by
 refine mts (SpecsOk.nil _) Tryz.func160 (λx=>ya6 (nL x.1 0).length x.2.1.1 x.2.1.2) ?_
 rintro⟨m,⟨p,v⟩,⟨⟩⟩ h
 revert m p v
 intro(m:List (List Int)) (p:List Int) (v:List (Int × Int)) (h:ye8 m p v)
 refine vcs (((0:Int)<=(0:Int)/\(0:Int)<(↑m.length:Int))/\((↑(nL m (0:Nat)).length:Int)=(↑(nL m (0:Nat)).length:Int)/\(0:Int)<=(↑(nL m (0:Nat)).length:Int)/\(↑(nL m (0:Nat)).length:Int)<=(1000000:Int))/\∃(v0:Unit),∃(v1:Nat),Nat.le v1 (nL m (0:Nat)).length/\((True/\(0:Int)=(↑v1:Int)/\True)/\(p=p/\v=v/\True)/\List.replicate (↑(nL m (0:Nat)).length:Int).toNat (Ty.dflt (Ty.prod (Ty.int .i64) (Ty.int .i64)))=ovr qo4 (λ(v2:Nat)=>((0:Ty.den (Ty.int .i64)),(1:Ty.den (Ty.int .i64)))) (List.replicate (nL m (0:Nat)).length ((0:Ty.den (Ty.int .i64)),(0:Ty.den (Ty.int .i64)))) v1/\True)/\∀(v2:Nat),Nat.le v2 (nL m (0:Nat)).length->(decide ((↑v2:Int)<(↑(List.replicate (↑(nL m (0:Nat)).length:Int).toNat (Ty.dflt (Ty.prod (Ty.int .i64) (Ty.int .i64)))).length:Int))=true->((0:Int)<=(↑v2:Int)/\(↑v2:Int)<(↑(ovr qo4 (λ(v5:Nat)=>((0:Ty.den (Ty.int .i64)),(1:Ty.den (Ty.int .i64)))) (List.replicate (nL m (0:Nat)).length ((0:Ty.den (Ty.int .i64)),(0:Ty.den (Ty.int .i64)))) v2).length:Int))/\v2<(ovr qo4 (λ(v5:Nat)=>((0:Ty.den (Ty.int .i64)),(1:Ty.den (Ty.int .i64)))) (List.replicate (nL m (0:Nat)).length ((0:Ty.den (Ty.int .i64)),(0:Ty.den (Ty.int .i64)))) v2).length/\fits .i64 ((↑v2:Int)+(1:Int))/\∃(v5:Nat),Nat.le v5 (nL m (0:Nat)).length/\(nL m (0:Nat)).length-v5<(nL m (0:Nat)).length-v2/\(True/\(↑v2:Int)+(1:Int)=(↑v5:Int)/\True)/\(p=p/\v=v/\True)/\List.set (ovr qo4 (λ(v6:Nat)=>((0:Ty.den (Ty.int .i64)),(1:Ty.den (Ty.int .i64)))) (List.replicate (nL m (0:Nat)).length ((0:Ty.den (Ty.int .i64)),(0:Ty.den (Ty.int .i64)))) v2) v2 ((0:Int),(1:Int))=ovr qo4 (λ(v6:Nat)=>((0:Ty.den (Ty.int .i64)),(1:Ty.den (Ty.int .i64)))) (List.replicate (nL m (0:Nat)).length ((0:Ty.den (Ty.int .i64)),(0:Ty.den (Ty.int .i64)))) v5/\True)/\(decide ((↑v2:Int)<(↑(List.replicate (↑(nL m (0:Nat)).length:Int).toNat (Ty.dflt (Ty.prod (Ty.int .i64) (Ty.int .i64)))).length:Int))=false->∃(v5:Unit),∃(v6:Nat),Nat.le v6 p.length/\((True/\(0:Int)=(↑v6:Int)/\True)/\(p=p/\v=v/\True)/\ovr qo4 (λ(v7:Nat)=>((0:Ty.den (Ty.int .i64)),(1:Ty.den (Ty.int .i64)))) (List.replicate (nL m (0:Nat)).length ((0:Ty.den (Ty.int .i64)),(0:Ty.den (Ty.int .i64)))) v2=wa1 (nL m (0:Nat)).length p v v6/\True)/\∀(v7:Nat),Nat.le v7 p.length->(decide ((↑v7:Int)<(↑p.length:Int))=true->((0:Int)<=(↑v7:Int)/\(↑v7:Int)<(↑p.length:Int))/\((0:Int)<=(↑v7:Int)/\(↑v7:Int)<(↑v.length:Int))/\((0:Int)<=nI p v7/\nI p v7<(↑(wa1 (nL m (0:Nat)).length p v v7).length:Int))/\(nI p v7).toNat<(wa1 (nL m (0:Nat)).length p v v7).length/\fits .i64 ((↑v7:Int)+(1:Int))/\∃(v10:Nat),Nat.le v10 p.length/\p.length-v10<p.length-v7/\(True/\(↑v7:Int)+(1:Int)=(↑v10:Int)/\True)/\(p=p/\v=v/\True)/\List.set (wa1 (nL m (0:Nat)).length p v v7) (nI p v7).toNat ((qe0 qo4 v v7).1,(qe0 qo4 v v7).2)=wa1 (nL m (0:Nat)).length p v v10/\True)/\(decide ((↑v7:Int)<(↑p.length:Int))=false->wa1 (nL m (0:Nat)).length p v v7=wa1 (nL m (0:Nat)).length p v p.length))) ?_
 obtain⟨h1,h2,h3,h4,h5⟩:=h
 have ol:∀k,(ovr qo4 (λ_=>(0,1)) (List.replicate (nL m 0).length (0,0)) k).length=(nL m 0).length:=λk=>by rw[qs5,zbh]
 refine⟨ow,ow,(),0,zae _,⟨rfl,(qt0 _ _ _).symm⟩,λk hk=>⟨λhlt=>?_,λhge=>⟨(),0,zae _,⟨rfl,?_⟩,λi hi=>⟨λhlt=>?_,λhge2=>?_⟩⟩⟩⟩
 ·rw[zbh] at hlt
  exact⟨by rw[ol]; exact hlt,by rw[ol]; exact hlt,qa3,k+1,hlt,ow,by push_cast; rfl,qq5 qo4 (λ_=>(0,1)) _ k⟩
 ·rw[zbh] at hge
  rw[qx6 qo4 _ _ k (by rw[zbh]; omega),zbh]
  show(List.range (nL m 0).length).map (λ_=>((0,1):Int × Int))=List.replicate (nL m 0).length (0,1)
  rw[List.map_const',List.length_range]
 ·have ha:=h5 i hlt
  rw[q2p]
  exact⟨hlt,ow,ha,ow,qa3,i+1,hlt,ow,by push_cast; rfl,rfl⟩
 ·obtain rfl:i=p.length:=ow
  rfl
def spF (m:List (List Int)) (f:Fit):List (Int × Int):=wa1 (nL m 0).length f.1 f.2 f.1.length
def q40 (m:List (List Int)) (y:List Int):List (List (Int × Int)) × Int:=if(q90 m y).2≠0 then([],(q90 m y).2) else((q90 m y).1.map (spF m),0)
structure w46 (m:List (List Int)) (y:List Int):Prop where
 cor:w44 m y
 spr:(q90 m y).2=0->(q90 m y).1.length<=1000/\∀f∈(q90 m y).1,ye8 m f.1 f.2
abbrev yz6:qb3:=qe8 false none [tMask,tInts] [.list q4g,tInt] (λx=>w46 x.1 x.2.1) (λx=>((q40 x.1 x.2.1).1,(q40 x.1 x.2.1).2,()))
def yo2 (m:List (List Int)) (L:List Fit):Nat->Option Inv
 | 0=>some (Inv.of [8,22] 1 (λk:Nat=>[(8,.own 0),(22,.lit (.int .i64 k))]) (λk=>[.vec 53 q4g ((L.take k).map (spF m))]) (λk=>k<=L.length) (λk=>L.length-k))
 | _=>none
theorem xl6:Meets Tryz.prog 114 yz6:=by
 refine mts (SpecsOk.cons w7s (SpecsOk.cons w7t (SpecsOk.nil _))) Tryz.func114 (λx=>yo2 x.1 (q90 x.1 x.2.1).1) ?_
 rintro⟨m,y,⟨⟩⟩ h
 revert m y
 intro(m:List (List Int)) (y:List Int) (h:w46 m y)
 refine vcs (let Q0:=q90 m y; let Q1:=q40 m y; w44 m y/\((Q0.2 != (0:Int))=true->Q1.1=[]/\Q0.2=Q1.2/\True)/\((Q0.2 != (0:Int))=false->∃(v1:Unit),∃(v2:Nat),Nat.le v2 Q0.1.length/\((True/\(0:Int)=(↑v2:Int)/\True)/\List.map (spF m) (List.take v2 Q0.1)=[]/\True)/\∀(v3:Nat),Nat.le v3 Q0.1.length->(decide ((↑v3:Int)<(↑Q0.1.length:Int))=true->((0:Int)<=(↑v3:Int)/\(↑v3:Int)<(↑Q0.1.length:Int))/\ye8 m (nF Q0.1 v3).1 (nF Q0.1 v3).2/\((0:Nat)<(0:Nat)+(1:Nat)/\Nat.le ((List.map (spF m) (List.take v3 Q0.1)).length+((0:Nat)+(1:Nat))) (1000000:Nat))/\fits .i64 ((↑v3:Int)+(1:Int))/\∃(v6:Nat),Nat.le v6 Q0.1.length/\Q0.1.length-v6<Q0.1.length-v3/\(True/\(↑v3:Int)+(1:Int)=(↑v6:Int)/\True)/\List.map (spF m) (List.take v3 Q0.1)++[wa1 (nL m (0:Nat)).length (nF Q0.1 v3).1 (nF Q0.1 v3).2 (nF Q0.1 v3).1.length]=List.map (spF m) (List.take v6 Q0.1)/\True)/\(decide ((↑v3:Int)<(↑Q0.1.length:Int))=false->List.map (spF m) (List.take v3 Q0.1)=Q1.1/\(0:Int)=Q1.2/\True))) ?_
 have hR:q40 m y=if(q90 m y).2≠0 then([],(q90 m y).2) else((q90 m y).1.map (spF m),0):=rfl
 refine⟨h.cor,λhe=>by grind,λhe=>?_⟩
 obtain⟨hl,hs⟩:=h.spr he
 rw[hR,zak (λq=>q he)]
 generalize(q90 m y).1=L at *
 refine⟨(),0,zae _,⟨rfl,rfl⟩,λk hk=>⟨λhlt=>⟨hlt,hs _ (q2v hlt),by grind,qa3,k+1,hlt,ow,by rfl,?_⟩,λhge=>?_⟩⟩
 ·rw[zea,zam hlt,List.map_append,w7i L k hlt]; rfl
 grind
def w8j (l:List (List (Int × Int))):List (Int × Int):=qe0 q4g l 0
def x50 (l:List (List (Int × Int))) (x:List Int):Bool:=(List.range (w8j l).length).all λj=>decide (nR (w8j l) j=(nI x j,1))
def w18 (m:List (List Int)) (x:List Int):Bool × Int:=
 if qr6 m x≠0 then(false,qr6 m x) else if qn5 m (qd4 m x)≠0 then(false,10) else if(q40 m (qd4 m x)).2≠0\/(q40 m (qd4 m x)).1.length≠1 then(false,(q40 m (qd4 m x)).2) else(x50 (q40 m (qd4 m x)).1 x,0)
structure wg1 (m:List (List Int)) (x:List Int):Prop where
 sh:xf4 m x
 crn:qr6 m x=0->qn5 m (qd4 m x)=0->w46 m (qd4 m x)/\((q40 m (qd4 m x)).2=0->(q40 m (qd4 m x)).1.length=1->(w8j (q40 m (qd4 m x)).1).length<=x.length)
structure x01 (l:List (Int × Int)) (x:List Int) (k:Nat):Prop where
 le:k<=l.length
 ok:∀j,j<k->nR l j=(nI x j,1)
abbrev yu1:qb3:=qe8 true none [tMask,tInts] [.bool,tInt] (λx=>wg1 x.1 x.2.1) (λx=>((w18 x.1 x.2.1).1,(w18 x.1 x.2.1).2,()))
def yo3 (l:List (Int × Int)) (x:List Int):Nat->Option Inv
 | 0=>some (Inv.of [42] 0 (λk:Nat=>[(42,.lit (.int .i64 k))]) (λ_=>[]) (λk=>x01 l x k) (λk=>l.length-k))
 | _=>none
theorem xl7:Meets Tryz.prog 71 yu1:=by
 refine mts (SpecsOk.cons q8o (SpecsOk.cons xi0 (SpecsOk.cons xl6 (SpecsOk.nil _)))) Tryz.func71 (λx=>yo3 (w8j (q40 x.1 (qd4 x.1 x.2.1)).1) x.2.1) ?_
 rintro⟨m,x,⟨⟩⟩ h
 revert m x
 intro(m:List (List Int)) (x:List Int) (h:wg1 m x)
 refine vcs (let Q0:=q40 m (readR m x).1; let Q1:=w8j (q40 m (qd4 m x)).1; let Q2:=w18 m x; let Q3:=readR m x; xf4 m x/\((Q3.2 != (0:Int))=true->false=Q2.1/\Q3.2=Q2.2/\True)/\((Q3.2 != (0:Int))=false->q6g m/\((!qn5 m Q3.1==(0:Int))=true->false=Q2.1/\(10:Int)=Q2.2/\True)/\((!qn5 m Q3.1==(0:Int))=false->w46 m Q3.1/\((Q0.2 != (0:Int))=true->false=Q2.1/\Q0.2=Q2.2/\True)/\((Q0.2 != (0:Int))=false->(((↑Q0.1.length:Int) != (1:Int))=true->false=Q2.1/\Q0.2=Q2.2/\True)/\(((↑Q0.1.length:Int) != (1:Int))=false->((0:Int)<=(0:Int)/\(0:Int)<(↑Q0.1.length:Int))/\∃(v4:Unit),∃(v5:Nat),x01 Q1 x v5/\(((0:Int)=(↑v5:Int)/\True)/\True)/\∀(v6:Nat),x01 Q1 x v6->(decide ((↑v6:Int)<(↑(qe0 q4g Q0.1 (0:Nat)).length:Int))=true->((0:Int)<=(↑v6:Int)/\(↑v6:Int)<(↑(qe0 q4g Q0.1 (0:Nat)).length:Int))/\((0:Int)<=(↑v6:Int)/\(↑v6:Int)<(↑x.length:Int))/\((!((nR (qe0 q4g Q0.1 (0:Nat)) v6).1==nI x v6 && (nR (qe0 q4g Q0.1 (0:Nat)) v6).2==(1:Int)))=true->false=Q2.1/\(0:Int)=Q2.2/\True)/\((!((nR (qe0 q4g Q0.1 (0:Nat)) v6).1==nI x v6 && (nR (qe0 q4g Q0.1 (0:Nat)) v6).2==(1:Int)))=false->fits .i64 ((↑v6:Int)+(1:Int))/\∃(v10:Nat),x01 Q1 x v10/\Q1.length-v10<Q1.length-v6/\((↑v6:Int)+(1:Int)=(↑v10:Int)/\True)/\True))/\(decide ((↑v6:Int)<(↑(qe0 q4g Q0.1 (0:Nat)).length:Int))=false->true=Q2.1/\(0:Int)=Q2.2/\True)))))) ?_
 rw[xf2]
 refine⟨h.sh,λhe=>by unfold w18; grind,λhe=>?_⟩
 rw[xf3 he]
 have hc:=h.crn he
 have hlx:=h.sh.len
 have hR:w18 m x=if qn5 m (qd4 m x)≠0 then(false,10) else if(q40 m (qd4 m x)).2≠0\/(q40 m (qd4 m x)).1.length≠1 then(false,(q40 m (qd4 m x)).2) else(x50 (q40 m (qd4 m x)).1 x,0):=by simp_all [w18,if_neg]
 rw[hR]
 generalize qd4 m x=y at *
 refine⟨h.sh.fit,λhr=>by grind,λhr=>?_⟩
 obtain⟨hp,hx⟩:=hc hr
 rw[zak (λq=>q hr)]
 refine⟨hp,?_⟩
 clear hR hp hc h
 generalize q40 m y=R at *
 obtain⟨l,e⟩:=R
 dsimp only at *
 refine⟨λhe=>by grind,λhe=>⟨λhl=>by grind,λhl=>?_⟩⟩
 have h1:l.length=1:=ow
 have hxl:=hx he h1
 rw[zak ow]
 have hB:∀k,k<(w8j l).length->(((nR (w8j l) k).1==nI x k) && ((nR (w8j l) k).2==1))=decide (nR (w8j l) k=(nI x k,1)):=λk _=>by
  grind
 refine⟨ow,(),0,⟨zae _,ow⟩,rfl,λk hk=>⟨λhlt=>?_,λhge=>?_⟩⟩
 ·have hlt:k<(w8j l).length:=hlt
  refine⟨hlt,ow,λhf=>⟨?_,rfl⟩,λht=>⟨qa3,k+1,⟨hlt,λj hj=>?_⟩,ow,by rfl⟩⟩
  ·have hf:=(hB k hlt).symm.trans hf
   symm
   exact List.all_eq_false.2 ⟨k,za2.2 hlt,by grind⟩
  ·by_cases q:j=k
   ·subst q; exact zbn ((hB j hlt).symm.trans ht)
   ·exact hk.ok j ow
 ·have hge:¬k<(w8j l).length:=hge
  refine⟨?_,rfl⟩
  symm
  exact zar.2 λj hj=>zc9 (hk.ok j (by grind))
theorem w19:Meets Tryz.prog 25 yu1:=by
 refine mt0 (SpecsOk.cons xl7 (SpecsOk.nil _)) Tryz.func25 ?_
 rintro⟨m,x,⟨⟩⟩ h
 revert m x
 intro(m:List (List Int)) (x:List Int) (h:wg1 m x)
 refine vcr (wg1 m x/\(w18 m x).1=(w18 m x).1/\(w18 m x).2=(w18 m x).2/\True) ?_
 grind
abbrev tU64:Ty:=.int .u64
abbrev x51:Ty:=.prod (.int .i64) (.int .u64)
theorem yo4 {a:Int} (h0:0<=a) (h1:a<4294967296):IntKind.u64.wrap ((BitVec.ofInt 64 a &&& BitVec.ofInt 64 4294967295).toNat:Int)=a:=by
 have e1:(BitVec.ofInt 64 a).toNat=a.toNat:=by
  grind
 have e2:(BitVec.ofInt 64 4294967295).toNat=2 ^ 32-1:=by rfl
 rw[BitVec.toNat_and,e1,e2,Nat.and_two_pow_sub_one_eq_mod]
 grind [Nat.mod_eq_of_lt,Go.IntWalk.u64_in]
theorem yo5 {a:Int} (h0:0<=a) (h1:a<4294967296):a.fdiv 4294967296=0:=by
 grind
theorem ye9 {x:Int} (h0:0<=x) (h1:x<=18446744073709551615):fits IntKind.u64 x:=by
 grind [fits,Go.IntWalk.u64_in]
def lil (x:Int):Prop:=0<=x/\x<=2000000000
theorem x52 {x y:Int} (hx:lil x) (hy:lil y):0<=x*y/\x*y<=4000000000000000000:=
 ⟨zbs hx.1 hy.1,Int.mul_le_mul hx.2 hy.2 hy.1 dc⟩
abbrev yo6:qb3:=qe8 true none [tU64,tU64] [tU64,tU64] (λx=>lil x.1/\lil x.2.1) (λx=>(0,x.1*x.2.1,()))
theorem w7u:Meets Tryz.prog 220 yo6:=by
 refine mt0 (SpecsOk.nil _) Tryz.func220 ?_
 rintro⟨x,y,⟨⟩⟩ h
 revert x y
 intro(x:Int) (y:Int) (h:lil x/\lil y)
 refine vcs ((0:Int)<=(32:Int)/\(0:Int)<=(32:Int)/\fits IntKind.u64 (IntKind.wrap IntKind.u64 (↑(BitVec.toNat (BitVec.ofInt (64:Nat) x &&& BitVec.ofInt (64:Nat) (4294967295:Int))):Int)*IntKind.wrap IntKind.u64 (↑(BitVec.toNat (BitVec.ofInt (64:Nat) y &&& BitVec.ofInt (64:Nat) (4294967295:Int))):Int))/\fits IntKind.u64 (Int.fdiv x (4294967296:Int)*IntKind.wrap IntKind.u64 (↑(BitVec.toNat (BitVec.ofInt (64:Nat) y &&& BitVec.ofInt (64:Nat) (4294967295:Int))):Int))/\(0:Int)<=(32:Int)/\fits IntKind.u64 (Int.fdiv x (4294967296:Int)*IntKind.wrap IntKind.u64 (↑(BitVec.toNat (BitVec.ofInt (64:Nat) y &&& BitVec.ofInt (64:Nat) (4294967295:Int))):Int)+Int.fdiv (IntKind.wrap IntKind.u64 (↑(BitVec.toNat (BitVec.ofInt (64:Nat) x &&& BitVec.ofInt (64:Nat) (4294967295:Int))):Int)*IntKind.wrap IntKind.u64 (↑(BitVec.toNat (BitVec.ofInt (64:Nat) y &&& BitVec.ofInt (64:Nat) (4294967295:Int))):Int)) (4294967296:Int))/\(0:Int)<=(32:Int)/\fits IntKind.u64 (IntKind.wrap IntKind.u64 (↑(BitVec.toNat (BitVec.ofInt (64:Nat) x &&& BitVec.ofInt (64:Nat) (4294967295:Int))):Int)*Int.fdiv y (4294967296:Int))/\fits IntKind.u64 (IntKind.wrap IntKind.u64 (↑(BitVec.toNat (BitVec.ofInt (64:Nat) (Int.fdiv x (4294967296:Int)*IntKind.wrap IntKind.u64 (↑(BitVec.toNat (BitVec.ofInt (64:Nat) y &&& BitVec.ofInt (64:Nat) (4294967295:Int))):Int)+Int.fdiv (IntKind.wrap IntKind.u64 (↑(BitVec.toNat (BitVec.ofInt (64:Nat) x &&& BitVec.ofInt (64:Nat) (4294967295:Int))):Int)*IntKind.wrap IntKind.u64 (↑(BitVec.toNat (BitVec.ofInt (64:Nat) y &&& BitVec.ofInt (64:Nat) (4294967295:Int))):Int)) (4294967296:Int)) &&& BitVec.ofInt (64:Nat) (4294967295:Int))):Int)+IntKind.wrap IntKind.u64 (↑(BitVec.toNat (BitVec.ofInt (64:Nat) x &&& BitVec.ofInt (64:Nat) (4294967295:Int))):Int)*Int.fdiv y (4294967296:Int))/\fits IntKind.u64 (Int.fdiv x (4294967296:Int)*Int.fdiv y (4294967296:Int))/\fits IntKind.u64 (Int.fdiv x (4294967296:Int)*Int.fdiv y (4294967296:Int)+Int.fdiv (Int.fdiv x (4294967296:Int)*IntKind.wrap IntKind.u64 (↑(BitVec.toNat (BitVec.ofInt (64:Nat) y &&& BitVec.ofInt (64:Nat) (4294967295:Int))):Int)+Int.fdiv (IntKind.wrap IntKind.u64 (↑(BitVec.toNat (BitVec.ofInt (64:Nat) x &&& BitVec.ofInt (64:Nat) (4294967295:Int))):Int)*IntKind.wrap IntKind.u64 (↑(BitVec.toNat (BitVec.ofInt (64:Nat) y &&& BitVec.ofInt (64:Nat) (4294967295:Int))):Int)) (4294967296:Int)) (4294967296:Int))/\(0:Int)<=(32:Int)/\fits IntKind.u64 (Int.fdiv x (4294967296:Int)*Int.fdiv y (4294967296:Int)+Int.fdiv (Int.fdiv x (4294967296:Int)*IntKind.wrap IntKind.u64 (↑(BitVec.toNat (BitVec.ofInt (64:Nat) y &&& BitVec.ofInt (64:Nat) (4294967295:Int))):Int)+Int.fdiv (IntKind.wrap IntKind.u64 (↑(BitVec.toNat (BitVec.ofInt (64:Nat) x &&& BitVec.ofInt (64:Nat) (4294967295:Int))):Int)*IntKind.wrap IntKind.u64 (↑(BitVec.toNat (BitVec.ofInt (64:Nat) y &&& BitVec.ofInt (64:Nat) (4294967295:Int))):Int)) (4294967296:Int)) (4294967296:Int)+Int.fdiv (IntKind.wrap IntKind.u64 (↑(BitVec.toNat (BitVec.ofInt (64:Nat) (Int.fdiv x (4294967296:Int)*IntKind.wrap IntKind.u64 (↑(BitVec.toNat (BitVec.ofInt (64:Nat) y &&& BitVec.ofInt (64:Nat) (4294967295:Int))):Int)+Int.fdiv (IntKind.wrap IntKind.u64 (↑(BitVec.toNat (BitVec.ofInt (64:Nat) x &&& BitVec.ofInt (64:Nat) (4294967295:Int))):Int)*IntKind.wrap IntKind.u64 (↑(BitVec.toNat (BitVec.ofInt (64:Nat) y &&& BitVec.ofInt (64:Nat) (4294967295:Int))):Int)) (4294967296:Int)) &&& BitVec.ofInt (64:Nat) (4294967295:Int))):Int)+IntKind.wrap IntKind.u64 (↑(BitVec.toNat (BitVec.ofInt (64:Nat) x &&& BitVec.ofInt (64:Nat) (4294967295:Int))):Int)*Int.fdiv y (4294967296:Int)) (4294967296:Int))/\fits IntKind.u64 (x*y)/\Int.fdiv x (4294967296:Int)*Int.fdiv y (4294967296:Int)+Int.fdiv (Int.fdiv x (4294967296:Int)*IntKind.wrap IntKind.u64 (↑(BitVec.toNat (BitVec.ofInt (64:Nat) y &&& BitVec.ofInt (64:Nat) (4294967295:Int))):Int)+Int.fdiv (IntKind.wrap IntKind.u64 (↑(BitVec.toNat (BitVec.ofInt (64:Nat) x &&& BitVec.ofInt (64:Nat) (4294967295:Int))):Int)*IntKind.wrap IntKind.u64 (↑(BitVec.toNat (BitVec.ofInt (64:Nat) y &&& BitVec.ofInt (64:Nat) (4294967295:Int))):Int)) (4294967296:Int)) (4294967296:Int)+Int.fdiv (IntKind.wrap IntKind.u64 (↑(BitVec.toNat (BitVec.ofInt (64:Nat) (Int.fdiv x (4294967296:Int)*IntKind.wrap IntKind.u64 (↑(BitVec.toNat (BitVec.ofInt (64:Nat) y &&& BitVec.ofInt (64:Nat) (4294967295:Int))):Int)+Int.fdiv (IntKind.wrap IntKind.u64 (↑(BitVec.toNat (BitVec.ofInt (64:Nat) x &&& BitVec.ofInt (64:Nat) (4294967295:Int))):Int)*IntKind.wrap IntKind.u64 (↑(BitVec.toNat (BitVec.ofInt (64:Nat) y &&& BitVec.ofInt (64:Nat) (4294967295:Int))):Int)) (4294967296:Int)) &&& BitVec.ofInt (64:Nat) (4294967295:Int))):Int)+IntKind.wrap IntKind.u64 (↑(BitVec.toNat (BitVec.ofInt (64:Nat) x &&& BitVec.ofInt (64:Nat) (4294967295:Int))):Int)*Int.fdiv y (4294967296:Int)) (4294967296:Int)=(0:Ty.den tU64)/\x*y=x*y/\True) ?_
 have hm:=x52 h.1 h.2
 obtain⟨⟨x0,x1⟩,y0,y1⟩:=h
 have e1:=yo4 (a:=x) x0 ow
 have e2:=yo4 (a:=y) y0 ow
 have d1:=yo5 (a:=x) x0 ow
 have d2:=yo5 (a:=y) y0 ow
 have d3:(x*y).fdiv 4294967296=(x*y) / 4294967296:=Int.fdiv_eq_ediv_of_nonneg _ dc
 have q0:0<=(x*y) / 4294967296:=ow
 have q1:(x*y) / 4294967296<4294967296:=ow
 have e3:=yo4 q0 q1
 have d4:=yo5 q0 q1
 simp only[e1,e2,d1,d2,d3,Int.zero_mul,Int.mul_zero,Int.zero_add,Int.add_zero,e3,d4]
 have f0:fits IntKind.u64 0:=ye9 dc dc
 have f1:fits IntKind.u64 (x*y):=ye9 hm.1 ow
 have f2:fits IntKind.u64 ((x*y) / 4294967296):=ye9 q0 ow
 grind
abbrev ya7:qb3:=qe8 true none [tInt] [tU64] (λx=>lil x.1) (λx=>(x.1,()))
theorem w2a:Meets Tryz.prog 221 ya7:=by
 refine mt0 (SpecsOk.nil _) Tryz.func221 ?_
 rintro⟨x,⟨⟩⟩ h
 revert x
 intro(x:Int) (h:lil x)
 refine vcs ((decide (x<(0:Int))=true->fits IntKind.u64 x/\fits IntKind.u64 ((0:Int)-x)/\(0:Int)-x=x)/\(decide (x<(0:Int))=false->fits IntKind.u64 x/\x=x)) ?_
 obtain⟨h0,h1⟩:=h
 grind [absurd,ye9]
abbrev yz7:qb3:=qe8 true none [tInt,tInt] [x51] (λx=>lil x.1/\lil x.2.1) (λx=>((0,x.1*x.2.1),()))
theorem xl8:Meets Tryz.prog 222 yz7:=by
 refine mt0 (SpecsOk.cons w7u (SpecsOk.cons w2a (SpecsOk.nil _))) Tryz.func222 ?_
 rintro⟨x,y,⟨⟩⟩ h
 revert x y
 intro(x:Int) (y:Int) (h:lil x/\lil y)
 refine vcs (lil x/\lil y/\(lil x/\lil y)/\fits .i64 (0:Ty.den tU64)/\((decide (x<(0:Int)) != decide (y<(0:Int)))=true->False)/\((decide (x<(0:Int)) != decide (y<(0:Int)))=false->(0:Ty.den tU64)=(0:Ty.den (Ty.int .i64))/\x*y=x*y/\True)) ?_
 have hx:=h.1.1
 have hy:=h.2.1
 refine⟨h.1,h.2,h,qa3 dc dc,λhn=>?_⟩
 grind
def w8k (a b:Int × Int):Int:=if a.1=b.1/\a.2=b.2 then 0 else if a.1<b.1\/a.1=b.1/\a.2<b.2 then -1 else 1
abbrev yo7:qb3:=qe8 true none [x51,x51] [tInt] (λ_=>True) (λx=>(w8k x.1 x.2.1,()))
theorem w7v:Meets Tryz.prog 218 yo7:=by
 refine mt0 (SpecsOk.nil _) Tryz.func218 ?_
 rintro⟨⟨a,b⟩,⟨c,d⟩,⟨⟩⟩ -
 revert a b c d
 intro(a:Int) (b:Int) (c:Int) (d:Int)
 refine vcs (((a==c && b==d)=true->(0:Int)=w8k (a,b) (c,d))/\((a==c && b==d)=false->(decide (a<c)=true->(-1:Int)=w8k (a,b) (c,d))/\(decide (a<c)=false->((a==c)=true->(decide (b<d)=true->(-1:Int)=w8k (a,b) (c,d))/\(decide (b<d)=false->(1:Int)=w8k (a,b) (c,d)))/\((a==c)=false->(1:Int)=w8k (a,b) (c,d))))) ?_
 rw[za3,beq_iff_eq,beq_iff_eq,zec,ne_eq,za3,beq_iff_eq,beq_iff_eq]
 simp_all [w8k,if_pos,if_neg]
def wo7 (a b:Int × Int):Int:=if a.1*b.2=b.1*a.2 then 0 else if a.1*b.2<b.1*a.2 then -1 else 1
structure q2q (a:Int × Int):Prop where
 n:lil a.1
 d:lil a.2
 pos:1<=a.2
abbrev ya8:qb3:=qe8 true none [qo4,qo4] [tInt] (λx=>q2q x.1/\q2q x.2.1) (λx=>(wo7 x.1 x.2.1,()))
theorem w7w:Meets Tryz.prog 173 ya8:=by
 refine mt0 (SpecsOk.cons xl8 (SpecsOk.cons w7v (SpecsOk.nil _))) Tryz.func173 ?_
 rintro⟨⟨a,b⟩,⟨c,d⟩,⟨⟩⟩ h
 revert a b c d
 intro(a:Int) (b:Int) (c:Int) (d:Int) (h:q2q (a,b)/\q2q (c,d))
 refine vcs ((decide (b<(1:Int))=true->(decide (d<(1:Int))=true->(lil a/\lil (1:Int))/\(lil c/\lil (1:Int))/\True/\w8k ((0:Ty.den (Ty.int .i64)),a*(1:Int)) ((0:Ty.den (Ty.int .i64)),c*(1:Int))=wo7 (a,b) (c,d))/\(decide (d<(1:Int))=false->(lil a/\lil d)/\(lil c/\lil (1:Int))/\True/\w8k ((0:Ty.den (Ty.int .i64)),a*d) ((0:Ty.den (Ty.int .i64)),c*(1:Int))=wo7 (a,b) (c,d)))/\(decide (b<(1:Int))=false->(decide (d<(1:Int))=true->(lil a/\lil (1:Int))/\(lil c/\lil b)/\True/\w8k ((0:Ty.den (Ty.int .i64)),a*(1:Int)) ((0:Ty.den (Ty.int .i64)),c*b)=wo7 (a,b) (c,d))/\(decide (d<(1:Int))=false->(lil a/\lil d)/\(lil c/\lil b)/\True/\w8k ((0:Ty.den (Ty.int .i64)),a*d) ((0:Ty.den (Ty.int .i64)),c*b)=wo7 (a,b) (c,d)))) ?_
 obtain⟨⟨h1,h2,h3⟩,⟨h4,h5,h6⟩⟩:=h
 grind [absurd,w8k,wo7]
theorem w7x:Meets Tryz.prog 123 ya8:=by
 refine mt0 (SpecsOk.cons w7w (SpecsOk.nil _)) Tryz.func123 ?_
 rintro⟨⟨a,b⟩,⟨c,d⟩,⟨⟩⟩ h
 revert a b c d
 intro(a:Int) (b:Int) (c:Int) (d:Int) (h:q2q (a,b)/\q2q (c,d))
 refine vcr ((q2q (a,b)/\q2q (c,d))/\wo7 (a,b) (c,d)=wo7 (a,b) (c,d)) ?_
 grind
end Go.Proofs.YtnchigbbjajiiaaGreat
