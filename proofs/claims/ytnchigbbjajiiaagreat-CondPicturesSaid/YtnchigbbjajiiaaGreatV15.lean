/- The reference's arithmetic of rows: contracts by the engine. No condition. -/
import Derived.Test.YtnchigbbjajiiaaGreatProg
import Derived.Test.YtnchigbbjajiiaaGreatApp
import Derived.Test.YtnchigbbjajiiaaGreatEng3
import Derived.Test.YtnchigbbjajiiaaGreatV12
set_option linter.unusedSimpArgs false
set_option linter.unusedVariables false
namespace Go.Proofs.YtnchigbbjajiiaaGreat
open Go Go.RowKit Ls Eng
theorem yx3:Elt Tryz.prog 24 3 (.int .i64 0) 1 8:=⟨Tryz.underlying24,kq⟩
theorem rdL_ints (m:View):∀l:List Int,RdL m (.int .i64) l (ints l)
 | []=>rfl
 | x :: l=>⟨[.int .i64 x],ints l,rfl,rfl,rdL_ints m l⟩
open Go Go.RowKit Eng
theorem xy2 (t:Ty) (a b:List t.den) (hl:a.length=b.length) (h:∀i,i<a.length->qe0 t a i=qe0 t b i):a=b:=by
 grind [List.ext_getElem,qo5]
def x6v (r:Int × Int):Bool:=decide (1<=r.2) && decide (r.2<=400) && decide (-10000000000<=r.1) && decide (r.1<=10000000000) && (gcdI r.1 r.2==1)
def qj4 (m:List (List Int)) (y pix:List Int):(List Int × List (Int × Int)) × Bool:=if(q6i m pix y).2≠0\/((q6i m pix y).1.any λr=>r.1==0)=true then(([],[]),false) else((pix,(q6i m pix y).1),true)
theorem xe2 (a b:Int):gcdI b (a.tmod b)=gcdI a b:=by
 unfold gcdI
 show((Nat.gcd b.natAbs (a.tmod b).natAbs:Nat):Int)=(Nat.gcd a.natAbs b.natAbs:Nat)
 grind [Int.natAbs_tmod,Nat.gcd_comm,Nat.gcd_rec]
def yl2 (a b:Int):Nat->Option Inv
 | 0=>some (Inv.of [0,1] 0 (λs:Int × Int=>[(0,.lit (.int .i64 s.1)),(1,.lit (.int .i64 s.2))]) (λ_=>[]) (λs=>qc0 BIG s.1/\qc0 BIG s.2/\gcdI s.1 s.2=gcdI a b) (λs=>s.2.natAbs))
 | _=>none
theorem q5h:Meets Tryz.prog 254 w30:=by
 refine mts (SpecsOk.nil _) Tryz.func254 (λx=>yl2 x.1 x.2.1) ?_
 rintro⟨a,b,⟨⟩⟩ h
 revert a b
 intro(a:Int) (b:Int) (h:(-BIG<=a/\a<=BIG)/\-BIG<=b/\b<=BIG)
 refine vcs (∃(v0:Unit),∃(v1:Int × Int),(qc0 BIG v1.1/\qc0 BIG v1.2/\gcdI v1.1 v1.2=gcdI a b)/\((a=v1.1/\b=v1.2/\True)/\True)/\∀(v2:Int × Int),qc0 BIG v2.1/\qc0 BIG v2.2/\gcdI v2.1 v2.2=gcdI a b->((v2.2 != (0:Int))=true->v2.2≠(0:Int)/\∃(v5:Int × Int),(qc0 BIG v5.1/\qc0 BIG v5.2/\gcdI v5.1 v5.2=gcdI a b)/\Int.natAbs v5.2<Int.natAbs v2.2/\(v2.2=v5.1/\Int.tmod v2.1 v2.2=v5.2/\True)/\True)/\((v2.2 != (0:Int))=false->fits .i64 ((0:Int)-v2.1)/\max2 true v2.1 ((0:Int)-v2.1)=gcdI a b)) ?_
 refine⟨(),(a,b),⟨h.1,h.2,rfl⟩,⟨rfl,rfl⟩,?_⟩
 rintro⟨x,y⟩ ⟨h1,h2,h3⟩
 dsimp only at h1 h2 h3 ⊢
 have hB:BIG=4000000000000000000:=rfl
 refine⟨λhy=>⟨hy,(y,x.tmod y),⟨h2,?_,(xe2 x y).trans h3⟩,?_,rfl,rfl⟩,λhy=>?_⟩
 ·have:(x.tmod y).natAbs<=x.natAbs:=by simp_all [Int.natAbs_tmod,Nat.mod_le]
  omega
 ·simp_all [Int.natAbs_tmod,Nat.mod_lt]
 ·subst hy
  unfold qc0 at h1
  refine⟨qa3,?_⟩
  rw[<- h3]
  show max x (0-x)=((Int.gcd x 0:Nat):Int)
  grind [Int.gcd_zero_right]
def qk1 (l:List Int):List Int:=l.map λn=>n.tdiv (max (gcdL l) 1)
abbrev x8s:qb3:=qe8 true (some 3) [tInts] [tInts] (λx=>q5d x.1) (λx=>(qk1 x.1,()))
def x4r (l:List Int):Nat->Option Inv
 | 0=>some (Inv.of [3,11] 0 (λk:Nat=>[(3,.lit (.int .i64 (gcdL (l.take k)))),(11,.lit (.int .i64 k))]) (λ_=>[]) (λk=>k<=l.length) (λk=>l.length-k))
 | 1=>some (Inv.of [6,21] 1 (λk:Nat=>[(6,.own 0),(21,.lit (.int .i64 k))]) (λk=>[.vec 3 (.int .i64) ((qk1 l).take k)]) (λk=>k<=l.length) (λk=>l.length-k))
 | _=>none
theorem q3i:Meets Tryz.prog 255 x8s:=by
 refine mts (SpecsOk.cons q5h (SpecsOk.nil _)) Tryz.func255 (λx=>x4r x.1) ?_
 rintro⟨l,⟨⟩⟩ h
 revert l
 intro(l:List Int) (h:q5d l)
 refine vcs (∃(v0:Unit),∃(v1:Nat),Nat.le v1 l.length/\(((0:Int)=gcdL (List.take v1 l)/\(0:Int)=(↑v1:Int)/\True)/\True)/\∀(v2:Nat),Nat.le v2 l.length->(decide ((↑v2:Int)<(↑l.length:Int))=true->((0:Int)<=(↑v2:Int)/\(↑v2:Int)<(↑l.length:Int))/\(((-4000000000000000000:Int)<=gcdL (List.take v2 l)/\gcdL (List.take v2 l)<=BIG)/\(-4000000000000000000:Int)<=nI l v2/\nI l v2<=BIG)/\fits .i64 ((↑v2:Int)+(1:Int))/\∃(v5:Nat),Nat.le v5 l.length/\l.length-v5<l.length-v2/\(gcdI (gcdL (List.take v2 l)) (nI l v2)=gcdL (List.take v5 l)/\(↑v2:Int)+(1:Int)=(↑v5:Int)/\True)/\True)/\(decide ((↑v2:Int)<(↑l.length:Int))=false->∃(v5:Unit),∃(v6:Nat),Nat.le v6 l.length/\((True/\(0:Int)=(↑v6:Int)/\True)/\List.take v6 (qk1 l)=[]/\True)/\∀(v7:Nat),Nat.le v7 l.length->(decide ((↑v7:Int)<(↑l.length:Int))=true->((0:Int)<=(↑v7:Int)/\(↑v7:Int)<(↑l.length:Int))/\max2 true (gcdL (List.take v2 l)) (1:Int)≠(0:Int)/\fits .i64 (Int.tdiv (nI l v7) (max2 true (gcdL (List.take v2 l)) (1:Int)))/\((0:Nat)<List.length [Int.tdiv (nI l v7) (max2 true (gcdL (List.take v2 l)) (1:Int))]/\Nat.le ((List.take v7 (qk1 l)).length+List.length [Int.tdiv (nI l v7) (max2 true (gcdL (List.take v2 l)) (1:Int))]) (1000000:Nat))/\fits .i64 ((↑v7:Int)+(1:Int))/\∃(v10:Nat),Nat.le v10 l.length/\l.length-v10<l.length-v7/\(True/\(↑v7:Int)+(1:Int)=(↑v10:Int)/\True)/\List.take v7 (qk1 l)++[Int.tdiv (nI l v7) (max2 true (gcdL (List.take v2 l)) (1:Int))]=List.take v10 (qk1 l)/\True)/\(decide ((↑v7:Int)<(↑l.length:Int))=false->List.take v7 (qk1 l)=qk1 l))) ?_
 have hlen:=h.1
 have hpl:(qk1 l).length=l.length:=by simp[qk1]
 refine⟨(),0,zae _,⟨rfl,rfl⟩,λk hk=>⟨λhlt=>?_,λhge=>?_⟩⟩
 ·have h1:=w1a h k hk
  have h2:=q1m h hlt
  unfold BIG at h1
  exact⟨hlt,⟨⟨ow,by grind [BIG]⟩,h2⟩,qa3,k+1,ow,ow,(q73 l k hlt).symm,ow⟩
 ·obtain rfl:k=l.length:=ow
  rw[zcy]
  refine⟨(),0,zae _,⟨rfl,rfl⟩,λi hi=>⟨λhlt=>?_,λhge=>?_⟩⟩
  ·have h2:=q1m h hlt
   have h3:=ql7 (g:=max (gcdL l) 1) h2
   unfold BIG at h3
   refine⟨hlt,by show ¬max (gcdL l) 1=0; omega,qa3 (by show -9223372036854775808<=(nI l i).tdiv (max (gcdL l) 1); omega) (by show(nI l i).tdiv (max (gcdL l) 1)<=9223372036854775807; omega),by grind,qa3,i+1,ow,ow,ow,?_⟩
   rw[q1o _ i ow,qf1 (qk1 l) i ow,qf1 l i hlt]
   simp[qk1]
   rfl
  grind
def qk3 (l:List Int) (n:Int):List Int:=l.map λk=>k*n
structure xe3 (l:List Int) (n:Int):Prop where
 len:l.length<=1000
 big:∀i,i<l.length->qc0 BIG (nI l i*n)
abbrev yx4:qb3:=qe8 true none [tInts,tInt] [tInts] (λx=>xe3 x.1 x.2.1) (λx=>(qk3 x.1 x.2.1,()))
def yl3 (l:List Int) (n:Int):Nat->Option Inv
 | 0=>some (Inv.of [5,10] 1 (λk:Nat=>[(5,.own 0),(10,.lit (.int .i64 k))]) (λk=>[.vec 3 (.int .i64) ((qk3 l n).take k)]) (λk=>k<=l.length) (λk=>l.length-k))
 | _=>none
theorem wv6:Meets Tryz.prog 201 yx4:=by
 refine mts (SpecsOk.nil _) Tryz.func201 (λx=>yl3 x.1 x.2.1) ?_
 rintro⟨l,n,⟨⟩⟩ h
 revert l n
 intro(l:List Int) (n:Int) (h:xe3 l n)
 refine vcs (let Q0:=qk3 l n; ∃(v0:Unit),∃(v1:Nat),Nat.le v1 l.length/\((True/\(0:Int)=(↑v1:Int)/\True)/\List.take v1 Q0=[]/\True)/\∀(v2:Nat),Nat.le v2 l.length->(decide ((↑v2:Int)<(↑l.length:Int))=true->((0:Int)<=(↑v2:Int)/\(↑v2:Int)<(↑l.length:Int))/\fits .i64 (nI l v2*n)/\((0:Nat)<List.length [nI l v2*n]/\Nat.le ((List.take v2 Q0).length+List.length [nI l v2*n]) (1000000:Nat))/\fits .i64 ((↑v2:Int)+(1:Int))/\∃(v5:Nat),Nat.le v5 l.length/\l.length-v5<l.length-v2/\(True/\(↑v2:Int)+(1:Int)=(↑v5:Int)/\True)/\List.take v2 Q0++[nI l v2*n]=List.take v5 Q0/\True)/\(decide ((↑v2:Int)<(↑l.length:Int))=false->List.take v2 Q0=qk3 l n)) ?_
 have hlen:=h.len
 have hpl:(qk3 l n).length=l.length:=by simp[qk3]
 refine⟨(),0,zae _,⟨rfl,rfl⟩,λi hi=>⟨λhlt=>?_,λhge=>?_⟩⟩
 ·have h3:=h.big i hlt
  unfold qc0 BIG at h3
  refine⟨hlt,qa3,by grind,qa3,i+1,ow,ow,ow,?_⟩
  grind [q1o,qf1,qk3]
 grind
def q5i (r p:List Int) (j:Nat):List Int:=(List.range r.length).map λk=>nI r k*nI p j-nI p k*nI r j
def qe3 (r p:List Int) (j:Nat):List Int:=qk1 (q5i r p j)
structure xy3 (r p:List Int) (j:Nat):Prop where
 len:r.length<=1000
 eq:p.length=r.length
 lt:j<r.length
 b1:∀k,k<r.length->qc0 BIG (nI r k*nI p j)
 b2:∀k,k<r.length->qc0 BIG (nI p k*nI r j)
 b3:∀k,k<r.length->qc0 BIG (nI r k*nI p j-nI p k*nI r j)
abbrev sWo:qb3:=qe8 true none [tInts,tInts,tInt] [tInts] (λx=>0<=x.2.2.1/\xy3 x.1 x.2.1 x.2.2.1.toNat) (λx=>(qe3 x.1 x.2.1 x.2.2.1.toNat,()))
def yx5 (r p:List Int) (j:Nat):Nat->Option Inv
 | 0=>some (Inv.of [7,11] 1 (λk:Nat=>[(7,.own 0),(11,.lit (.int .i64 k))]) (λk=>[.vec 3 (.int .i64) ((q5i r p j).take k)]) (λk=>k<=r.length) (λk=>r.length-k))
 | _=>none
theorem xy4:Meets Tryz.prog 279 sWo:=by
 refine mts (SpecsOk.cons q3i (SpecsOk.nil _)) Tryz.func279 (λx=>yx5 x.1 x.2.1 x.2.2.1.toNat) ?_
 rintro⟨r,p,j,⟨⟩⟩ h
 revert r p j
 intro(r:List Int) (p:List Int) (j:Int) (h:0<=j/\xy3 r p j.toNat)
 refine vcs (let Q0:=q5i r p j.toNat; ∃(v0:Unit),∃(v1:Nat),Nat.le v1 r.length/\((True/\(0:Int)=(↑v1:Int)/\True)/\List.take v1 Q0=[]/\True)/\∀(v2:Nat),Nat.le v2 r.length->(decide ((↑v2:Int)<(↑r.length:Int))=true->((0:Int)<=(↑v2:Int)/\(↑v2:Int)<(↑r.length:Int))/\((0:Int)<=j/\j<(↑p.length:Int))/\fits .i64 (nI r v2*nI p j.toNat)/\((0:Int)<=(↑v2:Int)/\(↑v2:Int)<(↑p.length:Int))/\((0:Int)<=j/\j<(↑r.length:Int))/\fits .i64 (nI p v2*nI r j.toNat)/\fits .i64 (nI r v2*nI p j.toNat-nI p v2*nI r j.toNat)/\((0:Nat)<List.length [nI r v2*nI p j.toNat-nI p v2*nI r j.toNat]/\Nat.le ((List.take v2 Q0).length+List.length [nI r v2*nI p j.toNat-nI p v2*nI r j.toNat]) (1000000:Nat))/\fits .i64 ((↑v2:Int)+(1:Int))/\∃(v5:Nat),Nat.le v5 r.length/\r.length-v5<r.length-v2/\(True/\(↑v2:Int)+(1:Int)=(↑v5:Int)/\True)/\List.take v2 Q0++[nI r v2*nI p j.toNat-nI p v2*nI r j.toNat]=List.take v5 Q0/\True)/\(decide ((↑v2:Int)<(↑r.length:Int))=false->q5d (List.take v2 Q0)/\qk1 (List.take v2 Q0)=qe3 r p j.toNat)) ?_
 obtain⟨hj,h⟩:=h
 have hlen:=h.len
 have heq:=h.eq
 have hlt':=h.lt
 have hpl:(q5i r p j.toNat).length=r.length:=by simp[q5i]
 have hpk:0<=j/\j<(p.length:Int):=⟨hj,ow⟩
 have hrk:0<=j/\j<(r.length:Int):=⟨hj,ow⟩
 have hat:∀k,k<r.length->nI (q5i r p j.toNat) k=nI r k*nI p j.toNat-nI p k*nI r j.toNat:=λk hk=>by
  grind [qf1,q5i]
 refine⟨(),0,zae _,⟨rfl,rfl⟩,λi hi=>⟨λhlt=>?_,λhge=>?_⟩⟩
 ·have h1:=h.b1 i hlt
  have h2:=h.b2 i hlt
  have h3:=h.b3 i hlt
  unfold qc0 BIG at h1 h2 h3
  refine⟨hlt,hpk,qa3,ow,hrk,qa3,qa3,by grind,qa3,i+1,ow,ow,ow,?_⟩
  grind [q1o]
 ·rw[zbc ow]
  refine⟨⟨ow,λx hx=>?_⟩,rfl⟩
  obtain⟨k,hk,rfl⟩:=zaz hx
  rw[<- qf1 _ k hk,hat k ow]
  exact h.b3 k ow
def q4n (n d:Int):Int × Int:=(n.tdiv (gcdI n d),d.tdiv (gcdI n d))
abbrev yt8:qb3:=qe8 true none [tInt,tInt] [qo4] (λx=>(-BIG<=x.1/\x.1<=BIG)/\(-BIG<=x.2.1/\x.2.1<=BIG)/\x.2.1≠0) (λx=>(q4n x.1 x.2.1,()))
theorem xe4:Meets Tryz.prog 295 yt8:=by
 refine mt0 (SpecsOk.cons q5h (SpecsOk.nil _)) Tryz.func295 ?_
 rintro⟨n,d,⟨⟩⟩ h
 revert n d
 intro(n:Int) (d:Int) (h:(-BIG<=n/\n<=BIG)/\(-BIG<=d/\d<=BIG)/\d≠0)
 refine vcs (let Q0:=gcdI n d; (((-4000000000000000000:Int)<=n/\n<=BIG)/\(-4000000000000000000:Int)<=d/\d<=BIG)/\gcdI n d≠(0:Int)/\fits .i64 (Int.tdiv n Q0)/\gcdI n d≠(0:Int)/\fits .i64 (Int.tdiv d Q0)/\Int.tdiv n Q0=(q4n n d).1/\Int.tdiv d Q0=(q4n n d).2/\True) ?_
 obtain⟨h1,h2,h3⟩:=h
 have hg:=ql9 (a:=n) (b:=d) (.inr h3)
 have k1:=ql7 (g:=gcdI n d) h1
 have k2:=ql7 (g:=gcdI n d) h2
 have hB:BIG=4000000000000000000:=rfl
 exact⟨⟨h1,h2⟩,ow,qa3,ow,qa3,rfl,rfl⟩
end Go.Proofs.YtnchigbbjajiiaaGreat
