/- Numbers of 128 bits: sums and opposites, by hand walks with the library's laws on carries. No condition. -/
import Derived.Test.YtnchigbbjajiiaaGreatProg
import Derived.Test.YtnchigbbjajiiaaGreatApp
import Derived.Test.YtnchigbbjajiiaaGreatEng3
import Derived.Test.YtnchigbbjajiiaaGreatV12
import Derived.Test.YtnchigbbjajiiaaGreatV0
import Derived.Laws.Externs
set_option linter.unusedSimpArgs false
set_option linter.unusedVariables false
namespace Go.Proofs.YtnchigbbjajiiaaGreat
open Go Go.RowKit Ls Eng
theorem y4a:Elt Tryz.prog 24 3 (.int .i64 0) 1 8:=⟨Tryz.underlying24,kr⟩
theorem xh5 (w:World) (t:TypeId):(w.alloc (.cells #[] t)).ownsRow w.heap.size t 1 (.slice (some ⟨w.heap.size,0,none⟩) 0 0) 0 []:=
 ⟨rfl,.inr ⟨w.heap.size,0,#[],rfl,zac _,heap_alloc_new w _,zac _,by simp,rfl,rfl⟩⟩
set_option maxRecDepth 100000 in
set_option maxHeartbeats 400000 in
theorem clone_any (X:Option Addr) (k d:Nat) (l:List Int) (w:World) (hl:SI w X k d l) (hk:k<=100000) :
  Calls Tryz.prog 48 #[.slice X k d] w λe w'=>∃A' c',e=.returned (.slice A' k c')/\w'.ownsRow w.heap.size 3 1 (.slice A' k c') k (ints l)/\Below w.heap.size w w':=by
 have hll:=hidx hl.len
 cases X with
 | none=>
  have h0:k=0:=by
   rcases zbs k with h | h
   ·exact h
   ·obtain⟨ad,e,_⟩:=hl.at_ h; cases e
  subst h0
  have hl0:l=[]:=zax hll.out
  subst hl0
  have hq:=λw=>Lib.run_eql_slice_nil (P:=Tryz.prog) w 24 3 none 0 d 0 0 Tryz.underlying24
  go_enter Tryz.func48,Tryz.ntmps48
  go_wp2
  go_ret
  exact⟨none,0,rfl,zb7 _ _ _ _,zdd _ _⟩
 | some ad=>
  have sv:=hl.values
  have o1:=x02 l
  have hq:=λw=>Lib.run_eql_slice_nil (P:=Tryz.prog) w 24 3 (some ad) k d 0 0 Tryz.underlying24
  go_enter Tryz.func48,Tryz.ntmps48
  go_wp2_with (at_builtin; refine y37 _ y4a rfl rfl _ _ rfl rfl rfl (xh5 _ _) (below_alloc _ _) (zac _) (sv.below (below_alloc _ _)) o1 ow ow ?_; intro A2 c2 w2 hown2 hb2 _; rw[zce] at hown2)
  go_ret
  exact⟨A2,c2,rfl,by grind,hb2⟩
abbrev ye3:qa8:=qd9 true (some 3) [.list (.int .i64)] [.list (.int .i64)] (λx=>x.1.length<=100000) (λx=>(x.1,()))
theorem rdL_ints (m:View):∀l:List Int,RdL m (.int .i64) l (ints l)
 | []=>rfl
 | x :: l=>⟨[.int .i64 x],ints l,rfl,rfl,rdL_ints m l⟩
theorem q82:Meets Tryz.prog 48 ye3:=by
 refine⟨⟨_,_,Tryz.func48,rfl,rfl⟩,λw m args vs k hm hargs hrun=>?_⟩
 obtain⟨⟨l,⟨⟩⟩,⟨hp,hk⟩,hx⟩:=qj6 hrun hargs
 have hp:l.length<=100000:=hp
 obtain⟨u,us,rfl,h1,h2⟩:=hx
 obtain rfl:us=[]:=h2
 obtain⟨A,c,rfl,hSI⟩:=rd_SI hm (show Rd m (.list (.int .i64)) l [u] from h1)
 refine(clone_any A l.length c l w hSI hp).mono λe w' ⟨A',c',e1,e2,e3⟩=>?_
 exact⟨_,λ_=>none,e1,e3,(λb o h=>by cases h),(λb o h=>by cases h),.inl ⟨.int .i64,l,ints l,hk,e2,rdL_ints _ l,λ_ _=>rfl⟩⟩
open Go Go.RowKit Eng
theorem x03 (t:Ty) (a b:List t.den) (hl:a.length=b.length) (h:∀i,i<a.length->qf0 t a i=qf0 t b i):a=b:=by
 grind [List.ext_getElem,qp5]
def yv5 (a b:List (Ty.den (.int .i64))):Nat->Option Inv
 | 0=>some (Inv.of [13] 0 (λk:Nat=>[(13,.lit (.int .i64 k))]) (λ_=>[]) (λk=>k<=a.length/\∀i,i<k->qf0 (.int .i64) a i=qf0 (.int .i64) b i) (λk=>a.length-k))
 | _=>none
abbrev y4b:qa8:=qd9 true none [.list (.int .i64),.list (.int .i64)] [.bool] (λx=>x.1.length<=1000000) (λx=>(decide (x.1=x.2.1),()))
theorem xh6:Meets Tryz.prog 130 y4b:=by
 refine mts (SpecsOk.nil _) Tryz.func130 (λx=>yv5 x.1 x.2.1) ?_
 rintro⟨a,b,⟨⟩⟩ h
 revert a b
 intro(a:List (Ty.den (.int .i64))) (b:List (Ty.den (.int .i64))) (h:a.length<=1000000)
 refine vcs ((((↑a.length:Int) != (↑b.length:Int))=true->false=decide (a=b))/\(((↑a.length:Int) != (↑b.length:Int))=false->∃(v1:Unit),∃(v2:Nat),(v2<=a.length/\∀(v3:Nat),Nat.le (Nat.succ v3) v2->nI a v3=nI b v3)/\(((0:Int)=(↑v2:Int)/\True)/\True)/\∀(v3:Nat),(v3<=a.length/\∀(v5:Nat),Nat.le (Nat.succ v5) v3->nI a v5=nI b v5)->(decide ((↑v3:Int)<(↑a.length:Int))=true->((0:Int)<=(↑v3:Int)/\(↑v3:Int)<(↑a.length:Int))/\((0:Int)<=(↑v3:Int)/\(↑v3:Int)<(↑b.length:Int))/\((nI a v3 != nI b v3)=true->false=decide (a=b))/\((nI a v3 != nI b v3)=false->fits .i64 ((↑v3:Int)+(1:Int))/\∃(v7:Nat),(v7<=a.length/\∀(v8:Nat),Nat.le (Nat.succ v8) v7->nI a v8=nI b v8)/\a.length-v7<a.length-v3/\((↑v3:Int)+(1:Int)=(↑v7:Int)/\True)/\True))/\(decide ((↑v3:Int)<(↑a.length:Int))=false->true=decide (a=b)))) ?_
 refine⟨λhl=>?_,λhl=>?_⟩
 ·grind
 ·refine⟨(),0,⟨zae _,λi hi=>absurd hi ow⟩,rfl,λk ⟨hk,hall⟩=>⟨λhlt=>⟨hlt,ow,λhne=>?_,λhe=>⟨qa6,k+1,⟨ow,λi hi=>?_⟩,ow,ow⟩⟩,λhge=>?_⟩⟩
  ·grind
  ·grind
  ·exact(zb8 (x03 _ a b ow λi hi=>hall i ow)).symm
def q7j (r:Int × Int):Bool:=decide (1<=r.2) && decide (r.2<=400) && decide (-10000000000<=r.1) && decide (r.1<=10000000000) && (gcdI r.1 r.2==1)
abbrev yv6:qa8:=qd9 true none [qv9] [.bool] (λ_=>True) (λx=>(q7j x.1,()))
theorem w7s:Meets Tryz.prog 172 yv6:=by
 refine mt0 (SpecsOk.cons qq3 (SpecsOk.nil _)) Tryz.func172 ?_
 rintro⟨r,⟨⟩⟩ -
 revert r
 intro(r:Int × Int)
 refine vcs ((decide ((1:Int)<=r.2)=true->(decide (r.2<=(400:Int))=true->(decide ((-10000000000:Int)<=r.1)=true->(decide (r.1<=(10000000000:Int))=true->(((-4000000000000000000:Int)<=r.1/\r.1<=BIG)/\(-4000000000000000000:Int)<=r.2/\r.2<=BIG)/\(gcdI r.1 r.2==(1:Int))=q7j r)/\(decide (r.1<=(10000000000:Int))=false->false=q7j r))/\(decide ((-10000000000:Int)<=r.1)=false->false=q7j r))/\(decide (r.2<=(400:Int))=false->false=q7j r))/\(decide ((1:Int)<=r.2)=false->false=q7j r)) ?_
 have hB:BIG=4000000000000000000:=rfl
 have no:¬(1<=r.2/\r.2<=400/\-10000000000<=r.1/\r.1<=10000000000)->false=q7j r:=λh=>by
  symm
  rw[zdf]
  intro e
  unfold q7j at e
  grind
 grind [q7j]
abbrev tQ:Ty:=.prod (.list (.list (.int .i64))) (.list (.int .i64))
abbrev ye4:qa8:=qd9 true none [qv9] [.bool] (λ_=>True) (λx=>(x.1.1==0,()))
theorem w7t:Meets Tryz.prog 214 ye4:=by
 refine mt0 (SpecsOk.nil _) Tryz.func214 ?_
 rintro⟨r,⟨⟩⟩ -
 revert r
 intro(r:Int × Int)
 refine vcr ((r.1==(0:Int))=(r.1==(0:Ty.den (Ty.int .i64)))) ?_
 try rfl
 try simp only[w1r,w1s,wf4,z31,z32,z2,z1]
 done
abbrev yv7:qa8:=qd9 true none [tQ] [qc0] (λx=>0<x.1.1.length) (λx=>((nL x.1.1 0).length,()))
theorem w7u:Meets Tryz.prog 163 yv7:=by
 refine mt0 (SpecsOk.nil _) Tryz.func163 ?_
 rintro⟨q,⟨⟩⟩ h
 revert q
 intro(q:List (List Int) × List Int) (h:0<q.1.length)
 refine vcs (((0:Int)<=(0:Int)/\(0:Int)<(↑q.1.length:Int))/\(↑(nL q.1 (0:Nat)).length:Int)=(↑(nL q.1 (0:Nat)).length:Int)) ?_
 omega
def qg9 (m:List (List Int)) (y pix:List Int):(List Int × List (Int × Int)) × Bool:=if(qy0 m pix y).2≠0\/((qy0 m pix y).1.any λr=>r.1==0)=true then(([],[]),false) else((pix,(qy0 m pix y).1),true)
abbrev yv8:qa8:=qd9 true none [tQ,qe8] [qq7,.bool] (λx=>q4p x.1.1 x.2.1 x.1.2/\x.2.1.length<=100000) (λx=>((qg9 x.1.1 x.1.2 x.2.1).1,(qg9 x.1.1 x.1.2 x.2.1).2,()))
theorem x04 {m:List (List Int)} {pix y:List Int} (h:q4p m pix y):(qy0 m pix y).1.length<=1000000:=by
 unfold qy0
 split
 ·rename_i he
  have hA:=Asked.of he
  have hO:=h.ok he
  unfold w00
  split
  ·simp
  ·split
   ·simp
   ·have hsh:=(q2r hO.red pix.length).piv
    rw[show(qb8 m pix y).length=m.length from qr9 _ _ _] at hsh
    have:=hA.msk.rows6
    have e:(qt8 m pix y).2.length=(qb5 (qb8 m pix y) pix.length).2.length:=rfl
    grind
 simp
theorem xh7:Meets Tryz.prog 164 yv8:=by
 refine mt0 (SpecsOk.cons xh4 (SpecsOk.cons q82 (SpecsOk.cons (xf5 (fs:=[(214,ye4)]) (SpecsOk.cons w7t (SpecsOk.nil _))) (SpecsOk.nil _)))) Tryz.func164 ?_
 rintro⟨q,pix,⟨⟩⟩ h
 revert q pix
 intro(q:List (List Int) × List Int) (pix:List Int) (h:q4p q.1 pix q.2/\pix.length<=100000)
 refine vcs (let Q0:=qg9 q.1 q.2 pix; let Q1:=qy0 q.1 pix q.2; q4p q.1 pix q.2/\((Q1.2 != (0:Int))=true->(Q0.1.1=[]/\Q0.1.2=[]/\True)/\false=Q0.2/\True)/\((Q1.2 != (0:Int))=false->∃(v1:qa3 [Ty.prod (Ty.int .i64) (Ty.int .i64)]->Prop),∃(v2:qa3 [Ty.prod (Ty.int .i64) (Ty.int .i64)]->Bool),(∀(v3:(Int × Int) × qa3._f [] PUnit.unit),v1 v3->True/\(v3.1.1==(0:Ty.den (Ty.int .i64)))=v2 v3)/\(Q1.1.length<=(1000000:Nat)/\∀(v3:Nat),v3<Q1.1.length->v1 (qf0 (Ty.prod (Ty.int .i64) (Ty.int .i64)) Q1.1 v3,()))/\((List.any Q1.1 λ(v4:Int × Int)=>v2 (v4,()))=true->(Q0.1.1=[]/\Q0.1.2=[]/\True)/\false=Q0.2/\True)/\((List.any Q1.1 λ(v4:Int × Int)=>v2 (v4,()))=false->pix.length<=(100000:Nat)/\(pix=Q0.1.1/\Q1.1=Q0.1.2/\True)/\true=Q0.2/\True))) ?_
 obtain⟨hp,hl⟩:=h
 refine⟨hp,λh1=>by grind [qg9],λh1=>⟨λ_=>True,λx=>x.1.1==0,λ_ _=>rfl,⟨?_,λ_ _=>trivial⟩,λh2=>?_,λh2=>⟨hl,?_⟩⟩⟩
 ·exact x04 hp
 ·have h2:((qy0 q.1 pix q.2).1.any λr=>r.1==0)=true:=h2
  unfold qg9; grind
 ·have h2:((qy0 q.1 pix q.2).1.any λr=>r.1==0)=false:=h2
  unfold qg9; grind
def q4q (m:List (List Int)) (y:List Int) (k:Int):Int:=if qw0 m y []=0 then(if inB k 0 10 then 0 else 7) else qw0 m y []
abbrev y4c:qa8:=qd9 true none [qf9,qe8,qc0] [qc0] (λ_=>True) (λx=>(q4q x.1 x.2.1 x.2.2.1,()))
theorem ww4:Meets Tryz.prog 215 y4c:=by
 refine mt0 (SpecsOk.cons q8r (SpecsOk.cons qq4 (SpecsOk.nil _))) Tryz.func215 ?_
 rintro⟨m,y,k,⟨⟩⟩ -
 revert m y k
 intro(m:List (List Int)) (y:List Int) (k:Int)
 refine vcs (Value.slice none (0:Nat) (0:Nat)=Value.slice none (0:Nat) (0:Nat)/\(0:Nat)<=(1000000:Nat)/\((qw0 m y [] != (0:Int))=true->qw0 m y []=q4q m y k)/\((qw0 m y [] != (0:Int))=false->True/\((!inB k (0:Int) (10:Int))=true->(7:Int)=q4q m y k)/\((!inB k (0:Int) (10:Int))=false->(0:Int)=q4q m y k))) ?_
 grind [q4q]
def qt9 (l:List Int):List Int:=l.map λn=>n.tdiv (max (gcdL l) 1)
def q83 (l:List Int) (n:Int):List Int:=l.map λk=>k*n
structure yv9 (l:List Int) (n:Int):Prop where
 len:l.length<=1000
 big:∀i,i<l.length->qd8 BIG (nI l i*n)
def w11 (r p:List Int) (j:Nat):List Int:=(List.range r.length).map λk=>nI r k*nI p j-nI p k*nI r j
def qi3 (r p:List Int) (j:Nat):List Int:=qt9 (w11 r p j)
structure yw0 (r p:List Int) (j:Nat):Prop where
 len:r.length<=1000
 eq:p.length=r.length
 lt:j<r.length
 b1:∀k,k<r.length->qd8 BIG (nI r k*nI p j)
 b2:∀k,k<r.length->qd8 BIG (nI p k*nI r j)
 b3:∀k,k<r.length->qd8 BIG (nI r k*nI p j-nI p k*nI r j)
def q5q (n d:Int):Int × Int:=(n.tdiv (gcdI n d),d.tdiv (gcdI n d))
def qq9 (m:List (List Int)) (pix:List Int):List (List Int):=(List.range m.length).map λi=>qx5 (nL m i) pix
theorem ww5 (m:List (List Int)) (pix:List Int):(qq9 m pix).length=m.length:=by simp[qq9]
theorem qo0 (m:List (List Int)) (pix:List Int) (i:Nat) (hi:i<m.length):nL (qq9 m pix) i=qx5 (nL m i) pix:=by
 grind [qp2,ww5,qq9]
structure yw1 (m:List (List Int)) (pix:List Int):Prop where
 rows:m.length<=10000
 cols:pix.length<=10000
 at_:∀i,i<m.length->∀j,j<pix.length->0<=nI pix j/\nI pix j<(nL m i).length
def lastTo (left:List (List Int)) (j:Nat):Nat->Int
 | 0=>-1
 | i+1=>if nI (nL left i) j≠0 then(i:Int) else lastTo left j i
def q6m (left:List (List Int)) (j:Nat) (at_:Int):List Int:=if nI (nL left at_.toNat) j<0 then q83 (nL left at_.toNat) (-1) else nL left at_.toNat
def qw2 (left:List (List Int)) (p:List Int) (j:Nat) (at_:Int):Nat->List (List Int)
 | 0=>[]
 | i+1=>if(i:Int)≠at_ then qw2 left p j at_ i++[qi3 (nL left i) p j] else qw2 left p j at_ i
structure RS where
 left:List (List Int)
 done_:List (List Int)
 piv:List Int
def w7v (s:RS) (j:Nat):RS:=
 if lastTo s.left j s.left.length<0 then s
 else⟨qw2 s.left (q6m s.left j (lastTo s.left j s.left.length)) j (lastTo s.left j s.left.length) s.left.length,(s.done_.map λr=>qi3 r (q6m s.left j (lastTo s.left j s.left.length)) j)++[q6m s.left j (lastTo s.left j s.left.length)],s.piv++[(j:Int)]⟩
def qh1 (rows:List (List Int)):Nat->RS
 | 0=>⟨rows.map qt9,[],[]⟩
 | j+1=>w7v (qh1 rows j) j
def rdW (rows:List (List Int)):Nat:=(nL rows 0).length
def qu9 (rows:List (List Int)):List (List Int) × List Int:=((qh1 rows (rdW rows)).done_,(qh1 rows (rdW rows)).piv)
structure ye5 (s:RS) (j:Nat):Prop where
 sca:nI (nL s.left (lastTo s.left j s.left.length).toNat) j<0->yv9 (nL s.left (lastTo s.left j s.left.length).toNat) (-1)
 wo:∀i,i<s.left.length->(i:Int)≠lastTo s.left j s.left.length->yw0 (nL s.left i) (q6m s.left j (lastTo s.left j s.left.length)) j
 woD:∀i,i<s.done_.length->yw0 (nL s.done_ i) (q6m s.left j (lastTo s.left j s.left.length)) j
structure yw2 (rows:List (List Int)):Prop where
 n:rows.length<=1000
 w:rdW rows<=1000
 each:∀i,i<rows.length->(nL rows i).length=rdW rows
 big:∀i,i<rows.length->wm3 (nL rows i)
 step:∀j,j<rdW rows->0<=lastTo (qh1 rows j).left j (qh1 rows j).left.length->ye5 (qh1 rows j) j
theorem qw3 (l:List Int):(qt9 l).length=l.length:=by simp[qt9]
theorem q6n (r p:List Int) (j:Nat):(qi3 r p j).length=r.length:=by grind [qi3,qw3,w11]
theorem qy9 (l:List Int) (n:Int):(q83 l n).length=l.length:=by simp[q83]
theorem q84 (left:List (List Int)) (j:Nat):∀k:Nat,lastTo left j k<k/\-1<=lastTo left j k
 | 0=>⟨by show(-1:Int)<0; omega,by show(-1:Int)<=-1; omega⟩
 | k+1=>by
  have:=q84 left j k
  grind [lastTo]
theorem q5r (left:List (List Int)) (p:List Int) (j:Nat) (a:Int):∀k,∀x∈qw2 left p j a k,∃i,i<k/\(i:Int)≠a/\x=qi3 (nL left i) p j
 | 0,x,hx=>by cases hx
 | k+1,x,hx=>by
  rw[qw2] at hx
  split at hx
  ·rename_i hne
   rcases zak.1 hx with hx | hx
   ·obtain⟨i,h1,h2,h3⟩:=q5r left p j a k x hx
    grind
   grind
  ·obtain⟨i,h1,h2,h3⟩:=q5r left p j a k x hx
   grind
theorem qz0 (m:List (List Int)) (i:Nat) (h:i<m.length):nL m i∈m:=by grind [qp2,List.getElem_mem]
abbrev w7w:Ty:=.list (.prod (.list (.int .i64)) (.list (.prod (.int .i64) (.int .i64))))
def nF (l:List (List Int × List (Int × Int))) (i:Nat):List Int × List (Int × Int):=qf0 (.prod (.list (.int .i64)) (.list (.prod (.int .i64) (.int .i64)))) l i
def ye6 (s:List Int):Int:=if 0<s.length then nI s (s.length-1)+1 else 0
def ye7 (n:Nat) (s:List Int):List (List Int):=(List.range ((n:Int)-ye6 s).toNat).map λt:Nat=>s++[ye6 s+t]
def qw4 (n:Nat):Nat->List (List Int)
 | 0=>[[]]
 | k+1=>if k<(qw4 n k).length then qw4 n k++ye7 n (nL (qw4 n k) k) else qw4 n k
def w7x (n:Nat):List (List Int):=qw4 n 128
theorem wh2 (n k:Nat):∀j,∃t,qw4 n (k+j)=qw4 n k++t
 | 0=>⟨[],by simp⟩
 | j+1=>by
  obtain⟨t,ht⟩:=wh2 n k j
  grind [Nat.add_assoc,qw4,ye7,nL,List.append_assoc]
def xh8 (n:Nat):Bool:=decide ((qw4 n 128).length<=128) && (qw4 n 128).all λs=>decide (s.length<=7) && s.all λx=>decide (0<=x) && decide (x<n)
theorem w13:((List.range 8).all λn=>xh8 n)=true:=by decide +kernel
theorem w7y {n:Nat} (h:n<=7):(qw4 n 128).length<=128/\∀s∈qw4 n 128,s.length<=7/\∀x∈s,0<=x/\x<n:=by
 have:=zan.1 w13 n (za4.2 ow)
 unfold xh8 at this
 grind
theorem ww6 {n k:Nat} (h:n<=7) (hk:k<=128):(qw4 n k).length<=128/\∀s∈qw4 n k,s.length<=7/\∀x∈s,0<=x/\x<n:=by
 obtain⟨t,ht⟩:=wh2 n k (128-k)
 rw[show k+(128-k)=128 by omega] at ht
 grind [w7y]
def q85 (piv:List Int) (f:Nat):Nat->Bool
 | 0=>true
 | k+1=>q85 piv f k && (nI piv k != (f:Int))
def w7z (d:List (List Int)) (piv:List Int) (k:Nat):Int:=nI (nL d k) (nI piv k).toNat
def q5s (d:List (List Int)) (piv:List Int):Nat->Int
 | 0=>1
 | k+1=>(q5s d piv k).tdiv (gcdI (q5s d piv k) (w7z d piv k))*w7z d piv k
def x6y (d:List (List Int)) (piv:List Int) (n f:Nat):Nat->List Int
 | 0=>(List.replicate n 0).set f (q5s d piv piv.length)
 | k+1=>(x6y d piv n f k).set (nI piv k).toNat ((0-nI (nL d k) f)*(q5s d piv piv.length).tdiv (w7z d piv k))
def q86 (d:List (List Int)) (piv:List Int) (n:Nat):Nat->List (List Int)
 | 0=>[]
 | f+1=>if q85 piv f piv.length then q86 d piv n f++[qt9 (x6y d piv n f piv.length)] else q86 d piv n f
def qj8 (rows:List (List Int)):List (List Int):=q86 (qu9 rows).1 (qu9 rows).2 (rdW rows) (rdW rows)
def qg2 (n:Nat) (set v:List Int):Nat->List Int
 | 0=>List.replicate n 0
 | j+1=>(qg2 n set v j).set (nI set j).toNat (nI v j)
def ww7 (l:List (List Int)):Bool:=decide (l.length=1) && !((nL l 0).any λe=>(0:Int)==e)
def ym2 (m:List (List Int)) (n:Nat) (set:List Int):List Int:=q8z (qg2 n set (nL (qm9 m set) 0) set.length)
def qt0 (m:List (List Int)) (n:Nat) (L:List (List Int)):Nat->List (List Int)
 | 0=>[]
 | c+1=>if ww7 (qm9 m (nL L c)) then qt0 m n L c++[ym2 m n (nL L c)] else qt0 m n L c
def q3w (m:List (List Int)) (n:Nat):Nat->List (List Int)
 | 0=>[]
 | k+1=>q3w m n k++qt0 m n (qf2 n (k+1:Nat)) (qf2 n (k+1:Nat)).length
def q7k (m:List (List Int)):Nat:=min ((qj9 m (qq8 (nL m 0).length)).2.length+1) (nL m 0).length
def qf1 (m:List (List Int)):List (List Int) × Int:=if qb7 m=false then([],1) else(q3w m (nL m 0).length (q7k m),0)
structure wb6 (m:List (List Int)):Prop where
 rank:w4p m
 ker:∀k,k<(nL m 0).length->∀set∈qf2 (nL m 0).length (k+1:Nat),w7q m set
abbrev y4d:qa8:=qd9 true none [qf9] [qf9,qc0] (λx=>qb7 x.1=true->wb6 x.1) (λx=>((qf1 x.1).1,(qf1 x.1).2,()))
def yw3 (m:List (List Int)) (n:Nat):Nat->Option Inv
 | 0=>some (Inv.of [30] 4 (λk:Nat=>[(30,.lit (.int .i64 k))]) (λk=>[.box 23 (.cons (.dat (.list (.int .i64)) m) .nil),.box 3 (.cons (.lit (.int .i64 n)) .nil),.box 22 (.cons (.msl 3 .none) .nil),.mat 24 3 (.int .i64) (q3w m n k) .none .none]) (λk=>k<=q7k m) (λk=>q7k m-k))
 | 1=>some (Eng.Inv.mk Nat Nat [] 4 (λ_ _=>[]) (λk c=>[.box 23 (.cons (.dat (.list (.int .i64)) m) .nil),.box 3 (.cons (.lit (.int .i64 n)) .nil),.box 22 (.cons (.msl 3 .none) .nil),.mat 24 3 (.int .i64) (q3w m n k++qt0 m n (qf2 n (k+1:Nat)) c) .none .none]) (λk c=>c<=(qf2 n (k+1:Nat)).length) (λk c=>c))
 | 2=>some (Eng.Inv.mk (q6v × Nat × Nat × List Int) Nat [9,11,52,54] 6 (λq j=>[(9,.msl 4 (some 0)),(11,.own 5),(52,.msl 4 (some 0)),(54,.lit (.int .i64 j))]) (λq j=>[.box 23 (.cons (.dat (.list (.int .i64)) m) .nil),.box 3 (.cons (.lit (.int .i64 n)) .nil),.box 22 (.cons (.msl 3 .none) .nil),.mat 24 3 (.int .i64) (q3w m n q.2.1++qt0 m n (qf2 n (q.2.1+1:Nat)) q.2.2.1) .none .none,.mat 3 3 (.int .i64) [q.2.2.2] (some []) (some q.1),.vec 3 (.int .i64) (qg2 n q.2.2.2 (nL (qm9 m q.2.2.2) 0) j)]) (λq j=>j<=q.2.2.2.length) (λq j=>q.2.2.2.length-j))
 | _=>none
def yw4 (mats em:List Nat) (specs:List (Nat × qa8)) (muts:List (Nat × MSpec)) (its:List (Nat × q1b)):Ctx:={ specs:=specs,tys:=tys,wr:=[],muts:=muts,mats:=mats,em:=em,its:=its }
theorem x6z (mats em:List Nat) {specs:List (Nat × qa8)} {muts:List (Nat × MSpec)} {its:List (Nat × q1b)} (h:SpecsOk Tryz.prog specs) (hm:MutsOk muts) (hi:ItsOk its):Sound Tryz.prog (yw4 mats em specs muts its):=SpecsOk.sound h q03 kr hi (hmu:=hm)
theorem q87 (m:List (List Int)) (n:Nat) (L:List (List Int)):∀c,(qt0 m n L c).length<=c
 | 0=>zac _
 | c+1=>by
  have:=q87 m n L c
  grind [qt0]
theorem w14:((List.range 11).all λn=>(List.range 12).all λk=>decide ((qf2 (n:Nat) (k:Nat)).length<=1000))=true:=by decide +kernel
theorem ww8 (n k:Nat) (hn:n<=10) (hk:k<=11):(qf2 (n:Nat) (k:Nat)).length<=1000:=
 za3 (zan.1 (zan.1 w14 n (za4.2 ow)) k (za4.2 ow))
theorem wn0 (m:List (List Int)) (n:Nat) (hn:n<=10):∀k,k<=11->(q3w m n k).length<=1000*k
 | 0,_=>zac _
 | k+1,hk=>by
  have h1:=wn0 m n hn k ow
  grind [ww8,q87,qf2,q3w,List.length_append]
theorem q88 {R:List (List Int)} {P:List Int} {n:Nat} (h:x0z R P n) (hn:n<=1000):∀f,f<=n->∀x∈qp3 R P n f,x.length=n/\wm3 x
 | 0,_,x,hx=>by cases hx
 | f+1,hf,x,hx=>by
  rw[qp3] at hx
  split at hx
  ·exact q88 h hn f ow x hx
  ·rename_i hfree
   rcases zak.1 hx with hx | hx
   ·exact q88 h hn f ow x hx
   ·obtain rfl:=zar.1 hx
    have hb:wm3 (hTo R P n f P.length):=⟨by grind [q80],w1z h ow (zdf.2 hfree) _ (zac _)⟩
    grind [wg1,q80,wh1]
theorem q89 {m:List (List Int)} {set:List Int} (h:w7q m set) (x:List Int) (hx:x∈qm9 m set):x.length=set.length/\set.length<=1000/\wm3 x:=by
 have hw:=h.red.w
 have:=q88 h.ar hw _ (zac _) x hx
 grind
theorem ql8 (n:Nat) (set v:List Int):∀j,(qg2 n set v j).length=n
 | 0=>by simp[qg2]
 | j+1=>by rw[qg2,zba]; exact ql8 n set v j
theorem q6o {n:Nat} {set v:List Int} (hv:wm3 v) (hn:n<=1000) (hl:v.length=set.length):∀j,j<=set.length->wm3 (qg2 n set v j)
 | 0,_=>⟨by grind [qg2],λx hx=>by
  obtain rfl:=(zc8.1 hx).2
  grind [BIG]⟩
 | j+1,hj=>by
  have h1:=q6o hv hn hl j ow
  refine⟨by grind [ql8],λx hx=>?_⟩
  rw[qg2] at hx
  rcases za0 hx with hx | rfl
  ·exact h1.2 x hx
  ·exact q8o hv ow
theorem xh9:Meets Tryz.prog 111 y4d:=by
 refine meets (x6z [72] [] (SpecsOk.cons w7r (SpecsOk.cons wh0 (SpecsOk.cons xh2 (SpecsOk.cons ww2 (SpecsOk.nil _))))) (MutsOk.cons w7p MutsOk.nil) (ItsOk.cons wg9 ItsOk.nil)) Tryz.func111 rfl rfl (λx=>yw3 x.1 (nL x.1 0).length) (λ_=>by kernel_rfl) dc ?_
 rintro⟨m,⟨⟩⟩ h
 revert m
 intro(m:List (List Int)) (h:qb7 m=true->wb6 m)
 refine vcs ((qb7 m=true->w4p m)/\(((q0s m).2 != (0:Int))=true->(qf1 m).1=[]/\(q0s m).2=(qf1 m).2/\True)/\(((q0s m).2 != (0:Int))=false->((0:Int)<=(0:Int)/\(0:Int)<(↑m.length:Int))/\fits .i64 ((q0s m).1+(1:Int))/\∃(v1:Unit),∃(v2:Nat),Nat.le v2 (q7k m)/\(((0:Int)=(↑v2:Int)/\True)/\(m=m/\True)/\((↑(nL m (0:Nat)).length:Int)=(↑(nL m (0:Nat)).length:Int)/\True)/\(True/\True)/\q3w m (nL m (0:Nat)).length v2=[]/\True)/\∀(v3:Nat),Nat.le v3 (q7k m)->(decide ((↑v3:Int)<max2 false ((q0s m).1+(1:Int)) (↑(nL m (0:Nat)).length:Int))=true->fits .i64 ((↑v3:Int)+(1:Int))/\True/\(((0:Ty.den qc0)<=(↑v3:Int)+(1:Int)/\(↑v3:Int)+(1:Int)<=(1000:Ty.den qc0))/\(0:Ty.den qc0)<=(↑(nL m (0:Nat)).length:Int)/\(↑(nL m (0:Nat)).length:Int)<=(1000:Ty.den qc0))/\∃(v6:Nat),∃(v7:Nat),Nat.le v7 (qf2 (↑(nL m (0:Nat)).length:Int) (↑(v6+(1:Nat)):Int)).length/\v7=(0:Nat)/\((m=m/\True)/\((↑(nL m (0:Nat)).length:Int)=(↑(nL m (0:Nat)).length:Int)/\True)/\(True/\True)/\(q3w m (nL m (0:Nat)).length v3=q3w m (nL m (0:Nat)).length v6++qt0 m (nL m (0:Nat)).length (qf2 (↑(nL m (0:Nat)).length:Int) (↑(v6+(1:Nat)):Int)) v7/\True/\True)/\True)/\∀(v8:Nat),Nat.le v8 (qf2 (↑(nL m (0:Nat)).length:Int) (↑(v6+(1:Nat)):Int)).length->(∀(v10:List Int × qa3._f [] PUnit.unit),(List.map (λ(v12:List Int)=>(v12,())) (qf2 (↑(nL m (0:Nat)).length:Int) ((↑v3:Int)+(1:Int))))[v8]?=some v10->∀(v12:q6v),w7q m (nL [v10.1] (0:Nat))/\(((↑(qm9 m (nL [v10.1] (0:Nat))).length:Int) != (1:Int))=true->[v10.1]=[v10.1]/\v12=v12/\True/\∃(v14:Nat),Nat.le v14 (qf2 (↑(nL m (0:Nat)).length:Int) (↑(v6+(1:Nat)):Int)).length/\v14=v8+(1:Nat)/\(m=m/\True)/\((↑(nL m (0:Nat)).length:Int)=(↑(nL m (0:Nat)).length:Int)/\True)/\(True/\True)/\(q3w m (nL m (0:Nat)).length v6++qt0 m (nL m (0:Nat)).length (qf2 (↑(nL m (0:Nat)).length:Int) (↑(v6+(1:Nat)):Int)) v8=q3w m (nL m (0:Nat)).length v6++qt0 m (nL m (0:Nat)).length (qf2 (↑(nL m (0:Nat)).length:Int) (↑(v6+(1:Nat)):Int)) v14/\True/\True)/\True)/\(((↑(qm9 m (nL [v10.1] (0:Nat))).length:Int) != (1:Int))=false->((0:Int)<=(0:Int)/\(0:Int)<(↑(qm9 m (nL [v10.1] (0:Nat))).length:Int))/\(nL (qm9 m (nL [v10.1] (0:Nat))) (0:Nat)).length<=(1000000:Nat)/\((List.any (nL (qm9 m (nL [v10.1] (0:Nat))) (0:Nat)) λ(v15:Int)=>(0:Int)==v15)=true->[v10.1]=[v10.1]/\v12=v12/\True/\∃(v15:Nat),Nat.le v15 (qf2 (↑(nL m (0:Nat)).length:Int) (↑(v6+(1:Nat)):Int)).length/\v15=v8+(1:Nat)/\(m=m/\True)/\((↑(nL m (0:Nat)).length:Int)=(↑(nL m (0:Nat)).length:Int)/\True)/\(True/\True)/\(q3w m (nL m (0:Nat)).length v6++qt0 m (nL m (0:Nat)).length (qf2 (↑(nL m (0:Nat)).length:Int) (↑(v6+(1:Nat)):Int)) v8=q3w m (nL m (0:Nat)).length v6++qt0 m (nL m (0:Nat)).length (qf2 (↑(nL m (0:Nat)).length:Int) (↑(v6+(1:Nat)):Int)) v15/\True/\True)/\True)/\((List.any (nL (qm9 m (nL [v10.1] (0:Nat))) (0:Nat)) λ(v15:Int)=>(0:Int)==v15)=false->((↑(nL m (0:Nat)).length:Int)=(↑(nL m (0:Nat)).length:Int)/\(0:Int)<=(↑(nL m (0:Nat)).length:Int)/\(↑(nL m (0:Nat)).length:Int)<=(1000000:Int))/\∃(v15:q6v × Nat × Nat × List Int),∃(v16:Nat),Nat.le v16 v15.2.2.2.length/\((some (0:Nat)=some (0:Nat)/\True/\some (0:Nat)=some (0:Nat)/\(0:Int)=(↑v16:Int)/\True)/\(m=m/\True)/\((↑(nL m (0:Nat)).length:Int)=(↑(nL m (0:Nat)).length:Int)/\True)/\(True/\True)/\(q3w m (nL m (0:Nat)).length v6++qt0 m (nL m (0:Nat)).length (qf2 (↑(nL m (0:Nat)).length:Int) (↑(v6+(1:Nat)):Int)) v8=q3w m (nL m (0:Nat)).length v15.2.1++qt0 m (nL m (0:Nat)).length (qf2 (↑(nL m (0:Nat)).length:Int) (↑(v15.2.1+(1:Nat)):Int)) v15.2.2.1/\True/\True)/\([v10.1]=[v15.2.2.2]/\True/\v12=v15.1)/\List.replicate (↑(nL m (0:Nat)).length:Int).toNat (Ty.dflt (TI.ty T3))=qg2 (nL m (0:Nat)).length v15.2.2.2 (nL (qm9 m v15.2.2.2) (0:Nat)) v16/\True)/\∀(v17:Nat),Nat.le v17 v15.2.2.2.length->(decide ((↑v17:Int)<(↑(nL [v10.1] (0:Nat)).length:Int))=true->((0:Int)<=(↑v17:Int)/\(↑v17:Int)<(↑(nL [v15.2.2.2] (0:Nat)).length:Int))/\v17<(nL [v15.2.2.2] (0:Nat)).length/\((0:Int)<=(0:Int)/\(0:Int)<(↑(qm9 m (nL [v10.1] (0:Nat))).length:Int))/\((0:Int)<=(↑v17:Int)/\(↑v17:Int)<(↑(nL (qm9 m (nL [v10.1] (0:Nat))) (0:Nat)).length:Int))/\((0:Int)<=nI (nL [v15.2.2.2] (0:Nat)) v17/\nI (nL [v15.2.2.2] (0:Nat)) v17<(↑(qg2 (nL m (0:Nat)).length v15.2.2.2 (nL (qm9 m v15.2.2.2) (0:Nat)) v17).length:Int))/\(nI (nL [v15.2.2.2] (0:Nat)) v17).toNat<(qg2 (nL m (0:Nat)).length v15.2.2.2 (nL (qm9 m v15.2.2.2) (0:Nat)) v17).length/\fits .i64 ((↑v17:Int)+(1:Int))/\∃(v20:Nat),Nat.le v20 v15.2.2.2.length/\v15.2.2.2.length-v20<v15.2.2.2.length-v17/\(some (0:Nat)=some (0:Nat)/\True/\some (0:Nat)=some (0:Nat)/\(↑v17:Int)+(1:Int)=(↑v20:Int)/\True)/\(m=m/\True)/\((↑(nL m (0:Nat)).length:Int)=(↑(nL m (0:Nat)).length:Int)/\True)/\(True/\True)/\(q3w m (nL m (0:Nat)).length v15.2.1++qt0 m (nL m (0:Nat)).length (qf2 (↑(nL m (0:Nat)).length:Int) (↑(v15.2.1+(1:Nat)):Int)) v15.2.2.1=q3w m (nL m (0:Nat)).length v15.2.1++qt0 m (nL m (0:Nat)).length (qf2 (↑(nL m (0:Nat)).length:Int) (↑(v15.2.1+(1:Nat)):Int)) v15.2.2.1/\True/\True)/\([v15.2.2.2]=[v15.2.2.2]/\True/\v15.1=v15.1)/\List.set (qg2 (nL m (0:Nat)).length v15.2.2.2 (nL (qm9 m v15.2.2.2) (0:Nat)) v17) (nI (nL [v15.2.2.2] (0:Nat)) v17).toNat (nI (nL (qm9 m (nL [v10.1] (0:Nat))) (0:Nat)) v17)=qg2 (nL m (0:Nat)).length v15.2.2.2 (nL (qm9 m v15.2.2.2) (0:Nat)) v20/\True)/\(decide ((↑v17:Int)<(↑(nL [v10.1] (0:Nat)).length:Int))=false->wm3 (nL [qg2 (nL m (0:Nat)).length v15.2.2.2 (nL (qm9 m v15.2.2.2) (0:Nat)) v17] (0:Nat))/\((0:Nat)<(0:Nat)+(1:Nat)/\(q3w m (nL m (0:Nat)).length v15.2.1++qt0 m (nL m (0:Nat)).length (qf2 (↑(nL m (0:Nat)).length:Int) (↑(v15.2.1+(1:Nat)):Int)) v15.2.2.1).length+((0:Nat)+(1:Nat))<=(1000000:Nat))/\[v15.2.2.2]=[v10.1]/\v15.1=v12/\True/\∃(v20:Nat),Nat.le v20 (qf2 (↑(nL m (0:Nat)).length:Int) (↑(v6+(1:Nat)):Int)).length/\v20=v8+(1:Nat)/\(m=m/\True)/\((↑(nL m (0:Nat)).length:Int)=(↑(nL m (0:Nat)).length:Int)/\True)/\(True/\True)/\(q3w m (nL m (0:Nat)).length v15.2.1++qt0 m (nL m (0:Nat)).length (qf2 (↑(nL m (0:Nat)).length:Int) (↑(v15.2.1+(1:Nat)):Int)) v15.2.2.1++[nL [q8z (nL [qg2 (nL m (0:Nat)).length v15.2.2.2 (nL (qm9 m v15.2.2.2) (0:Nat)) v17] (0:Nat))] (0:Nat)]=q3w m (nL m (0:Nat)).length v6++qt0 m (nL m (0:Nat)).length (qf2 (↑(nL m (0:Nat)).length:Int) (↑(v6+(1:Nat)):Int)) v20/\True/\True)/\True))))/\(v8=(List.map (λ(v11:List Int)=>(v11,())) (qf2 (↑(nL m (0:Nat)).length:Int) ((↑v3:Int)+(1:Int)))).length->fits .i64 ((↑v3:Int)+(1:Int))/\∃(v11:Nat),Nat.le v11 (q7k m)/\q7k m-v11<q7k m-v3/\((↑v3:Int)+(1:Int)=(↑v11:Int)/\True)/\(m=m/\True)/\((↑(nL m (0:Nat)).length:Int)=(↑(nL m (0:Nat)).length:Int)/\True)/\(True/\True)/\(q3w m (nL m (0:Nat)).length v6++qt0 m (nL m (0:Nat)).length (qf2 (↑(nL m (0:Nat)).length:Int) (↑(v6+(1:Nat)):Int)) v8=q3w m (nL m (0:Nat)).length v11/\True/\True)/\True))/\(decide ((↑v3:Int)<max2 false ((q0s m).1+(1:Int)) (↑(nL m (0:Nat)).length:Int))=false->q3b (Ty.int .i64) (q3w m (nL m (0:Nat)).length v3) none=(qf1 m).1/\(0:Int)=(qf1 m).2/\True))) ?_
 refine⟨λhv=>(h hv).rank,λhe=>?_,λhe=>?_⟩
 ·grind [qb7,absurd,q0s,qf1]
 have hv:qb7 m=true:=by
  grind [qb7,q0s]
 have hO:=h hv
 have hM:=Mk.of hv
 have hm1:=hM.rows1
 have hn1:=hM.pix1
 have hn10:=hM.pix10
 have hrank:(qj9 m (qq8 (nL m 0).length)).2.length<=10:=by
  have:=(q2r hO.rank.red (nL m 0).length).pivj
  grind [qj9,qg8,Nat.le_trans]
 have hr:q0s m=(((qj9 m (qq8 (nL m 0).length)).2.length:Int),0):=by grind [q0s]
 have hcN:q7k m=min ((qj9 m (qq8 (nL m 0).length)).2.length+1) (nL m 0).length:=rfl
 have hcR:qf1 m=(q3w m (nL m 0).length (q7k m),0):=by grind [qf1]
 rw[hr,hcR]
 generalize(qj9 m (qq8 (nL m 0).length)).2.length=r at *
 have hker:=hO.ker
 generalize hnn:(nL m 0).length=n at *
 dsimp only
 refine⟨ow,qa6,(),0,zae _,⟨rfl,rfl⟩,λk hk=>⟨λhlt=>?_,λhge=>?_⟩⟩
 ·have hlt:(k:Int)<min ((r:Int)+1) n:=hlt
  have hkn:k<n:=ow
  have hca:((k:Int)+1)=((k+1:Nat):Int):=ow
  have hkl:=wn0 m n hn10 k ow
  have hsl:=ww8 n (k+1) hn10 ow
  rw[hca]
  have hb1:(0:Int)<=((k+1:Nat):Int)/\((k+1:Nat):Int)<=1000:=ow
  refine⟨qa6,⟨hb1,ow⟩,k,0,zae _,rfl,by simp[qt0],λc hc=>⟨?_,λhce=>?_⟩⟩
  ·rintro⟨set,⟨⟩⟩ hset T
   dsimp only
   have hs:(qf2 n (k+1:Nat))[c]? = some set:=by
    grind
   have hcl:c<(qf2 n (k+1:Nat)).length:=(zag.1 hs).1
   have hnl:nL (qf2 n (k+1:Nat)) c=set:=by grind [qp2,List.getElem?_eq_some_iff]
   have hK:w7q m set:=hker k hkn set (zah hs)
   have hctl:=q87 m n (qf2 n (k+1:Nat)) c
   refine⟨hK,λh1=>⟨c+1,hcl,rfl,?_⟩,λh1=>⟨ow,?_,λh2=>⟨c+1,hcl,rfl,?_⟩,λh2=>⟨ow,(T,k,c,set),0,zae _,⟨rfl,rfl,⟨rfl,rfl⟩,rfl⟩,λj hj=>⟨λhjl=>?_,λhjl=>?_⟩⟩⟩⟩
   ·rw[qt0,hnl,zaj]
    intro q
    simp_all [ww7,Bool.and_eq_true,decide_eq_true_eq]
   ·grind [q89,nL,qm9,set,qz0]
   ·simp_all [qt0,if_neg,ww7,Bool.and_eq_true]
   ·dsimp only at hj ⊢
    have hat:=hK.cho.at_ 0 ow j hjl
    rw[hnn] at hat
    have hkm:=q89 hK (nL (qm9 m set) 0) (qz0 _ 0 ow)
    have hsp:=ql8 n set (nL (qm9 m set) 0) j
    have hat':0<=nI set j/\nI set j<((qg2 n set (nL (qm9 m set) 0) j).length:Int):=⟨hat.1,ow⟩
    exact⟨hjl,hjl,ow,ow,hat',ow,qa6,j+1,hjl,ow,ow,rfl⟩
   ·dsimp only at hj ⊢
    obtain rfl:j=set.length:=ow
    have hkm:=q89 hK (nL (qm9 m set) 0) (qz0 _ 0 ow)
    refine⟨q6o hkm.2.2 ow hkm.1 _ (zac _),by grind,rfl,rfl,c+1,hcl,rfl,?_⟩
    have hg:ww7 (qm9 m set)=true:=by
     unfold ww7
     grind
    rw[qt0,hnl,zap hg,zd2]
    rfl
  ·rw[zay] at hce
   subst hce
   exact⟨qa6,k+1,ow,ow,rfl,rfl⟩
 ·have hge:min ((r:Int)+1) n<=k:=hge
  obtain rfl:k=q7k m:=ow
  exact⟨rfl,rfl⟩
def nzTo (l:List Int):Nat->Nat
 | 0=>0
 | k+1=>if nI l k≠0 then nzTo l k+1 else nzTo l k
theorem xi0 (l:List Int):∀k,nzTo l k<=k
 | 0=>zac _
 | k+1=>by have:=xi0 l k; grind [nzTo]
def qs0 (a b:List Int):Nat->Int
 | 0=>0
 | k+1=>qs0 a b k+nI a k*nI b k
structure w70 (a b:List Int):Prop where
 len:a.length<=10
 le:a.length<=b.length
 sa:∀i,i<a.length->-1<=nI a i/\nI a i<=1
 sb:∀i,i<a.length->qd8 1000000 (nI b i)
theorem q9a {x y K:Int} (hx:-1<=x/\x<=1) (hy:qd8 K y):qd8 K (x*y):=by
 unfold qd8 at *
 rcases(show x=-1\/x=0\/x=1 by omega) with rfl | rfl | rfl
 all_goals omega
theorem wn1 {a b:List Int} (h:w70 a b):∀k,k<=a.length->qd8 (1000000*k) (qs0 a b k)
 | 0,_=>by simp_all [qd8,qs0]
 | k+1,hk=>by
  have h1:=wn1 h k ow
  have h2:=q9a (h.sa k ow) (h.sb k ow)
  unfold qd8 at *
  grind [qs0]
abbrev y4e:qa8:=qd9 true none [qe8,qe8] [qc0] (λx=>w70 x.1 x.2.1) (λx=>(qs0 x.1 x.2.1 x.1.length,()))
def x05 (a b:List Int):Nat->Option Inv
 | 0=>some (Inv.of [5,10] 0 (λk:Nat=>[(5,.lit (.int .i64 (qs0 a b k))),(10,.lit (.int .i64 k))]) (λ_=>[]) (λk=>k<=a.length) (λk=>a.length-k))
 | _=>none
theorem ww9:Meets Tryz.prog 57 y4e:=by
 refine mts (SpecsOk.nil _) Tryz.func57 (λx=>x05 x.1 x.2.1) ?_
 rintro⟨a,b,⟨⟩⟩ h
 revert a b
 intro(a:List Int) (b:List Int) (h:w70 a b)
 refine vcs (∃(v0:Unit),∃(v1:Nat),Nat.le v1 a.length/\(((0:Int)=qs0 a b v1/\(0:Int)=(↑v1:Int)/\True)/\True)/\∀(v2:Nat),Nat.le v2 a.length->(decide ((↑v2:Int)<(↑a.length:Int))=true->((0:Int)<=(↑v2:Int)/\(↑v2:Int)<(↑a.length:Int))/\((0:Int)<=(↑v2:Int)/\(↑v2:Int)<(↑b.length:Int))/\fits .i64 (nI a v2*nI b v2)/\fits .i64 (qs0 a b v2+nI a v2*nI b v2)/\fits .i64 ((↑v2:Int)+(1:Int))/\∃(v5:Nat),Nat.le v5 a.length/\a.length-v5<a.length-v2/\(qs0 a b v2+nI a v2*nI b v2=qs0 a b v5/\(↑v2:Int)+(1:Int)=(↑v5:Int)/\True)/\True)/\(decide ((↑v2:Int)<(↑a.length:Int))=false->qs0 a b v2=qs0 a b a.length)) ?_
 have hl:=h.len
 have hle:=h.le
 refine⟨(),0,zae _,⟨rfl,rfl⟩,λk hk=>⟨λhlt=>?_,λhge=>?_⟩⟩
 ·have h1:=wn1 h k hk
  have h2:=q9a (h.sa k hlt) (h.sb k hlt)
  unfold qd8 at h1 h2
  exact⟨hlt,ow,qa6,qa6,qa6,k+1,hlt,ow,rfl,ow⟩
 grind
abbrev ye8:qa8:=hspec [] true none [.cap qf9] [qc0] (λx=>0<x.1.length) (λx=>((nL x.1 0).length,()))
theorem w71:Meets Tryz.prog 102 ye8:=by
 refine qk7 (SpecsOk.nil _) (snd (SpecsOk.nil _)) Tryz.func102 rfl rfl (λ_ _=>none) (λ_=>by kernel_rfl) dc ?_
 rintro⟨m,⟨⟩⟩ h
 revert m
 intro(m:List (List Int)) (h:0<m.length)
 refine vcs (((0:Int)<=(0:Int)/\(0:Int)<(↑m.length:Int))/\(↑(nL m (0:Nat)).length:Int)=(↑(nL m (0:Nat)).length:Int)) ?_
 omega
abbrev ye9:qa8:=hspec [] true none [.d qc0,.cap qc0] [.bool] (λx=>qd8 BIG x.2.1) (λx=>(inB x.1 (0-x.2.1) x.2.1,()))
theorem w72:Meets Tryz.prog 143 ye9:=by
 refine qk7 (SpecsOk.nil _) (snd (SpecsOk.cons qu6 (SpecsOk.nil _))) Tryz.func143 rfl rfl (λ_ _=>none) (λ_=>by kernel_rfl) dc ?_
 rintro⟨n,k,⟨⟩⟩ h
 revert n k
 intro(n:Int) (k:Int) (h:qd8 BIG k)
 refine vcs (fits .i64 ((0:Int)-k)/\True/\inB n ((0:Int)-k) k=inB n ((0:Int)-k) k) ?_
 unfold qd8 BIG at h
 grind [qa6]
def w73 (m:List (List Int)) (l:List Int) (n k:Int):Int:=if qb7 m=false then 1 else if(l.length:Int)≠n then 9 else if(l.all λe=>inB e (0-k) k)=false then 7 else 0
abbrev y4f (fs:List (Nat × qa8)):qa8:=hspec fs true none [.d qf9,.d qe8,.fn [] qc0,.d qc0] [qc0] (λx=>(qb7 x.1=true->x.2.2.1.1 ())/\qd8 BIG x.2.2.2.1/\x.2.1.length<=1000000) (λx=>(w73 x.1 x.2.1 (x.2.2.1.2 ()) x.2.2.2.1,()))
theorem xi1 {fs:List (Nat × qa8)} (hfs:SpecsOk Tryz.prog fs):Meets Tryz.prog 101 (y4f fs):=by
 refine qk7 hfs (snd (SpecsOk.cons qs7 (SpecsOk.cons (wf7 (fs:=[(143,ye9)]) (SpecsOk.cons w72 (SpecsOk.nil _))) (SpecsOk.nil _)))) Tryz.func101 rfl rfl (λ_ _=>none) (λ_=>by kernel_rfl) dc ?_
 rintro⟨m,l,⟨p,f⟩,k,⟨⟩⟩ h
 revert m l p f k
 intro(m:List (List Int)) (l:List Int) (p:qa3 []->Prop) (f:qa3 []->Int) (k:Int) (h:(qb7 m=true->p ())/\qd8 BIG k/\l.length<=1000000)
 refine vcs (True/\((!qb7 m)=true->(1:Int)=w73 m l (f ()) k)/\((!qb7 m)=false->p ()/\(((↑l.length:Int) != f ())=true->(9:Int)=w73 m l (f ()) k)/\(((↑l.length:Int) != f ())=false->∃(v2:qa3 [qc0]->Prop),∃(v3:qa3 [qc0]->Bool),(∀(v4:Int × qa3._f [] PUnit.unit),v2 v4->qd8 BIG k/\inB v4.1 ((0:Int)-k) k=v3 v4)/\(l.length<=(1000000:Nat)/\∀(v4:Nat),v4<l.length->v2 (nI l v4,()))/\((!List.all l λ(v5:Int)=>v3 (v5,()))=true->(7:Int)=w73 m l (f ()) k)/\((!List.all l λ(v5:Int)=>v3 (v5,()))=false->(0:Int)=w73 m l (f ()) k)))) ?_
 obtain⟨h1,h2,h3⟩:=h
 refine⟨λhv=>by grind [w73],λhv=>⟨h1 hv,λhl=>by grind [w73],λhl=>⟨λ_=>True,λx=>inB x.1 (0-k) k,λ_ _=>⟨h2,rfl⟩,⟨h3,λ_ _=>trivial⟩,λha=>?_,λha=>?_⟩⟩⟩
 all_goals simp_all [w73,if_neg,if_pos]
def q0t (m:List (List Int)) (x:List Int):Int:=w73 m x (nL m 0).length 1000000
abbrev y4g:qa8:=qd9 true none [qf9,qe8] [qc0] (λx=>x.2.1.length<=1000000) (λx=>(q0t x.1 x.2.1,()))
theorem wx0:Meets Tryz.prog 56 y4g:=by
 refine mt0 (SpecsOk.cons (xi1 (fs:=[(102,ye8)]) (SpecsOk.cons w71 (SpecsOk.nil _))) (SpecsOk.nil _)) Tryz.func56 ?_
 rintro⟨m,x,⟨⟩⟩ h
 revert m x
 intro(m:List (List Int)) (x:List Int) (h:x.length<=1000000)
 refine vcs (∃(v0:qa3 []->Prop),∃(v1:qa3 []->Int),(∀(v2:Unit),v0 v2->(0:Nat)<m.length/\(↑(nL m (0:Nat)).length:Int)=v1 v2)/\((qb7 m=true->v0 ())/\qd8 BIG (1000000:Int)/\x.length<=(1000000:Nat))/\w73 m x (v1 ()) (1000000:Int)=q0t m x) ?_
 exact⟨λ_=>0<m.length,λ_=>((nL m 0).length:Int),λ_ hp=>⟨hp,rfl⟩,⟨λhv=>by have:=(Mk.of hv).rows1; omega,⟨dc,dc⟩,h⟩,rfl⟩
structure Shw (m:List (List Int)) (x:List Int):Prop where
 msk:Mk m
 val:qb7 m=true
 len:x.length=(nL m 0).length
 bd:∀i,i<x.length->qd8 1000000 (nI x i)
theorem Shw.of {m:List (List Int)} {x:List Int} (h:q0t m x=0):Shw m x:=by
 unfold q0t w73 at h
 split at h
 ·cases h
 ·rename_i hv
  have hv:qb7 m=true:=by grind
  split at h
  ·cases h
  ·rename_i hl
   split at h
   ·cases h
   ·rename_i ha
    have ha:(x.all λe=>inB e (0-1000000) 1000000)=true:=by grind
    refine⟨Mk.of hv,hv,ow,λi hi=>?_⟩
    have:=qh5.1 (zan.1 ha (nI x i) (by grind [qg5,List.getElem_mem]))
    omega
theorem Shw.dot {m:List (List Int)} {x:List Int} (h:Shw m x) (k:Nat) (hk:k<m.length):w70 (nL m k) x:=by
 have h1:=h.msk.each k hk
 have h2:=h.msk.pix10
 have h3:=h.len
 exact⟨ow,ow,λi hi=>h.msk.small k hk i ow,λi hi=>h.bd i ow⟩
def qd3 (m:List (List Int)) (x:List Int):List Int:=(List.range m.length).map λi=>qs0 (nL m i) x (nL m i).length
def qn2 (m:List (List Int)) (x:List Int):List Int × Int:=if q0t m x=0 then(qd3 m x,0) else([],q0t m x)
abbrev yw5:qa8:=qd9 true none [qf9,qe8] [qe8,qc0] (λx=>x.2.1.length<=1000000) (λx=>((qn2 x.1 x.2.1).1,(qn2 x.1 x.2.1).2,()))
def yf0 (m:List (List Int)) (x:List Int):Nat->Option Inv
 | 0=>some (Inv.of [7,18] 1 (λk:Nat=>[(7,.own 0),(18,.lit (.int .i64 k))]) (λk=>[.vec 3 (.int .i64) ((qd3 m x).take k)]) (λk=>k<=m.length) (λk=>m.length-k))
 | _=>none
theorem q2s:Meets Tryz.prog 15 yw5:=by
 refine mts (SpecsOk.cons wx0 (SpecsOk.cons ww9 (SpecsOk.nil _))) Tryz.func15 (λx=>yf0 x.1 x.2.1) ?_
 rintro⟨m,x,⟨⟩⟩ h
 revert m x
 intro(m:List (List Int)) (x:List Int) (h:x.length<=1000000)
 refine vcs (let Q0:=qd3 m x; let Q1:=qn2 m x; x.length<=(1000000:Nat)/\((q0t m x != (0:Int))=true->Q1.1=[]/\q0t m x=Q1.2/\True)/\((q0t m x != (0:Int))=false->∃(v1:Unit),∃(v2:Nat),Nat.le v2 m.length/\((True/\(0:Int)=(↑v2:Int)/\True)/\List.take v2 Q0=[]/\True)/\∀(v3:Nat),Nat.le v3 m.length->(decide ((↑v3:Int)<(↑m.length:Int))=true->((0:Int)<=(↑v3:Int)/\(↑v3:Int)<(↑m.length:Int))/\w70 (nL m v3) x/\((0:Nat)<List.length [qs0 (nL m v3) x (nL m v3).length]/\Nat.le ((List.take v3 Q0).length+List.length [qs0 (nL m v3) x (nL m v3).length]) (1000000:Nat))/\fits .i64 ((↑v3:Int)+(1:Int))/\∃(v6:Nat),Nat.le v6 m.length/\m.length-v6<m.length-v3/\(True/\(↑v3:Int)+(1:Int)=(↑v6:Int)/\True)/\List.take v3 Q0++[qs0 (nL m v3) x (nL m v3).length]=List.take v6 Q0/\True)/\(decide ((↑v3:Int)<(↑m.length:Int))=false->List.take v3 Q0=Q1.1/\(0:Int)=Q1.2/\True))) ?_
 refine⟨h,λhe=>by grind [qn2],λhe=>?_⟩
 have hS:=Shw.of he
 have hM:=hS.msk
 have h6:=hM.rows6
 have h10:=hM.pix10
 have hlen:(qd3 m x).length=m.length:=by simp[qd3]
 have hR:qn2 m x=(qd3 m x,0):=by grind [qn2]
 rw[hR]
 refine⟨(),0,zae _,⟨rfl,rfl⟩,λk hk=>⟨λhlt=>⟨hlt,hS.dot k hlt,by grind,qa6,k+1,hlt,ow,ow,?_⟩,λhge=>⟨zcs ow,rfl⟩⟩⟩
 grind [w1y,qg5,qd3]
theorem wx1 (m:List (List Int)) (x:List Int):(qn2 m x).2=q0t m x:=by
 grind [qn2]
theorem wx2 {m:List (List Int)} {x:List Int} (h:q0t m x=0):(qn2 m x).1=qd3 m x:=by simp[qn2,h]
def q0u (m:List (List Int)) (s:List Int):List (List Int):=qj8 (qq9 m s)
def wn3 (v:List Int):Nat->Bool
 | 0=>true
 | k+1=>wn3 v k && (nI v k != 0)
def wb7 (m:List (List Int)) (s:List Int):Bool:=decide (s.length≠0) && decide (s.length<=m.length+1)
def q9b (m:List (List Int)) (n:Nat) (s:List Int):List Int:=qg2 n s (nL (q0u m s) 0) s.length
def w74 (m:List (List Int)) (n:Nat) (s:List Int):List Int:=if nI (q9b m n s) (nI s 0).toNat<0 then q83 (q9b m n s) (-1) else q9b m n s
def wx3 (m:List (List Int)) (s:List Int):Bool:=wb7 m s && decide ((q0u m s).length=1) && wn3 (nL (q0u m s) 0) s.length
abbrev Fit:=List Int × List (Int × Int)
def qg0 (m:List (List Int)) (y:List Int) (s:List (List Int)):List Fit:=s.filterMap λpix=>if(qg9 m y pix).2=true then some (qg9 m y pix).1 else none
def qi4 (m:List (List Int)) (y:List Int):Nat->List Fit
 | 0=>[]
 | k+1=>qi4 m y k++qg0 m y (qf2 (nL m 0).length k)
def fitsN (m:List (List Int)) (k:Int):Nat:=(min (min k (nL m 0).length) m.length+1).toNat
def qe0 (m:List (List Int)) (y:List Int) (k:Int):List Fit:=qi4 m y (fitsN m k)
structure q9c (m:List (List Int)) (y:List Int) (k:Int):Prop where
 k0:0<=k
 k1:k<=1000
 one:0<m.length
 rows:m.length<=1000
 pix:(nL m 0).length<=1000
 sets:∀j:Nat,j<fitsN m k->∀s∈qf2 (nL m 0).length j,q4p m s y/\s.length<=100000
abbrev yf1:q1b:=w1o [qc0,tQ] [qq7] (λx=>q9c x.2.1.1 x.2.1.2 x.1) (λx=>(qe0 x.2.1.1 x.2.1.2 x.1).map λf=>(f,()))
def yf2:List AObj:=[.dead,.dead,.dead,.dead,.dead,.dead,.dead,.dead,.dead]
def yf3 (m:List (List Int)) (y:List Int) (k:Int):Nat->Option Inv
 | 0=>some (Eng.Inv.mk Nat Nat [16] 11 (λ_ s=>[(16,.lit (.int .i64 s))]) (λl s=>.cnt (some (qi4 m y s).length) :: .box 187 (.cons (.lit (.func (.yield l) #[] #[])) .nil) :: yf2) (λ_ s=>s<=fitsN m k) (λ_ s=>fitsN m k-s))
 | 1=>some (Eng.Inv.mk (Nat × Nat) Nat [] 11 (λ_ _=>[]) (λq c=>.cnt (some ((qi4 m y q.2).length+(qg0 m y ((qf2 (nL m 0).length q.2).take c)).length)) :: .box 187 (.cons (.lit (.func (.yield q.1) #[] #[])) .nil) :: yf2) (λq c=>c<=(qf2 (nL m 0).length q.2).length) (λ_ c=>c))
 | _=>none
theorem wh3 (m:List (List Int)) (y:List Int) (a:Nat):∀j,∃t,qi4 m y (a+j)=qi4 m y a++t
 | 0=>⟨[],by simp⟩
 | j+1=>by
  obtain⟨t,ht⟩:=wh3 m y a j
  grind [qg0,qf2,nL,Nat.add_assoc,qi4,List.append_assoc]
theorem q1u (m:List (List Int)) (y:List Int) {s:List (List Int)} {c:Nat} {p:List Int} (h:s[c]? = some p):qg0 m y (s.take (c+1))=qg0 m y (s.take c)++if(qg9 m y p).2=true then[(qg9 m y p).1] else[]:=by
 rw[zd5,h]
 unfold qg0
 grind
theorem w75 (m:List (List Int)) (y:List Int) {s:List (List Int)} {c:Nat} {p:List Int} (h:s[c]? = some p) (hf:(qg9 m y p).2=true):∃t,qg0 m y s=qg0 m y (s.take c)++(qg9 m y p).1 :: t:=by
 have e:s=s.take (c+1)++s.drop (c+1):=(List.take_append_drop _ _).symm
 have h1:qg0 m y s=qg0 m y (s.take (c+1))++qg0 m y (s.drop (c+1)):=by
  grind [qg0,List.take_append_drop]
 rw[h1,q1u m y h,zap hf]
 simp
theorem wh4:q02 Tryz.prog 162 yf1:=by
 refine says (yd0 (SpecsOk.cons w7u (SpecsOk.cons xh7 (SpecsOk.cons wh0 (SpecsOk.nil _)))) (ItsOk.cons wg9 ItsOk.nil)) Tryz.func162 rfl rfl rfl [32] (λx=>yf3 x.2.1.1 x.2.1.2 x.1) (λ_=>by kernel_rfl) dc ?_
 rintro⟨k,q,⟨⟩⟩ l h
 revert k q
 intro(k:Int) (q:List (List Int) × List Int) (h:q9c q.1 q.2 k)
 refine vcs (let Q0:=qe0 q.1 q.2 k; let Q1:=(k,q,PUnit.unit); let Q2:=fitsN q.1 k; let Q3:=Int × Int; (0:Nat)<q.1.length/\fits .i64 (max2 false (max2 false k (↑(nL q.1 (0:Nat)).length:Int)) (↑q.1.length:Int)+(1:Int))/\∃(v0:Nat),∃(v1:Nat),Nat.le v1 Q2/\(((0:Int)=(↑v1:Int)/\True)/\some (0:Nat)=some (qi4 q.1 q.2 v1).length/\(Value.func (Fn.yield l) #[] #[]=Value.func (Fn.yield v0) #[] #[]/\True)/\True/\True/\True/\True/\True/\True/\True/\True/\True/\True)/\∀(v2:Nat),Nat.le v2 Q2->(decide ((↑v2:Int)<max2 false (max2 false k (↑(nL q.1 (0:Nat)).length:Int)) (↑q.1.length:Int)+(1:Int))=true->(0:Nat)<q.1.length/\True/\(((0:Ty.den qc0)<=(↑v2:Int)/\(↑v2:Int)<=(1000:Ty.den qc0))/\(0:Ty.den qc0)<=(↑(nL q.1 (0:Nat)).length:Int)/\(↑(nL q.1 (0:Nat)).length:Int)<=(1000:Ty.den qc0))/\∃(v5:Nat × Nat),∃(v6:Nat),Nat.le v6 (qf2 (↑(nL q.1 (0:Nat)).length:Int) (↑v5.2:Int)).length/\v6=(0:Nat)/\(some (qi4 q.1 q.2 v2).length=some ((qi4 q.1 q.2 v5.2).length+(qg0 q.1 q.2 (List.take v6 (qf2 (↑(nL q.1 (0:Nat)).length:Int) (↑v5.2:Int)))).length)/\(Value.func (Fn.yield v0) #[] #[]=Value.func (Fn.yield v5.1) #[] #[]/\True)/\True/\True/\True/\True/\True/\True/\True/\True/\True/\True)/\∀(v7:Nat),Nat.le v7 (qf2 (↑(nL q.1 (0:Nat)).length:Int) (↑v5.2:Int)).length->(∀(v9:List Int × qa3._f [] PUnit.unit),(List.map (λ(v11:List Int)=>(v11,())) (qf2 (↑(nL q.1 (0:Nat)).length:Int) (↑v2:Int)))[v7]?=some v9->∀(v11:q6v),(q4p q.1 (nL [v9.1] (0:Nat)) q.2/\(nL [v9.1] (0:Nat)).length<=(100000:Nat))/\[v9.1]=[v9.1]/\v11=v11/\True/\((qg9 q.1 q.2 (nL [v9.1] (0:Nat))).2=true->Value.func (Fn.yield v5.1) #[] #[]=Value.func (Fn.yield (qh4.l (q08 [qc0,tQ] [qq7] [(32:Nat)] Q1 (List.map (λ(v13:List Int × List Q3)=>(v13,())) Q0) l))) #[] #[]/\(qh4.L (q08 [qc0,tQ] [qq7] [(32:Nat)] Q1 (List.map (λ(v13:List Int × List Q3)=>(v13,())) Q0) l))[(qi4 q.1 q.2 v5.2).length+(qg0 q.1 q.2 (List.take v7 (qf2 (↑(nL q.1 (0:Nat)).length:Int) (↑v5.2:Int)))).length]?=some (((qg9 q.1 q.2 (nL [v9.1] (0:Nat))).1.1,(qg9 q.1 q.2 (nL [v9.1] (0:Nat))).1.2),())/\(∃(v13:Nat),Nat.le v13 (qf2 (↑(nL q.1 (0:Nat)).length:Int) (↑v5.2:Int)).length/\v13=v7+(1:Nat)/\some ((qi4 q.1 q.2 v5.2).length+(qg0 q.1 q.2 (List.take v7 (qf2 (↑(nL q.1 (0:Nat)).length:Int) (↑v5.2:Int)))).length+(1:Nat))=some ((qi4 q.1 q.2 v5.2).length+(qg0 q.1 q.2 (List.take v13 (qf2 (↑(nL q.1 (0:Nat)).length:Int) (↑v5.2:Int)))).length)/\(Value.func (Fn.yield v5.1) #[] #[]=Value.func (Fn.yield v5.1) #[] #[]/\True)/\True/\True/\True/\True/\True/\True/\True/\True/\True/\True)/\True)/\((qg9 q.1 q.2 (nL [v9.1] (0:Nat))).2=false->∃(v13:Nat),Nat.le v13 (qf2 (↑(nL q.1 (0:Nat)).length:Int) (↑v5.2:Int)).length/\v13=v7+(1:Nat)/\some ((qi4 q.1 q.2 v5.2).length+(qg0 q.1 q.2 (List.take v7 (qf2 (↑(nL q.1 (0:Nat)).length:Int) (↑v5.2:Int)))).length)=some ((qi4 q.1 q.2 v5.2).length+(qg0 q.1 q.2 (List.take v13 (qf2 (↑(nL q.1 (0:Nat)).length:Int) (↑v5.2:Int)))).length)/\(Value.func (Fn.yield v5.1) #[] #[]=Value.func (Fn.yield v5.1) #[] #[]/\True)/\True/\True/\True/\True/\True/\True/\True/\True/\True/\True))/\(v7=(List.map (λ(v10:List Int)=>(v10,())) (qf2 (↑(nL q.1 (0:Nat)).length:Int) (↑v2:Int))).length->fits .i64 ((↑v2:Int)+(1:Int))/\∃(v10:Nat),Nat.le v10 Q2/\fitsN q.1 k-v10<fitsN q.1 k-v2/\((↑v2:Int)+(1:Int)=(↑v10:Int)/\True)/\some ((qi4 q.1 q.2 v5.2).length+(qg0 q.1 q.2 (List.take v7 (qf2 (↑(nL q.1 (0:Nat)).length:Int) (↑v5.2:Int)))).length)=some (qi4 q.1 q.2 v10).length/\(Value.func (Fn.yield v5.1) #[] #[]=Value.func (Fn.yield v0) #[] #[]/\True)/\True/\True/\True/\True/\True/\True/\True/\True/\True/\True))/\(decide ((↑v2:Int)<max2 false (max2 false k (↑(nL q.1 (0:Nat)).length:Int)) (↑q.1.length:Int)+(1:Int))=false->(qi4 q.1 q.2 v2).length=(qh4.L (q08 [qc0,tQ] [qq7] [(32:Nat)] Q1 (List.map (λ(v5:List Int × List Q3)=>(v5,())) Q0) l)).length)) ?_
 have hk0:=h.k0
 have hk1:=h.k1
 have hone:=h.one
 have hrows:=h.rows
 have hpix:=h.pix
 have hN:(fitsN q.1 k:Int)=min (min k (nL q.1 0).length) q.1.length+1:=by grind [fitsN]
 have hM:max2 false (max2 false k ((nL q.1 0).length:Int)) (q.1.length:Int)=min (min k (nL q.1 0).length) q.1.length:=rfl
 rw[hM]
 refine⟨hone,qa6,l,0,zae _,⟨rfl,rfl,rfl⟩,λs hs=>⟨λhlt=>?_,λhge=>?_⟩⟩
 ·have hsN:s<fitsN q.1 k:=ow
  refine⟨hone,ow,(l,s),0,zae _,rfl,⟨by rfl,rfl⟩,λc hc=>⟨?_,λhfin=>?_⟩⟩
  ·rintro⟨p,⟨⟩⟩ hp -
   have hp2:(qf2 (nL q.1 0).length s)[c]? = some p:=by
    grind
   have hcl:=(zag.1 hp2).1
   dsimp only
   refine⟨h.sets s hsN p (zah hp2),λhf=>⟨rfl,?_,c+1,hcl,rfl,?_⟩,λhf=>⟨c+1,hcl,rfl,?_⟩⟩
   ·show((qe0 q.1 q.2 k).map λf=>((f,()):qa3 [qq7]))[(qi4 q.1 q.2 s).length+(qg0 q.1 q.2 ((qf2 (nL q.1 0).length s).take c)).length]? = some ((qg9 q.1 q.2 p).1,())
    obtain⟨t,ht⟩:=wh3 q.1 q.2 (s+1) (fitsN q.1 k-(s+1))
    rw[show s+1+(fitsN q.1 k-(s+1))=fitsN q.1 k by omega,qi4] at ht
    obtain⟨t2,ht2⟩:=w75 q.1 q.2 hp2 hf
    rw[zbm]
    simp_all [qe0,List.append_assoc,List.getElem?_append_right,Nat.add_sub_cancel_left,Nat.le_refl,Nat.sub_self]
   ·rw[q1u q.1 q.2 hp2,zap hf,zav]
    rfl
   simp_all [q1u,if_neg,List.append_nil]
  ·rw[zay] at hfin
   refine⟨qa6,s+1,hsN,ow,ow,?_,rfl⟩
   grind [List.take_length,qi4,List.length_append]
 ·have e:s=fitsN q.1 k:=ow
  show(qi4 q.1 q.2 s).length=((qe0 q.1 q.2 k).map λf=>((f,()):qa3 [qq7])).length
  rw[zay,e]
  rfl
def wx4:(ts:List Ty)->qa3 ts->AV
 | [],_=>.nil
 | t :: r,x=>.cons (.imm (qj1 t x.1 .nil) 0) (wx4 r x.2)
theorem q6p:∀(ts:List Ty) (c:AV),Det (qq1 ts c)
 | [],c=>by cases c <;> first | exact qa4 | exact qa7 ()
 | t :: r,c=>by
  cases c <;> first | exact qa4 | skip
  rename_i a rest
  cases a <;> first | exact qa4 | skip
  rename_i cs off
  cases off with
  | succ n=>exact qa4
  | zero=>
   refine λk H=>(qj7 (f:=λx z k=>match z with
    | .nil=>qq1 r rest λy=>k (x,y)
    | _=>False) λx z=>?_) k H
   split
   ·exact qd4 (q6p r rest) λy=>qa7 (x,y)
   ·exact qa4
theorem q9d {P:Program} {m:View}:∀{ts:List Ty} {c:AV} {k:qa3 ts->Prop} {cs:List Value},qq1 ts c k->c.ok P m [] cs->∃x,k x/\(wx4 ts x).ok P m [] cs
 | [],c,k,cs,h,hc=>by
  simp only[qq1] at h
  split at h
  ·exact⟨(),h,hc⟩
  grind
 | t :: r,c,k,cs,h,hc=>by
  simp only[qq1] at h
  split at h
  case h_2=>grind
  rename_i a rest
  obtain⟨u,us,rfl,h1,h2⟩:=hc
  split at h
  case h_2=>grind
  rename_i cells off
  split at h
  case h_2=>grind
  obtain⟨ad,vs,e1,e2,e3⟩:=h1
  obtain⟨x,z,u1,v1,e4,e5,e6,e7⟩:=qv4 h e2
  split at e7
  case h_2=>grind
  obtain rfl:v1=[]:=e6
  rw[zca] at e4
  subst e4
  obtain⟨y,k1,k2⟩:=q9d e7 h2
  refine⟨(x,y),k1,u,us,rfl,⟨ad,vs,e1,?_,e3⟩,k2⟩
  have:=qv3 (P:=P) (ρ:=[]) (r:=.nil) (v:=[]) e5 rfl
  grind
def q9e (F:Nat) (ts:List Ty) (v:AV) (k:qa3 ts->Prop):Prop:=match v with
 | .clo G caps=>match Nat.beq G F with
  | true=>qq1 ts caps k
  | false=>False
 | _=>False
theorem w15 (F:Nat) (ts:List Ty) (v:AV):Det (q9e F ts v):=by
 unfold q9e
 split
 ·split
  all_goals grind [q6p,qa4]
 ·exact qa4
theorem w76 {P:Program} {m:View} {F:Nat} {ts:List Ty} {v:AV} {k:qa3 ts->Prop} {u:Value} (h:q9e F ts v k) (hv:v.ok P m [] [u]):∃x,k x/\(AV.clo F (wx4 ts x)).ok P m [] [u]:=by
 unfold q9e at h
 split at h
 case h_2=>grind
 split at h
 case h_2=>grind
 rename_i hb
 obtain rfl:=zab hb
 obtain⟨cs,e,hc⟩:=hv
 obtain⟨x,k1,k2⟩:=q9d h hc
 exact⟨x,k1,cs,e,k2⟩
def takeC (F:Nat) (ts:List Ty) (c:AV) (k:qa3 ts->Prop):Prop:=match c with
 | .cons v z=>match z with
  | .nil=>q9e F ts v k
  | _=>False
 | _=>False
def x60 (F:Nat) (ts:List Ty):ArgK:=⟨qa3 ts,takeC F ts,λx i=>match i with
 | 0=>.clo F (wx4 ts x)
 | _+1=>.any,1,λc=>by
  unfold takeC
  split
  ·split
   ·exact w15 _ _ _
   ·exact qa4
  ·exact qa4⟩
theorem w4q {P:Program} (F:Nat) (ts:List Ty):(x60 F ts).Ok P:=⟨λ{m c k vs} h hc=>by
 have h:takeC F ts c k:=h
 unfold takeC at h
 split at h
 case h_2=>grind
 split at h
 case h_2=>grind
 obtain⟨u,us,rfl,h1,h2⟩:=hc
 obtain rfl:us=[]:=h2
 obtain⟨x,k1,k2⟩:=w76 h h1
 refine⟨x,k1,rfl,λi=>?_⟩
 cases i with
 | zero=>exact k2
 | succ i=>exact⟨_,rfl⟩⟩
def w4r (F:Nat) (ts:List Ty) (c:AV) (k:qa3 ts->Prop):Prop:=match c with
 | .cons v r=>match v with
  | .lit u=>match isNil u with
   | true=>takeC F ts r k
   | false=>False
  | _=>False
 | _=>False
theorem x06 {u:Value} (h:isNil u=true):u=.slice none 0 0:=by
 unfold isNil at h
 grind
def x4j (F:Nat) (ts:List Ty):ArgK:=⟨qa3 ts,w4r F ts,λx i=>match i with
 | 0=>.lit (.slice none 0 0)
 | 1=>.clo F (wx4 ts x)
 | _+2=>.any,2,λc=>by
  unfold w4r
  split
  ·split
   ·split
    ·exact(x60 F ts).one _
    ·exact qa4
   ·exact qa4
  ·exact qa4⟩
theorem xi2 {P:Program} (F:Nat) (ts:List Ty):(x4j F ts).Ok P:=⟨λ{m c k vs} h hc=>by
 have h:w4r F ts c k:=h
 unfold w4r at h
 split at h
 case h_2=>grind
 split at h
 case h_2=>grind
 split at h
 case h_2=>grind
 rename_i hn
 obtain⟨u,us,rfl,h1,h2⟩:=hc
 obtain⟨x,k1,k2,k3⟩:=(w4q (P:=P) F ts).ok h h2
 refine⟨x,k1,by simp[k2]; rfl,λi=>?_⟩
 match i with
 | 0=>
  rw[x06 hn] at h1
  exact h1
 | 1=>exact k3 0
 | i+2=>exact⟨_,rfl⟩⟩
abbrev yf4:qa8:=wu3 false none [tQ,qc0] (λ_=>True) (λx=>.clo 162 (.cons (.imm (.cons (.lit (.int .i64 x.2.1)) .nil) 0) (.cons (.imm (.cons (.dat (.list (.int .i64)) x.1.1) (.cons (.dat (.int .i64) x.1.2) .nil)) 0) .nil)))
theorem q9f:Meets Tryz.prog 119 yf4:=by
 refine q6j (snd (SpecsOk.nil _)) Tryz.func119 rfl rfl (λ_ _=>none) (λ_=>by kernel_rfl) dc ?_
 rintro⟨q,k,⟨⟩⟩ -
 revert q k
 intro(q:List (List Int) × List Int) (k:Int)
 refine vcr (((k=k/\True)/\(0:Nat)=(0:Nat))/\((q.1=q.1/\q.2=q.2/\True)/\(0:Nat)=(0:Nat))/\True) ?_
 simp
structure qk6 (m:List (List Int)) (y:List Int) (k:Int):Prop where
 pre:q9c m y k
 len:(qe0 m y k).length<=1000000
abbrev y4h:qa8:=q62 (x4j 162 [qc0,tQ]) false (some 55) none (λx=>qk6 x.2.1.1 x.2.1.2 x.1) (λx=>.dat qq7 (qe0 x.2.1.1 x.2.1.2 x.1))
def yw6 (L:List Fit):Nat->Option Inv
 | 0=>some (Inv.of [] 2 (λ_=>[]) (λc:Nat=>[.box 104 (.cons (.own 1) .nil),.vec 55 qq7 (L.take c)]) (λc=>c<=L.length) (λc=>c))
 | _=>none
theorem xi3:Meets Tryz.prog 266 y4h:=by
 refine q6i (yd0 (SpecsOk.nil _) (ItsOk.cons wh4 ItsOk.nil)) Tryz.func266 rfl rfl (xi2 _ _) (λx=>yw6 (qe0 x.2.1.1 x.2.1.2 x.1)) (λ_=>by kernel_rfl) dc ?_
 rintro⟨k,q,⟨⟩⟩ h
 revert k q
 intro(k:Int) (q:List (List Int) × List Int) (h:qk6 q.1 q.2 k)
 refine vcs (let Q0:=qe0 q.1 q.2 k; q9c q.1 q.2 k/\∃(v0:Unit),∃(v1:Nat),Nat.le v1 Q0.length/\v1=(0:Nat)/\((True/\True)/\List.take v1 Q0=[]/\True)/\∀(v2:Nat),Nat.le v2 Q0.length->(∀(v4:(List Int × List (Int × Int)) × qa3._f [] PUnit.unit),(List.map (λ(v6:List Int × List (Int × Int))=>(v6,())) Q0)[v2]?=some v4->((0:Nat)<List.length [(v4.1.1,v4.1.2)]/\Nat.le ((List.take v2 Q0).length+List.length [(v4.1.1,v4.1.2)]) (1000000:Nat))/\∃(v6:Nat),Nat.le v6 Q0.length/\v6=v2+(1:Nat)/\(True/\True)/\List.take v2 Q0++[(v4.1.1,v4.1.2)]=List.take v6 Q0/\True)/\(v2=(List.map (λ(v5:List Int × List (Int × Int))=>(v5,())) Q0).length->List.take v2 Q0=qe0 q.1 q.2 k)) ?_
 refine⟨h.pre,(),0,zae _,rfl,rfl,λc hc=>⟨?_,λhfin=>?_⟩⟩
 ·rintro⟨f,⟨⟩⟩ hf
  rw[zbm] at hf
  obtain⟨f',h1,h2⟩:=zb5.1 hf
  obtain rfl:f'=f:=za2 Prod.fst h2
  have hlt:=(zag.1 h1).1
  have hl:=h.len
  refine⟨by grind,c+1,hlt,rfl,?_⟩
  grind [List.take_add_one]
 grind
abbrev y4i:qa8:=q62 (x60 162 [qc0,tQ]) false (some 55) none (λx=>qk6 x.2.1.1 x.2.1.2 x.1) (λx=>.dat qq7 (qe0 x.2.1.1 x.2.1.2 x.1))
theorem xi4:Meets Tryz.prog 216 y4i:=by
 refine q6i (snd (SpecsOk.cons xi3 (SpecsOk.nil _))) Tryz.func216 rfl rfl (w4q _ _) (λ_ _=>none) (λ_=>by kernel_rfl) dc ?_
 rintro⟨k,q,⟨⟩⟩ h
 revert k q
 intro(k:Int) (q:List (List Int) × List Int) (h:qk6 q.1 q.2 k)
 refine vcr (qk6 q.1 q.2 k/\qe0 q.1 q.2 k=qe0 q.1 q.2 k) ?_
 grind
def qh2 (m:List (List Int)) (y:List Int) (k:Int):List Fit × Int:=if q4q m y k=0 then(qe0 m y k,0) else([],q4q m y k)
abbrev yf5:qa8:=qd9 false none [qf9,qe8,qc0] [w7w,qc0] (λx=>q4q x.1 x.2.1 x.2.2.1=0->qk6 x.1 x.2.1 x.2.2.1) (λx=>((qh2 x.1 x.2.1 x.2.2.1).1,(qh2 x.1 x.2.1 x.2.2.1).2,()))
theorem w17:Meets Tryz.prog 165 yf5:=by
 refine mt0 (SpecsOk.cons ww4 (SpecsOk.cons q9f (SpecsOk.cons xi4 (SpecsOk.nil _)))) Tryz.func165 ?_
 rintro⟨m,y,k,⟨⟩⟩ h
 revert m y k
 intro(m:List (List Int)) (y:List Int) (k:Int) (h:q4q m y k=0->qk6 m y k)
 refine vcs (let Q0:=qh2 m y k; True/\((q4q m y k != (0:Int))=true->Q0.1=[]/\q4q m y k=Q0.2/\True)/\((q4q m y k != (0:Int))=false->True/\qk6 m y k/\qe0 m y k=Q0.1/\(0:Int)=Q0.2/\True)) ?_
 grind [qh2]
theorem xi5 (l:List Fit) (i:Nat) (h:i<l.length):nF l i=l[i]:=qp5 (t:=qq7) l i h
def shB (r:Int × Int):Bool:=r.2==1 && inB r.1 (0-1000000) 1000000
abbrev y4j:qa8:=qd9 true none [qv9] [.bool] (λ_=>True) (λx=>(shB x.1,()))
theorem xi6:Meets Tryz.prog 273 y4j:=by
 refine mt0 (SpecsOk.cons qq4 (SpecsOk.nil _)) Tryz.func273 ?_
 rintro⟨r,⟨⟩⟩ -
 revert r
 intro(r:Int × Int)
 refine vcs (((r.2==(1:Int))=true->True/\inB r.1 (-1000000:Int) (1000000:Int)=shB r)/\((r.2==(1:Int))=false->false=shB r)) ?_
 grind [shB]
def nQ (l:List (Int × Int)) (i:Nat):Int × Int:=qf0 qv9 l i
def whX (n:Nat) (f:Fit):Nat->List Int
 | 0=>List.replicate n 0
 | i+1=>(whX n f i).set (nI f.1 i).toNat (nQ f.2 i).1
def whB (f:Fit):Nat->Bool
 | 0=>true
 | i+1=>whB f i && shB (nQ f.2 i)
theorem q5t (n:Nat) (f:Fit):∀i,(whX n f i).length=n
 | 0=>by simp[whX]
 | i+1=>by rw[whX,zba,q5t n f i]
def whL (n:Nat) (L:List Fit):List (List Int):=L.filterMap λf=>if whB f f.1.length=true then some (whX n f f.1.length) else none
def ql9 (m:List (List Int)) (y:List Int) (k:Int):List (List Int) × Int:=if q4q m y k=0 then(whL (nL m 0).length (qe0 m y k),0) else([],q4q m y k)
structure yw7 (n:Nat) (f:Fit):Prop where
 len:f.2.length=f.1.length
 lenB:f.1.length<=1000
 at_:∀j,j<f.1.length->0<=nI f.1 j/\nI f.1 j<n
structure w18 (m:List (List Int)) (y:List Int) (k:Int):Prop where
 pre:qk6 m y k
 each:∀f∈qe0 m y k,yw7 (nL m 0).length f
theorem x07 (n:Nat) {L:List Fit} {c:Nat} {f:Fit} (h:L[c]? = some f):whL n (L.take (c+1))=whL n (L.take c)++if whB f f.1.length=true then[whX n f f.1.length] else[]:=by
 rw[zd5,h]
 unfold whL
 grind
open Go Go.RowKit Ls Eng
section
variable {P : Program} {Q : Exit -> Act -> World -> Prop}
end
def q04 (P:List Int) (n:Nat):Bool:=P.any λj=>j==(n:Int)
def q64 (n:Nat) (d:List (List Int)) (P:List Int):Nat->List (Int × Int)
 | 0=>List.replicate n (0,1)
 | i+1=>(q64 n d P i).set (nI P i).toNat (q5q (nI (nL d i) n) (nI (nL d i) (nI P i).toNat))
def svD (m:List (List Int)) (pix y:List Int):List (List Int):=(qu9 (qb8 m pix y)).1
def svP (m:List (List Int)) (pix y:List Int):List Int:=(qu9 (qb8 m pix y)).2
def svR (m:List (List Int)) (pix y:List Int):List (Int × Int) × Int × Bool:=if q04 (svP m pix y) pix.length=true then([],0,false) else(q64 pix.length (svD m pix y) (svP m pix y) (svP m pix y).length,(pix.length:Int)-(svP m pix y).length,true)
theorem q4r (n:Nat) (d:List (List Int)) (P:List Int):∀i,(q64 n d P i).length=n
 | 0=>by simp[q64]
 | i+1=>by rw[q64,zba,q4r n d P i]
structure y4k (d:List (List Int)) (P:List Int) (n:Nat):Prop where
 cnt:d.length=P.length
 lenP:P.length<=1000
 each:∀k,k<d.length->(nL d k).length=n+1
 pv:∀k,k<P.length->0<=nI P k/\nI P k<=n
 nz:∀k,k<P.length->nI (nL d k) (nI P k).toNat≠0
 bigD:∀k,k<P.length->qd8 BIG (nI (nL d k) (nI P k).toNat)
 bigN:∀k,k<P.length->qd8 BIG (nI (nL d k) n)
structure y4l (m:List (List Int)) (pix y:List Int):Prop where
 one:0<m.length
 col:yw1 m pix
 pl:pix.length<=1000
 yl:y.length=m.length
 rd:yw2 (qb8 m pix y)
 ar:y4k (svD m pix y) (svP m pix y) pix.length
theorem q9g (m:List (List Int)) (pix y:List Int):(qb8 m pix y).length=m.length:=qr9 _ _ _
theorem qz1 (m:List (List Int)) (pix y:List Int) (k:Nat) (hk:k<m.length):nL (qb8 m pix y) k=nL (qq9 m pix) k++[nI y k]:=by
 grind [qp2,q9g,qo0,qb8,qb3]
open Go Go.RowKit Eng
def svT (m:List (List Int)) (pix y:List Int):List (Int × Int) × Int:=if(svR m pix y).2.2=false then([],8) else if 0<(svR m pix y).2.1 then([],11) else((svR m pix y).1,0)
def yw8 (m:List (List Int)) (pix y:List Int):List (Int × Int) × Int:=if qw0 m y pix=0 then svT m pix y else([],qw0 m y pix)
structure yf6 (m:List (List Int)) (pix y:List Int):Prop where
 fit:x4g m
 len:pix.length<=100000
 ok:qw0 m y pix=0->y4l m pix y
def yf7 (l:List (Int × Int)):Bool:=l.any λr=>r.1==0
def y2g (s:List (Int × Int) × Int) (pix:List Int):Fit × Bool:=if s.2≠0\/yf7 s.1=true then(([],[]),false) else((pix,s.1),true)
def ym3 (m:List (List Int)) (y pix:List Int):Fit × Bool:=y2g (yw8 m pix y) pix
def q7l (m:List (List Int)) (y:List Int) (s:List (List Int)):List Fit:=s.filterMap λpix=>if(ym3 m y pix).2=true then some (ym3 m y pix).1 else none
def x9d (m:List (List Int)) (y:List Int):List Fit:=q7l m y (w7x (nL m 0).length)
structure xi7 (m:List (List Int)) (y:List Int):Prop where
 one:0<m.length
 pix:(nL m 0).length<=7
 each:∀s∈w7x (nL m 0).length,yf6 m s y
theorem wx5 (m:List (List Int)) (y:List Int) (s:List (List Int)):(q7l m y s).length<=s.length:=zd6 _ s
def xi8 (k:Int) (L:List Fit):List Fit:=L.filter λf=>decide ((f.1.length:Int)<=k)
theorem x08 {m:List (List Int)} {y:List Int} (h:xi7 m y):(x9d m y).length<=128:=by
 have h1:=wx5 m y (w7x (nL m 0).length)
 have h2:=(ww6 (n:=(nL m 0).length) (k:=128) h.pix (zac _)).1
 have e:w7x (nL m 0).length=qw4 (nL m 0).length 128:=rfl
 grind [x9d]
def sm:Nat->(Nat->Int)->Int
 | 0,_=>0
 | n+1,f=>sm n f+f n
theorem qe2 {n:Nat} {f g:Nat->Int} (h:∀i,i<n->f i=g i):sm n f=sm n g:=by
 induction n with
 | zero=>rfl
 | succ n ih=>grind [sm]
theorem qm0 {n:Nat} {f:Nat->Int} (h:∀i,i<n->f i=0):sm n f=0:=by
 induction n with
 | zero=>rfl
 | succ n ih=>grind [sm]
theorem q9h (n:Nat) (f g:Nat->Int):sm n (λi=>f i+g i)=sm n f+sm n g:=by
 induction n with
 | zero=>rfl
 | succ n ih=>grind [sm]
theorem x4k (n:Nat) (f g:Nat->Int):sm n (λi=>f i-g i)=sm n f-sm n g:=by
 induction n with
 | zero=>rfl
 | succ n ih=>grind [sm]
theorem qk1 (n:Nat) (c:Int) (f:Nat->Int):sm n (λi=>c*f i)=c*sm n f:=by
 induction n with
 | zero=>simp[sm]
 | succ n ih=>grind [sm,Int.mul_add]
theorem qq6 {n k:Nat} {f:Nat->Int} (hk:k<n) (h:∀i,i<n->i≠k->f i=0):sm n f=f k:=by
 induction n with
 | zero=>omega
 | succ n ih=>
  rw[sm]
  by_cases e:k=n
  ·grind [qm0]
  grind
theorem q6q {n k l:Nat} {f:Nat->Int} (hk:k<n) (hl:l<n) (hkl:k≠l) (h:∀i,i<n->i≠k->i≠l->f i=0):sm n f=f k+f l:=by
 have e:sm n f=sm n (λi=>if i=k then f k else 0)+sm n (λi=>if i=l then f l else 0):=by
  rw[<- q9h]
  refine qe2 λi hi=>?_
  grind
 rw[e,qq6 hk λi _ hne=>zaj hne,qq6 hl λi _ hne=>zaj hne,zap rfl,zap rfl]
theorem x1a {n:Nat} {f:Nat->Int} {B:Nat} (h:∀i,i<n->(f i).natAbs<=B):(sm n f).natAbs<=n*B:=by
 induction n with
 | zero=>simp[sm]
 | succ n ih=>
  grind [sm,Nat.succ_mul]
theorem xi9 (n k:Nat) (f:Nat->Nat->Int):sm n (λi=>sm k (λj=>f i j))=sm k (λj=>sm n (λi=>f i j)):=by
 induction n with
 | zero=>exact(qm0 λ_ _=>rfl).symm
 | succ n ih=>
  simp_all [sm,q9h]
theorem qv1 (n:Nat) (x y:Int) (f g r:Nat->Int):sm n (λb=>(x*f b-y*g b)*r b)=x*sm n (λb=>f b*r b)-y*sm n (λb=>g b*r b):=by
 simp_all [qk1,x4k,qe2,Int.sub_mul,Int.mul_assoc]
theorem q9i:∀(B A:Nat) (f:Nat->Nat),(∀i,i<A->f i<B)->B<A->∃i j,i<j/\j<A/\f i=f j
 | 0,A,f,h,hA=>absurd (h 0 hA) (zau _)
 | B+1,A,f,h,hA=>by
  by_cases hx:∃i,i<A/\f i=B
  ·obtain⟨i0,h0,h1⟩:=hx
   by_cases hy:∃j,j<A/\j≠i0/\f j=B
   ·obtain⟨j,k0,k1,k2⟩:=hy
    rcases Nat.lt_or_gt_of_ne k1 with q | q
    ·exact⟨j,i0,q,h0,ow⟩
    ·exact⟨i0,j,q,k0,ow⟩
   ·have hn:∀j,j<A->j≠i0->f j<B:=λj hj hne=>by
     grind
    obtain⟨i,j,q1,q2,q3⟩:=q9i B (A-1) (λi=>f (if i<i0 then i else i+1)) (λi hi=>hn _ (by grind) (by grind)) ow
    refine⟨if i<i0 then i else i+1,if j<i0 then j else j+1,?_,?_,q3⟩
    all_goals grind
  ·obtain⟨i,j,q1,q2,q3⟩:=q9i B A f (λi hi=>by
    grind) ow
   exact⟨i,j,q1,q2,q3⟩
def dig (b:Nat):Nat->Nat->Nat
 | 0,N=>N % b
 | a+1,N=>dig b a (N / b)
theorem x4l {b:Nat} (hb:0<b):∀a N,dig b a N<b
 | 0,N=>Nat.mod_lt _ hb
 | a+1,N=>x4l hb a (N / b)
theorem xj0 {b:Nat} (hb:0<b):∀(n N M:Nat),N<b ^ n->M<b ^ n->(∀a,a<n->dig b a N=dig b a M)->N=M
 | 0,N,M,h1,h2,_=>by grind
 | n+1,N,M,h1,h2,h=>by
  have h0:=h 0 ow
  have e:=xj0 hb n (N / b) (M / b) (zdk (by grind)) (zdk (by grind)) λa ha=>h (a+1) ow
  have h0:N % b=M % b:=h0
  grind [Nat.div_add_mod]
def q4s (B:Nat):List Nat->Nat
 | []=>0
 | x :: l=>x+B*q4s B l
theorem w4s {B:Nat}:∀(l:List Nat),(∀x∈l,x<B)->q4s B l<B ^ l.length
 | [],_=>by simp[q4s]
 | x :: l,h=>by
  have h1:=w4s l λy hy=>h y (by grind)
  have h2:=h x (by simp)
  rw[q4s,List.length_cons,zdi,zeo (B ^ l.length)]
  calc x+B*q4s B l<B+B*q4s B l:=ow
   _=B*(q4s B l+1):=by grind
   _<=B*B ^ l.length:=zbh (zac _) h1
theorem wx6 {B:Nat} (hB:0<B):∀(l k:List Nat),l.length=k.length->(∀x∈l,x<B)->(∀x∈k,x<B)->q4s B l=q4s B k->l=k
 | [],[],_,_,_,_=>rfl
 | [],_ :: _,h,_,_,_=>by grind
 | _ :: _,[],h,_,_,_=>by grind
 | x :: l,y :: k,h,h1,h2,e=>by
  have hx:=h1 x (by simp)
  have hy:=h2 y (by simp)
  rw[q4s,q4s] at e
  have e1:x=y:=by
   have:=za2 (· % B) e
   grind [Nat.add_mul_mod_self_left,Nat.mod_eq_of_lt]
  subst e1
  have e2:q4s B l=q4s B k:=Nat.eq_of_mul_eq_mul_left hB ow
  rw[wx6 hB l k (by grind) (λz hz=>h1 z (by grind)) (λz hz=>h2 z (by grind)) e2]
def smN:Nat->(Nat->Nat)->Nat
 | 0,_=>0
 | n+1,f=>smN n f+f n
theorem yf8 {n C:Nat} {f:Nat->Nat} (h:∀i,i<n->f i<=C):smN n f<=n*C:=by
 induction n with
 | zero=>simp[smN]
 | succ n ih=>
  grind [smN,Nat.succ_mul]
def lhsN (n C:Nat) (f:Nat->Int) (z:Nat->Nat):Nat:=smN n λa=>if 0<f a then z a else if f a<0 then C-z a else 0
theorem x61 {n C:Nat} {f:Nat->Int} (hf:∀a,a<n->(f a).natAbs<=1) {z y:Nat->Nat} (hz:∀a,a<n->z a<=C) (hy:∀a,a<n->y a<=C):(lhsN n C f z:Int)-(lhsN n C f y:Int)=sm n λa=>f a*((z a:Int)-(y a:Int)):=by
 unfold lhsN
 induction n with
 | zero=>rfl
 | succ n ih=>
  have h1:=ih (λa ha=>hf a ow) (λa ha=>hz a ow) (λa ha=>hy a ow)
  have h2:=hf n ow
  have h3:=hz n ow
  have h4:=hy n ow
  rw[smN,smN,sm,<- h1]
  rcases zcw (f n) 0 with q | q | q
  ·have e:f n=-1:=ow
   grind
  all_goals grind
theorem yf9 {n:Nat} (hn:0<n) (fs:List (Nat->Int)) (hlen:fs.length<n) (h1:∀f∈fs,∀a,a<n->(f a).natAbs<=1):∃z:Nat->Int,(∃a,a<n/\z a≠0)/\(∀a,a<n->(z a).natAbs<=n ^ (n-1))/\∀f∈fs,sm n (λa=>f a*z a)=0:=by
 obtain⟨C,hC⟩:∃C,C=n ^ (n-1):=⟨_,rfl⟩
 have hb:0<C+1:=ow
 let code:Nat->Nat:=λN=>q4s (n*C+1) (fs.map λf=>lhsN n C f λa=>dig (C+1) a N)
 have hdig:∀N a,dig (C+1) a N<=C:=λN a=>by have:=x4l hb a N; omega
 have hl:∀N,∀x∈fs.map (λf=>lhsN n C f λa=>dig (C+1) a N),x<n*C+1:=λN x hx=>by
  obtain⟨f,hf,rfl⟩:=zbk.1 hx
  have:=yf8 (n:=n) (C:=C) (f:=λa=>if 0<f a then dig (C+1) a N else if f a<0 then C-dig (C+1) a N else 0) λi _=>by
   grind
  exact Nat.lt_succ_of_le this
 obtain⟨N,M,hNM,hM,he⟩:=q9i ((n*C+1) ^ fs.length) ((C+1) ^ n) code (λN _=>by
  have:=w4s _ (hl N)
  grind) (by
  calc(n*C+1) ^ fs.length<=(n*C+1) ^ (n-1):=zev ow ow
   _<=(n*(C+1)) ^ (n-1):=Nat.pow_le_pow_left (by grind) _
   _=n ^ (n-1)*(C+1) ^ (n-1):=Nat.mul_pow _ _ _
   _=C*(C+1) ^ (n-1):=by grind
   _<(C+1)*(C+1) ^ (n-1):=Nat.mul_lt_mul_of_pos_right ow (Nat.pow_pos hb)
   _=(C+1) ^ n:=by rw[zeo,<- zdi,show(n-1).succ=n by omega])
 refine⟨λa=>(dig (C+1) a M:Int)-(dig (C+1) a N:Int),zaf λhno=>?_,λa ha=>?_,λf hf=>?_⟩
 ·have:=xj0 hb n N M ow hM λa ha=>by
   grind
  omega
 ·grind
 ·have hll:=wx6 (B:=n*C+1) ow _ _ (by simp) (hl N) (hl M) he
  have hfe:lhsN n C f (λa=>dig (C+1) a N)=lhsN n C f (λa=>dig (C+1) a M):=List.map_inj_left.1 hll f hf
  grind [x61]
structure El (n W:Nat) (R ρ:Nat->Nat->Int) (pv:Nat->Option Nat):Prop where
 comb:∀a,a<n->∃(c:Int) (l:Nat->Int),c≠0/\(∀j,j<W->c*ρ a j=sm n λb=>l b*R b j)/\(∀b,b<n->l b≠0->pv b≠none\/b=a)/\(pv a=none->l a≠0)
 ind:∀ν:Nat->Int,(∀b,b<n->ν b≠0->pv b≠none)->(∀t p,t<n->pv t=some p->(sm n λb=>ν b*R b p)=0)->∀b,b<n->ν b=0
 piv:∀t p,t<n->pv t=some p->p<W/\ρ t p≠0/\∀a,a<n->a≠t->ρ a p=0
theorem El.start {n W:Nat} {R ρ:Nat->Nat->Int} (h:∀a,a<n->∃c:Int,c≠0/\∀j,j<W->c*ρ a j=R a j):El n W R ρ (λ_=>none):=by
 refine⟨λa ha=>?_,fun ν h1 _ b hb=>?_,λt p _ h=>by cases h⟩
 ·obtain⟨c,hc,h1⟩:=h a ha
  refine⟨c,λb=>if b=a then 1 else 0,hc,λj hj=>?_,λb _ hb=>?_,λ_=>by simp⟩
  ·rw[h1 j hj,qq6 ha λi _ hne=>by grind]
   simp
  grind
 grind
theorem q05 {a b:Int} (ha:a≠0) (hb:b≠0):a*b≠0:=λh=>(Int.mul_eq_zero.1 h).elim ha hb
theorem qc9 {a b:Int} (h:a*b=0) (ha:a≠0):b=0:=(Int.mul_eq_zero.1 h).resolve_left ha
theorem El.step {n W:Nat} {R ρ ρ':Nat->Nat->Int} {pv:Nat->Option Nat} {t0 j:Nat} (h:El n W R ρ pv) (ht:t0<n) (hp:pv t0=none) (hj:j<W) (hx:ρ t0 j≠0)
  (hT:∃s:Int,s≠0/\∀c,c<W->ρ' t0 c=s*ρ t0 c) (hO:∀a,a<n->a≠t0->ρ' a j=0/\∃α β γ:Int,α≠0/\β≠0/\∀c,c<W->α*ρ' a c=β*ρ a c-γ*ρ' t0 c) :
  El n W R ρ' (λb=>if b=t0 then some j else pv b):=by
 obtain⟨s,hs,hsT⟩:=hT
 obtain⟨c0,l0,hc0,hl0,hs0,hn0⟩:=h.comb t0 ht
 have hn0:=hn0 hp
 have hpv:∀b,(if b=t0 then some j else pv b)≠none↔(pv b≠none\/b=t0):=λb=>by
  grind
 refine⟨λa ha=>?_,fun ν h1 h2=>?_,λt p htn htp=>?_⟩
 ·by_cases e:a=t0
  ·subst e
   refine⟨c0,λb=>s*l0 b,hc0,λc hc=>?_,λb hb hne=>(hs0 b hb λq=>hne (by grind)).imp (λq=>(hpv b).2 (.inl q)) id,λq=>absurd q (by simp)⟩
   have e1:(sm n λb=>s*l0 b*R b c)=s*sm n (λb=>l0 b*R b c):=by grind [qk1,qe2,Int.mul_assoc]
   grind
  ·obtain⟨hz,α,β,γ,hα,hβ,hrel⟩:=hO a ha e
   obtain⟨ca,la,hca,hla,hsa,hna⟩:=h.comb a ha
   refine⟨ca*c0*α,λb=>c0*β*la b-ca*γ*s*l0 b,q05 (q05 hca hc0) hα,λc hc=>?_,λb hb hne=>?_,λq=>?_⟩
   ·rw[qv1 n (c0*β) (ca*γ*s) la l0 (λb=>R b c),<- hla c hc,<- hl0 c hc]
    grind
   ·grind
   ·have hpa:pv a=none:=by
     grind
    have h0:l0 a=0:=zaf λk=>by
     grind
    simp_all
 ·-- independent
  have hcol:∀p,(sm n λb=>ν b*R b p)=0->(sm n λb=>(l0 t0*ν b-ν t0*l0 b)*R b p)=- (ν t0*sm n λb=>l0 b*R b p):=λp hp=>by
   simp_all [qv1]
  have h2':∀t p,t<n->(if t=t0 then some j else pv t)=some p->(sm n λb=>ν b*R b p)=0:=h2
  have hz:=h.ind (λb=>l0 t0*ν b-ν t0*l0 b) (λb hb hne=>by
   grind) (λt p htn htp=>by
   have hne:t≠t0:=λe=>by grind
   have hR:=h2' t p htn (by grind)
   obtain⟨hpW,_,hpa⟩:=h.piv t p htn htp
   rw[hcol p hR,<- hl0 p hpW,hpa t0 ht (zdn hne)]
   simp)
  have h0:ν t0=0:=by
   have hR:=h2' t0 j ht (zap rfl)
   have e1:=hcol j hR
   grind [sm,qm0,qc9,q05]
  grind [qc9]
 ·by_cases e:t=t0
  ·simp_all
  ·rw[zaj e] at htp
   obtain⟨hpW,hpt,hpa⟩:=h.piv t p htn htp
   have h0:ρ' t0 p=0:=by grind
   grind [q05,qc9]
def yg0 (W:Nat) (r0 r:Nat->Int):Prop:=(∃s:Int,(s=1\/s=-1)/\∀c,c<W->r c=s*r0 c)\/(∀c,c<W->r c=0)\/∀d:Nat,(∀c,c<W->d∣(r c).natAbs)->d=1
theorem wx7 {W:Nat} {r s:Nat->Int} {α β:Int} (hα:α≠0) (h:∀c,c<W->α*r c=β*s c) (hp:∀d:Nat,(∀c,c<W->d∣(r c).natAbs)->d=1):∀c,c<W->(r c).natAbs<=(s c).natAbs:=by
 have hg:0<Nat.gcd α.natAbs β.natAbs:=Nat.gcd_pos_of_pos_left _ ow
 obtain⟨a',ha'⟩:=zby α.natAbs β.natAbs
 obtain⟨b',hb'⟩:=zb0 α.natAbs β.natAbs
 have hco:Nat.Coprime b' a':=by
  have:=zdp hg
  grind [Nat.gcd,Nat.mul_div_cancel_left]
 have habs:∀c,c<W->a' * (r c).natAbs=b' * (s c).natAbs:=λc hc=>by
  have h1:=za2 Int.natAbs (h c hc)
  grind [Int.natAbs_mul,Nat.gcd,Nat.mul_assoc,Nat.eq_of_mul_eq_mul_left]
 have hb1:b'=1:=hp b' λc hc=>hco.dvd_of_dvd_mul_left ⟨_,habs c hc⟩
 have ha1:0<a':=by
  grind
 intro c hc
 have h1:=habs c hc
 rw[hb1,zdq] at h1
 rw[<- h1]
 exact zei _ ha1
theorem El.bound {n W:Nat} {R ρ:Nat->Nat->Int} {pv:Nat->Option Nat} (h:El n W R ρ pv) (hone:∀t p,t<n->pv t=some p->∀b,b<n->(R b p).natAbs<=1) {a:Nat} (ha:a<n) (hnice:yg0 W (R a) (ρ a)) {B:Nat} {c:Nat} (hc:c<W) (hB:∀b,b<n->(R b c).natAbs<=B):(ρ a c).natAbs<=n ^ n*B:=by
 have hn:0<n:=ow
 have hpw:1<=n ^ n:=Nat.pow_pos hn
 rcases hnice with⟨s,hs,hr⟩ | hr | hr
 ·rw[hr c hc,zbp]
  have h1:=hB a ha
  have h2:s.natAbs=1:=ow
  rw[h2,zdq]
  exact zam h1 (zei _ hpw)
 ·rw[hr c hc]; simp
 -- few equations
 obtain⟨l,hl⟩:∃form:Nat->Nat->Int,∀b,form b=(match pv b with
  | some p=>λx=>R x p
  | none=>λx=>if x=b then 1 else 0):=⟨_,λ_=>rfl⟩
 obtain⟨z,⟨a0,ha0,hza⟩,hzb,hze⟩:=yf9 hn (((List.range n).erase a).map l) (by
  grind) (λf hf x hx=>by
  grind)
 have heq:∀b,b<n->b≠a->sm n (λx=>l b x*z x)=0:=λb hb hne=>hze (l b) (zbk.2 ⟨b,(List.mem_erase_of_ne hne).2 (za4.2 hb),rfl⟩)
 have hcol:∀t p,t<n->t≠a->pv t=some p->(sm n λb=>z b*R b p)=0:=λt p ht hne htp=>by
  grind
 have hnul:∀b,b<n->b≠a->pv b=none->z b=0:=λb hb hne hpb=>by
  grind [qq6]
 obtain⟨c1,la,hc1,hla,hsa,hna⟩:=h.comb a ha
 obtain⟨s,hs⟩:∃s:Nat->Int,s=λc=>sm n λb=>z b*R b c:=⟨_,rfl⟩
 have hpar:∃α β:Int,α≠0/\∀c,c<W->α*ρ a c=β*s c:=by
  cases hpa:pv a with
  | none=>
   have hz:=h.ind (λb=>z a*la b-la a*z b) (λb hb hne hpb=>by
    grind) (λt p ht htp=>by
    have hne:t≠a:=λe=>by grind
    obtain⟨hpW,_,hp0⟩:=h.piv t p ht htp
    rw[qv1 n (z a) (la a) la z (λb=>R b p),<- hla p hpW,hcol t p ht hne htp,hp0 a ha (zdn hne)]
    simp)
   have hza0:z a≠0:=λq=>by
    grind [qc9]
   refine⟨z a*c1,la a,q05 hza0 hc1,λc hc=>?_⟩
   have e1:(sm n λb=>(z a*la b-la a*z b)*R b c)=0:=qm0 λb hb=>by grind
   rw[qv1 n (z a) (la a) la z (λb=>R b c),<- hla c hc] at e1
   grind
  | some p=>
   obtain⟨hpW,hpa0,hp0⟩:=h.piv a p ha hpa
   have hz:=h.ind (λb=>(c1*ρ a p)*z b-s p*la b) (λb hb hne hpb=>by
    grind) (λt q ht htq=>by
    obtain⟨hqW,_,hq0⟩:=h.piv t q ht htq
    rw[qv1 n (c1*ρ a p) (s p) z la (λb=>R b q),<- hla q hqW]
    by_cases e:t=a
    ·subst e
     rw[hpa] at htq
     obtain rfl:=zaa htq
     rw[hs]
     grind
    grind)
   have he:s p≠0:=λq=>by
    grind [qc9,q05]
   refine⟨s p*c1,c1*ρ a p,q05 he hc1,λc hc=>?_⟩
   have e1:(sm n λb=>((c1*ρ a p)*z b-s p*la b)*R b c)=0:=qm0 λb hb=>by grind
   rw[qv1 n (c1*ρ a p) (s p) z la (λb=>R b c),<- hla c hc] at e1
   grind
 obtain⟨α,β,hα,hab⟩:=hpar
 have h1:=wx7 hα hab hr c hc
 have h2:(s c).natAbs<=n*(n ^ (n-1)*B):=by
  rw[hs]
  refine x1a λb hb=>?_
  rw[zbp]
  exact zbh (hzb b hb) (hB b hb)
 have h3:n*(n ^ (n-1)*B)=n ^ n*B:=by
  rw[<- Nat.mul_assoc,zeo n,<- zdi,show(n-1).succ=n by omega]
 omega
def dt (W:Nat) (r:List Int) (z:Nat->Int):Int:=sm W λc=>nI r c*z c
theorem w4t {W:Nat} {r' r p:List Int} {z:Nat->Int} {α β γ:Int} (h:∀c,c<W->α*nI r' c=β*nI r c-γ*nI p c):α*dt W r' z=β*dt W r z-γ*dt W p z:=by
 unfold dt
 rw[<- qk1,<- qk1,<- qk1,<- x4k]
 grind [qe2,Int.mul_assoc,Int.sub_mul]
theorem qk2 (P:List Int) (x:Int) {q:Nat} (h:q<P.length):nI (P++[x]) q=nI P q:=by
 grind [qg5,List.length_append,List.getElem_append_left]
theorem qn3 (P:List Int) (x:Int):nI (P++[x]) P.length=x:=by
 simp_all [qg5,List.length_append,Nat.lt_succ_self,List.getElem_append_right,Nat.le_refl]
theorem q4t {a x:Int} (ha:0<a) (h:0<a*x):0<x:=Int.lt_of_mul_lt_mul_left (a:=a) ow ow
structure Elm (W j:Nat) (r' r p:List Int):Prop where
 zero:nI r' j=0
 rel:∃α β γ:Int,0<α/\0<β/\∀c,c<W->α*nI r' c=β*nI r c-γ*nI p c
 nice:∀f,yg0 W f (nI r)->yg0 W f (nI r')
structure St (n W:Nat) (R:Nat->Nat->Int) (j:Nat) (rows:List (List Int)) (P:List Int):Prop where
 len:rows.length=n
 each:∀i,i<n->(nL rows i).length=W
 tag:∃(ρ:Nat->Nat->Int) (pv:Nat->Option Nat) (τ:Nat->Nat),El n W R ρ pv/\(∀i,i<n->τ i<n)/\(∀i k,i<n->k<n->τ i=τ k->i=k)/\(∀a,a<n->∃i,i<n/\τ i=a)/\(∀i,i<n->∀c,c<W->ρ (τ i) c=nI (nL rows i) c)/\(∀q,q<n->pv (τ q)=if q<P.length then some (nI P q).toNat else none)/\∀i,i<n->yg0 W (R (τ i)) (nI (nL rows i))
 sol:∀z:Nat->Int,(∀a,a<n->(sm W λc=>R a c*z c)=0)↔∀i,i<n->dt W (nL rows i) z=0
 pl:P.length<=n
 zero:∀i,P.length<=i->i<n->∀c,c<j->nI (nL rows i) c=0
 pos:∀q,q<P.length->0<=nI P q/\nI P q<j/\0<nI (nL rows q) (nI P q).toNat/\(∀c,c<(nI P q).toNat->nI (nL rows q) c=0)/\∀i,i<n->i≠q->nI (nL rows i) (nI P q).toNat=0
 asc:∀q k,q<k->k<P.length->nI P q<nI P k
theorem St.skip {n W:Nat} {R:Nat->Nat->Int} {j:Nat} {rows:List (List Int)} {P:List Int} (h:St n W R j rows P) (hz:∀i,P.length<=i->i<n->nI (nL rows i) j=0):St n W R (j+1) rows P:=by
 refine⟨h.len,h.each,h.tag,h.sol,h.pl,λi h1 h2 c hc=>?_,λq hq=>?_,h.asc⟩
 ·rcases zaw.1 hc with e | e
  ·exact h.zero i h1 h2 c e
  grind
 ·obtain⟨q1,q2,q3,q4,q5⟩:=h.pos q hq
  grind
theorem St.step {n W:Nat} {R:Nat->Nat->Int} {j:Nat} {rows rows':List (List Int)} {P:List Int} (h:St n W R j rows P) (hj:j<W) (hk:P.length<n) (hlen:rows'.length=n) (heach:∀i,i<n->(nL rows' i).length=W)
  (π:Nat->Nat) (hπ:∀i,i<n->π i<n) (hinj:∀i k,i<n->k<n->π i=π k->i=k) (hsur:∀i,i<n->∃k,k<n/\π k=i) (hfix:∀i,i<P.length->π i=i)
  (hx:∃s:Int,(s=1\/s=-1)/\∀c,c<W->nI (nL rows' P.length) c=s*nI (nL rows (π P.length)) c) (hpos:0<nI (nL rows' P.length) j)
  (ho:∀i,i<n->i≠P.length->Elm W j (nL rows' i) (nL rows (π i)) (nL rows' P.length)):St n W R (j+1) rows' (P++[(j:Int)]):=by
 obtain⟨s,hs,hsx⟩:=hx
 have hs0:s≠0:=by rcases hs with rfl | rfl <;> decide
 have hge:∀i,P.length<=i->i<n->P.length<=π i:=λi h1 h2=>by
  rcases zas (π i) P.length with e | e
  ·have:=hinj (π i) i (hπ i h2) h2 (hfix _ e)
   omega
  ·exact e
 have hnx:nI (nL rows (π P.length)) j≠0:=λe=>by
  have:=hsx j hj
  rw[e,zbl] at this
  omega
 have hpk:∀c,c<j->nI (nL rows' P.length) c=0:=λc hc=>by
  rw[hsx c ow,h.zero _ (hge _ (zac _) hk) (hπ _ hk) c hc,zbl]
 have hpz:∀q,q<P.length->nI (nL rows' P.length) (nI P q).toNat=0:=λq hq=>by
  have:=h.pos q hq
  exact hpk _ ow
 obtain⟨ρ,pv,τ,hE,t1,t2,t3,t4,t5,t6⟩:=h.tag
 have hsur2:∀a,∃i,a<n->i<n/\τ (π i)=a:=λa=>by
  by_cases ha:a<n
  ·obtain⟨i,hi,e⟩:=t3 a ha
   obtain⟨k,hk,e2⟩:=hsur i hi
   exact⟨k,λ_=>⟨hk,by rw[e2,e]⟩⟩
  ·exact⟨0,λq=>absurd q ha⟩
 obtain⟨σ,hσ⟩:=zbo hsur2
 have hστ:∀i,i<n->σ (τ (π i))=i:=λi hi=>by
  obtain⟨q1,q2⟩:=hσ (τ (π i)) (t1 _ (hπ i hi))
  exact hinj _ _ q1 hi (t2 _ _ (hπ _ q1) (hπ _ hi) q2)
 refine⟨hlen,heach,⟨λa c=>nI (nL rows' (σ a)) c,λb=>if b=τ (π P.length) then some j else pv b,λi=>τ (π i),?_,λi hi=>t1 _ (hπ i hi),λi k hi hk e=>hinj _ _ hi hk (t2 _ _ (hπ i hi) (hπ k hk) e),λa ha=>⟨σ a,hσ a ha⟩,λi hi c hc=>by dsimp only; rw[hστ i hi],λq hq=>?_,λi hi=>?_⟩,λz=>?_,by rw[zav]; exact hk,λi h1 h2 c hc=>?_,λq hq=>?_,λq k h1 h2=>?_⟩
 ·refine hE.step (t1 _ (hπ _ hk)) ?_ hj ?_ ⟨s,hs0,λc hc=>?_⟩ λa ha hne=>?_
  ·rw[t5 _ (hπ _ hk),zaj (Nat.not_lt.2 (hge _ (zac _) hk))]
  ·rw[t4 _ (hπ _ hk) j hj]; exact hnx
  ·try dsimp only
   rw[hστ _ hk,hsx c hc,t4 _ (hπ _ hk) c hc]
  ·obtain⟨q1,q2⟩:=hσ a ha
   have hne2:σ a≠P.length:=λe=>hne (by rw[<- q2,e])
   have hel:=ho _ q1 hne2
   refine⟨hel.zero,?_⟩
   obtain⟨α,β,γ,hα,hβ,hr⟩:=hel.rel
   refine⟨α,β,γ,ow,ow,λc hc=>?_⟩
   try dsimp only
   rw[hστ _ hk,hr c hc]
   have:=t4 _ (hπ _ q1) c hc
   rw[q2] at this
   rw[this]
 ·dsimp only
  by_cases e:q=P.length
  ·subst e
   rw[zap rfl,zap (by rw[zav]; exact zed _),qn3]
   rfl
  ·rw[zaj λq2=>e (hinj _ _ hq hk (t2 _ _ (hπ _ hq) (hπ _ hk) q2)),t5 _ (hπ _ hq),zav]
   rcases zas q P.length with e2 | e2
   ·rw[hfix _ e2,zap e2,zap ow,qk2 _ _ e2]
   ·rw[zaj (Nat.not_lt.2 (hge _ e2 hq)),zaj (by simp; omega)]
 ·dsimp only
  by_cases e:i=P.length
  ·subst e
   rcases t6 _ (hπ _ hi) with⟨u,hu,hr⟩ | hr | hr
   ·refine .inl ⟨s*u,?_,λc hc=>by rw[hsx c hc,hr c hc,ze1]⟩
    rcases hs with rfl | rfl <;> rcases hu with rfl | rfl <;> simp
   ·exact .inr (.inl λc hc=>by rw[hsx c hc,hr c hc,zbl])
   ·refine .inr (.inr λd hd=>hr d λc hc=>?_)
    have:=hd c hc
    rw[hsx c hc,zbp] at this
    have h1:s.natAbs=1:=by rcases hs with rfl | rfl <;> rfl
    rwa [h1,zdq] at this
  ·exact(ho i hi e).nice _ (t6 _ (hπ _ hi))
 ·rw[h.sol z]
  have hdk:dt W (nL rows' P.length) z=s*dt W (nL rows (π P.length)) z:=by
   have:=w4t (W:=W) (r':=nL rows' P.length) (r:=nL rows (π P.length)) (p:=[]) (z:=z) (α:=1) (β:=s) (γ:=0) λc hc=>by rw[hsx c hc]; simp
   simpa using this
  constructor
  ·intro hz i hi
   have hzk:dt W (nL rows' P.length) z=0:=by rw[hdk,hz _ (hπ _ hk),zbl]
   by_cases e:i=P.length
   ·rw[e]; exact hzk
   ·obtain⟨α,β,γ,hα,hβ,hr⟩:=(ho i hi e).rel
    have:=w4t (z:=z) hr
    rw[hzk,hz _ (hπ _ hi),zbl,zbl] at this
    exact qc9 ow (show α≠0 by omega)
  ·intro hz i' hi'
   obtain⟨i,hi,rfl⟩:=hsur i' hi'
   by_cases e:i=P.length
   ·have:=hz _ hk
    rw[hdk] at this
    rw[e]
    exact qc9 this hs0
   ·obtain⟨α,β,γ,hα,hβ,hr⟩:=(ho i hi e).rel
    have:=w4t (z:=z) hr
    rw[hz _ hk,hz _ hi,zbl,zbl] at this
    exact qc9 (a:=β) ow ow
 ·rw[zav] at h1
  have h1:P.length+1<=i:=h1
  have hel:=ho i h2 ow
  rcases zaw.1 hc with e | e
  ·obtain⟨α,β,γ,hα,hβ,hr⟩:=hel.rel
   have:=hr c ow
   rw[hpk c e,h.zero _ (hge _ ow h2) (hπ _ h2) c e] at this
   exact qc9 (a:=α) (by simpa using this) ow
  ·rw[e]; exact hel.zero
 ·rw[zav] at hq
  have hq:q<P.length+1:=hq
  rcases zaw.1 hq with e | e
  ·rw[qk2 _ _ e]
   obtain⟨q1,q2,q3,q4,q5⟩:=h.pos q e
   have hel:=ho q ow ow
   obtain⟨α,β,γ,hα,hβ,hr⟩:=hel.rel
   refine⟨q1,ow,q4t hα ?_,λc hc=>?_,λi hi hne=>?_⟩
   ·rw[hr _ ow,hpz q e,hfix _ e,zbl,Int.sub_zero]
    exact zcc hβ q3
   ·have:=hr c ow
    rw[hpk c ow,hfix _ e,q4 c hc] at this
    exact qc9 (a:=α) (by simpa using this) ow
   ·by_cases e3:i=P.length
    ·rw[e3]; exact hpz q e
    ·obtain⟨α,β,γ,hα,hβ,hr⟩:=(ho i hi e3).rel
     have:=hr (nI P q).toNat ow
     rw[hpz q e,q5 (π i) (hπ _ hi) λe4=>hne (hinj _ _ hi ow (by rw[e4,hfix _ e]))] at this
     exact qc9 (a:=α) (by simpa using this) ow
  ·subst e
   rw[qn3]
   refine⟨ow,ow,hpos,λc hc=>hpk c hc,λi hi hne=>(ho i hi hne).zero⟩
 ·rw[zav] at h2
  have h2:k<P.length+1:=h2
  rcases zaw.1 h2 with e | e
  ·rw[qk2 _ _ e,qk2 _ _ ow]; exact h.asc q k h1 e
  ·subst e
   rw[qn3,qk2 _ _ h1]
   have:=h.pos q h1
   omega
theorem St.bound {n W:Nat} {R:Nat->Nat->Int} {j:Nat} {rows:List (List Int)} {P:List Int} (h:St n W R j rows P) (hone:∀a c,a<n->c<j->(R a c).natAbs<=1) {i c B:Nat} (hi:i<n) (hc:c<W) (hB:∀b,b<n->(R b c).natAbs<=B):(nI (nL rows i) c).natAbs<=n ^ n*B:=by
 obtain⟨ρ,pv,τ,hE,t1,t2,t3,t4,t5,t6⟩:=h.tag
 rw[<- t4 i hi c hc]
 refine hE.bound (λt p ht hp b hb=>?_) (t1 i hi) ?_ hc hB
 ·obtain⟨q,hq,rfl⟩:=t3 t ht
  rw[t5 q hq] at hp
  split at hp
  ·rename_i hqP
   obtain rfl:=zaa hp
   have:=h.pos q hqP
   exact hone b _ hb ow
  ·cases hp
 ·rcases t6 i hi with⟨s,hs,hr⟩ | hr | hr
  ·exact .inl ⟨s,hs,λc hc=>by rw[t4 i hi c hc]; exact hr c hc⟩
  ·exact .inr (.inl λc hc=>by rw[t4 i hi c hc]; exact hr c hc)
  ·exact .inr (.inr λd hd=>hr d λc hc=>by rw[<- t4 i hi c hc]; exact hd c hc)
theorem wn4 (l:List Int) {c:Nat} (h:l.length<=c):nI l c=0:=by
 unfold nI qf0
 simp[List.getElem?_eq_none h]
 rfl
theorem xj1 {l:List Int} {f:Int->Int} {c:Nat} (h:c<l.length):nI (l.map f) c=f (nI l c):=by
 grind [qg5]
theorem q9j {l:List Int} {c:Nat} (h:c<l.length):nI l c∈l:=by grind [qg5,List.getElem_mem]
theorem q9k {l:List Int} {x:Int} (h:x∈l):∃c,c<l.length/\x=nI l c:=by
 obtain⟨c,hc,rfl⟩:=za6.1 h
 exact⟨c,hc,(qg5 l c hc).symm⟩
theorem xj2 (a b:Int):(gcdI a b).natAbs=Nat.gcd a.natAbs b.natAbs:=rfl
theorem yg1:∀(l:List Int) (a:Int),(l.foldl gcdI a).natAbs∣a.natAbs/\(∀x∈l,(l.foldl gcdI a).natAbs∣x.natAbs)/\∀d:Nat,d∣a.natAbs->(∀x∈l,d∣x.natAbs)->d∣(l.foldl gcdI a).natAbs
 | [],a=>⟨ze2 _,λx hx=>(by grind),λd h _=>h⟩
 | y :: l,a=>by
  obtain⟨h1,h2,h3⟩:=yg1 l (gcdI a y)
  rw[List.foldl_cons]
  rw[xj2] at h1 h3
  refine⟨Nat.dvd_trans h1 (zby _ _),λx hx=>?_,λd ha hx=>h3 d (Nat.dvd_gcd ha (hx y (by simp))) λx hx'=>hx x (by grind)⟩
  rcases zat.1 hx with rfl | hx
  all_goals grind [Nat.dvd_trans,Nat.gcd_dvd_right]
theorem q9l:∀(l:List Int) (a:Int),0<=a->0<=l.foldl gcdI a
 | [],a,h=>h
 | y :: l,a,_=>q9l l _ (q8n _ _)
theorem q3r (l:List Int):0<=gcdL l:=q9l l 0 dc
theorem q6r (l:List Int):qe6 l=qt9 l:=by
 have h0:=q3r l
 unfold qe6 qt9
 split
 ·grind
 simp_all [max,gcdL]
theorem qz2 (l:List Int) {c:Nat} (hc:c<l.length):max (gcdL l) 1*nI (qt9 l) c=nI l c:=by
 have h0:=q3r l
 unfold qt9
 rw[xj1 hc]
 apply zbb
 rcases zc3 0 (gcdL l) with h | h
 ·grind [max,gcdL,Int.natAbs_dvd_natAbs,yg1,q9j]
 ·rw[show max (gcdL l) 1=1 by omega]
  simp
def Prim (l:List Int):Prop:=(∀c,c<l.length->nI l c=0)\/∀d:Nat,(∀c,c<l.length->d∣(nI l c).natAbs)->d=1
theorem qp0 (l:List Int):Prim (qt9 l):=by
 have h0:=q3r l
 unfold Prim
 rw[qw3]
 rcases zc3 0 (gcdL l) with h | h
 ·refine .inr λd hd=>?_
  have hm:max (gcdL l) 1=gcdL l:=ow
  have h1:(gcdL l).natAbs*d∣(gcdL l).natAbs:=(yg1 l 0).2.2 _ (Nat.dvd_zero _) λx hx=>by
   obtain⟨c,hc,rfl⟩:=q9k hx
   grind [qz2,Int.natAbs_mul,Nat.mul_dvd_mul_left]
  have h2:(gcdL l).natAbs*d∣(gcdL l).natAbs*1:=by grind
  exact Nat.dvd_one.1 (Nat.dvd_of_mul_dvd_mul_left ow h2)
 ·refine .inl λc hc=>?_
  have h1:nI l c=0:=by
   have:=(yg1 l 0).2.1 _ (q9j hc)
   have e:(l.foldl gcdI 0).natAbs=0:=by
    grind [gcdL]
   simp_all
  have:=qz2 l hc
  grind
theorem Prim.nice {l:List Int} {W:Nat} (h:Prim l) (hl:l.length=W) (f:Nat->Int):yg0 W f (nI l):=by
 subst hl
 exact .inr (h.imp id id)
theorem x1b (l:List Int) (c:Nat):(nI (qt9 l) c).natAbs<=(nI l c).natAbs:=by
 rcases zas c l.length with h | h
 ·unfold qt9
  rw[xj1 h,zcm]; exact zen _ _
 grind [wn4,qw3]
theorem x4m {W j:Nat} {u r p:List Int} {β γ:Int} (hj:j<W) (hu:u.length=W) (h0:nI u j=0) (hβ:0<β) (h:∀c,c<W->nI u c=β*nI r c-γ*nI p c):Elm W j (qt9 u) r p:=by
 subst hu
 have hG:0<max (gcdL u) 1:=ow
 refine⟨?_,⟨max (gcdL u) 1,β,γ,hG,hβ,λc hc=>by grind [qz2]⟩,λf _=>(qp0 u).nice (qw3 u) f⟩
 grind [qz2,qc9]
theorem x1c {W j:Nat} {r p:List Int} (h0:nI r j=0):Elm W j r r p:=⟨h0,⟨1,1,0,dc,dc,λc _=>by simp⟩,λ_ h=>h⟩
theorem xj3 (r b:List Int) (j:Nat) {c:Nat} (hc:c<r.length):nI (q6l r b j) c=x9c r b j c:=by
 grind [qg5,q2m,q6l]
theorem xj4 {W j:Nat} {r p:List Int} (hj:j<W) (hr:r.length=W) (hp:0<nI p j):Elm W j (qy7 r p j) r p:=by
 have hg:0<gcdI (nI r j) (nI p j):=qn9 (.inr ow)
 have e1:gcdI (nI r j) (nI p j)*q1 r p j=nI p j:=zbb (za9.1 (zb0 _ _))
 have e2:gcdI (nI r j) (nI p j)*q2 r p j=nI r j:=zbb (za9.1 (zby _ _))
 unfold qy7
 rw[q6r]
 refine x4m (β:=q1 r p j) (γ:=q2 r p j) hj (by grind [q2m]) ?_ (q4t hg ow) λc hc=>?_
 all_goals grind [xj3,x9c,nI,q1,q2,gcdI]
theorem w4u (r p:List Int) (j:Nat) {c:Nat} (hc:c<r.length):nI (w11 r p j) c=nI r c*nI p j-nI p c*nI r j:=by
 grind [qg5,w11]
theorem xj5 (r p:List Int) (j:Nat):(w11 r p j).length=r.length:=by simp[w11]
theorem q9m {W j:Nat} {r p:List Int} (hj:j<W) (hr:r.length=W) (hp:0<nI p j):Elm W j (qi3 r p j) r p:=by
 unfold qi3
 refine x4m (β:=nI p j) (γ:=nI r j) hj (by grind [xj5]) ?_ hp λc hc=>?_
 all_goals grind [w4u]
structure Mat (n W:Nat) (M:List (List Int)):Prop where
 len:M.length=n
 each:∀i,i<n->(nL M i).length=W
def rowOf (M:List (List Int)):Nat->Nat->Int:=λa c=>nI (nL M a) c
theorem wx8 (r:List Int) (c:Nat):nI (x0q r) c=- nI r c:=by
 grind [Nat.lt_or_ge,qg5,wm5,x0q,wn4]
theorem xj6 (r:List (List Int)) (k i:Nat):nL (r.drop k) i=nL r (k+i):=by
 grind [nL,qf0]
theorem xj7 {r:List (List Int)} {k j:Nat} (h:qu8 r k j<0):∀i,k<=i->i<r.length->nI (nL r i) j=0:=λi h1 h2=>by
 unfold qu8 ixT at h
 split at h
 ·omega
 ·rename_i hn
  have:=zb1.1 (zdf.2 hn) (nL r i) (by
   have:=xj6 r k (i-k)
   grind [qz0,List.length_drop])
  grind
theorem w4v {r:List (List Int)} {k j:Nat} (h:0<=qu8 r k j):nI (nL r (k+(qu8 r k j).toNat)) j≠0:=by
 unfold qu8 ixT at h ⊢
 split at h
 ·rename_i ha
  rw[zap ha]
  have h1:=List.findIdx_getElem (xs:=r.drop k) (p:=λr=>nI r j != 0) (w:=zej.2 (by grind))
  grind [nI,List.findIdx_lt_length,qp2,xj6]
 omega
theorem St.zero_ {n W:Nat} {M:List (List Int)} (h:Mat n W M):St n W (rowOf M) 0 M []:=by
 refine⟨h.len,h.each,⟨rowOf M,λ_=>none,id,El.start λa _=>⟨1,dc,λj _=>zex _⟩,λi hi=>hi,λi k _ _ e=>e,λa ha=>⟨a,ha,rfl⟩,λi _ c _=>rfl,λq _=>by simp,λi _=>.inl ⟨1,.inl rfl,λc _=>(zex _).symm⟩⟩,λz=>zek,zae _,λi _ _ c hc=>absurd hc (zau _),λq hq=>absurd hq (zau _),λq k _ hk=>absurd hk (zau _)⟩
theorem wh5 {n W j:Nat} {R:Nat->Nat->Int} {s:List (List Int) × List Int} (hj:j<W) (h:St n W R j s.1 s.2):St n W R (j+1) (qx6 s j).1 (qx6 s j).2:=by
 obtain⟨r,P⟩:=s
 have h:St n W R j r P:=h
 unfold qx6
 split
 ·rename_i hn
  exact h.skip λi h1 h2=>xj7 hn i h1 (by rw[h.len]; omega)
 ·rename_i hn
  have hn:0<=qu8 r P.length j:=zbj.1 hn
  have hlen:=h.len
  have hpl:=h.pl
  have hb:=q2p r P.length j ow hn
  have hk:P.length<n:=ow
  have hne:=w4v hn
  show St n W R (j+1) (xv2 (qi9 r P.length j) P.length j) (P++[(j:Int)])
  obtain⟨b,hbd⟩:∃b,b=P.length+(qu8 r P.length j).toNat:=⟨_,rfl⟩
  rw[<- hbd] at hb hne
  have hsw:∀i,i<n->nL (q2o r P.length j) i=nL r (if i=P.length then b else if i=b then P.length else i):=λi hi=>by
   unfold q2o
   rw[<- hbd,q4l _ _ _ ow hb i ow]
   grind
  have hpr:∀i,i<n->i≠P.length->nL (qi9 r P.length j) i=nL (q2o r P.length j) i:=λi hi hne=>by
   simp_all [q4m,if_neg]
  have hpk:∃s:Int,(s=1\/s=-1)/\(∀c,nI (nL (qi9 r P.length j) P.length) c=s*nI (nL r b) c)/\0<nI (nL (qi9 r P.length j) P.length) j:=by
   have e:=hsw P.length hk
   rw[zap rfl] at e
   rw[q4m _ _ _ _ ow,e]
   by_cases q:nI (nL r b) j<0
   ·rw[zap ⟨rfl,q⟩]
    refine⟨-1,.inr rfl,λc=>by grind [wx8],by grind [wx8]⟩
   ·rw[zaj λk=>q k.2]
    exact⟨1,.inl rfl,λc=>by omega,ow⟩
  obtain⟨s,hs,hsx,hpos⟩:=hpk
  have hcl:xv2 (qi9 r P.length j) P.length j=xv2 (qi9 r P.length j) P.length j:=rfl
  have hat:∀i,i<n->nL (xv2 (qi9 r P.length j) P.length j) i=wp8 (qi9 r P.length j) P.length j i:=λi hi=>xg4 _ _ _ _ (by grind [ql7])
  have heach:=q2q (r:=r) (k:=P.length) (j:=j) (W:=W) ow hn λi hi=>h.each i ow
  have hatk:nL (xv2 (qi9 r P.length j) P.length j) P.length=nL (qi9 r P.length j) P.length:=by
   rw[hat _ hk]; unfold wp8; simp
  refine h.step hj hk (by grind [wm7,ql7]) (λi hi=>?_) (λi=>if i=P.length then b else if i=b then P.length else i) (λi hi=>?_) (λi k hi hk2 e=>?_) (λi hi=>?_) (λi hi=>?_) ⟨s,hs,λc hc=>?_⟩ ?_ λi hi hne2=>?_
  ·grind [wp8,wg6]
  ·grind
  ·grind
  ·refine⟨if i=P.length then b else if i=b then P.length else i,?_,?_⟩
   all_goals grind
  ·grind
  ·grind
  ·grind
  ·rw[hatk,hat i hi]
   try dsimp only
   rw[<- hsw i hi,<- hpr i hi hne2]
   unfold wp8
   by_cases q:nI (nL (qi9 r P.length j) i) j=0
   ·simp_all [if_neg,x1c]
   ·rw[zap ⟨hne2,q⟩]
    grind [xj4]
theorem qs8 {n W:Nat} {M:List (List Int)} (h:Mat n W M):∀j,j<=W->St n W (rowOf M) j (qb5 M j).1 (qb5 M j).2
 | 0,_=>St.zero_ h
 | j+1,hj=>wh5 ow (qs8 h j ow)
structure Small (n C W:Nat) (M:List (List Int)):Prop extends Mat n W M where
 n6:n<=6
 cw:C<=W
 w:W<=1000
 one:∀a c,a<n->c<C->(nI (nL M a) c).natAbs<=1
 read:∀a c,a<n->c<W->(nI (nL M a) c).natAbs<=1000000
theorem y4m {n:Nat} (h:n<=6):n ^ n<=46656:=by
 have:∀k:Fin 7,k.val ^ k.val<=46656:=dc
 exact this ⟨n,ow⟩
theorem St.small {n C W j:Nat} {M rows:List (List Int)} {P:List Int} (hM:Small n C W M) (h:St n W (rowOf M) j rows P) (hj:j<=C) {i:Nat} (hi:i<n):(∀c,c<C->(nI (nL rows i) c).natAbs<=46656)/\∀c,c<W->(nI (nL rows i) c).natAbs<=46656000000:=by
 have h6:=y4m hM.n6
 have hcw:=hM.cw
 refine⟨λc hc=>?_,λc hc=>?_⟩
 ·have:=h.bound (λa c ha hc=>hM.one a c ha ow) hi (show c<W by omega) (B:=1) λb hb=>hM.one b c hb hc
  omega
 ·have:=h.bound (λa c ha hc=>hM.one a c ha ow) hi hc (B:=1000000) λb hb=>hM.read b c hb hc
  omega
theorem q1v {a b:Int} {A B:Nat} (ha:a.natAbs<=A) (hb:b.natAbs<=B):(a*b).natAbs<=A*B:=by
 simp_all [Int.natAbs_mul,Nat.mul_le_mul]
theorem q2t (a b:Int):(a.tdiv b).natAbs<=a.natAbs:=by rw[zcm]; exact zen _ _
structure Sml (n C W K B:Nat) (M:List (List Int)):Prop extends Mat n W M where
 n6:n<=6
 cw:C<=W
 w:W<=1000
 k1:1<=K
 kk:K*K<=B
 kB:K<=691200
 bB:B<=700000000000
 read:∀a c,a<n->c<W->(nI (nL M a) c).natAbs<=B
 small:∀j rows P,j<=C->St n W (rowOf M) j rows P->∀i,i<n->(∀c,c<C->(nI (nL rows i) c).natAbs<=K)/\∀c,c<W->(nI (nL rows i) c).natAbs<=B
theorem Small.sml {n C W:Nat} {M:List (List Int)} (h:Small n C W M):Sml n C W 46656 46656000000 M:=
 ⟨h.toMat,h.n6,h.cw,h.w,dc,dc,dc,dc,λa c ha hc=>by have:=h.read a c ha hc; omega,λj rows P hj hs i hi=>hs.small h hj hi⟩
theorem x62 {n C W K B:Nat} {M:List (List Int)} (hM:Sml n C W K B M):q5l M C W:=by
 have hkB:=hM.kB
 have hbB:=hM.bB
 have hBK:B*K<=700000000000*691200:=zbh hbB hkB
 have hn:=hM.n6
 have hl:=hM.len
 have hw:=hM.w
 have hcw:=hM.cw
 refine⟨ow,hw,hM.cw,λi hi=>hM.each i ow,λj hj hp=>?_⟩
 have hst:=qs8 hM.toMat j ow
 have hsm:=λ{i} (hi:i<n)=>hM.small _ _ _ ow hst i hi
 have hlen:=hst.len
 have hpl:=hst.pl
 generalize qb5 M j=s at hp hst hsm hlen hpl ⊢
 obtain⟨r,P⟩:=s
 simp only[] at hp hst hsm hlen hpl ⊢
 have hb:=q2p r P.length j ow hp
 have heachS:=q8w (r:=r) (k:=P.length) (j:=j) (W:=W) ow hp λi hi=>hst.each i ow
 have heach:=q2q (r:=r) (k:=P.length) (j:=j) (W:=W) ow hp λi hi=>hst.each i ow
 have hsw:∀i,i<n->(∀c,c<C->(nI (nL (q2o r P.length j) i) c).natAbs<=K)/\∀c,c<W->(nI (nL (q2o r P.length j) i) c).natAbs<=B:=λi hi=>by
  unfold q2o
  grind [q4l]
 have hpr:∀i,i<n->(∀c,c<C->(nI (nL (qi9 r P.length j) i) c).natAbs<=K)/\∀c,c<W->(nI (nL (qi9 r P.length j) i) c).natAbs<=B:=λi hi=>by
  rw[q4m _ _ _ _ ow]
  split
  all_goals grind [wx8,Int.natAbs_neg]
 have hst2:=wh5 (j:=j) ow (show St n W (rowOf M) j (r,P).1 (r,P).2 from hst)
 have hpk:nI (nL (qi9 r P.length j) P.length) j≠0:=by
  have e:=w4v hp
  have hs:nL (q2o r P.length j) P.length=nL r (P.length+(qu8 r P.length j).toNat):=by
   unfold q2o
   rw[q4l _ _ _ ow hb _ ow]
   grind
  rw[q4m _ _ _ _ ow]
  split
  ·rw[wx8,hs]; omega
  ·rw[hs]; exact e
 have hB:BIG=4000000000000000000:=rfl
 have hB2:yd2=2000000000000000000:=rfl
 refine⟨λx hx=>?_,λi hi hne hz=>⟨?_,?_,?_,hpk,?_,?_,λc hc=>?_,λc hc=>?_⟩⟩
 ·obtain⟨c,hc,rfl⟩:=q9k hx
  grind
 ·grind
 ·grind
 ·grind
 ·grind
 ·have:=(hpr P.length ow).1 j hj
  constructor <;> omega
 ·rw[heach i ow] at hc
  have h1:=(hpr i ow).2 c hc
  have h2:=(hpr P.length ow).1 j hj
  have h3:(q1 (nL (qi9 r P.length j) i) (nL (qi9 r P.length j) P.length) j).natAbs<=K:=zam (q2t _ _) h2
  have:=q1v h1 h3
  omega
 ·rw[heach i ow] at hc
  have h1:=(hpr P.length ow).2 c hc
  have h2:=(hpr i ow).1 j hj
  have h3:(q2 (nL (qi9 r P.length j) i) (nL (qi9 r P.length j) P.length) j).natAbs<=K:=zam (q2t _ _) h2
  have:=q1v h1 h3
  omega
theorem wx9 {n C W:Nat} {M:List (List Int)} (hM:Small n C W M):q5l M C W:=x62 hM.sml
theorem qn4 (a b:List (List Int)) {i:Nat} (h:i<a.length):nL (a++b) i=nL a i:=by
 grind [qp2,List.length_append,List.getElem_append_left]
theorem qz3 (a b:List (List Int)) (i:Nat):nL (a++b) (a.length+i)=nL b i:=by
 grind [nL,qf0,List.getElem?_append_right]
theorem xj8 {f:List Int->List Int} {l:List (List Int)} {i:Nat} (h:i<l.length):nL (l.map f) i=f (nL l i):=by
 grind [qp2]
theorem wy0 (left:List (List Int)) (p:List Int) (j a:Nat):∀K,(qw2 left p j a K).length=(if a<K then K-1 else K)/\∀i,i<(qw2 left p j a K).length->nL (qw2 left p j a K) i=qi3 (nL left (if i<a then i else i+1)) p j
 | 0=>⟨by rfl,λi hi=>absurd hi (zau _)⟩
 | K+1=>by
  obtain⟨h1,h2⟩:=wy0 left p j a K
  rw[qw2]
  by_cases e:K=a
  ·grind
  ·rw[zap ow]
   refine⟨?_,λi hi=>?_⟩
   ·grind
   ·rw[zav] at hi
    have hi:i<(qw2 left p j a K).length+1:=hi
    rcases zaw.1 hi with q | q
    ·grind [qn4]
    ·rw[q]
     have:=qz3 (qw2 left p j a K) [qi3 (nL left K) p j] 0
     rw[zci] at this
     grind [wf4]
theorem wh6 {left:List (List Int)} {j:Nat}:∀K,lastTo left j K<0->∀i,i<K->nI (nL left i) j=0
 | 0,_,i,hi=>absurd hi (zau _)
 | K+1,h,i,hi=>by
  rw[lastTo] at h
  split at h
  ·omega
  ·rename_i hz
   rcases zaw.1 hi with q | q
   ·exact wh6 K h i q
   grind
theorem q9n {left:List (List Int)} {j:Nat}:∀K,0<=lastTo left j K->nI (nL left (lastTo left j K).toNat) j≠0
 | 0,h=>by have:(0:Int)<=-1:=h; omega
 | K+1,h=>by
  rw[lastTo] at h ⊢
  split at h
  ·grind
  ·rename_i hz
   rw[zaj hz]
   exact q9n K h
theorem q7m (l:List Int) (n:Int) (c:Nat):nI (q83 l n) c=nI l c*n:=by
 rcases zas c l.length with h | h
 all_goals simp_all [q83,xj1,wn4,qy9,Int.zero_mul]
structure Rst (n W:Nat) (R:Nat->Nat->Int) (j:Nat) (s:RS):Prop where
 st:St n W R j (s.done_++s.left) s.piv
 cnt:s.done_.length=s.piv.length
 prim:∀x∈s.left,Prim x
theorem w4w (left:List (List Int)) (j:Nat) (a:Int) (hne:nI (nL left a.toNat) j≠0):∃s:Int,(s=1\/s=-1)/\(∀c,nI (q6m left j a) c=s*nI (nL left a.toNat) c)/\0<nI (q6m left j a) j:=by
 unfold q6m
 by_cases q:nI (nL left a.toNat) j<0
 ·rw[zap q]
  exact⟨-1,.inr rfl,λc=>by grind [q7m],by grind [q7m]⟩
 ·rw[zaj q]
  exact⟨1,.inl rfl,λc=>by omega,ow⟩
theorem x1d {n W j:Nat} {R:Nat->Nat->Int} {s:RS} (hj:j<W) (h:Rst n W R j s):Rst n W R (j+1) (w7v s j):=by
 obtain⟨left,dn,P⟩:=s
 obtain⟨hst,hcnt,hprim⟩:=h
 have hst:St n W R j (dn++left) P:=hst
 have hcnt:dn.length=P.length:=hcnt
 have hprim:∀x∈left,Prim x:=hprim
 have hlen:=hst.len
 rw[zav] at hlen
 have hL:∀i,i<left.length->nL (dn++left) (P.length+i)=nL left i:=λi hi=>by grind [qz3]
 have hD:∀i,i<P.length->nL (dn++left) i=nL dn i:=λi hi=>qn4 _ _ ow
 unfold w7v
 dsimp only
 split
 ·rename_i hn
  refine⟨hst.skip λi h1 h2=>?_,hcnt,hprim⟩
  have:=hL (i-P.length) ow
  grind [wh6]
 ·rename_i hn
  have hn:0<=lastTo left j left.length:=zbj.1 hn
  have hlt:=(q84 left j left.length).1
  have hne:=q9n _ hn
  obtain⟨sg,hs,hsx,hpos⟩:=w4w left j (lastTo left j left.length) hne
  have hplen:(q6m left j (lastTo left j left.length)).length=(nL left (lastTo left j left.length).toNat).length:=by
   grind [q6m,qy9]
  generalize hA:q6m left j (lastTo left j left.length)=p at hsx hpos hplen ⊢
  obtain⟨a,ha⟩:∃a:Nat,lastTo left j left.length=(a:Int):=⟨(lastTo left j left.length).toNat,ow⟩
  rw[ha] at hlt hne hsx hplen ⊢
  rw[zaq] at hne hsx hplen
  have halt:a<left.length:=ow
  obtain⟨r1,r2⟩:=wy0 left p j a left.length
  rw[zap halt] at r1
  have hW:∀i,i<left.length->(nL left i).length=W:=λi hi=>by rw[<- hL i hi]; exact hst.each _ ow
  have hWd:∀i,i<P.length->(nL dn i).length=W:=λi hi=>by rw[<- hD i hi]; exact hst.each _ ow
  have hdl:(dn.map λr=>qi3 r p j).length=P.length:=by grind
  have hA1:∀i,i<P.length->nL (((dn.map λr=>qi3 r p j)++[p])++qw2 left p j a left.length) i=qi3 (nL dn i) p j:=λi hi=>by
   grind [qn4,List.length_append,xj8]
  have hA2:nL (((dn.map λr=>qi3 r p j)++[p])++qw2 left p j a left.length) P.length=p:=by
   rw[qn4 _ _ (by grind)]
   have:=qz3 (dn.map λr=>qi3 r p j) [p] 0
   simp_all [Nat.add_zero,wf4]
  have hA3:∀i,i<left.length-1->nL (((dn.map λr=>qi3 r p j)++[p])++qw2 left p j a left.length) (P.length+1+i)=qi3 (nL left (if i<a then i else i+1)) p j:=λi hi=>by
   have e:((dn.map λr=>qi3 r p j)++[p]).length=P.length+1:=by grind
   have:=qz3 ((dn.map λr=>qi3 r p j)++[p]) (qw2 left p j a left.length) i
   grind
  refine⟨?_,by grind,λx hx=>?_⟩
  ·refine hst.step hj ow ?_ (λi hi=>?_) (λi=>if i<P.length then i else if i=P.length then P.length+a else if i-P.length-1<a then i-1 else i) (λi hi=>?_) (λi k hi hk e=>?_) (λi hi=>?_) (λi hi=>?_) ⟨sg,hs,λc hc=>?_⟩ ?_ λi hi hne2=>?_
   ·grind
   ·rcases zcv i P.length with q | q | q
    ·grind [q6n]
    ·grind
    ·have:=hA3 (i-P.length-1) ow
     grind [q6n]
   ·grind
   ·grind
   ·rcases zas i P.length with q | q
    ·grind
    ·rcases zcv i (P.length+a) with k | k | k
     ·exact⟨i+1,ow,by grind⟩
     ·exact⟨P.length,ow,by grind⟩
     ·exact⟨i,hi,by grind⟩
   ·grind
   ·grind
   ·grind
   ·rw[hA2]
    try dsimp only
    rcases zas i P.length with q | q
    ·simp_all [if_pos,q9m]
    ·have:=hA3 (i-P.length-1) ow
     rw[show P.length+1+(i-P.length-1)=i by omega] at this
     have hπi:(if i<P.length then i else if i=P.length then P.length+a else if i-P.length-1<a then i-1 else i)=(if i-P.length-1<a then i-1 else i):=by grind
     grind [nL,q9m]
  ·obtain⟨i,_,_,rfl⟩:=q5r _ _ _ _ _ x hx
   exact qp0 _
theorem q0v {n W:Nat} {M:List (List Int)} (h:Mat n W M):∀j,j<=W->Rst n W (rowOf M) j (qh1 M j)
 | 0,_=>by
  have hl:(M.map qt9).length=n:=by rw[zay]; exact h.len
  have ha:∀i,i<n->nL (M.map qt9) i=qt9 (nL M i):=λi hi=>xj8 (by grind)
  have hm:∀i,i<n->∀c,c<W->max (gcdL (nL M i)) 1*nI (qt9 (nL M i)) c=nI (nL M i) c:=λi hi c hc=>qz2 _ (by rw[h.each i hi]; omega)
  refine⟨?_,rfl,λx hx=>?_⟩
  ·show St n W (rowOf M) 0 (M.map qt9) []
   refine⟨hl,λi hi=>by rw[ha i hi,qw3]; exact h.each i hi,⟨rowOf (M.map qt9),λ_=>none,id,El.start λa ha'=>⟨max (gcdL (nL M a)) 1,ow,λj hj=>?_⟩,λi hi=>hi,λi k _ _ e=>e,λa ha=>⟨a,ha,rfl⟩,λi _ c _=>rfl,λq _=>by simp,λi hi=>?_⟩,λz=>?_,zae _,λi _ _ c hc=>absurd hc (zau _),λq hq=>absurd hq (zau _),λq k _ hk=>absurd hk (zau _)⟩
   ·grind [rowOf]
   ·rw[ha i hi]
    exact(qp0 _).nice (by rw[qw3]; exact h.each i hi) _
   ·have hd:∀i,i<n->max (gcdL (nL M i)) 1*dt W (nL (M.map qt9) i) z=dt W (nL M i) z:=λi hi=>by
     have:=w4t (W:=W) (r':=nL (M.map qt9) i) (r:=nL M i) (p:=[]) (z:=z) (α:=max (gcdL (nL M i)) 1) (β:=1) (γ:=0) λc hc=>by grind
     omega
    constructor
    ·intro hz i hi
     have h1:=hd i hi
     have h2:dt W (nL M i) z=0:=hz i hi
     grind [qc9]
    ·intro hz i hi
     have h1:=hd i hi
     rw[hz i hi,zbl] at h1
     exact h1.symm
  ·obtain⟨u,_,rfl⟩:=zbk.1 hx
   exact qp0 u
 | j+1,hj=>x1d ow (q0v h j ow)
theorem Prim.last {l:List Int} {N:Nat} (h:Prim l) (hl:l.length=N+1) (hz:∀c,c<N->nI l c=0):(nI l N).natAbs<=1:=by
 rcases h with h | h
 ·grind
 ·have:=h (nI l N).natAbs λc hc=>by
   rcases zas c N with q | q
   ·simp_all
   grind [Nat.dvd_refl]
  omega
theorem yg2 {n N K B:Nat} {M:List (List Int)} (hM:Sml n N (N+1) K B M) (h0:0<n):yw2 M/\∀k,k<(qh1 M (N+1)).done_.length->∀c,c<N+1->(nI (nL (qh1 M (N+1)).done_ k) c).natAbs<=B:=by
 have hB:BIG=4000000000000000000:=rfl
 have hk1:=hM.k1
 have hkk:=hM.kk
 have hkB:=hM.kB
 have hbB:=hM.bB
 have hBK:B*K<=700000000000*691200:=zbh hbB hkB
 have hn:=hM.n6
 have hl:=hM.len
 have hw:=hM.w
 have hW:rdW M=N+1:=hM.each 0 h0
 -- the numbers at a step
 have key:∀j,j<N+1->0<=lastTo (qh1 M j).left j (qh1 M j).left.length->ye5 (qh1 M j) j/\((∀c,c<N+1->(nI (q6m (qh1 M j).left j (lastTo (qh1 M j).left j (qh1 M j).left.length)) c).natAbs<=B)/\∀i,i<(qh1 M j).done_.length->j=N->∀c,c<N+1->(nI (w11 (nL (qh1 M j).done_ i) (q6m (qh1 M j).left j (lastTo (qh1 M j).left j (qh1 M j).left.length)) j) c).natAbs<=B):=by
  intro j hj hp
  have hst:=q0v hM.toMat j ow
  generalize qh1 M j=s at hp hst ⊢
  obtain⟨left,dn,P⟩:=s
  obtain⟨hst,hcnt,hprim⟩:=hst
  have hst:St n (N+1) (rowOf M) j (dn++left) P:=hst
  have hcnt:dn.length=P.length:=hcnt
  have hprim:∀x∈left,Prim x:=hprim
  simp only[] at hp ⊢
  have hlen:=hst.len
  rw[zav] at hlen
  have hL:∀i,i<left.length->nL (dn++left) (P.length+i)=nL left i:=λi hi=>by rw[<- hcnt]; exact qz3 _ _ _
  have hD:∀i,i<P.length->nL (dn++left) i=nL dn i:=λi hi=>qn4 _ _ ow
  have hlt:=(q84 left j left.length).1
  have hne:=q9n _ hp
  obtain⟨sg,hs,hsx,hpos⟩:=w4w left j (lastTo left j left.length) hne
  have hsm:=λ{i} (hi:i<n)=>hM.small _ _ _ (show j<=N by omega) hst i hi
  obtain⟨a,ha⟩:∃a:Nat,lastTo left j left.length=(a:Int):=⟨(lastTo left j left.length).toNat,ow⟩
  have hplen:(q6m left j (lastTo left j left.length)).length=(nL left a).length:=by
   unfold q6m; rw[ha]; split
   ·exact qy9 _ _
   ·rfl
  have ea:(lastTo left j left.length).toNat=a:=ow
  rw[ea] at hne hsx
  have halt:a<left.length:=ow
  have hWl:∀i,i<left.length->(nL left i).length=N+1:=λi hi=>by rw[<- hL i hi]; exact hst.each _ ow
  have hWd:∀i,i<P.length->(nL dn i).length=N+1:=λi hi=>by rw[<- hD i hi]; exact hst.each _ ow
  have bl:∀i,i<left.length->(∀c,c<N->(nI (nL left i) c).natAbs<=K)/\∀c,c<N+1->(nI (nL left i) c).natAbs<=B:=λi hi=>by rw[<- hL i hi]; exact hsm ow
  have bd:∀i,i<P.length->(∀c,c<N->(nI (nL dn i) c).natAbs<=K)/\∀c,c<N+1->(nI (nL dn i) c).natAbs<=B:=λi hi=>by rw[<- hD i hi]; exact hsm ow
  have hab:∀c,(nI (q6m left j (lastTo left j left.length)) c).natAbs=(nI (nL left a) c).natAbs:=λc=>by
   rw[hsx c,zbp]
   rcases hs with rfl | rfl <;> simp
  -- the numbers in the column,and in a row
  have zl:∀i,i<left.length->j=N->∀c,c<N->nI (nL left i) c=0:=λi hi e c hc=>by
   rw[<- hL i hi]
   exact hst.zero _ ow ow c ow
  have cl:∀i,i<left.length->(nI (nL left i) j).natAbs<=K:=λi hi=>by
   rcases zas j N with q | q
   ·exact(bl i hi).1 j q
   ·have e:j=N:=ow
    have:=(hprim _ (qz0 left i hi)).last (hWl i hi) (zl i hi e)
    rw[e]; omega
  have hpj:(nI (q6m left j (lastTo left j left.length)) j).natAbs<=K:=by rw[hab]; exact cl a halt
  have hpc:∀c,c<N+1->(nI (q6m left j (lastTo left j left.length)) c).natAbs<=B:=λc hc=>by rw[hab]; exact(bl a halt).2 c hc
  have rowB:∀r:List Int,r.length=N+1->(∀c,c<N+1->(nI r c).natAbs<=B)->((nI r j).natAbs<=K\/j=N)->yw0 r (q6m left j (lastTo left j left.length)) j:=λr hr hb hc0=>by
   have b1:∀k,k<N+1->(nI r k*nI (q6m left j (lastTo left j left.length)) j).natAbs<=B*K:=λk hk=>q1v (hb k hk) hpj
   have b2:∀k,k<N+1->(nI (q6m left j (lastTo left j left.length)) k*nI r j).natAbs<=B*K:=λk hk=>by
    rcases hc0 with q | q
    ·exact q1v (hpc k hk) q
    ·rcases zas k N with q2 | q2
     ·have e0:nI (q6m left j (lastTo left j left.length)) k=0:=by
       have:=hab k
       rw[zl a halt q k q2] at this
       omega
      rw[e0,zcb]; exact zae _
     ·have e1:k=j:=ow
      rw[e1,ze3]
      exact q1v (hb j ow) hpj
   refine⟨ow,by rw[hplen,hWl a halt,hr],ow,λk hk=>?_,λk hk=>?_,λk hk=>?_⟩
   ·have:=b1 k ow; constructor <;> omega
   ·have:=b2 k ow; constructor <;> omega
   ·have h1:=b1 k ow
    have h2:=b2 k ow
    constructor <;> omega
  refine⟨⟨λ_=>⟨by rw[ha,zaq,hWl a halt]; exact hw,λc hc=>?_⟩,λi hi _=>rowB _ (hWl i hi) (bl i hi).2 (.inl (cl i hi)),λi hi=>?_⟩,hpc,λi hi e c hc=>?_⟩
  ·rw[ha,zaq] at hc ⊢
   have hc:c<(nL left a).length:=hc
   rw[hWl a halt] at hc
   have:=(bl a halt).2 c hc
   show qd8 BIG (nI (nL left a) c*(-1))
   constructor <;> omega
  ·have hi:i<dn.length:=hi
   have hi2:i<P.length:=ow
   refine rowB _ (hWd i hi2) (bd i hi2).2 ?_
   rcases zas j N with q | q
   ·exact .inl ((bd i hi2).1 j q)
   ·exact .inr ow
  ·have hi2:i<P.length:=ow
   rw[w4u _ _ _ (by rw[hWd i hi2]; exact hc)]
   rcases zas c N with q | q
   ·have e0:nI (q6m left j (lastTo left j left.length)) c=0:=by
     have:=hab c
     rw[zl a halt e c q] at this
     omega
    have e1:(nI (q6m left j (lastTo left j left.length)) j).natAbs<=K:=hpj
    have:=q1v ((bd i hi2).1 c q) e1
    rw[e0,zcb,Int.sub_zero]
    omega
   ·have e1:c=j:=ow
    rw[e1,ze3,Int.sub_self]; exact zae _
 refine⟨⟨ow,ow,λi hi=>by rw[hW]; exact hM.each i ow,λi hi=>⟨by rw[hM.each i ow]; exact hw,λx hx=>?_⟩,λj hj hp=>(key j ow hp).1⟩,λk hk c hc=>?_⟩
 ·obtain⟨c,hc,rfl⟩:=q9k hx
  have:=hM.read i c ow (by rw[hM.each i ow] at hc; exact hc)
  constructor <;> omega
 ·have hst:=q0v hM.toMat N ow
  have hk2:k<(w7v (qh1 M N) N).done_.length:=hk
  show(nI (nL (w7v (qh1 M N) N).done_ k) c).natAbs<=B
  have key:=key N ow
  unfold w7v at hk2 ⊢
  split at hk2
  ·rename_i hn
   rw[zap hn]
   have hlen:=hst.st.len
   rw[zav] at hlen
   rw[<- qn4 _ (qh1 M N).left hk2]
   exact(hM.small _ _ _ (zac _) hst.st _ ow).2 c hc
  ·rename_i hn
   rw[zaj hn]
   obtain⟨_,k1,k2⟩:=key (zbj.1 hn)
   rw[zav,zay] at hk2
   have hk2:k<(qh1 M N).done_.length+1:=hk2
   try dsimp only
   rcases zaw.1 hk2 with q | q
   ·rw[qn4 _ _ (by rw[zay]; exact q),xj8 q]
    exact zam (x1b _ _) (k2 k q rfl c hc)
   ·rw[q]
    have:=qz3 ((qh1 M N).done_.map λr=>qi3 r (q6m (qh1 M N).left N (lastTo (qh1 M N).left N (qh1 M N).left.length)) N) [q6m (qh1 M N).left N (lastTo (qh1 M N).left N (qh1 M N).left.length)] 0
    rw[zay,zci] at this
    rw[this,wf4]
    exact k1 c hc
theorem x1e {n N:Nat} {M:List (List Int)} (hM:Small n N (N+1) M) (h0:0<n):yw2 M/\∀k,k<(qh1 M (N+1)).done_.length->∀c,c<N+1->(nI (nL (qh1 M (N+1)).done_ k) c).natAbs<=46656000000:=yg2 hM.sml h0
theorem exL:∀(k:Nat) (p:Nat->Int),(∀q,q<k->p q≠0)->∃(L:Int) (u:Nat->Int),L≠0/\∀q,q<k->L=p q*u q
 | 0,p,_=>⟨1,λ_=>0,dc,λq h=>absurd h (zau _)⟩
 | k+1,p,h=>by
  obtain⟨L,u,h1,h2⟩:=exL k p λq hq=>h q ow
  refine⟨L*p k,λq=>if q=k then L else u q*p k,q05 h1 (h k ow),λq hq=>?_⟩
  grind
def Sol (n W:Nat) (R:Nat->Nat->Int) (z:Nat->Int):Prop:=∀a,a<n->(sm W λc=>R a c*z c)=0
theorem St.inj {n W:Nat} {R:Nat->Nat->Int} {j:Nat} {rows:List (List Int)} {P:List Int} (h:St n W R j rows P) {q k:Nat} (hq:q<P.length) (hk:k<P.length) (e:nI P q=nI P k):q=k:=by
 rcases zcv q k with q1 | q1 | q1
 ·have:=h.asc q k q1 hk; omega
 ·omega
 ·have:=h.asc k q q1 hq; omega
theorem St.free {n W:Nat} {R:Nat->Nat->Int} {j:Nat} {rows:List (List Int)} {P:List Int} (h:St n W R j rows P) (hj:j<=W) {f:Nat} (hf:f<W) (hnp:∀q,q<P.length->nI P q≠(f:Int)) (hz:∀i,P.length<=i->i<n->nI (nL rows i) f=0) :
  ∃z,Sol n W R z/\z f≠0/\∀c,c<W->c≠f->(∀q,q<P.length->nI P q≠(c:Int))->z c=0:=by
 obtain⟨L,u,hL,hu⟩:=exL P.length (λq=>nI (nL rows q) (nI P q).toNat) λq hq=>by have:=(h.pos q hq).2.2.1; omega
 have hpl:=h.pl
 have hzf:(if f=f then L else sm P.length λq=>if nI P q=(f:Int) then-u q*nI (nL rows q) f else 0)=L:=zap rfl
 obtain⟨z,hzd⟩:∃z:Nat->Int,∀c,z c=if c=f then L else sm P.length λq=>if nI P q=(c:Int) then-u q*nI (nL rows q) f else 0:=⟨_,λ_=>rfl⟩
 have z1:z f=L:=by grind
 have z2:∀c,c≠f->(∀q,q<P.length->nI P q≠(c:Int))->z c=0:=λc hc hq=>by
  simp_all [if_neg,qm0]
 have z3:∀q,q<P.length->z (nI P q).toNat=- u q*nI (nL rows q) f:=λq hq=>by
  have hp:=h.pos q hq
  have e:((nI P q).toNat:Int)=nI P q:=ow
  rw[hzd,zaj (λk=>hnp q hq ow),qq6 hq λi hi hne=>by
   grind]
  omega
 refine⟨z,(h.sol z).2 λi hi=>?_,ow,λc hc=>z2 c⟩
 unfold dt
 rcases zas i P.length with q | q
 ·have hp:=h.pos i q
  rw[q6q (k:=f) (l:=(nI P i).toNat) hf ow (λk=>hnp i q ow) λc hc h1 h2=>?_]
  ·grind
  ·try dsimp only
   by_cases hx:∃q,q<P.length/\nI P q=(c:Int)
   ·obtain⟨q2,hq2,e⟩:=hx
    have hp2:=h.pos q2 hq2
    have:nI (nL rows i) (nI P q2).toNat=0:=hp2.2.2.2.2 i hi λk=>h2 (by grind)
    simp_all
   grind
 ·refine qm0 λc hc=>?_
  try dsimp only
  by_cases e:c=f
  ·grind
  ·by_cases hx:∃q,q<P.length/\nI P q=(c:Int)
   ·obtain⟨q2,hq2,e⟩:=hx
    have hp2:=h.pos q2 hq2
    have:nI (nL rows i) (nI P q2).toNat=0:=hp2.2.2.2.2 i hi ow
    simp_all
   grind
structure Asc (N:Nat) (P:List Int):Prop where
 at_:∀q,q<P.length->0<=nI P q/\nI P q<N
 asc:∀q k,q<k->k<P.length->nI P q<nI P k
theorem Asc.ge {N:Nat} {P:List Int} (h:Asc N P):∀q,q<P.length->(q:Int)<=nI P q
 | 0,hq=>(h.at_ 0 hq).1
 | q+1,hq=>by
  have h1:=h.ge q ow
  have h2:=h.asc q (q+1) ow hq
  omega
theorem Asc.le {N:Nat} {P:List Int} (h:Asc N P):P.length<=N:=by
 rcases zbs P.length with q | q
 ·omega
 ·have h1:=h.ge (P.length-1) ow
  have h2:=h.at_ (P.length-1) ow
  omega
theorem Asc.up {N:Nat} {P:List Int} (h:Asc N P):∀d,d<P.length->nI P (P.length-1-d)+d<N
 | 0,hd=>by have:=(h.at_ (P.length-1-0) ow).2; omega
 | d+1,hd=>by
  have h1:=h.up d ow
  have h2:=h.asc (P.length-1-(d+1)) (P.length-1-d) ow ow
  omega
theorem Asc.id {N:Nat} {P:List Int} (h:Asc N P) (hl:P.length=N) {q:Nat} (hq:q<N):nI P q=q:=by
 have h1:=h.ge q ow
 have h2:=h.up (P.length-1-q) ow
 grind
theorem Asc.free {N:Nat} {P:List Int} (hl:P.length<N):∃f,f<N/\∀q,q<P.length->nI P q≠(f:Int):=by
 refine zaf λhno=>?_
 have hx:∀f,∃q,f<N->q<P.length/\nI P q=(f:Int):=λf=>by
  by_cases hf:f<N
  ·simp_all
  ·exact⟨0,λh=>absurd h hf⟩
 obtain⟨g,hg⟩:=zbo hx
 obtain⟨i,k,h1,h2,h3⟩:=q9i P.length N g (λi hi=>(hg i hi).1) hl
 grind
structure Good (n N:Nat) (R:Nat->Nat->Int) (rows:List (List Int)) (P:List Int):Prop where
 st:∃j,N<=j/\j<=N+1/\St n (N+1) R j rows P
 lt:∀q,q<P.length->nI P q<N
 no:∀i,P.length<=i->i<n->nI (nL rows i) N=0
theorem Good.asc {n N:Nat} {R:Nat->Nat->Int} {rows:List (List Int)} {P:List Int} (h:Good n N R rows P):Asc N P:=by
 obtain⟨j,_,_,hs⟩:=h.st
 exact⟨λq hq=>⟨(hs.pos q hq).1,h.lt q hq⟩,hs.asc⟩
theorem Good.last {n N:Nat} {R:Nat->Nat->Int} {rows:List (List Int)} {P:List Int} (h:Good n N R rows P):∃z,Sol n (N+1) R z/\z N≠0:=by
 obtain⟨j,_,h2,hs⟩:=h.st
 obtain⟨z,z1,z2,_⟩:=hs.free h2 (f:=N) ow (λq hq=>by have:=h.lt q hq; omega) h.no
 grind
theorem Good.more {n N:Nat} {R:Nat->Nat->Int} {rows:List (List Int)} {P:List Int} (h:Good n N R rows P) (hl:P.length<N):∃z f,Sol n (N+1) R z/\f<N/\z f≠0/\z N=0:=by
 obtain⟨j,h1,h2,hs⟩:=h.st
 obtain⟨f,hf,hq⟩:=Asc.free hl
 obtain⟨z,z1,z2,z3⟩:=hs.free h2 (f:=f) ow hq λi h3 h4=>hs.zero i h3 h4 f ow
 exact⟨z,f,z1,hf,z2,z3 N ow ow λq hq=>by have:=h.lt q hq; omega⟩
theorem Good.row {n N:Nat} {R:Nat->Nat->Int} {rows:List (List Int)} {P:List Int} (h:Good n N R rows P) (hl:P.length=N) {z:Nat->Int} (hz:Sol n (N+1) R z) {k:Nat} (hk:k<N):0<nI (nL rows k) k/\nI (nL rows k) k*z k+nI (nL rows k) N*z N=0:=by
 obtain⟨j,h1,h2,hs⟩:=h.st
 have hid:=λ{q} (hq:q<N)=>h.asc.id hl hq
 have hp:=hs.pos k ow
 have hpl:=hs.pl
 rw[hid hk,zaq] at hp
 refine⟨hp.2.2.1,?_⟩
 have:=(hs.sol z).1 hz k ow
 unfold dt at this
 rw[q6q (k:=k) (l:=N) ow ow ow λc hc h1 h2=>?_] at this
 ·omega
 ·have hp2:=(hs.pos c ow).2.2.2.2 k ow ow
  grind
theorem Good.len {n N:Nat} {R:Nat->Nat->Int} {rows rows':List (List Int)} {P P':List Int} (h:Good n N R rows P) (h':Good n N R rows' P') (hl:P.length<N):P'.length<N:=by
 rcases zas P'.length N with q | q
 ·exact q
 ·have hl':P'.length=N:=by have:=h'.asc.le; omega
  obtain⟨z,f,z1,z2,z3,z4⟩:=h.more hl
  obtain⟨k1,k2⟩:=h'.row hl' z1 z2
  rw[z4,zbl,ze4] at k2
  grind [absurd,qc9]
theorem Good.val {n N:Nat} {R:Nat->Nat->Int} {rows rows':List (List Int)} {P P':List Int} (h:Good n N R rows P) (h':Good n N R rows' P') (hl:P.length=N) (hl':P'.length=N) {k:Nat} (hk:k<N):nI (nL rows k) N*nI (nL rows' k) k=nI (nL rows' k) N*nI (nL rows k) k:=by
 obtain⟨z,z1,z2⟩:=h.last
 obtain⟨a1,a2⟩:=h.row hl z1 hk
 obtain⟨b1,b2⟩:=h'.row hl' z1 hk
 have:z N*(nI (nL rows k) N*nI (nL rows' k) k-nI (nL rows' k) N*nI (nL rows k) k)=0:=by grind
 grind [qc9]
theorem xj9 {a b c d:Int} (hb:0<b) (hd:0<d) (h:a*d=c*b):q5q a b=q5q c d:=by
 have hg:0<gcdI a b:=qn9 (.inr ow)
 have hk:0<gcdI c d:=qn9 (.inr ow)
 have a1:gcdI a b*a.tdiv (gcdI a b)=a:=zbb (za9.1 (zby _ _))
 have b1:gcdI a b*b.tdiv (gcdI a b)=b:=zbb (za9.1 (zb0 _ _))
 have c1:gcdI c d*c.tdiv (gcdI c d)=c:=zbb (za9.1 (zby _ _))
 have d1:gcdI c d*d.tdiv (gcdI c d)=d:=zbb (za9.1 (zb0 _ _))
 have cop:∀x y:Int,0<gcdI x y->Nat.Coprime (x.tdiv (gcdI x y)).natAbs (y.tdiv (gcdI x y)).natAbs:=λx y h=>by
  have e1:(x.tdiv (gcdI x y)).natAbs=x.natAbs / Nat.gcd x.natAbs y.natAbs:=zcm _ _
  have e2:(y.tdiv (gcdI x y)).natAbs=y.natAbs / Nat.gcd x.natAbs y.natAbs:=zcm _ _
  rw[e1,e2]
  exact zdp (by have:(0:Int)<(Nat.gcd x.natAbs y.natAbs:Nat):=h; omega)
 have h1:=cop a b hg
 have h2:=cop c d hk
 unfold q5q
 generalize gcdI a b=g at *
 generalize gcdI c d=k at *
 generalize a.tdiv g=x at *
 generalize b.tdiv g=y at *
 generalize c.tdiv k=u at *
 generalize d.tdiv k=v at *
 have hy:0<y:=q4t hg ow
 have hv:0<v:=q4t hk ow
 have e:x*v=u*y:=by
  have:(g*k)*(x*v-u*y)=0:=by grind
  grind [qc9,q05]
 have en:x.natAbs*v.natAbs=u.natAbs*y.natAbs:=by rw[<- zbp,<- zbp,e]
 have q1:y.natAbs∣v.natAbs:=h1.symm.dvd_of_dvd_mul_left ⟨u.natAbs,by grind⟩
 have q2:v.natAbs∣y.natAbs:=h2.symm.dvd_of_dvd_mul_left ⟨x.natAbs,by grind⟩
 have q3:y.natAbs=v.natAbs:=Nat.dvd_antisymm q1 q2
 have q4:y=v:=ow
 subst q4
 have:y*(x-u)=0:=by grind
 have:=qc9 this ow
 grind
theorem q9o {a b:Int} (hb:0<b):ofR a b=q5q a b:=by
 unfold ofR q5q
 grind
theorem w4x (N:Nat) (d:List (List Int)) (P:List Int) (hP:∀q,q<N->nI P q=q):∀i,i<=N->∀k (hk:k<(q64 N d P i).length),(q64 N d P i)[k]=if k<i then q5q (nI (nL d k) N) (nI (nL d k) k) else(0,1)
 | 0,_,k,hk=>by simp[q64]
 | i+1,hi,k,hk=>by
  have h1:=hP i ow
  simp only[q64,h1,Int.toNat_natCast,List.getElem_set]
  by_cases e:i=k
  ·grind
  ·rw[zaj e,w4x N d P hP i ow k (by grind [q4r])]
   grind
theorem yg3 {n N:Nat} {M:List (List Int)} (hM:Mat n (N+1) M):w00 (qb5 M N).1 (qb5 M N).2 N=(if(if q04 (qh1 M (N+1)).piv N=true then(([],0,false):List (Int × Int) × Int × Bool) else(q64 N (qh1 M (N+1)).done_ (qh1 M (N+1)).piv (qh1 M (N+1)).piv.length,(N:Int)-(qh1 M (N+1)).piv.length,true)).2.2=false then([],8) else if 0<(if q04 (qh1 M (N+1)).piv N=true then(([],0,false):List (Int × Int) × Int × Bool) else(q64 N (qh1 M (N+1)).done_ (qh1 M (N+1)).piv (qh1 M (N+1)).piv.length,(N:Int)-(qh1 M (N+1)).piv.length,true)).2.1 then([],11) else((if q04 (qh1 M (N+1)).piv N=true then(([],0,false):List (Int × Int) × Int × Bool) else(q64 N (qh1 M (N+1)).done_ (qh1 M (N+1)).piv (qh1 M (N+1)).piv.length,(N:Int)-(qh1 M (N+1)).piv.length,true)).1,0)):=by
 have hst:=qs8 hM N ow
 obtain⟨hrs,hcnt,_⟩:=q0v hM (N+1) ow
 generalize qb5 M N=r at *
 generalize qh1 M (N+1)=s at *
 obtain⟨rows,P⟩:=r
 obtain⟨left,dn,P3⟩:=s
 have hst:St n (N+1) (rowOf M) N rows P:=hst
 have hrs:St n (N+1) (rowOf M) (N+1) (dn++left) P3:=hrs
 have hcnt:dn.length=P3.length:=hcnt
 simp only[]
 have hD:∀i,i<P3.length->nL (dn++left) i=nL dn i:=λi hi=>qn4 _ _ ow
 have hlen:=hst.len
 have hplt:∀q,q<P.length->nI P q<N:=λq hq=>(hst.pos q hq).2.1
 -- the third list's pivots
 have g1:q3q rows P N=true->∀z,Sol n (N+1) (rowOf M) z->z N=0:=λh z hz=>by
  unfold q3q at h
  rw[zbu] at h
  obtain⟨i,hi,hb⟩:=h
  have hi:=za4.1 hi
  simp only[Bool.and_eq_true,decide_eq_true_eq,bne_iff_ne,ne_eq] at hb
  have:=(hst.sol z).1 hz i ow
  unfold dt at this
  rw[qq6 (k:=N) ow λc hc hne=>by
   try dsimp only
   rw[hst.zero i hb.1 ow c ow,zcb]] at this
  grind [qc9]
 have g2:q3q rows P N=false->Good n N (rowOf M) rows P:=λh=>by
  refine⟨⟨N,zac _,ow,hst⟩,hplt,λi h1 h2=>?_⟩
  grind [q3q,List.any_eq_false]
 have g3:q04 P3 N=true->∀z,Sol n (N+1) (rowOf M) z->z N=0:=λh z hz=>by
  unfold q04 at h
  rw[zbu] at h
  obtain⟨x,hx,hb⟩:=h
  obtain⟨q,hq,rfl⟩:=q9k hx
  have e:nI P3 q=(N:Int):=by grind
  obtain⟨p1,p2,p3,p4,p5⟩:=hrs.pos q hq
  rw[e,zaq] at p3 p4
  have hpl:=hrs.pl
  have:=(hrs.sol z).1 hz q ow
  unfold dt at this
  rw[qq6 (k:=N) ow λc hc hne=>by
   grind] at this
  grind [qc9]
 have g4:q04 P3 N=false->Good n N (rowOf M) (dn++left) P3:=λh=>by
  refine⟨⟨N+1,ow,zac _,hrs⟩,λq hq=>?_,λi h1 h2=>hrs.zero i h1 h2 N ow⟩
  unfold q04 at h
  have:=zb1.1 h _ (q9j hq)
  have p:=hrs.pos q hq
  grind
 unfold w00
 cases hn:q3q rows P N with
 | true=>
  have:q04 P3 N=true:=by
   cases e:q04 P3 N with
   | true=>rfl
   | false=>
    obtain⟨z,z1,z2⟩:=(g4 e).last
    grind
  grind
 | false=>
  have hg:=g2 hn
  have e3:q04 P3 N=false:=by
   cases e:q04 P3 N with
   | false=>rfl
   | true=>
    obtain⟨z,z1,z2⟩:=hg.last
    grind
  have hg3:=g4 e3
  have hle:=hg.asc.le
  have hle3:=hg3.asc.le
  simp only[e3,Bool.false_eq_true,if_false,Bool.true_eq_false]
  by_cases hl:P.length<N
  ·have:=hg.len hg3 hl
   grind
  ·have hl3:¬P3.length<N:=λh=>hl (hg3.len hg h)
   rw[zaj hl,zaj ow]
   have eP:P.length=N:=ow
   have eP3:P3.length=N:=ow
   have i1:=λq (hq:q<N)=>hg.asc.id eP hq
   have i3:=λq (hq:q<N)=>hg3.asc.id eP3 hq
   congr 1
   apply zbx
   ·grind [q4r,List.length_map,List.length_range]
   intro k h1 h2
   rw[q4r] at h2
   rw[w4x N dn P3 i3 _ ow k ow,zap ow,zee,List.getElem_range]
   unfold q81
   rw[i1 k h2,zaq]
   obtain⟨z,z1,_⟩:=hg.last
   have p1:=(hg.row eP z1 h2).1
   have p3:=(hg3.row eP3 z1 h2).1
   have hv:=hg.val hg3 eP eP3 h2
   grind [q9o,xj9]
theorem qw5 {m:List (List Int)} {y pix:List Int} (h:Asked m y pix):Small m.length pix.length (pix.length+1) (qb8 m pix y):=by
 have hM:=h.msk
 have h6:=hM.rows6
 have hp10:=hM.pix10
 have hpl:=h.nam.len
 have hat:∀i,i<m.length->nL (qb8 m pix y) i=qx5 (nL m i) pix++[nI y i]:=λi hi=>by
  grind [qz1,qo0]
 have hlo:∀i,i<m.length->∀c,c<pix.length->(nI (nL (qb8 m pix y) i) c).natAbs<=1:=λi hi c hc=>by
  rw[hat i hi,qk2 _ _ (by grind [ql6]),qu7 _ _ _ hc]
  have h1:=h.nam.at_ c hc
  have h2:=hM.small i hi (nI pix c).toNat ow
  omega
 refine⟨⟨q9g m pix y,λi hi=>by grind [List.length_append,ql6]⟩,h6,ow,ow,λa c ha hc=>hlo a ha c hc,λa c ha hc=>?_⟩
 rcases zas c pix.length with q | q
 ·grind
 ·have e:nI (nL (qb8 m pix y) a) c=nI y a:=by
   grind [qx5,nL,ql6,qn3]
  have:=h.at_ a ha
  omega
theorem x63 (m:List (List Int)) (pix y:List Int):yw8 m pix y=qy0 m pix y:=by
 unfold yw8 qy0
 split
 ·rename_i h
  have hA:=Asked.of h
  have hS:=qw5 hA
  have hW:rdW (qb8 m pix y)=pix.length+1:=hS.each 0 (by have:=hA.msk.rows1; omega)
  unfold svT svR svP svD qu9 qt8
  rw[hW]
  exact(yg3 hS.toMat).symm
 rfl
theorem x64 (m:List (List Int)) (y pix:List Int):ym3 m y pix=qg9 m y pix:=by
 unfold ym3 qg9 y2g yf7
 rw[x63]
theorem xk0 {m:List (List Int)} {pix y:List Int} (hl:pix.length<=100000):q4p m pix y:=by
 refine⟨ow,λh=>?_⟩
 have hA:=Asked.of h
 have hS:=qw5 hA
 refine⟨wx9 hS,?_⟩
 have hst:=qs8 hS.toMat pix.length ow
 have hpl:=hst.pl
 have hlen:=hst.len
 have hB:BIG=4000000000000000000:=rfl
 refine⟨λk hk=>?_,λk hk=>?_,λk hk=>?_⟩
 ·have:=(hst.pos k hk).2.2.1
  show nI (nL (qb5 (qb8 m pix y) pix.length).1 k) (nI (qb5 (qb8 m pix y) pix.length).2 k).toNat≠0
  omega
 ·have hk:k<(qb5 (qb8 m pix y) pix.length).2.length:=hk
  have h1:=hst.pos k hk
  have:=(hst.small hS (zac _) (i:=k) ow).2 (nI (qb5 (qb8 m pix y) pix.length).2 k).toNat ow
  show qd8 BIG (nI (nL (qb5 (qb8 m pix y) pix.length).1 k) (nI (qb5 (qb8 m pix y) pix.length).2 k).toNat)
  omega
 ·have hk:k<(qb5 (qb8 m pix y) pix.length).2.length:=hk
  have:=(hst.small hS (zac _) (i:=k) ow).2 pix.length ow
  show qd8 BIG (nI (nL (qb5 (qb8 m pix y) pix.length).1 k) pix.length)
  omega
theorem yw9 {m:List (List Int)} {pix y:List Int} (hf:x4g m) (hl:pix.length<=100000):yf6 m pix y:=by
 refine⟨hf,hl,λh=>?_⟩
 have hA:=Asked.of h
 have hS:=qw5 hA
 have hM:=hA.msk
 have h1:=hM.rows1
 have h6:=hM.rows6
 have hp10:=hM.pix10
 have hpl:=hA.nam.len
 have hW:rdW (qb8 m pix y)=pix.length+1:=hS.each 0 ow
 obtain⟨r1,r2⟩:=x1e hS ow
 have hrst:=q0v hS.toMat (pix.length+1) (zac _)
 have hB:BIG=4000000000000000000:=rfl
 have e1:svD m pix y=(qh1 (qb8 m pix y) (pix.length+1)).done_:=by grind [svD,qu9]
 have e2:svP m pix y=(qh1 (qb8 m pix y) (pix.length+1)).piv:=by grind [svP,qu9]
 refine⟨ow,⟨ow,ow,λi hi j hj=>?_⟩,ow,hA.len,r1,?_⟩
 ·have:=hA.nam.at_ j hj
  rw[hM.each i hi]; omega
 ·rw[e1,e2]
  obtain⟨hst,hcnt,_⟩:=hrst
  have hlen:=hst.len
  have hpl2:=hst.pl
  rw[zav] at hlen
  have hD:∀i,i<(qh1 (qb8 m pix y) (pix.length+1)).piv.length->nL ((qh1 (qb8 m pix y) (pix.length+1)).done_++(qh1 (qb8 m pix y) (pix.length+1)).left) i=nL (qh1 (qb8 m pix y) (pix.length+1)).done_ i:=λi hi=>qn4 _ _ ow
  refine⟨hcnt,ow,λk hk=>?_,λk hk=>?_,λk hk=>?_,λk hk=>?_,λk hk=>?_⟩
  ·rw[<- hD k ow]; exact hst.each k ow
  ·have:=hst.pos k hk; omega
  ·have:=(hst.pos k hk).2.2.1
   grind
  ·have:=hst.pos k hk
   grind
  grind
structure x1f (m:List (List Int)) (y pix:List Int):Prop where
 chk:qw0 m y pix=0
 rows:pix.length<=m.length
 fst:(qg9 m y pix).1.1=pix
 len:(qg9 m y pix).1.2.length=pix.length
theorem qu3 {m:List (List Int)} {y pix:List Int} (h:(qg9 m y pix).2=true):x1f m y pix:=by
 unfold qg9 at h
 split at h
 ·cases h
 ·rename_i hno
  have h0:(qy0 m pix y).2=0:=zaf λq=>hno (.inl q)
  have ef:qg9 m y pix=((pix,(qy0 m pix y).1),true):=by simp_all [qg9,if_neg]
  rw[show x1f m y pix↔x1f m y pix from zek]
  have hc:qw0 m y pix=0:=zaf λq=>by
   simp_all [qy0,if_neg]
  have hA:=Asked.of hc
  have hS:=qw5 hA
  have hst:=qs8 hS.toMat pix.length ow
  have hpl:=hst.pl
  have es:qy0 m pix y=w00 (qb5 (qb8 m pix y) pix.length).1 (qb5 (qb8 m pix y) pix.length).2 pix.length:=by unfold qy0; rw[zap hc]; rfl
  have hle:(qb5 (qb8 m pix y) pix.length).2.length<=pix.length:=(⟨λq hq=>⟨(hst.pos q hq).1,(hst.pos q hq).2.1⟩,hst.asc⟩:Asc pix.length _).le
  rw[es] at h0
  unfold w00 at h0
  split at h0
  ·omega
  ·rename_i hn
   split at h0
   ·omega
   ·rename_i hl
    refine⟨hc,ow,by rw[ef],?_⟩
    rw[ef]
    show(qy0 m pix y).1.length=_
    rw[es]
    unfold w00
    grind
theorem x1g:((List.range 8).all λn=>decide (w7x n=(List.range (n+1)).flatMap λ(k:Nat)=>qf2 (n:Nat) (k:Nat)))=true:=by decide +kernel
theorem x65 {n:Nat} (h:n<=7):w7x n=(List.range (n+1)).flatMap λ(k:Nat)=>qf2 (n:Nat) (k:Nat):=by
 have:=zan.1 x1g n (za4.2 ow)
 grind
theorem q4u {n k:Nat} {s:List Int} (h:s∈qf2 (n:Nat) (k:Nat)):s.length=k/\k<=n:=by
 grind [qf2,ww1]
theorem w19 (m:List (List Int)) (y:List Int) (s t:List (List Int)):qg0 m y (s++t)=qg0 m y s++qg0 m y t:=zep
theorem w2a (m:List (List Int)) (y:List Int) (s:List (List Int)):q7l m y s=qg0 m y s:=by
 grind [q7l,qg0,x64]
theorem q9p (m:List (List Int)) (y:List Int):∀K,qi4 m y K=qg0 m y ((List.range K).flatMap λ(k:Nat)=>qf2 (nL m 0).length (k:Nat))
 | 0=>rfl
 | K+1=>by
  rw[qi4,q9p m y K,zdb,zcp,w19]
  simp
theorem x67 {m:List (List Int)} (y:List Int) (h:(nL m 0).length<=7):x9d m y=qi4 m y ((nL m 0).length+1):=by
 grind [x9d,w2a,x65,q9p]
theorem w2b {m:List (List Int)} {y:List Int} {s:List (List Int)} {f:Fit} (h:f∈qg0 m y s):∃pix∈s,x1f m y pix/\f=(qg9 m y pix).1:=by
 grind [qg0,qu3,Option.some.inj]
theorem q9q {m:List (List Int)} {y:List Int} {k:Nat} {f:Fit} (h:f∈qg0 m y (qf2 (nL m 0).length (k:Nat))):f.1.length=k/\k<=m.length/\k<=(nL m 0).length:=by
 obtain⟨pix,h1,h2,rfl⟩:=w2b h
 have h3:=q4u h1
 have h4:=h2.rows
 rw[h2.fst]
 omega
theorem xk1 (m:List (List Int)) (y:List Int) {k:Int} (hk:0<=k):∀K,xi8 k (qi4 m y K)=qi4 m y (min K (fitsN m k))
 | 0=>by rfl
 | K+1=>by
  have hN:fitsN m k=(min (min k (nL m 0).length) m.length+1).toNat:=rfl
  rw[qi4]
  unfold xi8
  rw[List.filter_append]
  have ih:=xk1 m y hk K
  unfold xi8 at ih
  rw[ih]
  by_cases e:K<fitsN m k
  ·rw[show min K (fitsN m k)=K by omega,show min (K+1) (fitsN m k)=K+1 by omega,qi4]
   congr 1
   rw[List.filter_eq_self]
   intro f hf
   have:=q9q hf
   grind
  ·rw[show min K (fitsN m k)=fitsN m k by omega,show min (K+1) (fitsN m k)=fitsN m k by omega]
   rw[List.filter_eq_nil_iff.2 λf hf=>?_,zca]
   have:=q9q hf
   grind
theorem x1h {m:List (List Int)} (y:List Int) {k:Int} (hk:0<=k) (h7:(nL m 0).length<=7):qe0 m y k=xi8 k (x9d m y):=by
 rw[x67 y h7,xk1 m y hk]
 have hN:fitsN m k=(min (min k (nL m 0).length) m.length+1).toNat:=rfl
 grind [qe0,min,nL,fitsN]
theorem x68 {m:List (List Int)} {y:List Int} (hf:x4g m) (hM:Mk m) (h7:(nL m 0).length<=7):xi7 m y:=by
 have h1:=hM.rows1
 refine⟨ow,h7,λs hs=>yw9 hf ?_⟩
 have:=((ww6 (n:=(nL m 0).length) (k:=128) h7 (zac _)).2 s hs).1
 omega
theorem x1i {m:List (List Int)} {y:List Int} {k:Int} (hf:x4g m) (hM:Mk m) (h7:(nL m 0).length<=7) (h0:0<=k) (h1:k<=10):qk6 m y k:=by
 have r1:=hM.rows1
 have r6:=hM.rows6
 refine⟨⟨h0,ow,ow,ow,ow,λj hj s hs=>?_⟩,?_⟩
 ·have:=q4u hs
  grind [xk0]
 grind [x1h,x08,x68,xi8,x9d,List.length_filter_le]
theorem q6s (l:List Int) {p:Nat} (hp:p<l.length) (x:Int) (q:Nat):nI (l.set p x) q=if q=p then x else nI l q:=by
 by_cases e:q=p
 ·subst e
  rw[zap rfl,qg5 _ _ (by grind),zeq]
 simp_all [if_neg,nI,qf0,List.getD_eq_getElem?_getD,List.getElem?_set_ne,Ne.symm]
abbrev tU64:Ty:=.int .u64
abbrev q3s:Ty:=.prod (.int .i64) (.int .u64)
theorem xk2 {x:Int} (h0:0<=x) (h1:x<=18446744073709551615):fits IntKind.u64 x:=by
 grind [fits,Go.IntWalk.u64_in]
def lil (x:Int):Prop:=0<=x/\x<=2000000000
theorem yx0 {a:Int} (h0:0<=a) (h1:a<18446744073709551616):IntKind.u64.wrap ((BitVec.ofInt 64 a &&& BitVec.ofInt 64 4294967295).toNat:Int)=a % 4294967296:=by
 have e1:(BitVec.ofInt 64 a).toNat=a.toNat:=by
  rw[BitVec.toNat_ofInt]
  omega
 have e2:(BitVec.ofInt 64 4294967295).toNat=2 ^ 32-1:=dc
 rw[BitVec.toNat_and,e1,e2,zdj]
 have e4:((a.toNat % 2 ^ 32:Nat):Int)=a % 4294967296:=ow
 rw[e4]
 exact zd7 _ ow
theorem xk3 {a:Int} (h0:0<=a):a.fdiv 4294967296=a / 4294967296:=zch _ dc
theorem wb8 (n:Int):IntKind.u64.wrap n=n % 18446744073709551616:=rfl
def hiU (n:Int):Int:=n / 18446744073709551616
def loU (n:Int):Int:=n % 18446744073709551616
def spl (n:Int):Int × Int:=(hiU n,loU n)
abbrev yx1:qa8:=qd9 true none [tU64,tU64] [tU64,tU64] (λx=>(0<=x.1/\x.1<18446744073709551616)/\0<=x.2.1/\x.2.1<18446744073709551616) (λx=>((spl (x.1*x.2.1)).1,(spl (x.1*x.2.1)).2,()))
theorem wh7:Meets Tryz.prog 220 yx1:=by
 refine meets (y2e [50] (SpecsOk.nil _)) Tryz.func220 rfl rfl (λ_ _=>none) (λ_=>by kernel_rfl) dc ?_
 rintro⟨x,y,⟨⟩⟩ h
 revert x y
 intro(x:Int) (y:Int) (h:(0<=x/\x<18446744073709551616)/\0<=y/\y<18446744073709551616)
 refine vcs ((0:Int)<=(32:Int)/\(0:Int)<=(32:Int)/\fits IntKind.u64 (IntKind.wrap IntKind.u64 (↑(BitVec.toNat (BitVec.ofInt (64:Nat) x &&& BitVec.ofInt (64:Nat) (4294967295:Int))):Int)*IntKind.wrap IntKind.u64 (↑(BitVec.toNat (BitVec.ofInt (64:Nat) y &&& BitVec.ofInt (64:Nat) (4294967295:Int))):Int))/\fits IntKind.u64 (Int.fdiv x (4294967296:Int)*IntKind.wrap IntKind.u64 (↑(BitVec.toNat (BitVec.ofInt (64:Nat) y &&& BitVec.ofInt (64:Nat) (4294967295:Int))):Int))/\(0:Int)<=(32:Int)/\fits IntKind.u64 (Int.fdiv x (4294967296:Int)*IntKind.wrap IntKind.u64 (↑(BitVec.toNat (BitVec.ofInt (64:Nat) y &&& BitVec.ofInt (64:Nat) (4294967295:Int))):Int)+Int.fdiv (IntKind.wrap IntKind.u64 (↑(BitVec.toNat (BitVec.ofInt (64:Nat) x &&& BitVec.ofInt (64:Nat) (4294967295:Int))):Int)*IntKind.wrap IntKind.u64 (↑(BitVec.toNat (BitVec.ofInt (64:Nat) y &&& BitVec.ofInt (64:Nat) (4294967295:Int))):Int)) (4294967296:Int))/\(0:Int)<=(32:Int)/\fits IntKind.u64 (IntKind.wrap IntKind.u64 (↑(BitVec.toNat (BitVec.ofInt (64:Nat) x &&& BitVec.ofInt (64:Nat) (4294967295:Int))):Int)*Int.fdiv y (4294967296:Int))/\fits IntKind.u64 (IntKind.wrap IntKind.u64 (↑(BitVec.toNat (BitVec.ofInt (64:Nat) (Int.fdiv x (4294967296:Int)*IntKind.wrap IntKind.u64 (↑(BitVec.toNat (BitVec.ofInt (64:Nat) y &&& BitVec.ofInt (64:Nat) (4294967295:Int))):Int)+Int.fdiv (IntKind.wrap IntKind.u64 (↑(BitVec.toNat (BitVec.ofInt (64:Nat) x &&& BitVec.ofInt (64:Nat) (4294967295:Int))):Int)*IntKind.wrap IntKind.u64 (↑(BitVec.toNat (BitVec.ofInt (64:Nat) y &&& BitVec.ofInt (64:Nat) (4294967295:Int))):Int)) (4294967296:Int)) &&& BitVec.ofInt (64:Nat) (4294967295:Int))):Int)+IntKind.wrap IntKind.u64 (↑(BitVec.toNat (BitVec.ofInt (64:Nat) x &&& BitVec.ofInt (64:Nat) (4294967295:Int))):Int)*Int.fdiv y (4294967296:Int))/\fits IntKind.u64 (Int.fdiv x (4294967296:Int)*Int.fdiv y (4294967296:Int))/\fits IntKind.u64 (Int.fdiv x (4294967296:Int)*Int.fdiv y (4294967296:Int)+Int.fdiv (Int.fdiv x (4294967296:Int)*IntKind.wrap IntKind.u64 (↑(BitVec.toNat (BitVec.ofInt (64:Nat) y &&& BitVec.ofInt (64:Nat) (4294967295:Int))):Int)+Int.fdiv (IntKind.wrap IntKind.u64 (↑(BitVec.toNat (BitVec.ofInt (64:Nat) x &&& BitVec.ofInt (64:Nat) (4294967295:Int))):Int)*IntKind.wrap IntKind.u64 (↑(BitVec.toNat (BitVec.ofInt (64:Nat) y &&& BitVec.ofInt (64:Nat) (4294967295:Int))):Int)) (4294967296:Int)) (4294967296:Int))/\(0:Int)<=(32:Int)/\fits IntKind.u64 (Int.fdiv x (4294967296:Int)*Int.fdiv y (4294967296:Int)+Int.fdiv (Int.fdiv x (4294967296:Int)*IntKind.wrap IntKind.u64 (↑(BitVec.toNat (BitVec.ofInt (64:Nat) y &&& BitVec.ofInt (64:Nat) (4294967295:Int))):Int)+Int.fdiv (IntKind.wrap IntKind.u64 (↑(BitVec.toNat (BitVec.ofInt (64:Nat) x &&& BitVec.ofInt (64:Nat) (4294967295:Int))):Int)*IntKind.wrap IntKind.u64 (↑(BitVec.toNat (BitVec.ofInt (64:Nat) y &&& BitVec.ofInt (64:Nat) (4294967295:Int))):Int)) (4294967296:Int)) (4294967296:Int)+Int.fdiv (IntKind.wrap IntKind.u64 (↑(BitVec.toNat (BitVec.ofInt (64:Nat) (Int.fdiv x (4294967296:Int)*IntKind.wrap IntKind.u64 (↑(BitVec.toNat (BitVec.ofInt (64:Nat) y &&& BitVec.ofInt (64:Nat) (4294967295:Int))):Int)+Int.fdiv (IntKind.wrap IntKind.u64 (↑(BitVec.toNat (BitVec.ofInt (64:Nat) x &&& BitVec.ofInt (64:Nat) (4294967295:Int))):Int)*IntKind.wrap IntKind.u64 (↑(BitVec.toNat (BitVec.ofInt (64:Nat) y &&& BitVec.ofInt (64:Nat) (4294967295:Int))):Int)) (4294967296:Int)) &&& BitVec.ofInt (64:Nat) (4294967295:Int))):Int)+IntKind.wrap IntKind.u64 (↑(BitVec.toNat (BitVec.ofInt (64:Nat) x &&& BitVec.ofInt (64:Nat) (4294967295:Int))):Int)*Int.fdiv y (4294967296:Int)) (4294967296:Int))/\Int.fdiv x (4294967296:Int)*Int.fdiv y (4294967296:Int)+Int.fdiv (Int.fdiv x (4294967296:Int)*IntKind.wrap IntKind.u64 (↑(BitVec.toNat (BitVec.ofInt (64:Nat) y &&& BitVec.ofInt (64:Nat) (4294967295:Int))):Int)+Int.fdiv (IntKind.wrap IntKind.u64 (↑(BitVec.toNat (BitVec.ofInt (64:Nat) x &&& BitVec.ofInt (64:Nat) (4294967295:Int))):Int)*IntKind.wrap IntKind.u64 (↑(BitVec.toNat (BitVec.ofInt (64:Nat) y &&& BitVec.ofInt (64:Nat) (4294967295:Int))):Int)) (4294967296:Int)) (4294967296:Int)+Int.fdiv (IntKind.wrap IntKind.u64 (↑(BitVec.toNat (BitVec.ofInt (64:Nat) (Int.fdiv x (4294967296:Int)*IntKind.wrap IntKind.u64 (↑(BitVec.toNat (BitVec.ofInt (64:Nat) y &&& BitVec.ofInt (64:Nat) (4294967295:Int))):Int)+Int.fdiv (IntKind.wrap IntKind.u64 (↑(BitVec.toNat (BitVec.ofInt (64:Nat) x &&& BitVec.ofInt (64:Nat) (4294967295:Int))):Int)*IntKind.wrap IntKind.u64 (↑(BitVec.toNat (BitVec.ofInt (64:Nat) y &&& BitVec.ofInt (64:Nat) (4294967295:Int))):Int)) (4294967296:Int)) &&& BitVec.ofInt (64:Nat) (4294967295:Int))):Int)+IntKind.wrap IntKind.u64 (↑(BitVec.toNat (BitVec.ofInt (64:Nat) x &&& BitVec.ofInt (64:Nat) (4294967295:Int))):Int)*Int.fdiv y (4294967296:Int)) (4294967296:Int)=(spl (x*y)).1/\IntKind.wrap IntKind.u64 (x*y)=(spl (x*y)).2/\True) ?_
 obtain⟨⟨x0,x1⟩,y0,y1⟩:=h
 simp only[yx0 x0 x1,yx0 y0 y1,xk3 x0,xk3 y0]
 have hmul:∀u v:Int,0<=u->u<=4294967295->0<=v->v<=4294967295->0<=u*v/\u*v<=18446744065119617025:=λu v a1 a2 a3 a4=>⟨za5 a1 a3,zc4 (zb2 a2 a4 a3 dc) dc⟩
 have P:=hmul (x % 4294967296) (y % 4294967296) ow ow ow ow
 have Q:=hmul (x / 4294967296) (y % 4294967296) ow ow ow ow
 have R:=hmul (x % 4294967296) (y / 4294967296) ow ow ow ow
 have S:=hmul (x / 4294967296) (y / 4294967296) ow ow ow ow
 have hxy:x*y=(x / 4294967296)*(y / 4294967296)*18446744073709551616+((x / 4294967296)*(y % 4294967296)+(x % 4294967296)*(y / 4294967296))*4294967296+(x % 4294967296)*(y % 4294967296):=by
  have e1:x=4294967296*(x / 4294967296)+x % 4294967296:=ow
  have e2:y=4294967296*(y / 4294967296)+y % 4294967296:=ow
  generalize x / 4294967296=a at e1 ⊢
  generalize x % 4294967296=b at e1 ⊢
  generalize y / 4294967296=c at e2 ⊢
  generalize y % 4294967296=d at e2 ⊢
  rw[e1,e2]
  grind
 rw[wb8 (x*y)]
 unfold spl hiU loU
 generalize x*y=xy at hxy ⊢
 generalize x % 4294967296*(y % 4294967296)=p at P hxy ⊢
 generalize x / 4294967296*(y % 4294967296)=q at Q hxy ⊢
 generalize x % 4294967296*(y / 4294967296)=r at R hxy ⊢
 generalize x / 4294967296*(y / 4294967296)=s at S hxy ⊢
 have t0:0<=q+p / 4294967296:=ow
 have t1:q+p / 4294967296<18446744073709551616:=ow
 simp only[xk3 P.1,yx0 t0 t1,xk3 t0]
 have u0:0<=(q+p / 4294967296) % 4294967296+r:=ow
 simp only[xk3 u0]
 refine⟨xk2 ow ow,xk2 ow ow,xk2 ow ow,xk2 ow ow,xk2 ow ow,xk2 ow ow,xk2 ow ow,xk2 ow ow,?_,trivial⟩
 (try dsimp only); omega
abbrev yx2:qa8:=qd9 true none [qc0] [tU64] (λx=>qd8 BIG x.1) (λx=>((x.1.natAbs:Int),()))
theorem wh8:Meets Tryz.prog 221 yx2:=by
 refine meets (y2e [6,7] (SpecsOk.nil _)) Tryz.func221 rfl rfl (λ_ _=>none) (λ_=>by kernel_rfl) dc ?_
 rintro⟨x,⟨⟩⟩ h
 revert x
 intro(x:Int) (h:qd8 BIG x)
 refine vcs ((decide (x<(0:Int))=true->IntKind.wrap IntKind.u64 ((0:Int)-IntKind.wrap IntKind.u64 x)=(↑(Int.natAbs x):Int))/\(decide (x<(0:Int))=false->fits IntKind.u64 x/\x=(↑(Int.natAbs x):Int))) ?_
 have hB:BIG=4000000000000000000:=rfl
 unfold qd8 at h
 refine⟨λhl=>?_,λhl=>⟨xk2 ow ow,ow⟩⟩
 rw[wb8,wb8]; omega
structure qw6 (a b:Int):Prop where
 fa:qd8 BIG a
 fb:qd8 BIG b
 sg:decide (a<0)=decide (b<0)
abbrev yx3:qa8:=qd9 true none [qc0,qc0] [q3s] (λx=>qw6 x.1 x.2.1) (λx=>(spl (x.1*x.2.1),()))
theorem w77:Meets Tryz.prog 222 yx3:=by
 refine mt0 (SpecsOk.cons wh7 (SpecsOk.cons wh8 (SpecsOk.nil _))) Tryz.func222 ?_
 rintro⟨x,y,⟨⟩⟩ h
 revert x y
 intro(x:Int) (y:Int) (h:qw6 x y)
 refine vcs (let Q0:=Int.natAbs y; let Q1:=Int.natAbs x; qd8 BIG x/\qd8 BIG y/\(((0:Ty.den tU64)<=(↑Q1:Int)/\(↑Q1:Int)<(18446744073709551616:Ty.den tU64))/\(0:Ty.den tU64)<=(↑Q0:Int)/\(↑Q0:Int)<(18446744073709551616:Ty.den tU64))/\fits .i64 (spl ((↑Q1:Int)*(↑Q0:Int))).1/\((decide (x<(0:Int)) != decide (y<(0:Int)))=true->False)/\((decide (x<(0:Int)) != decide (y<(0:Int)))=false->(spl ((↑Q1:Int)*(↑Q0:Int))).1=(spl (x*y)).1/\(spl ((↑Q1:Int)*(↑Q0:Int))).2=(spl (x*y)).2/\True)) ?_
 have hB:BIG=4000000000000000000:=rfl
 obtain⟨hx,hy,hs⟩:=h
 have e:(x.natAbs:Int)*(y.natAbs:Int)=x*y:=by
  rw[decide_eq_decide] at hs
  rcases zc3 x 0 with q | q
  ·rw[show((x.natAbs:Nat):Int)=-x by omega,show((y.natAbs:Nat):Int)=-y by omega,Int.neg_mul_neg]
  ·rw[show((x.natAbs:Nat):Int)=x by omega,show((y.natAbs:Nat):Int)=y by omega]
 have hb:0<=x*y/\x*y<=16000000000000000000000000000000000000:=by
  unfold qd8 at hx hy
  rw[<- e]
  exact⟨za5 ow ow,zc4 (zb2 (show(x.natAbs:Int)<=4000000000000000000 by omega) (show(y.natAbs:Int)<=4000000000000000000 by omega) ow dc) dc⟩
 rw[e]
 unfold spl hiU loU
 refine⟨hx,hy,?_,qa6 (by(try dsimp only); omega) (by(try dsimp only); omega),λq=>absurd hs q,λ_=>⟨rfl,rfl⟩⟩
 unfold qd8 at hx hy
 omega
def q06 (a b:Int × Int):Int:=if a.1=b.1/\a.2=b.2 then 0 else if a.1<b.1\/a.1=b.1/\a.2<b.2 then -1 else 1
abbrev yx4:qa8:=qd9 true none [q3s,q3s] [qc0] (λ_=>True) (λx=>(q06 x.1 x.2.1,()))
theorem q5u:Meets Tryz.prog 218 yx4:=by
 refine mt0 (SpecsOk.nil _) Tryz.func218 ?_
 rintro⟨⟨a,b⟩,⟨c,d⟩,⟨⟩⟩ -
 revert a b c d
 intro(a:Int) (b:Int) (c:Int) (d:Int)
 refine vcs (((a==c && b==d)=true->(0:Int)=q06 (a,b) (c,d))/\((a==c && b==d)=false->(decide (a<c)=true->(-1:Int)=q06 (a,b) (c,d))/\(decide (a<c)=false->((a==c)=true->(decide (b<d)=true->(-1:Int)=q06 (a,b) (c,d))/\(decide (b<d)=false->(1:Int)=q06 (a,b) (c,d)))/\((a==c)=false->(1:Int)=q06 (a,b) (c,d))))) ?_
 rw[zaz,beq_iff_eq,beq_iff_eq,zdf,ne_eq,zaz,beq_iff_eq,beq_iff_eq]
 simp_all [q06,if_pos,if_neg]
def w4y (a b:Int × Int):Int:=if a.1*b.2=b.1*a.2 then 0 else if a.1*b.2<b.1*a.2 then -1 else 1
structure q4v (a:Int × Int):Prop where
 n:lil a.1
 d:lil a.2
 pos:1<=a.2
abbrev yx5:qa8:=qd9 true none [qv9,qv9] [qc0] (λx=>q4v x.1/\q4v x.2.1) (λx=>(w4y x.1 x.2.1,()))
def dn (d:Int):Int:=if d<1 then 1 else d
def q45 (a b:Int × Int):Int:=w4y (a.1,dn a.2) (b.1,dn b.2)
structure CmP (a:Int × Int):Prop where
 n0:0<=a.1
 n1:a.1<=10000000000
 d0:0<=a.2
 d1:a.2<=2000000000
abbrev yg4:qa8:=qd9 true none [qv9,qv9] [qc0] (λx=>CmP x.1/\CmP x.2.1) (λx=>(q45 x.1 x.2.1,()))
theorem x1j (u v:Int):q06 (spl u) (spl v)=if u=v then 0 else if u<v then -1 else 1:=by
 unfold q06 spl hiU loU
 dsimp only
 by_cases h:u=v
 ·subst h; rw[zap ⟨rfl,rfl⟩,zap rfl]
 ·rw[zaj ow,zaj h]
  by_cases q:u<v
  ·rw[zap ow,zap q]
  ·rw[zaj ow,zaj q]
theorem CmP.prd {a:Int × Int} (ha:CmP a) {d:Int} (h0:0<=d) (h1:d<=2000000000):qw6 a.1 d:=by
 obtain⟨a1,a2,a3,a4⟩:=ha
 have hB:BIG=4000000000000000000:=rfl
 refine⟨?_,?_,?_⟩
 ·unfold qd8; omega
 ·unfold qd8; omega
 ·rw[zc7 ow,zc7 ow]
theorem q9r:Meets Tryz.prog 173 yg4:=by
 refine mt0 (SpecsOk.cons w77 (SpecsOk.cons q5u (SpecsOk.nil _))) Tryz.func173 ?_
 rintro⟨⟨a,b⟩,⟨c,d⟩,⟨⟩⟩ h
 revert a b c d
 intro(a:Int) (b:Int) (c:Int) (d:Int) (h:CmP (a,b)/\CmP (c,d))
 refine vcs (let Q0:=((spl (c*b)).1,(spl (c*b)).2); let Q1:=((spl (a*d)).1,(spl (a*d)).2); (decide (b<(1:Int))=true->(decide (d<(1:Int))=true->qw6 a (1:Int)/\qw6 c (1:Int)/\True/\q06 ((spl (a*(1:Int))).1,(spl (a*(1:Int))).2) ((spl (c*(1:Int))).1,(spl (c*(1:Int))).2)=q45 (a,b) (c,d))/\(decide (d<(1:Int))=false->qw6 a d/\qw6 c (1:Int)/\True/\q06 Q1 ((spl (c*(1:Int))).1,(spl (c*(1:Int))).2)=q45 (a,b) (c,d)))/\(decide (b<(1:Int))=false->(decide (d<(1:Int))=true->qw6 a (1:Int)/\qw6 c b/\True/\q06 ((spl (a*(1:Int))).1,(spl (a*(1:Int))).2) Q0=q45 (a,b) (c,d))/\(decide (d<(1:Int))=false->qw6 a d/\qw6 c b/\True/\q06 Q1 Q0=q45 (a,b) (c,d)))) ?_
 obtain⟨h1,h2⟩:=h
 have key:∀x y:Int,x=dn b->y=dn d->q06 ((spl (a*y)).1,(spl (a*y)).2) ((spl (c*x)).1,(spl (c*x)).2)=q45 (a,b) (c,d):=λx y hx hy=>by
  subst hx hy
  exact x1j _ _
 have b1:b<1->1=dn b:=λq=>(zap q).symm
 have b2:1<=b->b=dn b:=λq=>(zaj ow).symm
 have d1:d<1->1=dn d:=λq=>(zap q).symm
 have d2:1<=d->d=dn d:=λq=>(zaj ow).symm
 have e1:qw6 a 1:=h1.prd dc dc
 have e2:qw6 c 1:=h2.prd dc dc
 have e3:qw6 a d:=h1.prd h2.d0 h2.d1
 have e4:qw6 c b:=h2.prd h1.d0 h1.d1
 exact⟨λp=>⟨λq=>⟨e1,e2,key _ _ (b1 p) (d1 q)⟩,λq=>⟨e3,e2,key _ _ (b1 p) (d2 q)⟩⟩,λp=>⟨λq=>⟨e1,e4,key _ _ (b2 p) (d1 q)⟩,λq=>⟨e3,e4,key _ _ (b2 p) (d2 q)⟩⟩⟩
theorem w2c:Meets Tryz.prog 123 yg4:=by
 refine mt0 (SpecsOk.cons q9r (SpecsOk.nil _)) Tryz.func123 ?_
 rintro⟨⟨a,b⟩,⟨c,d⟩,⟨⟩⟩ h
 revert a b c d
 intro(a:Int) (b:Int) (c:Int) (d:Int) (h:CmP (a,b)/\CmP (c,d))
 refine vcs ((CmP (a,b)/\CmP (c,d))/\q45 (a,b) (c,d)=q45 (a,b) (c,d)) ?_
 exact h
theorem w78:Meets Tryz.prog 123 yx5:=by
 refine mt0 (SpecsOk.cons q9r (SpecsOk.nil _)) Tryz.func123 ?_
 rintro⟨⟨a,b⟩,⟨c,d⟩,⟨⟩⟩ h
 revert a b c d
 intro(a:Int) (b:Int) (c:Int) (d:Int) (h:q4v (a,b)/\q4v (c,d))
 refine vcs ((CmP (a,b)/\CmP (c,d))/\q45 (a,b) (c,d)=w4y (a,b) (c,d)) ?_
 obtain⟨⟨⟨a0,a1⟩,⟨b0,b1⟩,b2⟩,⟨c0,c1⟩,⟨d0,d1⟩,d2⟩:=h
 dsimp only at a0 a1 b0 b1 b2 c0 c1 d0 d1 d2
 refine⟨⟨⟨a0,by dsimp only; omega,b0,b1⟩,c0,by dsimp only; omega,d0,d1⟩,?_⟩
 unfold q45 dn
 dsimp only
 rw[zaj ow,zaj ow]
open Go Go.RowKit Eng Ls
def y2h (args:Array Value):Sem Value:=do
 let (x, y, c) <- Extern.MathBitsCarry.three "Add64" args
 pure (Extern.MathBitsCarry.pair ((x+y+c) % Extern.MathBitsCarry.m64) ((x+y+c) / Extern.MathBitsCarry.m64))
def y2i (args:Array Value):Sem Value:=do
 let (x, y, b) <- Extern.MathBitsCarry.three "Sub64" args
 pure (Extern.MathBitsCarry.pair ((x+Extern.MathBitsCarry.m64-y-b) % Extern.MathBitsCarry.m64) (if x<y+b then 1 else 0))
theorem yg5 (x y c:Int) (hx:0<=x) (hy:0<=y) (hc0:0<=c) (hc:c<=1) (w:World):(callFunc 267 #[.int .u64 x,.int .u64 y,.int .u64 c]).run Tryz.prog w =
  .ok (.value (.tuple #[.int .u64 ((x+y+c) % 18446744073709551616),.int .u64 ((x+y+c) / 18446744073709551616)])) w:=by
 obtain⟨x,rfl⟩:=zbc hx
 obtain⟨y,rfl⟩:=zbc hy
 obtain⟨c,rfl⟩:=zbc hc0
 have h:(y2h #[.int .u64 x,.int .u64 y,.int .u64 c]).run Tryz.prog w=.ok (.tuple #[.int .u64 (((x+y+c) % 18446744073709551616:Nat):Int),.int .u64 (((x+y+c) / 18446744073709551616:Nat):Int)]) w:=by
  have:c=0\/c=1:=ow
  rcases this with rfl | rfl <;> rfl
 rw[run_callFunc_extern Tryz.func267 kr kr kr (e:=y2h) kr,h]
 rfl
theorem yx6 (x y b:Int) (hx:0<=x) (hy:0<=y) (hy':y<18446744073709551616) (hb0:0<=b) (hb:b<=1) (w:World):(callFunc 219 #[.int .u64 x,.int .u64 y,.int .u64 b]).run Tryz.prog w =
  .ok (.value (.tuple #[.int .u64 ((x-y-b) % 18446744073709551616),.int .u64 (if x<y+b then 1 else 0)])) w:=by
 obtain⟨x,rfl⟩:=zbc hx
 obtain⟨y,rfl⟩:=zbc hy
 obtain⟨b,rfl⟩:=zbc hb0
 have e1:(((x+18446744073709551616-y-b) % 18446744073709551616:Nat):Int)=((x:Int)-y-b) % 18446744073709551616:=ow
 have e2:((if x<y+b then 1 else 0:Nat):Int)=if(x:Int)<y+b then 1 else 0:=by grind
 have h:(y2i #[.int .u64 x,.int .u64 y,.int .u64 b]).run Tryz.prog w=.ok (.tuple #[.int .u64 (((x+18446744073709551616-y-b) % 18446744073709551616:Nat):Int),.int .u64 ((if x<y+b then 1 else 0:Nat):Int)]) w:=by
  have:b=0\/b=1:=ow
  rcases this with rfl | rfl <;> rfl
 rw[run_callFunc_extern Tryz.func219 kr kr kr (e:=y2i) kr,h,e1,e2]
 rfl
theorem x7a (x y:Int) (hx:0<=x) (hy:0<=y) (w:World):(callFunc 267 #[.int .u64 x,.int .u64 y,.int .u64 0]).run Tryz.prog w =
  .ok (.value (.tuple #[.int .u64 ((x+y) % 18446744073709551616),.int .u64 ((x+y) / 18446744073709551616)])) w:=by
 simp_all [yg5,Int.le_refl]
theorem xk4 (y b:Int) (hy:0<=y) (hy':y<18446744073709551616) (hb0:0<=b) (hb:b<=1) (w:World):(callFunc 219 #[.int .u64 0,.int .u64 y,.int .u64 b]).run Tryz.prog w =
  .ok (.value (.tuple #[.int .u64 ((0-y-b) % 18446744073709551616),.int .u64 (if 0<y+b then 1 else 0)])) w:=yx6 0 y b (zbr 0) hy hy' hb0 hb w
def ym4 (x:Int):Int:=if 0<x then 1 else 0
def val (w:Int × Int):Int:=w.1*18446744073709551616+w.2
structure Wd (w:Int × Int):Prop where
 h:qd8 2305843009213693952 w.1
 l0:0<=w.2
 l1:w.2<18446744073709551616
theorem Wd.spl {w:Int × Int} (h:Wd w):Go.Proofs.YtnchigbbjajiiaaGreat.spl (Go.Proofs.YtnchigbbjajiiaaGreat.val w)=w:=by
 obtain⟨a,b⟩:=w
 obtain⟨h1,h2,h3⟩:=h
 unfold qd8 at h1
 grind [Go.Proofs.YtnchigbbjajiiaaGreat.spl,hiU,loU,Go.Proofs.YtnchigbbjajiiaaGreat.val,Prod.mk.injEq]
theorem q0w (n:Int):val (spl n)=n:=by grind [val,spl,hiU,loU]
abbrev y4n:qa8:=qd9 true none [q3s,q3s] [q3s] (λx=>Wd x.1/\Wd x.2.1) (λx=>(spl (val x.1+val x.2.1),()))
set_option maxRecDepth 100000 in
theorem x7b (ah al bh bl:Int) (ha:Wd (ah,al)) (hb:Wd (bh,bl)) (w:World) :
  Calls Tryz.prog 217 #[.agg #[.int .i64 ah,.int .u64 al],.agg #[.int .i64 bh,.int .u64 bl]] w λe w'=>
   e=.returned (.agg #[.int .i64 (spl (val (ah,al)+val (bh,bl))).1,.int .u64 (spl (val (ah,al)+val (bh,bl))).2])/\Below w.heap.size w w':=by
 obtain⟨a1,a2,a3⟩:=ha
 obtain⟨b1,b2,b3⟩:=hb
 unfold qd8 at a1 b1
 dsimp only at a1 a2 a3 b1 b2 b3
 have k0:0<=(al+bl) / 18446744073709551616:=ow
 have k1:(al+bl) / 18446744073709551616<=1:=ow
 have c0:0<=IntKind.u64.wrap ah:=by grind [wb8]
 have d0:0<=IntKind.u64.wrap bh:=by grind [wb8]
 go_enter Tryz.func217,Tryz.ntmps217
 go_wp2_with (first | simp only[x7a al bl a2 b2] | simp only[yg5 _ _ _ c0 d0 k0 k1])
 simp[bodyPost,results,Tryz.results217,go_sem]
 refine⟨⟨?_,?_⟩,((below_alloc w _).alloc (by simp) _).alloc (by simp; omega) _⟩
 ·rw[wb8,wb8]; unfold wrap64 spl hiU loU val; omega
 grind [spl,hiU,loU,val]
theorem wy1:Meets Tryz.prog 217 y4n:=q2k ⟨_,_,Tryz.func217,rfl,rfl⟩ λw m x vs hm hp hx=>by
 obtain⟨⟨ah,al⟩,⟨bh,bl⟩,⟨⟩⟩:=x
 obtain⟨u,rest,rfl,⟨cs,rfl,us,vs,rfl,rfl,rfl⟩,u',rest',rfl,⟨cs,rfl,us,vs,rfl,rfl,rfl⟩,rfl⟩:=hx
 refine(x7b ah al bh bl hp.1 hp.2 w).mono λe w' ⟨h1,h2⟩=>⟨_,h1,h2,_,rfl,_,[],rfl,⟨_,rfl,[_],[_],rfl,rfl,rfl⟩,rfl⟩
abbrev y4o:qa8:=qd9 true none [q3s] [q3s] (λx=>Wd x.1) (λx=>(spl (-val x.1),()))
set_option maxRecDepth 100000 in
theorem x7c (ah al:Int) (ha:Wd (ah,al)) (w:World) :
  Calls Tryz.prog 169 #[.agg #[.int .i64 ah,.int .u64 al]] w λe w'=>
   e=.returned (.agg #[.int .i64 (spl (-val (ah,al))).1,.int .u64 (spl (-val (ah,al))).2])/\Below w.heap.size w w':=by
 obtain⟨a1,a2,a3⟩:=ha
 unfold qd8 at a1
 dsimp only at a1 a2 a3
 have c0:0<=IntKind.u64.wrap ah:=by grind [wb8]
 have c1:IntKind.u64.wrap ah<18446744073709551616:=by grind [wb8]
 have k0:(0:Int)<=(if 0<al then 1 else 0):=ow
 have k1:(if 0<al then 1 else 0:Int)<=1:=ow
 have s0:∀w:World,(callFunc 219 #[.int .u64 0,.int .u64 al,.int .u64 0]).run Tryz.prog w=.ok (.value (.tuple #[.int .u64 ((0-al) % 18446744073709551616),.int .u64 (ym4 al)])) w:=λw=>by
  simp_all [xk4,Int.le_refl,ym4]
 have s1:=xk4 (IntKind.u64.wrap ah) (ym4 al) c0 c1 k0 k1
 go_enter Tryz.func169,Tryz.ntmps169
 go_wp2_with (first | simp only[s0] | simp only[s1])
 all_goals
  simp[bodyPost,results,Tryz.results169,go_sem]
  refine⟨⟨?_,?_⟩,(below_alloc w _).alloc (by simp) _⟩
  ·rw[wb8]; unfold wrap64 spl hiU loU val ym4; omega
  grind [spl,hiU,loU,val]
theorem wy2:Meets Tryz.prog 169 y4o:=q2k ⟨_,_,Tryz.func169,rfl,rfl⟩ λw m x vs hm hp hx=>by
 obtain⟨⟨ah,al⟩,⟨⟩⟩:=x
 obtain⟨u,rest,rfl,⟨cs,rfl,us,vs,rfl,rfl,rfl⟩,rfl⟩:=hx
 refine(x7c ah al hp w).mono λe w' ⟨h1,h2⟩=>⟨_,h1,h2,_,rfl,_,[],rfl,⟨_,rfl,[_],[_],rfl,rfl,rfl⟩,rfl⟩
end Go.Proofs.YtnchigbbjajiiaaGreat
