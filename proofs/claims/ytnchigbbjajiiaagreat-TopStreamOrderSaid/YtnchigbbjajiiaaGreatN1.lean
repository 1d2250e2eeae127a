/- Numbers of 128 bits: sums and opposites, by hand walks with the library's laws on carries. No condition. -/
import Derived.Test.YtnchigbbjajiiaaGreatProg
import Derived.Test.YtnchigbbjajiiaaGreatApp
import Derived.Test.YtnchigbbjajiiaaGreatEng3
import Derived.Test.YtnchigbbjajiiaaGreatV12
import Derived.Test.YtnchigbbjajiiaaGreatV0
import Derived.Laws.Externs
set_option linter.unusedSimpArgs false
set_option linter.unusedVariables false
namespace Go.Proofs.YtnchigbbjajiiaaGreat
open Go Go.RowKit Ls Eng
theorem y4x:Elt Tryz.prog 24 3 (.int .i64 0) 1 8:=⟨Tryz.underlying24,kr⟩
theorem xk8 (w:World) (t:TypeId):(w.alloc (.cells #[] t)).ownsRow w.heap.size t 1 (.slice (some ⟨w.heap.size,0,none⟩) 0 0) 0 []:=
 ⟨rfl,.inr ⟨w.heap.size,0,#[],rfl,zac _,heap_alloc_new w _,zac _,by simp,rfl,rfl⟩⟩
set_option maxRecDepth 100000 in
set_option maxHeartbeats 400000 in
theorem clone_any (X:Option Addr) (k d:Nat) (l:List Int) (w:World) (hl:SI w X k d l) (hk:k<=100000) :
  Calls Tryz.prog 48 #[.slice X k d] w λe w'=>∃A' c',e=.returned (.slice A' k c')/\w'.ownsRow w.heap.size 3 1 (.slice A' k c') k (ints l)/\Below w.heap.size w w':=by
 have hll:=hidx hl.len
 cases X with
 | none=>
  have h0:k=0:=by
   rcases zbt k with h | h
   ·exact h
   ·obtain⟨ad,e,_⟩:=hl.at_ h; cases e
  subst h0
  have hl0:l=[]:=zay hll.out
  subst hl0
  have hq:=λw=>Lib.run_eql_slice_nil (P:=Tryz.prog) w 24 3 none 0 d 0 0 Tryz.underlying24
  go_enter Tryz.func48,Tryz.ntmps48
  go_wp2
  go_ret
  exact⟨none,0,rfl,zb6 _ _ _ _,zdh _ _⟩
 | some ad=>
  have sv:=hl.values
  have o1:=x1t l
  have hq:=λw=>Lib.run_eql_slice_nil (P:=Tryz.prog) w 24 3 (some ad) k d 0 0 Tryz.underlying24
  go_enter Tryz.func48,Tryz.ntmps48
  go_wp2_with (at_builtin; refine y4w _ y4x rfl rfl _ _ rfl rfl rfl (xk8 _ _) (below_alloc _ _) (zac _) (sv.below (below_alloc _ _)) o1 ow ow ?_; intro A2 c2 w2 hown2 hb2 _; rw[zcc] at hown2)
  go_ret
  exact⟨A2,c2,rfl,by grind,hb2⟩
abbrev yg5:qa8:=qd9 true (some 3) [.list (.int .i64)] [.list (.int .i64)] (λx=>x.1.length<=100000) (λx=>(x.1,()))
theorem rdL_ints (m:View):∀l:List Int,RdL m (.int .i64) l (ints l)
 | []=>rfl
 | x :: l=>⟨[.int .i64 x],ints l,rfl,rfl,rdL_ints m l⟩
theorem q9c:Meets Tryz.prog 48 yg5:=by
 refine⟨⟨_,_,Tryz.func48,rfl,rfl⟩,λw m args vs k hm hargs hrun=>?_⟩
 obtain⟨⟨l,⟨⟩⟩,⟨hp,hk⟩,hx⟩:=qj3 hrun hargs
 have hp:l.length<=100000:=hp
 obtain⟨u,us,rfl,h1,h2⟩:=hx
 obtain rfl:us=[]:=h2
 obtain⟨A,c,rfl,hSI⟩:=x1a hm (show Rd m (.list (.int .i64)) l [u] from h1)
 refine(clone_any A l.length c l w hSI hp).mono λe w' ⟨A',c',e1,e2,e3⟩=>?_
 exact⟨_,λ_=>none,e1,e3,(λb o h=>by cases h),(λb o h=>by cases h),.inl ⟨.int .i64,l,ints l,hk,e2,rdL_ints _ l,λ_ _=>rfl⟩⟩
open Go Go.RowKit Eng
theorem x1u (t:Ty) (a b:List t.den) (hl:a.length=b.length) (h:∀i,i<a.length->qf0 t a i=qf0 t b i):a=b:=by
 grind [List.ext_getElem,qo3]
def yy2 (a b:List (Ty.den (.int .i64))):Nat->Option Inv
 | 0=>some (Inv.of [13] 0 (λk:Nat=>[(13,.lit (.int .i64 k))]) (λ_=>[]) (λk=>k<=a.length/\∀i,i<k->qf0 (.int .i64) a i=qf0 (.int .i64) b i) (λk=>a.length-k))
 | _=>none
abbrev y4y:qa8:=qd9 true none [.list (.int .i64),.list (.int .i64)] [.bool] (λx=>x.1.length<=1000000) (λx=>(decide (x.1=x.2.1),()))
theorem xk9:Meets Tryz.prog 130 y4y:=by
 refine mts (SpecsOk.nil _) Tryz.func130 (λx=>yy2 x.1 x.2.1) ?_
 rintro⟨a,b,⟨⟩⟩ h
 revert a b
 intro(a:List (Ty.den (.int .i64))) (b:List (Ty.den (.int .i64))) (h:a.length<=1000000)
 refine vcs ((((↑a.length:Int) != (↑b.length:Int))=true->false=decide (a=b))/\(((↑a.length:Int) != (↑b.length:Int))=false->∃(v1:Unit),∃(v2:Nat),(v2<=a.length/\∀(v3:Nat),Nat.le (Nat.succ v3) v2->nI a v3=nI b v3)/\(((0:Int)=(↑v2:Int)/\True)/\True)/\∀(v3:Nat),(v3<=a.length/\∀(v5:Nat),Nat.le (Nat.succ v5) v3->nI a v5=nI b v5)->(decide ((↑v3:Int)<(↑a.length:Int))=true->((0:Int)<=(↑v3:Int)/\(↑v3:Int)<(↑a.length:Int))/\((0:Int)<=(↑v3:Int)/\(↑v3:Int)<(↑b.length:Int))/\((nI a v3 != nI b v3)=true->false=decide (a=b))/\((nI a v3 != nI b v3)=false->fits .i64 ((↑v3:Int)+(1:Int))/\∃(v7:Nat),(v7<=a.length/\∀(v8:Nat),Nat.le (Nat.succ v8) v7->nI a v8=nI b v8)/\a.length-v7<a.length-v3/\((↑v3:Int)+(1:Int)=(↑v7:Int)/\True)/\True))/\(decide ((↑v3:Int)<(↑a.length:Int))=false->true=decide (a=b)))) ?_
 refine⟨λhl=>?_,λhl=>?_⟩
 ·grind
 ·refine⟨(),0,⟨zaf _,λi hi=>absurd hi ow⟩,rfl,λk ⟨hk,hall⟩=>⟨λhlt=>⟨hlt,ow,λhne=>?_,λhe=>⟨qa7,k+1,⟨ow,λi hi=>?_⟩,ow,ow⟩⟩,λhge=>?_⟩⟩
  ·grind
  ·grind
  ·exact(zcq (x1u _ a b ow λi hi=>hall i ow)).symm
def q7h (r:Int × Int):Bool:=decide (1<=r.2) && decide (r.2<=400) && decide (-10000000000<=r.1) && decide (r.1<=10000000000) && (gcdI r.1 r.2==1)
abbrev yy3:qa8:=qd9 true none [qx2] [.bool] (λ_=>True) (λx=>(q7h x.1,()))
theorem w8o:Meets Tryz.prog 172 yy3:=by
 refine mt0 (SpecsOk.cons qq7 (SpecsOk.nil _)) Tryz.func172 ?_
 rintro⟨r,⟨⟩⟩ -
 revert r
 intro(r:Int × Int)
 refine vcs ((decide ((1:Int)<=r.2)=true->(decide (r.2<=(400:Int))=true->(decide ((-10000000000:Int)<=r.1)=true->(decide (r.1<=(10000000000:Int))=true->(((-4000000000000000000:Int)<=r.1/\r.1<=BIG)/\(-4000000000000000000:Int)<=r.2/\r.2<=BIG)/\(gcdI r.1 r.2==(1:Int))=q7h r)/\(decide (r.1<=(10000000000:Int))=false->false=q7h r))/\(decide ((-10000000000:Int)<=r.1)=false->false=q7h r))/\(decide (r.2<=(400:Int))=false->false=q7h r))/\(decide ((1:Int)<=r.2)=false->false=q7h r)) ?_
 have hB:BIG=4000000000000000000:=rfl
 have no:¬(1<=r.2/\r.2<=400/\-10000000000<=r.1/\r.1<=10000000000)->false=q7h r:=λh=>by
  symm
  rw[zdj]
  intro e
  unfold q7h at e
  grind
 grind [q7h]
def x48 (v:List (Int × Int)):Bool:=v.any λr=>!q7h r || r.1==0
def y3h (f:List Int × List (Int × Int)):Bool:=decide (f.1.length=f.2.length) && !x48 f.2 && x1f f.1
abbrev tQ:Ty:=.prod (.list (.list (.int .i64))) (.list (.int .i64))
abbrev yg6:qa8:=qd9 true none [qx2] [.bool] (λ_=>True) (λx=>(x.1.1==0,()))
theorem w8p:Meets Tryz.prog 214 yg6:=by
 refine mt0 (SpecsOk.nil _) Tryz.func214 ?_
 rintro⟨r,⟨⟩⟩ -
 revert r
 intro(r:Int × Int)
 refine vcr ((r.1==(0:Int))=(r.1==(0:Ty.den (Ty.int .i64)))) ?_
 try rfl
 try simp only[w2g,w2h,q8y,z31,z32,z2,z1]
 done
abbrev yy4:qa8:=qd9 true none [tQ] [qc0] (λx=>0<x.1.1.length) (λx=>((nL x.1.1 0).length,()))
theorem w8q:Meets Tryz.prog 163 yy4:=by
 refine mt0 (SpecsOk.nil _) Tryz.func163 ?_
 rintro⟨q,⟨⟩⟩ h
 revert q
 intro(q:List (List Int) × List Int) (h:0<q.1.length)
 refine vcs (((0:Int)<=(0:Int)/\(0:Int)<(↑q.1.length:Int))/\(↑(nL q.1 (0:Nat)).length:Int)=(↑(nL q.1 (0:Nat)).length:Int)) ?_
 omega
def qg5 (m:List (List Int)) (y pix:List Int):(List Int × List (Int × Int)) × Bool:=if(qy0 m pix y).2≠0\/((qy0 m pix y).1.any λr=>r.1==0)=true then(([],[]),false) else((pix,(qy0 m pix y).1),true)
abbrev yy5:qa8:=qd9 true none [tQ,qf1] [qt5,.bool] (λx=>q43 x.1.1 x.2.1 x.1.2/\x.2.1.length<=100000) (λx=>((qg5 x.1.1 x.1.2 x.2.1).1,(qg5 x.1.1 x.1.2 x.2.1).2,()))
theorem x1v {m:List (List Int)} {pix y:List Int} (h:q43 m pix y):(qy0 m pix y).1.length<=1000000:=by
 unfold qy0
 split
 ·rename_i he
  have hA:=Asked.of he
  have hO:=h.ok he
  unfold w1m
  split
  ·simp
  ·split
   ·simp
   ·have hsh:=(q2y hO.red pix.length).piv
    rw[show(qb8 m pix y).length=m.length from qr9 _ _ _] at hsh
    have:=hA.msk.rows6
    have e:(qr2 m pix y).2.length=(qb5 (qb8 m pix y) pix.length).2.length:=rfl
    grind
 simp
theorem xl0:Meets Tryz.prog 164 yy5:=by
 refine mt0 (SpecsOk.cons xk7 (SpecsOk.cons q9c (SpecsOk.cons (xi7 (fs:=[(214,yg6)]) (SpecsOk.cons w8p (SpecsOk.nil _))) (SpecsOk.nil _)))) Tryz.func164 ?_
 rintro⟨q,pix,⟨⟩⟩ h
 revert q pix
 intro(q:List (List Int) × List Int) (pix:List Int) (h:q43 q.1 pix q.2/\pix.length<=100000)
 refine vcs (let Q0:=qg5 q.1 q.2 pix; let Q1:=qy0 q.1 pix q.2; q43 q.1 pix q.2/\((Q1.2 != (0:Int))=true->(Q0.1.1=[]/\Q0.1.2=[]/\True)/\false=Q0.2/\True)/\((Q1.2 != (0:Int))=false->∃(v1:qa3 [Ty.prod (Ty.int .i64) (Ty.int .i64)]->Prop),∃(v2:qa3 [Ty.prod (Ty.int .i64) (Ty.int .i64)]->Bool),(∀(v3:(Int × Int) × qa3._f [] PUnit.unit),v1 v3->True/\(v3.1.1==(0:Ty.den (Ty.int .i64)))=v2 v3)/\(Q1.1.length<=(1000000:Nat)/\∀(v3:Nat),v3<Q1.1.length->v1 (qf0 (Ty.prod (Ty.int .i64) (Ty.int .i64)) Q1.1 v3,()))/\((List.any Q1.1 λ(v4:Int × Int)=>v2 (v4,()))=true->(Q0.1.1=[]/\Q0.1.2=[]/\True)/\false=Q0.2/\True)/\((List.any Q1.1 λ(v4:Int × Int)=>v2 (v4,()))=false->pix.length<=(100000:Nat)/\(pix=Q0.1.1/\Q1.1=Q0.1.2/\True)/\true=Q0.2/\True))) ?_
 obtain⟨hp,hl⟩:=h
 refine⟨hp,λh1=>by grind [qg5],λh1=>⟨λ_=>True,λx=>x.1.1==0,λ_ _=>rfl,⟨?_,λ_ _=>trivial⟩,λh2=>?_,λh2=>⟨hl,?_⟩⟩⟩
 ·exact x1v hp
 ·have h2:((qy0 q.1 pix q.2).1.any λr=>r.1==0)=true:=h2
  unfold qg5; grind
 ·have h2:((qy0 q.1 pix q.2).1.any λr=>r.1==0)=false:=h2
  unfold qg5; grind
def q1y (m:List (List Int)) (y:List Int) (k:Int):Int:=if qq8 m y []=0 then(if inB k 0 10 then 0 else 7) else qq8 m y []
abbrev y4z:qa8:=qd9 true none [qg1,qf1,qc0] [qc0] (λ_=>True) (λx=>(q1y x.1 x.2.1 x.2.2.1,()))
theorem wy7:Meets Tryz.prog 215 y4z:=by
 refine mt0 (SpecsOk.cons q82 (SpecsOk.cons qu4 (SpecsOk.nil _))) Tryz.func215 ?_
 rintro⟨m,y,k,⟨⟩⟩ -
 revert m y k
 intro(m:List (List Int)) (y:List Int) (k:Int)
 refine vcs (Value.slice none (0:Nat) (0:Nat)=Value.slice none (0:Nat) (0:Nat)/\(0:Nat)<=(1000000:Nat)/\((qq8 m y [] != (0:Int))=true->qq8 m y []=q1y m y k)/\((qq8 m y [] != (0:Int))=false->True/\((!inB k (0:Int) (10:Int))=true->(7:Int)=q1y m y k)/\((!inB k (0:Int) (10:Int))=false->(0:Int)=q1y m y k))) ?_
 grind [q1y]
def wi1 (m:List (List Int)) (y:List Int) (f:List Int × List (Int × Int)):Bool:=y3h f && decide (qq8 m y f.1=0) && (qg5 m y f.1).2 && decide ((qg5 m y f.1).1.2=f.2)
def qt7 (l:List Int):List Int:=l.map λn=>n.tdiv (max (gcdL l) 1)
def q9d (l:List Int) (n:Int):List Int:=l.map λk=>k*n
structure yy6 (l:List Int) (n:Int):Prop where
 len:l.length<=1000
 big:∀i,i<l.length->qe5 BIG (nI l i*n)
def w2n (r p:List Int) (j:Nat):List Int:=(List.range r.length).map λk=>nI r k*nI p j-nI p k*nI r j
def qi2 (r p:List Int) (j:Nat):List Int:=qt7 (w2n r p j)
structure yy7 (r p:List Int) (j:Nat):Prop where
 len:r.length<=1000
 eq:p.length=r.length
 lt:j<r.length
 b1:∀k,k<r.length->qe5 BIG (nI r k*nI p j)
 b2:∀k,k<r.length->qe5 BIG (nI p k*nI r j)
 b3:∀k,k<r.length->qe5 BIG (nI r k*nI p j-nI p k*nI r j)
def q51 (n d:Int):Int × Int:=(n.tdiv (gcdI n d),d.tdiv (gcdI n d))
def qp5 (m:List (List Int)) (pix:List Int):List (List Int):=(List.range m.length).map λi=>qx5 (nL m i) pix
theorem wy8 (m:List (List Int)) (pix:List Int):(qp5 m pix).length=m.length:=by simp[qp5]
theorem ql3 (m:List (List Int)) (pix:List Int) (i:Nat) (hi:i<m.length):nL (qp5 m pix) i=qx5 (nL m i) pix:=by
 grind [ql6,wy8,qp5]
structure yy8 (m:List (List Int)) (pix:List Int):Prop where
 rows:m.length<=10000
 cols:pix.length<=10000
 at_:∀i,i<m.length->∀j,j<pix.length->0<=nI pix j/\nI pix j<(nL m i).length
def lastTo (left:List (List Int)) (j:Nat):Nat->Int
 | 0=>-1
 | i+1=>if nI (nL left i) j≠0 then(i:Int) else lastTo left j i
def q6v (left:List (List Int)) (j:Nat) (at_:Int):List Int:=if nI (nL left at_.toNat) j<0 then q9d (nL left at_.toNat) (-1) else nL left at_.toNat
def qv8 (left:List (List Int)) (p:List Int) (j:Nat) (at_:Int):Nat->List (List Int)
 | 0=>[]
 | i+1=>if(i:Int)≠at_ then qv8 left p j at_ i++[qi2 (nL left i) p j] else qv8 left p j at_ i
structure RS where
 left:List (List Int)
 done_:List (List Int)
 piv:List Int
def w8r (s:RS) (j:Nat):RS:=
 if lastTo s.left j s.left.length<0 then s
 else⟨qv8 s.left (q6v s.left j (lastTo s.left j s.left.length)) j (lastTo s.left j s.left.length) s.left.length,(s.done_.map λr=>qi2 r (q6v s.left j (lastTo s.left j s.left.length)) j)++[q6v s.left j (lastTo s.left j s.left.length)],s.piv++[(j:Int)]⟩
def qh2 (rows:List (List Int)):Nat->RS
 | 0=>⟨rows.map qt7,[],[]⟩
 | j+1=>w8r (qh2 rows j) j
def rdW (rows:List (List Int)):Nat:=(nL rows 0).length
def qu6 (rows:List (List Int)):List (List Int) × List Int:=((qh2 rows (rdW rows)).done_,(qh2 rows (rdW rows)).piv)
structure yg7 (s:RS) (j:Nat):Prop where
 sca:nI (nL s.left (lastTo s.left j s.left.length).toNat) j<0->yy6 (nL s.left (lastTo s.left j s.left.length).toNat) (-1)
 wo:∀i,i<s.left.length->(i:Int)≠lastTo s.left j s.left.length->yy7 (nL s.left i) (q6v s.left j (lastTo s.left j s.left.length)) j
 woD:∀i,i<s.done_.length->yy7 (nL s.done_ i) (q6v s.left j (lastTo s.left j s.left.length)) j
structure yy9 (rows:List (List Int)):Prop where
 n:rows.length<=1000
 w:rdW rows<=1000
 each:∀i,i<rows.length->(nL rows i).length=rdW rows
 big:∀i,i<rows.length->wn9 (nL rows i)
 step:∀j,j<rdW rows->0<=lastTo (qh2 rows j).left j (qh2 rows j).left.length->yg7 (qh2 rows j) j
theorem qv9 (l:List Int):(qt7 l).length=l.length:=by simp[qt7]
theorem q6w (r p:List Int) (j:Nat):(qi2 r p j).length=r.length:=by grind [qi2,qv9,w2n]
theorem qy9 (l:List Int) (n:Int):(q9d l n).length=l.length:=by simp[q9d]
theorem q9e (left:List (List Int)) (j:Nat):∀k:Nat,lastTo left j k<k/\-1<=lastTo left j k
 | 0=>⟨by show(-1:Int)<0; omega,by show(-1:Int)<=-1; omega⟩
 | k+1=>by
  have:=q9e left j k
  grind [lastTo]
theorem q52 (left:List (List Int)) (p:List Int) (j:Nat) (a:Int):∀k,∀x∈qv8 left p j a k,∃i,i<k/\(i:Int)≠a/\x=qi2 (nL left i) p j
 | 0,x,hx=>by cases hx
 | k+1,x,hx=>by
  rw[qv8] at hx
  split at hx
  ·rename_i hne
   rcases zak.1 hx with hx | hx
   ·obtain⟨i,h1,h2,h3⟩:=q52 left p j a k x hx
    grind
   grind
  ·obtain⟨i,h1,h2,h3⟩:=q52 left p j a k x hx
   grind
theorem q04 (m:List (List Int)) (i:Nat) (h:i<m.length):nL m i∈m:=by grind [ql6,List.getElem_mem]
def x7s (f g:List Int × List (Int × Int)):Bool:=decide (f.1=g.1) && decide (f.2=g.2)
abbrev w8s:Ty:=.list (.prod (.list (.int .i64)) (.list (.prod (.int .i64) (.int .i64))))
def nF (l:List (List Int × List (Int × Int))) (i:Nat):List Int × List (Int × Int):=qf0 (.prod (.list (.int .i64)) (.list (.prod (.int .i64) (.int .i64)))) l i
def yg8 (s:List Int):Int:=if 0<s.length then nI s (s.length-1)+1 else 0
def yg9 (n:Nat) (s:List Int):List (List Int):=(List.range ((n:Int)-yg8 s).toNat).map λt:Nat=>s++[yg8 s+t]
def qw0 (n:Nat):Nat->List (List Int)
 | 0=>[[]]
 | k+1=>if k<(qw0 n k).length then qw0 n k++yg9 n (nL (qw0 n k) k) else qw0 n k
def q53 (n:Nat):List (List Int):=qw0 n 128
theorem wi2 (n k:Nat):∀j,∃t,qw0 n (k+j)=qw0 n k++t
 | 0=>⟨[],by simp⟩
 | j+1=>by
  obtain⟨t,ht⟩:=wi2 n k j
  grind [Nat.add_assoc,qw0,yg9,nL,List.append_assoc]
def xl1 (n:Nat):Bool:=decide ((qw0 n 128).length<=128) && (qw0 n 128).all λs=>decide (s.length<=7) && s.all λx=>decide (0<=x) && decide (x<n)
theorem w2o:((List.range 8).all λn=>xl1 n)=true:=by decide +kernel
theorem w8t {n:Nat} (h:n<=7):(qw0 n 128).length<=128/\∀s∈qw0 n 128,s.length<=7/\∀x∈s,0<=x/\x<n:=by
 have:=zaq.1 w2o n (za2.2 ow)
 unfold xl1 at this
 grind
theorem wy9 {n k:Nat} (h:n<=7) (hk:k<=128):(qw0 n k).length<=128/\∀s∈qw0 n k,s.length<=7/\∀x∈s,0<=x/\x<n:=by
 obtain⟨t,ht⟩:=wi2 n k (128-k)
 rw[show k+(128-k)=128 by omega] at ht
 grind [w8t]
def q9f (piv:List Int) (f:Nat):Nat->Bool
 | 0=>true
 | k+1=>q9f piv f k && (nI piv k != (f:Int))
def w8u (d:List (List Int)) (piv:List Int) (k:Nat):Int:=nI (nL d k) (nI piv k).toNat
def q54 (d:List (List Int)) (piv:List Int):Nat->Int
 | 0=>1
 | k+1=>(q54 d piv k).tdiv (gcdI (q54 d piv k) (w8u d piv k))*w8u d piv k
def x7t (d:List (List Int)) (piv:List Int) (n f:Nat):Nat->List Int
 | 0=>(List.replicate n 0).set f (q54 d piv piv.length)
 | k+1=>(x7t d piv n f k).set (nI piv k).toNat ((0-nI (nL d k) f)*(q54 d piv piv.length).tdiv (w8u d piv k))
def q9g (d:List (List Int)) (piv:List Int) (n:Nat):Nat->List (List Int)
 | 0=>[]
 | f+1=>if q9f piv f piv.length then q9g d piv n f++[qt7 (x7t d piv n f piv.length)] else q9g d piv n f
def qj5 (rows:List (List Int)):List (List Int):=q9g (qu6 rows).1 (qu6 rows).2 (rdW rows) (rdW rows)
def qg4 (n:Nat) (set v:List Int):Nat->List Int
 | 0=>List.replicate n 0
 | j+1=>(qg4 n set v j).set (nI set j).toNat (nI v j)
def wz3 (l:List (List Int)):Bool:=decide (l.length=1) && !((nL l 0).any λe=>(0:Int)==e)
def yo5 (m:List (List Int)) (n:Nat) (set:List Int):List Int:=q9a (qg4 n set (nL (qn1 m set) 0) set.length)
def qt1 (m:List (List Int)) (n:Nat) (L:List (List Int)):Nat->List (List Int)
 | 0=>[]
 | c+1=>if wz3 (qn1 m (nL L c)) then qt1 m n L c++[yo5 m n (nL L c)] else qt1 m n L c
def q3c (m:List (List Int)) (n:Nat):Nat->List (List Int)
 | 0=>[]
 | k+1=>q3c m n k++qt1 m n (qe9 n (k+1:Nat)) (qe9 n (k+1:Nat)).length
def q55 (m:List (List Int)):Nat:=min ((qj7 m (qp1 (nL m 0).length)).2.length+1) (nL m 0).length
def qh9 (m:List (List Int)):List (List Int) × Int:=if qb6 m=false then([],1) else(q3c m (nL m 0).length (q55 m),0)
structure wz4 (m:List (List Int)):Prop where
 rank:w5g m
 ker:∀k,k<(nL m 0).length->∀set∈qe9 (nL m 0).length (k+1:Nat),w8m m set
abbrev y40:qa8:=qd9 true none [qg1] [qg1,qc0] (λx=>qb6 x.1=true->wz4 x.1) (λx=>((qh9 x.1).1,(qh9 x.1).2,()))
def yz0 (m:List (List Int)) (n:Nat):Nat->Option Inv
 | 0=>some (Inv.of [30] 4 (λk:Nat=>[(30,.lit (.int .i64 k))]) (λk=>[.box 23 (.cons (.dat (.list (.int .i64)) m) .nil),.box 3 (.cons (.lit (.int .i64 n)) .nil),.box 22 (.cons (.msl 3 .none) .nil),.mat 24 3 (.int .i64) (q3c m n k) .none .none]) (λk=>k<=q55 m) (λk=>q55 m-k))
 | 1=>some (Eng.Inv.mk Nat Nat [] 4 (λ_ _=>[]) (λk c=>[.box 23 (.cons (.dat (.list (.int .i64)) m) .nil),.box 3 (.cons (.lit (.int .i64 n)) .nil),.box 22 (.cons (.msl 3 .none) .nil),.mat 24 3 (.int .i64) (q3c m n k++qt1 m n (qe9 n (k+1:Nat)) c) .none .none]) (λk c=>c<=(qe9 n (k+1:Nat)).length) (λk c=>c))
 | 2=>some (Eng.Inv.mk (q67 × Nat × Nat × List Int) Nat [9,11,52,54] 6 (λq j=>[(9,.msl 4 (some 0)),(11,.own 5),(52,.msl 4 (some 0)),(54,.lit (.int .i64 j))]) (λq j=>[.box 23 (.cons (.dat (.list (.int .i64)) m) .nil),.box 3 (.cons (.lit (.int .i64 n)) .nil),.box 22 (.cons (.msl 3 .none) .nil),.mat 24 3 (.int .i64) (q3c m n q.2.1++qt1 m n (qe9 n (q.2.1+1:Nat)) q.2.2.1) .none .none,.mat 3 3 (.int .i64) [q.2.2.2] (some []) (some q.1),.vec 3 (.int .i64) (qg4 n q.2.2.2 (nL (qn1 m q.2.2.2) 0) j)]) (λq j=>j<=q.2.2.2.length) (λq j=>q.2.2.2.length-j))
 | _=>none
def yz1 (mats em:List Nat) (specs:List (Nat × qa8)) (muts:List (Nat × qm2)) (its:List (Nat × q1e)):Ctx:={ specs:=specs,tys:=tys,wr:=[],muts:=muts,mats:=mats,em:=em,its:=its }
theorem x7u (mats em:List Nat) {specs:List (Nat × qa8)} {muts:List (Nat × qm2)} {its:List (Nat × q1e)} (h:SpecsOk Tryz.prog specs) (hm:MutsOk muts) (hi:ItsOk its):Sound Tryz.prog (yz1 mats em specs muts its):=SpecsOk.sound h q03 kr hi (hmu:=hm)
theorem q9h (m:List (List Int)) (n:Nat) (L:List (List Int)):∀c,(qt1 m n L c).length<=c
 | 0=>zac _
 | c+1=>by
  have:=q9h m n L c
  grind [qt1]
theorem w2p:((List.range 11).all λn=>(List.range 12).all λk=>decide ((qe9 (n:Nat) (k:Nat)).length<=1000))=true:=by decide +kernel
theorem wz5 (n k:Nat) (hn:n<=10) (hk:k<=11):(qe9 (n:Nat) (k:Nat)).length<=1000:=
 zbi (zaq.1 (zaq.1 w2p n (za2.2 ow)) k (za2.2 ow))
theorem wo6 (m:List (List Int)) (n:Nat) (hn:n<=10):∀k,k<=11->(q3c m n k).length<=1000*k
 | 0,_=>zac _
 | k+1,hk=>by
  have h1:=wo6 m n hn k ow
  grind [wz5,q9h,qe9,q3c,List.length_append]
theorem q9i {R:List (List Int)} {P:List Int} {n:Nat} (h:x1r R P n) (hn:n<=1000):∀f,f<=n->∀x∈qp4 R P n f,x.length=n/\wn9 x
 | 0,_,x,hx=>by cases hx
 | f+1,hf,x,hx=>by
  rw[qp4] at hx
  split at hx
  ·exact q9i h hn f ow x hx
  ·rename_i hfree
   rcases zak.1 hx with hx | hx
   ·exact q9i h hn f ow x hx
   ·obtain rfl:=zav.1 hx
    have hb:wn9 (hTo R P n f P.length):=⟨by grind [q9b],w2m h ow (zdj.2 hfree) _ (zac _)⟩
    grind [wh3,q9b,wi0]
theorem q9j {m:List (List Int)} {set:List Int} (h:w8m m set) (x:List Int) (hx:x∈qn1 m set):x.length=set.length/\set.length<=1000/\wn9 x:=by
 have hw:=h.red.w
 have:=q9i h.ar hw _ (zac _) x hx
 grind
theorem ql9 (n:Nat) (set v:List Int):∀j,(qg4 n set v j).length=n
 | 0=>by simp[qg4]
 | j+1=>by rw[qg4,zbd]; exact ql9 n set v j
theorem q6x {n:Nat} {set v:List Int} (hv:wn9 v) (hn:n<=1000) (hl:v.length=set.length):∀j,j<=set.length->wn9 (qg4 n set v j)
 | 0,_=>⟨by grind [qg4],λx hx=>by
  obtain rfl:=(zda.1 hx).2
  grind [BIG]⟩
 | j+1,hj=>by
  have h1:=q6x hv hn hl j ow
  refine⟨by grind [ql9],λx hx=>?_⟩
  rw[qg4] at hx
  rcases zaz hx with hx | rfl
  ·exact h1.2 x hx
  ·exact q81 hv ow
theorem xl2:Meets Tryz.prog 111 y40:=by
 refine meets (x7u [72] [] (SpecsOk.cons w8n (SpecsOk.cons wh8 (SpecsOk.cons xk5 (SpecsOk.cons wy5 (SpecsOk.nil _))))) (MutsOk.cons w8l MutsOk.nil) (ItsOk.cons wh7 ItsOk.nil)) Tryz.func111 rfl rfl (λx=>yz0 x.1 (nL x.1 0).length) (λ_=>by kernel_rfl) dc ?_
 rintro⟨m,⟨⟩⟩ h
 revert m
 intro(m:List (List Int)) (h:qb6 m=true->wz4 m)
 refine vcs ((qb6 m=true->w5g m)/\(((q0r m).2 != (0:Int))=true->(qh9 m).1=[]/\(q0r m).2=(qh9 m).2/\True)/\(((q0r m).2 != (0:Int))=false->((0:Int)<=(0:Int)/\(0:Int)<(↑m.length:Int))/\fits .i64 ((q0r m).1+(1:Int))/\∃(v1:Unit),∃(v2:Nat),Nat.le v2 (q55 m)/\(((0:Int)=(↑v2:Int)/\True)/\(m=m/\True)/\((↑(nL m (0:Nat)).length:Int)=(↑(nL m (0:Nat)).length:Int)/\True)/\(True/\True)/\q3c m (nL m (0:Nat)).length v2=[]/\True)/\∀(v3:Nat),Nat.le v3 (q55 m)->(decide ((↑v3:Int)<max2 false ((q0r m).1+(1:Int)) (↑(nL m (0:Nat)).length:Int))=true->fits .i64 ((↑v3:Int)+(1:Int))/\True/\(((0:Ty.den qc0)<=(↑v3:Int)+(1:Int)/\(↑v3:Int)+(1:Int)<=(1000:Ty.den qc0))/\(0:Ty.den qc0)<=(↑(nL m (0:Nat)).length:Int)/\(↑(nL m (0:Nat)).length:Int)<=(1000:Ty.den qc0))/\∃(v6:Nat),∃(v7:Nat),Nat.le v7 (qe9 (↑(nL m (0:Nat)).length:Int) (↑(v6+(1:Nat)):Int)).length/\v7=(0:Nat)/\((m=m/\True)/\((↑(nL m (0:Nat)).length:Int)=(↑(nL m (0:Nat)).length:Int)/\True)/\(True/\True)/\(q3c m (nL m (0:Nat)).length v3=q3c m (nL m (0:Nat)).length v6++qt1 m (nL m (0:Nat)).length (qe9 (↑(nL m (0:Nat)).length:Int) (↑(v6+(1:Nat)):Int)) v7/\True/\True)/\True)/\∀(v8:Nat),Nat.le v8 (qe9 (↑(nL m (0:Nat)).length:Int) (↑(v6+(1:Nat)):Int)).length->(∀(v10:List Int × qa3._f [] PUnit.unit),(List.map (λ(v12:List Int)=>(v12,())) (qe9 (↑(nL m (0:Nat)).length:Int) ((↑v3:Int)+(1:Int))))[v8]?=some v10->∀(v12:q67),w8m m (nL [v10.1] (0:Nat))/\(((↑(qn1 m (nL [v10.1] (0:Nat))).length:Int) != (1:Int))=true->[v10.1]=[v10.1]/\v12=v12/\True/\∃(v14:Nat),Nat.le v14 (qe9 (↑(nL m (0:Nat)).length:Int) (↑(v6+(1:Nat)):Int)).length/\v14=v8+(1:Nat)/\(m=m/\True)/\((↑(nL m (0:Nat)).length:Int)=(↑(nL m (0:Nat)).length:Int)/\True)/\(True/\True)/\(q3c m (nL m (0:Nat)).length v6++qt1 m (nL m (0:Nat)).length (qe9 (↑(nL m (0:Nat)).length:Int) (↑(v6+(1:Nat)):Int)) v8=q3c m (nL m (0:Nat)).length v6++qt1 m (nL m (0:Nat)).length (qe9 (↑(nL m (0:Nat)).length:Int) (↑(v6+(1:Nat)):Int)) v14/\True/\True)/\True)/\(((↑(qn1 m (nL [v10.1] (0:Nat))).length:Int) != (1:Int))=false->((0:Int)<=(0:Int)/\(0:Int)<(↑(qn1 m (nL [v10.1] (0:Nat))).length:Int))/\(nL (qn1 m (nL [v10.1] (0:Nat))) (0:Nat)).length<=(1000000:Nat)/\((List.any (nL (qn1 m (nL [v10.1] (0:Nat))) (0:Nat)) λ(v15:Int)=>(0:Int)==v15)=true->[v10.1]=[v10.1]/\v12=v12/\True/\∃(v15:Nat),Nat.le v15 (qe9 (↑(nL m (0:Nat)).length:Int) (↑(v6+(1:Nat)):Int)).length/\v15=v8+(1:Nat)/\(m=m/\True)/\((↑(nL m (0:Nat)).length:Int)=(↑(nL m (0:Nat)).length:Int)/\True)/\(True/\True)/\(q3c m (nL m (0:Nat)).length v6++qt1 m (nL m (0:Nat)).length (qe9 (↑(nL m (0:Nat)).length:Int) (↑(v6+(1:Nat)):Int)) v8=q3c m (nL m (0:Nat)).length v6++qt1 m (nL m (0:Nat)).length (qe9 (↑(nL m (0:Nat)).length:Int) (↑(v6+(1:Nat)):Int)) v15/\True/\True)/\True)/\((List.any (nL (qn1 m (nL [v10.1] (0:Nat))) (0:Nat)) λ(v15:Int)=>(0:Int)==v15)=false->((↑(nL m (0:Nat)).length:Int)=(↑(nL m (0:Nat)).length:Int)/\(0:Int)<=(↑(nL m (0:Nat)).length:Int)/\(↑(nL m (0:Nat)).length:Int)<=(1000000:Int))/\∃(v15:q67 × Nat × Nat × List Int),∃(v16:Nat),Nat.le v16 v15.2.2.2.length/\((some (0:Nat)=some (0:Nat)/\True/\some (0:Nat)=some (0:Nat)/\(0:Int)=(↑v16:Int)/\True)/\(m=m/\True)/\((↑(nL m (0:Nat)).length:Int)=(↑(nL m (0:Nat)).length:Int)/\True)/\(True/\True)/\(q3c m (nL m (0:Nat)).length v6++qt1 m (nL m (0:Nat)).length (qe9 (↑(nL m (0:Nat)).length:Int) (↑(v6+(1:Nat)):Int)) v8=q3c m (nL m (0:Nat)).length v15.2.1++qt1 m (nL m (0:Nat)).length (qe9 (↑(nL m (0:Nat)).length:Int) (↑(v15.2.1+(1:Nat)):Int)) v15.2.2.1/\True/\True)/\([v10.1]=[v15.2.2.2]/\True/\v12=v15.1)/\List.replicate (↑(nL m (0:Nat)).length:Int).toNat (Ty.dflt (TI.ty T3))=qg4 (nL m (0:Nat)).length v15.2.2.2 (nL (qn1 m v15.2.2.2) (0:Nat)) v16/\True)/\∀(v17:Nat),Nat.le v17 v15.2.2.2.length->(decide ((↑v17:Int)<(↑(nL [v10.1] (0:Nat)).length:Int))=true->((0:Int)<=(↑v17:Int)/\(↑v17:Int)<(↑(nL [v15.2.2.2] (0:Nat)).length:Int))/\v17<(nL [v15.2.2.2] (0:Nat)).length/\((0:Int)<=(0:Int)/\(0:Int)<(↑(qn1 m (nL [v10.1] (0:Nat))).length:Int))/\((0:Int)<=(↑v17:Int)/\(↑v17:Int)<(↑(nL (qn1 m (nL [v10.1] (0:Nat))) (0:Nat)).length:Int))/\((0:Int)<=nI (nL [v15.2.2.2] (0:Nat)) v17/\nI (nL [v15.2.2.2] (0:Nat)) v17<(↑(qg4 (nL m (0:Nat)).length v15.2.2.2 (nL (qn1 m v15.2.2.2) (0:Nat)) v17).length:Int))/\(nI (nL [v15.2.2.2] (0:Nat)) v17).toNat<(qg4 (nL m (0:Nat)).length v15.2.2.2 (nL (qn1 m v15.2.2.2) (0:Nat)) v17).length/\fits .i64 ((↑v17:Int)+(1:Int))/\∃(v20:Nat),Nat.le v20 v15.2.2.2.length/\v15.2.2.2.length-v20<v15.2.2.2.length-v17/\(some (0:Nat)=some (0:Nat)/\True/\some (0:Nat)=some (0:Nat)/\(↑v17:Int)+(1:Int)=(↑v20:Int)/\True)/\(m=m/\True)/\((↑(nL m (0:Nat)).length:Int)=(↑(nL m (0:Nat)).length:Int)/\True)/\(True/\True)/\(q3c m (nL m (0:Nat)).length v15.2.1++qt1 m (nL m (0:Nat)).length (qe9 (↑(nL m (0:Nat)).length:Int) (↑(v15.2.1+(1:Nat)):Int)) v15.2.2.1=q3c m (nL m (0:Nat)).length v15.2.1++qt1 m (nL m (0:Nat)).length (qe9 (↑(nL m (0:Nat)).length:Int) (↑(v15.2.1+(1:Nat)):Int)) v15.2.2.1/\True/\True)/\([v15.2.2.2]=[v15.2.2.2]/\True/\v15.1=v15.1)/\List.set (qg4 (nL m (0:Nat)).length v15.2.2.2 (nL (qn1 m v15.2.2.2) (0:Nat)) v17) (nI (nL [v15.2.2.2] (0:Nat)) v17).toNat (nI (nL (qn1 m (nL [v10.1] (0:Nat))) (0:Nat)) v17)=qg4 (nL m (0:Nat)).length v15.2.2.2 (nL (qn1 m v15.2.2.2) (0:Nat)) v20/\True)/\(decide ((↑v17:Int)<(↑(nL [v10.1] (0:Nat)).length:Int))=false->wn9 (nL [qg4 (nL m (0:Nat)).length v15.2.2.2 (nL (qn1 m v15.2.2.2) (0:Nat)) v17] (0:Nat))/\((0:Nat)<(0:Nat)+(1:Nat)/\(q3c m (nL m (0:Nat)).length v15.2.1++qt1 m (nL m (0:Nat)).length (qe9 (↑(nL m (0:Nat)).length:Int) (↑(v15.2.1+(1:Nat)):Int)) v15.2.2.1).length+((0:Nat)+(1:Nat))<=(1000000:Nat))/\[v15.2.2.2]=[v10.1]/\v15.1=v12/\True/\∃(v20:Nat),Nat.le v20 (qe9 (↑(nL m (0:Nat)).length:Int) (↑(v6+(1:Nat)):Int)).length/\v20=v8+(1:Nat)/\(m=m/\True)/\((↑(nL m (0:Nat)).length:Int)=(↑(nL m (0:Nat)).length:Int)/\True)/\(True/\True)/\(q3c m (nL m (0:Nat)).length v15.2.1++qt1 m (nL m (0:Nat)).length (qe9 (↑(nL m (0:Nat)).length:Int) (↑(v15.2.1+(1:Nat)):Int)) v15.2.2.1++[nL [q9a (nL [qg4 (nL m (0:Nat)).length v15.2.2.2 (nL (qn1 m v15.2.2.2) (0:Nat)) v17] (0:Nat))] (0:Nat)]=q3c m (nL m (0:Nat)).length v6++qt1 m (nL m (0:Nat)).length (qe9 (↑(nL m (0:Nat)).length:Int) (↑(v6+(1:Nat)):Int)) v20/\True/\True)/\True))))/\(v8=(List.map (λ(v11:List Int)=>(v11,())) (qe9 (↑(nL m (0:Nat)).length:Int) ((↑v3:Int)+(1:Int)))).length->fits .i64 ((↑v3:Int)+(1:Int))/\∃(v11:Nat),Nat.le v11 (q55 m)/\q55 m-v11<q55 m-v3/\((↑v3:Int)+(1:Int)=(↑v11:Int)/\True)/\(m=m/\True)/\((↑(nL m (0:Nat)).length:Int)=(↑(nL m (0:Nat)).length:Int)/\True)/\(True/\True)/\(q3c m (nL m (0:Nat)).length v6++qt1 m (nL m (0:Nat)).length (qe9 (↑(nL m (0:Nat)).length:Int) (↑(v6+(1:Nat)):Int)) v8=q3c m (nL m (0:Nat)).length v11/\True/\True)/\True))/\(decide ((↑v3:Int)<max2 false ((q0r m).1+(1:Int)) (↑(nL m (0:Nat)).length:Int))=false->q3l (Ty.int .i64) (q3c m (nL m (0:Nat)).length v3) none=(qh9 m).1/\(0:Int)=(qh9 m).2/\True))) ?_
 refine⟨λhv=>(h hv).rank,λhe=>?_,λhe=>?_⟩
 ·grind [qb6,absurd,q0r,qh9]
 have hv:qb6 m=true:=by
  grind [qb6,q0r]
 have hO:=h hv
 have hM:=Mk.of hv
 have hm1:=hM.rows1
 have hn1:=hM.pix1
 have hn10:=hM.pix10
 have hrank:(qj7 m (qp1 (nL m 0).length)).2.length<=10:=by
  have:=(q2y hO.rank.red (nL m 0).length).pivj
  grind [qj7,qf6,Nat.le_trans]
 have hr:q0r m=(((qj7 m (qp1 (nL m 0).length)).2.length:Int),0):=by grind [q0r]
 have hcN:q55 m=min ((qj7 m (qp1 (nL m 0).length)).2.length+1) (nL m 0).length:=rfl
 have hcR:qh9 m=(q3c m (nL m 0).length (q55 m),0):=by grind [qh9]
 rw[hr,hcR]
 generalize(qj7 m (qp1 (nL m 0).length)).2.length=r at *
 have hker:=hO.ker
 generalize hnn:(nL m 0).length=n at *
 dsimp only
 refine⟨ow,qa7,(),0,zaf _,⟨rfl,rfl⟩,λk hk=>⟨λhlt=>?_,λhge=>?_⟩⟩
 ·have hlt:(k:Int)<min ((r:Int)+1) n:=hlt
  have hkn:k<n:=ow
  have hca:((k:Int)+1)=((k+1:Nat):Int):=ow
  have hkl:=wo6 m n hn10 k ow
  have hsl:=wz5 n (k+1) hn10 ow
  rw[hca]
  have hb1:(0:Int)<=((k+1:Nat):Int)/\((k+1:Nat):Int)<=1000:=ow
  refine⟨qa7,⟨hb1,ow⟩,k,0,zaf _,rfl,by simp[qt1],λc hc=>⟨?_,λhce=>?_⟩⟩
  ·rintro⟨set,⟨⟩⟩ hset T
   dsimp only
   have hs:(qe9 n (k+1:Nat))[c]? = some set:=by
    grind
   have hcl:c<(qe9 n (k+1:Nat)).length:=(zag.1 hs).1
   have hnl:nL (qe9 n (k+1:Nat)) c=set:=by grind [ql6,List.getElem?_eq_some_iff]
   have hK:w8m m set:=hker k hkn set (zah hs)
   have hctl:=q9h m n (qe9 n (k+1:Nat)) c
   refine⟨hK,λh1=>⟨c+1,hcl,rfl,?_⟩,λh1=>⟨ow,?_,λh2=>⟨c+1,hcl,rfl,?_⟩,λh2=>⟨ow,(T,k,c,set),0,zaf _,⟨rfl,rfl,⟨rfl,rfl⟩,rfl⟩,λj hj=>⟨λhjl=>?_,λhjl=>?_⟩⟩⟩⟩
   ·rw[qt1,hnl,zaj]
    intro q
    simp_all [wz3,Bool.and_eq_true,decide_eq_true_eq]
   ·grind [q9j,nL,qn1,set,q04]
   ·simp_all [qt1,if_neg,wz3,Bool.and_eq_true]
   ·dsimp only at hj ⊢
    have hat:=hK.cho.at_ 0 ow j hjl
    rw[hnn] at hat
    have hkm:=q9j hK (nL (qn1 m set) 0) (q04 _ 0 ow)
    have hsp:=ql9 n set (nL (qn1 m set) 0) j
    have hat':0<=nI set j/\nI set j<((qg4 n set (nL (qn1 m set) 0) j).length:Int):=⟨hat.1,ow⟩
    exact⟨hjl,hjl,ow,ow,hat',ow,qa7,j+1,hjl,ow,ow,rfl⟩
   ·dsimp only at hj ⊢
    obtain rfl:j=set.length:=ow
    have hkm:=q9j hK (nL (qn1 m set) 0) (q04 _ 0 ow)
    refine⟨q6x hkm.2.2 ow hkm.1 _ (zac _),by grind,rfl,rfl,c+1,hcl,rfl,?_⟩
    have hg:wz3 (qn1 m set)=true:=by
     unfold wz3
     grind
    rw[qt1,hnl,zam hg,zd9]
    rfl
  ·rw[za4] at hce
   subst hce
   exact⟨qa7,k+1,ow,ow,rfl,rfl⟩
 ·have hge:min ((r:Int)+1) n<=k:=hge
  obtain rfl:k=q55 m:=ow
  exact⟨rfl,rfl⟩
def q9k (m:List (List Int)):List Int × Int:=if(qh9 m).2≠0 then([],(qh9 m).2) else if(qh9 m).1=[] then([],8) else(nL (qh9 m).1 0,0)
def nzTo (l:List Int):Nat->Nat
 | 0=>0
 | k+1=>if nI l k≠0 then nzTo l k+1 else nzTo l k
theorem xl3 (l:List Int):∀k,nzTo l k<=k
 | 0=>zac _
 | k+1=>by have:=xl3 l k; grind [nzTo]
def q3g (m:List (List Int)):Int × Int:=((nzTo (q9k m).1 (q9k m).1.length:Int),(q9k m).2)
def w8v (m:List (List Int)):Int × Int:=if(q3g m).2=0 then(((q3g m).1-1).tdiv 2,0) else if(q3g m).2=8 then((nL m 0).length,0) else(0,(q3g m).2)
def q1b (a b:List Int):Nat->Int
 | 0=>0
 | k+1=>q1b a b k+nI a k*nI b k
structure xl4 (a b:List Int):Prop where
 len:a.length<=10
 le:a.length<=b.length
 sa:∀i,i<a.length->-1<=nI a i/\nI a i<=1
 sb:∀i,i<a.length->qe5 1000000 (nI b i)
theorem wz6 {x y K:Int} (hx:-1<=x/\x<=1) (hy:qe5 K y):qe5 K (x*y):=by
 unfold qe5 at *
 rcases(show x=-1\/x=0\/x=1 by omega) with rfl | rfl | rfl
 all_goals omega
theorem w5h {a b:List Int} (h:xl4 a b):∀k,k<=a.length->qe5 (1000000*k) (q1b a b k)
 | 0,_=>by simp_all [qe5,q1b]
 | k+1,hk=>by
  have h1:=w5h h k ow
  have h2:=wz6 (h.sa k ow) (h.sb k ow)
  unfold qe5 at *
  grind [q1b]
abbrev y41:qa8:=qd9 true none [qf1,qf1] [qc0] (λx=>xl4 x.1 x.2.1) (λx=>(q1b x.1 x.2.1 x.1.length,()))
def x1w (a b:List Int):Nat->Option Inv
 | 0=>some (Inv.of [5,10] 0 (λk:Nat=>[(5,.lit (.int .i64 (q1b a b k))),(10,.lit (.int .i64 k))]) (λ_=>[]) (λk=>k<=a.length) (λk=>a.length-k))
 | _=>none
theorem wz7:Meets Tryz.prog 57 y41:=by
 refine mts (SpecsOk.nil _) Tryz.func57 (λx=>x1w x.1 x.2.1) ?_
 rintro⟨a,b,⟨⟩⟩ h
 revert a b
 intro(a:List Int) (b:List Int) (h:xl4 a b)
 refine vcs (∃(v0:Unit),∃(v1:Nat),Nat.le v1 a.length/\(((0:Int)=q1b a b v1/\(0:Int)=(↑v1:Int)/\True)/\True)/\∀(v2:Nat),Nat.le v2 a.length->(decide ((↑v2:Int)<(↑a.length:Int))=true->((0:Int)<=(↑v2:Int)/\(↑v2:Int)<(↑a.length:Int))/\((0:Int)<=(↑v2:Int)/\(↑v2:Int)<(↑b.length:Int))/\fits .i64 (nI a v2*nI b v2)/\fits .i64 (q1b a b v2+nI a v2*nI b v2)/\fits .i64 ((↑v2:Int)+(1:Int))/\∃(v5:Nat),Nat.le v5 a.length/\a.length-v5<a.length-v2/\(q1b a b v2+nI a v2*nI b v2=q1b a b v5/\(↑v2:Int)+(1:Int)=(↑v5:Int)/\True)/\True)/\(decide ((↑v2:Int)<(↑a.length:Int))=false->q1b a b v2=q1b a b a.length)) ?_
 have hl:=h.len
 have hle:=h.le
 refine⟨(),0,zaf _,⟨rfl,rfl⟩,λk hk=>⟨λhlt=>?_,λhge=>?_⟩⟩
 ·have h1:=w5h h k hk
  have h2:=wz6 (h.sa k hlt) (h.sb k hlt)
  unfold qe5 at h1 h2
  exact⟨hlt,ow,qa7,qa7,qa7,k+1,hlt,ow,rfl,ow⟩
 grind
abbrev yh0:qa8:=hspec [] true none [.cap qg1] [qc0] (λx=>0<x.1.length) (λx=>((nL x.1 0).length,()))
theorem w8w:Meets Tryz.prog 102 yh0:=by
 refine ql2 (SpecsOk.nil _) (snd (SpecsOk.nil _)) Tryz.func102 rfl rfl (λ_ _=>none) (λ_=>by kernel_rfl) dc ?_
 rintro⟨m,⟨⟩⟩ h
 revert m
 intro(m:List (List Int)) (h:0<m.length)
 refine vcs (((0:Int)<=(0:Int)/\(0:Int)<(↑m.length:Int))/\(↑(nL m (0:Nat)).length:Int)=(↑(nL m (0:Nat)).length:Int)) ?_
 omega
abbrev yh1:qa8:=hspec [] true none [.d qc0,.cap qc0] [.bool] (λx=>qe5 BIG x.2.1) (λx=>(inB x.1 (0-x.2.1) x.2.1,()))
theorem w8x:Meets Tryz.prog 143 yh1:=by
 refine ql2 (SpecsOk.nil _) (snd (SpecsOk.cons qu3 (SpecsOk.nil _))) Tryz.func143 rfl rfl (λ_ _=>none) (λ_=>by kernel_rfl) dc ?_
 rintro⟨n,k,⟨⟩⟩ h
 revert n k
 intro(n:Int) (k:Int) (h:qe5 BIG k)
 refine vcs (fits .i64 ((0:Int)-k)/\True/\inB n ((0:Int)-k) k=inB n ((0:Int)-k) k) ?_
 unfold qe5 BIG at h
 grind [qa7]
def w98 (m:List (List Int)) (l:List Int) (n k:Int):Int:=if qb6 m=false then 1 else if(l.length:Int)≠n then 9 else if(l.all λe=>inB e (0-k) k)=false then 7 else 0
abbrev y42 (fs:List (Nat × qa8)):qa8:=hspec fs true none [.d qg1,.d qf1,.fn [] qc0,.d qc0] [qc0] (λx=>(qb6 x.1=true->x.2.2.1.1 ())/\qe5 BIG x.2.2.2.1/\x.2.1.length<=1000000) (λx=>(w98 x.1 x.2.1 (x.2.2.1.2 ()) x.2.2.2.1,()))
theorem xl5 {fs:List (Nat × qa8)} (hfs:SpecsOk Tryz.prog fs):Meets Tryz.prog 101 (y42 fs):=by
 refine ql2 hfs (snd (SpecsOk.cons qx3 (SpecsOk.cons (wh0 (fs:=[(143,yh1)]) (SpecsOk.cons w8x (SpecsOk.nil _))) (SpecsOk.nil _)))) Tryz.func101 rfl rfl (λ_ _=>none) (λ_=>by kernel_rfl) dc ?_
 rintro⟨m,l,⟨p,f⟩,k,⟨⟩⟩ h
 revert m l p f k
 intro(m:List (List Int)) (l:List Int) (p:qa3 []->Prop) (f:qa3 []->Int) (k:Int) (h:(qb6 m=true->p ())/\qe5 BIG k/\l.length<=1000000)
 refine vcs (True/\((!qb6 m)=true->(1:Int)=w98 m l (f ()) k)/\((!qb6 m)=false->p ()/\(((↑l.length:Int) != f ())=true->(9:Int)=w98 m l (f ()) k)/\(((↑l.length:Int) != f ())=false->∃(v2:qa3 [qc0]->Prop),∃(v3:qa3 [qc0]->Bool),(∀(v4:Int × qa3._f [] PUnit.unit),v2 v4->qe5 BIG k/\inB v4.1 ((0:Int)-k) k=v3 v4)/\(l.length<=(1000000:Nat)/\∀(v4:Nat),v4<l.length->v2 (nI l v4,()))/\((!List.all l λ(v5:Int)=>v3 (v5,()))=true->(7:Int)=w98 m l (f ()) k)/\((!List.all l λ(v5:Int)=>v3 (v5,()))=false->(0:Int)=w98 m l (f ()) k)))) ?_
 obtain⟨h1,h2,h3⟩:=h
 refine⟨λhv=>by grind [w98],λhv=>⟨h1 hv,λhl=>by grind [w98],λhl=>⟨λ_=>True,λx=>inB x.1 (0-k) k,λ_ _=>⟨h2,rfl⟩,⟨h3,λ_ _=>trivial⟩,λha=>?_,λha=>?_⟩⟩⟩
 all_goals simp_all [w98,if_neg,if_pos]
def q7i (m:List (List Int)) (x:List Int):Int:=w98 m x (nL m 0).length 1000000
abbrev y43:qa8:=qd9 true none [qg1,qf1] [qc0] (λx=>x.2.1.length<=1000000) (λx=>(q7i x.1 x.2.1,()))
theorem xl6:Meets Tryz.prog 56 y43:=by
 refine mt0 (SpecsOk.cons (xl5 (fs:=[(102,yh0)]) (SpecsOk.cons w8w (SpecsOk.nil _))) (SpecsOk.nil _)) Tryz.func56 ?_
 rintro⟨m,x,⟨⟩⟩ h
 revert m x
 intro(m:List (List Int)) (x:List Int) (h:x.length<=1000000)
 refine vcs (∃(v0:qa3 []->Prop),∃(v1:qa3 []->Int),(∀(v2:Unit),v0 v2->(0:Nat)<m.length/\(↑(nL m (0:Nat)).length:Int)=v1 v2)/\((qb6 m=true->v0 ())/\qe5 BIG (1000000:Int)/\x.length<=(1000000:Nat))/\w98 m x (v1 ()) (1000000:Int)=q7i m x) ?_
 exact⟨λ_=>0<m.length,λ_=>((nL m 0).length:Int),λ_ hp=>⟨hp,rfl⟩,⟨λhv=>by have:=(Mk.of hv).rows1; omega,⟨dc,dc⟩,h⟩,rfl⟩
structure Shw (m:List (List Int)) (x:List Int):Prop where
 msk:Mk m
 val:qb6 m=true
 len:x.length=(nL m 0).length
 bd:∀i,i<x.length->qe5 1000000 (nI x i)
theorem Shw.of {m:List (List Int)} {x:List Int} (h:q7i m x=0):Shw m x:=by
 unfold q7i w98 at h
 split at h
 ·cases h
 ·rename_i hv
  have hv:qb6 m=true:=by grind
  split at h
  ·cases h
  ·rename_i hl
   split at h
   ·cases h
   ·rename_i ha
    have ha:(x.all λe=>inB e (0-1000000) 1000000)=true:=by grind
    refine⟨Mk.of hv,hv,ow,λi hi=>?_⟩
    have:=qh1.1 (zaq.1 ha (nI x i) (by grind [qf3,List.getElem_mem]))
    omega
theorem Shw.dot {m:List (List Int)} {x:List Int} (h:Shw m x) (k:Nat) (hk:k<m.length):xl4 (nL m k) x:=by
 have h1:=h.msk.each k hk
 have h2:=h.msk.pix10
 have h3:=h.len
 exact⟨ow,ow,λi hi=>h.msk.small k hk i ow,λi hi=>h.bd i ow⟩
def qc8 (m:List (List Int)) (x:List Int):List Int:=(List.range m.length).map λi=>q1b (nL m i) x (nL m i).length
def qz0 (m:List (List Int)) (x:List Int):List Int × Int:=if q7i m x=0 then(qc8 m x,0) else([],q7i m x)
abbrev yz2:qa8:=qd9 true none [qg1,qf1] [qf1,qc0] (λx=>x.2.1.length<=1000000) (λx=>((qz0 x.1 x.2.1).1,(qz0 x.1 x.2.1).2,()))
def yh2 (m:List (List Int)) (x:List Int):Nat->Option Inv
 | 0=>some (Inv.of [7,18] 1 (λk:Nat=>[(7,.own 0),(18,.lit (.int .i64 k))]) (λk=>[.vec 3 (.int .i64) ((qc8 m x).take k)]) (λk=>k<=m.length) (λk=>m.length-k))
 | _=>none
theorem wi3:Meets Tryz.prog 15 yz2:=by
 refine mts (SpecsOk.cons xl6 (SpecsOk.cons wz7 (SpecsOk.nil _))) Tryz.func15 (λx=>yh2 x.1 x.2.1) ?_
 rintro⟨m,x,⟨⟩⟩ h
 revert m x
 intro(m:List (List Int)) (x:List Int) (h:x.length<=1000000)
 refine vcs (let Q0:=qc8 m x; let Q1:=qz0 m x; x.length<=(1000000:Nat)/\((q7i m x != (0:Int))=true->Q1.1=[]/\q7i m x=Q1.2/\True)/\((q7i m x != (0:Int))=false->∃(v1:Unit),∃(v2:Nat),Nat.le v2 m.length/\((True/\(0:Int)=(↑v2:Int)/\True)/\List.take v2 Q0=[]/\True)/\∀(v3:Nat),Nat.le v3 m.length->(decide ((↑v3:Int)<(↑m.length:Int))=true->((0:Int)<=(↑v3:Int)/\(↑v3:Int)<(↑m.length:Int))/\xl4 (nL m v3) x/\((0:Nat)<List.length [q1b (nL m v3) x (nL m v3).length]/\Nat.le ((List.take v3 Q0).length+List.length [q1b (nL m v3) x (nL m v3).length]) (1000000:Nat))/\fits .i64 ((↑v3:Int)+(1:Int))/\∃(v6:Nat),Nat.le v6 m.length/\m.length-v6<m.length-v3/\(True/\(↑v3:Int)+(1:Int)=(↑v6:Int)/\True)/\List.take v3 Q0++[q1b (nL m v3) x (nL m v3).length]=List.take v6 Q0/\True)/\(decide ((↑v3:Int)<(↑m.length:Int))=false->List.take v3 Q0=Q1.1/\(0:Int)=Q1.2/\True))) ?_
 refine⟨h,λhe=>by grind [qz0],λhe=>?_⟩
 have hS:=Shw.of he
 have hM:=hS.msk
 have h6:=hM.rows6
 have h10:=hM.pix10
 have hlen:(qc8 m x).length=m.length:=by simp[qc8]
 have hR:qz0 m x=(qc8 m x,0):=by grind [qz0]
 rw[hR]
 refine⟨(),0,zaf _,⟨rfl,rfl⟩,λk hk=>⟨λhlt=>⟨hlt,hS.dot k hlt,by grind,qa7,k+1,hlt,ow,ow,?_⟩,λhge=>⟨zcr ow,rfl⟩⟩⟩
 grind [xj2,qf3,qc8]
open Go Go.RowKit Ls Eng
theorem own_blk {w:World} {B e n:Nat} {A:Option Addr} {c:Nat} {xs:List Value} (h:w.ownsRow B e 1 (.slice A n c) n xs):∀ad,A=some ad->B<=ad.block:=by
 intro ad e1
 rcases h.2 with⟨h,_⟩ | ⟨g,cap,cur,h,hb,_⟩
 all_goals grind
abbrev x7v:qa8:=qd9 true none [.list (.int .i64)] [.list (.int .i64)] (λx=>x.1.length<=100000) (λx=>(x.1,()))
theorem wz8:Meets Tryz.prog 48 x7v:=q2r ⟨_,_,Tryz.func48,rfl,rfl⟩ λw m x vs hm hp hx=>by
 obtain⟨l,⟨⟩⟩:=x
 obtain⟨u,us,rfl,h1,h2⟩:=hx
 obtain rfl:us=[]:=h2
 obtain⟨A,c,rfl,hSI⟩:=x1a hm (show Rd m (.list (.int .i64)) l [u] from h1)
 refine(clone_any A l.length c l w hSI hp).mono λe w' ⟨A',c',e1,e2,e3⟩=>⟨_,e1,e3,[_],rfl,_,_,rfl,?_,rfl⟩
 exact x7d (x4j e2) (own_blk e2)
set_option maxRecDepth 100000 in
set_option maxHeartbeats 400000 in
theorem clone_nil (w:World):Calls Tryz.prog 48 #[.slice none 0 0] w λe w'=>e=.returned (.slice none 0 0)/\Below w.heap.size w w':=by
 have hq:=λw=>Lib.run_eql_slice_nil (P:=Tryz.prog) w 24 3 none 0 0 0 0 Tryz.underlying24
 go_enter Tryz.func48,Tryz.ntmps48
 go_wp2
 go_ret
 exact⟨rfl,zdh _ _⟩
abbrev x7w:qa8:=qd9 true none [.nlist (.int .i64)] [.nlist (.int .i64)] (λx=>x.1.length<=100000) (λx=>(x.1,()))
theorem wz9:Meets Tryz.prog 48 x7w:=q2r ⟨_,_,Tryz.func48,rfl,rfl⟩ λw m x vs hm hp hx=>by
 obtain⟨l,⟨⟩⟩:=x
 obtain⟨u,us,rfl,h1,h2⟩:=hx
 obtain rfl:us=[]:=h2
 have h1:Rd m (.nlist (.int .i64)) l [u]:=h1
 obtain⟨h3,h4⟩:=h1
 by_cases h0:(l:List Int).length=0
 ·obtain rfl:l=[]:=zay h0
  obtain rfl:u=.slice none 0 0:=(zad (h4 rfl)).1
  refine(clone_nil w).mono λe w' ⟨e1,e2⟩=>⟨_,e1,e2,[_],rfl,_,_,rfl,⟨⟨none,0,rfl,zac _,by simp,λh=>absurd h (zbe _)⟩,λ_=>rfl⟩,rfl⟩
 ·obtain⟨A,c,rfl,hSI⟩:=x1a hm (show Rd m (.list (.int .i64)) l [u] from h3)
  refine(clone_any A _ c l w hSI hp).mono λe w' ⟨A',c',e1,e2,e3⟩=>⟨_,e1,e3,[_],rfl,_,_,rfl,⟨?_,λh=>absurd h h0⟩,rfl⟩
  exact x7d (x4j e2) (own_blk e2)
theorem yh3 {R:Type} (b:Bool) (x y:R):Det (λk:R->Prop=>(b=true->k x)/\(b=false->k y)):=λk H=>by
 cases b with
 | true=>grind
 | false=>grind
abbrev x7x:qa8:=
 {fresh:=true,own:=some 3,run:=λargs k=>qg6 [.nlist (.int .i64)] args λx=>need (x.1.length<=100000) λ_=>(x.1.isEmpty=true->k (.lit (.slice none 0 0)))/\(x.1.isEmpty=false->k (.dat (.int .i64) x.1)),
  one:=λargs k h=>(qd4 (qp0 [.nlist (.int .i64)] args) λx=>qg7 (yh3 x.1.isEmpty _ _)) k h }
theorem w0a:Meets Tryz.prog 48 x7x:=by
 refine⟨⟨_,_,Tryz.func48,rfl,rfl⟩,λw m args vs k hm hargs hrun=>?_⟩
 obtain⟨⟨l,⟨⟩⟩,⟨hp,hk⟩,hx⟩:=qj3 hrun hargs
 have hp:l.length<=100000:=hp
 have hk:(l.isEmpty=true->k (.lit (.slice none 0 0)))/\(l.isEmpty=false->k (.dat (.int .i64) l)):=hk
 obtain⟨u,us,rfl,h1,h2⟩:=hx
 obtain rfl:us=[]:=h2
 have h1:Rd m (.nlist (.int .i64)) l [u]:=h1
 obtain⟨h3,h4⟩:=h1
 by_cases h0:(l:List Int).length=0
 ·obtain rfl:l=[]:=zay h0
  obtain rfl:u=.slice none 0 0:=(zad (h4 rfl)).1
  refine(clone_nil w).mono λe w' ⟨e1,e2⟩=>?_
  exact⟨_,λ_=>none,e1,e2,(λb o h=>by cases h),(λb o h=>by cases h),.inr (.inl ⟨hk.1 rfl,rfl⟩)⟩
 ·obtain⟨A,c,rfl,hSI⟩:=x1a hm (show Rd m (.list (.int .i64)) l [u] from h3)
  refine(clone_any A l.length c l w hSI hp).mono λe w' ⟨A',c',e1,e2,e3⟩=>?_
  have he:l.isEmpty=false:=by grind
  exact⟨_,λ_=>none,e1,e3,(λb o h=>by cases h),(λb o h=>by cases h),.inl ⟨.int .i64,l,ints l,hk.2 he,e2,rdL_ints _ l,λ_ _=>rfl⟩⟩
open Go Go.Proofs Go.RowKit Eng Ls
abbrev q05:Ty:=.prod .bool (.list (.int .i64))
abbrev Frm:=Bool × List Int
theorem qu7:Meets Tryz.prog 80 wo0:=by
 refine mt0 (SpecsOk.nil _) Tryz.func80 ?_
 rintro⟨n,lo,hi,⟨⟩⟩ -
 revert n lo hi
 intro(n:Int) (lo:Int) (hi:Int)
 refine vcs ((decide (lo<=n)=true->decide (n<=hi)=inB n lo hi)/\(decide (lo<=n)=false->false=inB n lo hi)) ?_
 grind [inB]
def ya0 (n:Int):Bool:=inB n (0-1000) 1000
abbrev y3i:qa8:=qd9 true none [qc0] [.bool] (λ_=>True) (λx=>(!ya0 x.1,()))
theorem xl7:Meets Tryz.prog 177 y3i:=by
 refine mt0 (SpecsOk.cons qu7 (SpecsOk.nil _)) Tryz.func177 ?_
 rintro⟨n,⟨⟩⟩ -
 revert n
 intro(n:Int)
 refine vcs (True/\(!inB n (-1000:Int) (1000:Int))=!ya0 n) ?_
 exact(zd5 _).symm
def q44 (m:List (List Int)) (x:List Int):Bool:=decide (x.length=(nL m 0).length) && x.all ya0
abbrev y44:qa8:=qd9 true none [qg1,qf1] [.bool] (λx=>qb6 x.1=true) (λx=>(q44 x.1 x.2.1,()))
theorem w0b:Meets Tryz.prog 128 y44:=by
 refine mt0 (SpecsOk.cons (q1x (fs:=[(177,y3i)]) (SpecsOk.cons xl7 (SpecsOk.nil _))) (SpecsOk.nil _)) Tryz.func128 ?_
 rintro⟨m,x,⟨⟩⟩ h
 revert m x
 intro(m:List (List Int)) (x:List Int) (h:qb6 m=true)
 refine vcs (((0:Int)<=(0:Int)/\(0:Int)<(↑m.length:Int))/\(((↑x.length:Int)==(↑(nL m (0:Nat)).length:Int))=true->∃(v1:qa3 [Ty.int .i64]->Prop),∃(v2:qa3 [Ty.int .i64]->Bool),(∀(v3:Int × qa3._f [] PUnit.unit),v1 v3->True/\(!ya0 v3.1)=v2 v3)/\(x.length<=(1000000:Nat)/\∀(v3:Nat),v3<x.length->v1 (nI x v3,()))/\(!List.any x λ(v3:Int)=>v2 (v3,()))=q44 m x)/\(((↑x.length:Int)==(↑(nL m (0:Nat)).length:Int))=false->false=q44 m x)) ?_
 refine⟨by have:=(Mk.of h).rows1; omega,λhl=>⟨λ_=>True,λx=>!ya0 x.1,λ_ _=>(zd5 _).symm,⟨by have:=(Mk.of h).pix10; omega,λ_ _=>trivial⟩,?_⟩,λhl=>?_⟩
 all_goals grind [q44,decide_eq_true,nL,List.not_all_eq_any_not,decide_eq_false]
abbrev y3j:qa8:=hspec [] true none [.d qf1,.cap qg1] [.bool] (λx=>qb6 x.2.1=true) (λx=>(!q44 x.2.1 x.1,()))
theorem xl8:Meets Tryz.prog 127 y3j:=by
 refine ql2 (SpecsOk.nil _) (snd (SpecsOk.cons w0b (SpecsOk.nil _))) Tryz.func127 rfl rfl (λ_ _=>none) (λ_=>by kernel_rfl) dc ?_
 rintro⟨x,m,⟨⟩⟩ h
 revert x m
 intro(x:List Int) (m:List (List Int)) (h:qb6 m=true)
 refine vcr (qb6 m=true/\(!q44 m x)=!q44 m x) ?_
 grind
def vpB (m p:List (List Int)):Bool:=qb6 m && inB p.length 1 60 && p.all (q44 m)
abbrev sVP:qa8:=qd9 true none [qg1,qg1] [.bool] (λ_=>True) (λx=>(vpB x.1 x.2.1,()))
theorem q7x:Meets Tryz.prog 78 sVP:=by
 refine mt0 (SpecsOk.cons qx3 (SpecsOk.cons qu7 (SpecsOk.cons (wx7 (fs:=[(127,y3j)]) (SpecsOk.cons xl8 (SpecsOk.nil _))) (SpecsOk.nil _)))) Tryz.func78 ?_
 rintro⟨m,p,⟨⟩⟩ -
 revert m p
 intro(m:List (List Int)) (p:List (List Int))
 refine vcs (True/\(qb6 m=true->True/\(inB (↑p.length:Int) (1:Int) (60:Int)=true->∃(v2:qa3 [Ty.list (Ty.int .i64)]->Prop),∃(v3:qa3 [Ty.list (Ty.int .i64)]->Bool),(∀(v4:List Int × qa3._f [] PUnit.unit),v2 v4->qb6 m=true/\(!q44 m v4.1)=v3 v4)/\(p.length<=(1000000:Nat)/\∀(v4:Nat),v4<p.length->v2 (nL p v4,()))/\(!List.any p λ(v4:List Int)=>v3 (v4,()))=vpB m p)/\(inB (↑p.length:Int) (1:Int) (60:Int)=false->false=vpB m p))/\(qb6 m=false->false=vpB m p)) ?_
 refine⟨λhv=>⟨λhl=>⟨λ_=>True,λx=>!q44 m x.1,λ_ _=>⟨hv,(zd5 _).symm⟩,⟨by grind [qh1],λ_ _=>trivial⟩,?_⟩,λhl=>?_⟩,λhv=>?_⟩
 all_goals grind [vpB,List.not_all_eq_any_not]
def q56 (a b:List Int) (k:Nat):List Int:=(List.range k).map λi=>nI b i-nI a i
def qs0 (a b:List Int):List Int:=q56 a b b.length
structure wi4 (a b:List Int):Prop where
 le:b.length<=a.length
 len:b.length<=1000
 ba:∀i,i<b.length->qe5 100000 (nI a i)
 bb:∀i,i<b.length->qe5 100000 (nI b i)
theorem qw1 (a b:List Int) (k:Nat):(q56 a b k).length=k:=by simp[q56]
abbrev y45:qa8:=qd9 true (some 3) [qf1,qf1] [qf1] (λx=>wi4 x.1 x.2.1) (λx=>(qs0 x.1 x.2.1,()))
def yz3 (a b:List Int):Nat->Option Inv
 | 0=>some (Inv.of [5,10] 1 (λk:Nat=>[(5,.own 0),(10,.lit (.int .i64 k))]) (λk=>[.vec 3 (.int .i64) (q56 a b k)]) (λk=>k<=b.length) (λk=>b.length-k))
 | _=>none
theorem q9l:Meets Tryz.prog 79 y45:=by
 refine mts (SpecsOk.nil _) Tryz.func79 (λx=>yz3 x.1 x.2.1) ?_
 rintro⟨a,b,⟨⟩⟩ h
 revert a b
 intro(a:List Int) (b:List Int) (h:wi4 a b)
 refine vcs (∃(v0:Unit),∃(v1:Nat),Nat.le v1 b.length/\((True/\(0:Int)=(↑v1:Int)/\True)/\q56 a b v1=[]/\True)/\∀(v2:Nat),Nat.le v2 b.length->(decide ((↑v2:Int)<(↑b.length:Int))=true->((0:Int)<=(↑v2:Int)/\(↑v2:Int)<(↑b.length:Int))/\((0:Int)<=(↑v2:Int)/\(↑v2:Int)<(↑a.length:Int))/\fits .i64 (nI b v2-nI a v2)/\((0:Nat)<List.length [nI b v2-nI a v2]/\Nat.le ((q56 a b v2).length+List.length [nI b v2-nI a v2]) (1000000:Nat))/\fits .i64 ((↑v2:Int)+(1:Int))/\∃(v5:Nat),Nat.le v5 b.length/\b.length-v5<b.length-v2/\(True/\(↑v2:Int)+(1:Int)=(↑v5:Int)/\True)/\q56 a b v2++[nI b v2-nI a v2]=q56 a b v5/\True)/\(decide ((↑v2:Int)<(↑b.length:Int))=false->q56 a b v2=qs0 a b)) ?_
 have hl:=h.len
 refine⟨(),0,zaf _,⟨rfl,rfl⟩,λk hk=>⟨λhlt=>?_,λhge=>?_⟩⟩
 ·have h1:=h.ba k hlt
  have h2:=h.bb k hlt
  have h3:=h.le
  unfold qe5 at h1 h2
  exact⟨hlt,ow,qa7,by grind [qw1],qa7,k+1,hlt,ow,ow,by simp[q56,List.range_succ]⟩
 ·obtain rfl:k=b.length:=ow
  rfl
structure Vp (m p:List (List Int)):Prop where
 msk:Mk m
 val:qb6 m=true
 lo:1<=p.length
 hi:p.length<=60
 len:∀i,i<p.length->(nL p i).length=(nL m 0).length
 bd:∀i,i<p.length->∀j,j<(nL m 0).length->qe5 1000 (nI (nL p i) j)
theorem Vp.of {m p:List (List Int)} (h:vpB m p=true):Vp m p:=by
 unfold vpB at h
 rw[zax,zax,qh1,zaq] at h
 obtain⟨⟨h1,h2⟩,h3⟩:=h
 have h4:∀i,i<p.length->(nL p i).length=(nL m 0).length/\∀n∈nL p i,ya0 n=true:=λi hi=>by
  have:=h3 (nL p i) (by grind [ql6,hi,List.getElem_mem])
  simp_all [q44,Bool.and_eq_true,decide_eq_true_eq,List.all_eq_true]
 refine⟨Mk.of h1,h1,ow,ow,λi hi=>(h4 i hi).1,λi hi j hj=>?_⟩
 have h5:=(h4 i hi).2 (nI (nL p i) j) (by grind [qf3,hi,List.getElem_mem])
 have h6:=qh1.1 h5
 omega
theorem Vp.chg {m p:List (List Int)} (h:Vp m p) {i j:Nat} (hi:i<p.length) (hj:j<p.length):wi4 (nL p i) (nL p j):=by
 have h1:=h.len i hi
 have h2:=h.len j hj
 have h3:=h.msk.pix10
 refine⟨ow,ow,λk hk=>?_,λk hk=>?_⟩
 ·have:=h.bd i hi k ow; omega
 ·have:=h.bd j hj k ow; omega
def w5i (m:List (List Int)) (a b:List Int):List Int × Int:=if vpB m [a,b] then(qs0 a b,0) else([],1)
abbrev yz4:qa8:=qd9 false none [qg1,qf1,qf1] [qf1,qc0] (λ_=>True) (λx=>((w5i x.1 x.2.1 x.2.2.1).1,(w5i x.1 x.2.1 x.2.2.1).2,()))
theorem w8y:Meets Tryz.prog 35 yz4:=by
 refine mt0 (SpecsOk.cons q7x (SpecsOk.cons q9l (SpecsOk.nil _))) Tryz.func35 ?_
 rintro⟨m,a,b,⟨⟩⟩ -
 revert m a b
 intro(m:List (List Int)) (a:List Int) (b:List Int)
 refine vcs (let Q0:=w5i m a b; True/\((!vpB m [a,b])=true->Q0.1=[]/\(1:Int)=Q0.2/\True)/\((!vpB m [a,b])=false->wi4 a b/\qs0 a b=Q0.1/\(0:Int)=Q0.2/\True)) ?_
 exact⟨λh=>by simp[w5i,h],λh=>⟨(Vp.of h).chg (i:=0) (j:=1) (by simp) (by simp),by simp[w5i,h]⟩⟩
def xy1 (m p:List (List Int)) (e:Nat) (i:Nat):Frm:=if i % e=0 then(true,nL p i) else(false,(qz0 m (qs0 (nL p (i-1)) (nL p i))).1)
def qm0 (m p:List (List Int)) (e:Nat) (k:Nat):List Frm:=(List.range k).map (xy1 m p e)
structure w0c (m p:List (List Int)) (e:Int):Prop where
 ok:vpB m p=true
 lo:1<=e
 hi:e<=60
theorem q14 (m p:List (List Int)) (e k:Nat):(qm0 m p e k).length=k:=by simp[qm0]
abbrev y46:qa8:=qd9 false none [qg1,qg1,qc0] [.list q05] (λx=>w0c x.1 x.2.1 x.2.2.1) (λx=>(qm0 x.1 x.2.1 x.2.2.1.toNat x.2.1.length,()))
def yz5 (m p:List (List Int)) (e:Nat):Nat->Option Inv
 | 0=>some (Inv.of [7,13] 1 (λk:Nat=>[(7,.own 0),(13,.lit (.int .i64 k))]) (λk=>[.vec 158 q05 (qm0 m p e k)]) (λk=>k<=p.length) (λk=>p.length-k))
 | _=>none
theorem w0d:Meets Tryz.prog 81 y46:=by
 refine mts (SpecsOk.cons wz8 (SpecsOk.cons q9l (SpecsOk.cons wi3 (SpecsOk.nil _)))) Tryz.func81 (λx=>yz5 x.1 x.2.1 x.2.2.1.toNat) ?_
 rintro⟨m,p,e,⟨⟩⟩ h
 revert m p e
 intro(m:List (List Int)) (p:List (List Int)) (e:Int) (h:w0c m p e)
 refine vcs (∃(v0:Unit),∃(v1:Nat),Nat.le v1 p.length/\((True/\(0:Int)=(↑v1:Int)/\True)/\qm0 m p e.toNat v1=[]/\True)/\∀(v2:Nat),Nat.le v2 p.length->(decide ((↑v2:Int)<(↑p.length:Int))=true->((0:Int)<=(↑v2:Int)/\(↑v2:Int)<(↑p.length:Int))/\e≠(0:Int)/\(nL p v2).length<=(100000:Nat)/\((!Int.tmod (↑v2:Int) e==(0:Int))=true->fits .i64 ((↑v2:Int)-(1:Int))/\((0:Int)<=(↑v2:Int)-(1:Int)/\(↑v2:Int)-(1:Int)<(↑p.length:Int))/\wi4 (nL p ((↑v2:Int)-(1:Int)).toNat) (nL p v2)/\(qs0 (nL p ((↑v2:Int)-(1:Int)).toNat) (nL p v2)).length<=(1000000:Nat)/\((0:Nat)<List.length [(Int.tmod (↑v2:Int) e==(0:Int),(qz0 m (qs0 (nL p ((↑v2:Int)-(1:Int)).toNat) (nL p v2))).1)]/\Nat.le ((qm0 m p e.toNat v2).length+List.length [(Int.tmod (↑v2:Int) e==(0:Int),(qz0 m (qs0 (nL p ((↑v2:Int)-(1:Int)).toNat) (nL p v2))).1)]) (1000000:Nat))/\fits .i64 ((↑v2:Int)+(1:Int))/\∃(v6:Nat),Nat.le v6 p.length/\p.length-v6<p.length-v2/\(True/\(↑v2:Int)+(1:Int)=(↑v6:Int)/\True)/\qm0 m p e.toNat v2++[(Int.tmod (↑v2:Int) e==(0:Int),(qz0 m (qs0 (nL p ((↑v2:Int)-(1:Int)).toNat) (nL p v2))).1)]=qm0 m p e.toNat v6/\True)/\((!Int.tmod (↑v2:Int) e==(0:Int))=false->((0:Nat)<List.length [(Int.tmod (↑v2:Int) e==(0:Int),nL p v2)]/\Nat.le ((qm0 m p e.toNat v2).length+List.length [(Int.tmod (↑v2:Int) e==(0:Int),nL p v2)]) (1000000:Nat))/\fits .i64 ((↑v2:Int)+(1:Int))/\∃(v6:Nat),Nat.le v6 p.length/\p.length-v6<p.length-v2/\(True/\(↑v2:Int)+(1:Int)=(↑v6:Int)/\True)/\qm0 m p e.toNat v2++[(Int.tmod (↑v2:Int) e==(0:Int),nL p v2)]=qm0 m p e.toNat v6/\True))/\(decide ((↑v2:Int)<(↑p.length:Int))=false->qm0 m p e.toNat v2=qm0 m p e.toNat p.length)) ?_
 have hv:=Vp.of h.ok
 have p60:=hv.hi
 have lo:=h.lo
 have hi:=h.hi
 refine⟨(),0,zaf _,⟨rfl,rfl⟩,λk hk=>⟨λhlt=>?_,λhge=>?_⟩⟩
 ·have hl:=hv.len k hlt
  have p10:=hv.msk.pix10
  have el:=q14 m p e.toNat k
  have hsn:qm0 m p e.toNat (k+1)=qm0 m p e.toNat k++[xy1 m p e.toNat k]:=by simp[qm0,List.range_succ]
  have htm:(k:Int).tmod e=((k % e.toNat:Nat):Int):=by
   grind
  rw[htm]
  refine⟨hlt,ow,ow,λh0=>?_,λh0=>?_⟩
  ·have hk0:k≠0:=λe0=>h0 (by simp_all)
   have e1:((k:Int)-1).toNat=k-1:=ow
   have hc:=hv.chg (i:=k-1) (j:=k) ow hlt
   have hcl:(qs0 (nL p (k-1)) (nL p k)).length=(nL p k).length:=qw1 _ _ _
   rw[e1]
   refine⟨qa7,⟨ow,ow⟩,hc,ow,ow,qa7,k+1,hlt,ow,ow,?_⟩
   rw[hsn,xy1,zaj (λq=>h0 ow)]
   grind
  ·refine⟨ow,qa7,k+1,hlt,ow,ow,?_⟩
   have h1:k % e.toNat=0:=ow
   simp_all [xy1,if_pos]
 grind
def encR (m p:List (List Int)) (e:Int):List Frm × Int:=if vpB m p=false then([],1) else if inB e 1 60 then(qm0 m p e.toNat p.length,0) else([],7)
abbrev yz6:qa8:=qd9 false none [qg1,qg1,qc0] [.list q05,qc0] (λ_=>True) (λx=>((encR x.1 x.2.1 x.2.2.1).1,(encR x.1 x.2.1 x.2.2.1).2,()))
theorem w8z:Meets Tryz.prog 33 yz6:=by
 refine mt0 (SpecsOk.cons q7x (SpecsOk.cons qu7 (SpecsOk.cons w0d (SpecsOk.nil _)))) Tryz.func33 ?_
 rintro⟨m,p,e,⟨⟩⟩ -
 revert m p e
 intro(m:List (List Int)) (p:List (List Int)) (e:Int)
 refine vcs (let Q0:=encR m p e; True/\((!vpB m p)=true->Q0.1=[]/\(1:Int)=Q0.2/\True)/\((!vpB m p)=false->True/\((!inB e (1:Int) (60:Int))=true->Q0.1=[]/\(7:Int)=Q0.2/\True)/\((!inB e (1:Int) (60:Int))=false->w0c m p e/\qm0 m p e.toNat p.length=Q0.1/\(0:Int)=Q0.2/\True))) ?_
 refine⟨λh=>by simp[encR,h],λh=>⟨λhe=>by grind [encR],λhe=>⟨⟨h,(qh1.1 he).1,(qh1.1 he).2⟩,by grind [encR]⟩⟩⟩
theorem xl9 (m:List (List Int)) (x:List Int):(qz0 m x).2=q7i m x:=by
 grind [qz0]
theorem w0e {m:List (List Int)} {x:List Int} (h:q7i m x=0):(qz0 m x).1=qc8 m x:=by simp[qz0,h]
def q0s (m:List (List Int)) (s:List Int):List (List Int):=qj5 (qp5 m s)
def wo7 (v:List Int):Nat->Bool
 | 0=>true
 | k+1=>wo7 v k && (nI v k != 0)
def q9m (m:List (List Int)) (s:List Int):Bool:=decide (s.length≠0) && decide (s.length<=m.length+1)
def q9n (m:List (List Int)) (n:Nat) (s:List Int):List Int:=qg4 n s (nL (q0s m s) 0) s.length
def wo8 (m:List (List Int)) (n:Nat) (s:List Int):List Int:=if nI (q9n m n s) (nI s 0).toNat<0 then q9d (q9n m n s) (-1) else q9n m n s
def q45 (m:List (List Int)) (s:List Int):Bool:=q9m m s && decide ((q0s m s).length=1) && wo7 (nL (q0s m s) 0) s.length
def q6y (m:List (List Int)) (n:Nat) (L:List (List Int)):Nat->List (List Int)
 | 0=>[]
 | c+1=>if q45 m (nL L c) then q6y m n L c++[wo8 m n (nL L c)] else q6y m n L c
def q7j (m:List (List Int)):List (List Int) × Int:=if qb6 m=false then([],1) else(q6y m (nL m 0).length (q53 (nL m 0).length) (q53 (nL m 0).length).length,0)
def qw2 (m:List (List Int)):List Int × Int:=if(q7j m).2≠0 then([],(q7j m).2) else if(q7j m).1=[] then([],8) else(nL (q7j m).1 0,0)
def qs1 (m:List (List Int)):Int × Int:=if(qw2 m).2≠0 then(0,(qw2 m).2) else((nzTo (qw2 m).1 (qw2 m).1.length:Int),0)
def y47 (wr:List Nat) (specs:List (Nat × qa8)):Ctx:={ specs:=specs,tys:=tys,wr:=wr }
theorem y3k (wr:List Nat) {specs:List (Nat × qa8)} (h:SpecsOk Tryz.prog specs):Sound Tryz.prog (y47 wr specs):=SpecsOk.sound h q03 kr
def w2q (m:List (List Int)):Nat->Int
 | 0=>0
 | k+1=>IntKind.i64.wrap (w2q m k+IntKind.i64.wrap ((nL m k).length+1))
def x7y (l:List Int):Bool:=decide (7<l.length) && decide (l.length<=10)
def q06 (m:List (List Int)):Bool:=!(m.any x7y) && decide (w2q m m.length<=200)
theorem wo9 {m:List (List Int)} (hl:q06 m=true) (hM:Mk m):(nL m 0).length<=7:=by
 unfold q06 at hl
 rw[zax,zec,zbx] at hl
 have h1:=hl.1 (nL m 0) (q04 m 0 (by have:=hM.rows1; omega))
 have h2:=hM.pix10
 unfold x7y at h1
 rw[zax,za5,za5] at h1
 omega
abbrev Fit:=List Int × List (Int × Int)
def qg2 (m:List (List Int)) (y:List Int) (s:List (List Int)):List Fit:=s.filterMap λpix=>if(qg5 m y pix).2=true then some (qg5 m y pix).1 else none
def qi0 (m:List (List Int)) (y:List Int):Nat->List Fit
 | 0=>[]
 | k+1=>qi0 m y k++qg2 m y (qe9 (nL m 0).length k)
def fitsN (m:List (List Int)) (k:Int):Nat:=(min (min k (nL m 0).length) m.length+1).toNat
def qe0 (m:List (List Int)) (y:List Int) (k:Int):List Fit:=qi0 m y (fitsN m k)
structure q9o (m:List (List Int)) (y:List Int) (k:Int):Prop where
 k0:0<=k
 k1:k<=1000
 one:0<m.length
 rows:m.length<=1000
 pix:(nL m 0).length<=1000
 sets:∀j:Nat,j<fitsN m k->∀s∈qe9 (nL m 0).length j,q43 m s y/\s.length<=100000
abbrev yh4:q1e:=w2d [qc0,tQ] [qt5] (λx=>q9o x.2.1.1 x.2.1.2 x.1) (λx=>(qe0 x.2.1.1 x.2.1.2 x.1).map λf=>(f,()))
def yh5:List AObj:=[.dead,.dead,.dead,.dead,.dead,.dead,.dead,.dead,.dead]
def yh6 (m:List (List Int)) (y:List Int) (k:Int):Nat->Option Inv
 | 0=>some (Eng.Inv.mk Nat Nat [16] 11 (λ_ s=>[(16,.lit (.int .i64 s))]) (λl s=>.cnt (some (qi0 m y s).length) :: .box 187 (.cons (.lit (.func (.yield l) #[] #[])) .nil) :: yh5) (λ_ s=>s<=fitsN m k) (λ_ s=>fitsN m k-s))
 | 1=>some (Eng.Inv.mk (Nat × Nat) Nat [] 11 (λ_ _=>[]) (λq c=>.cnt (some ((qi0 m y q.2).length+(qg2 m y ((qe9 (nL m 0).length q.2).take c)).length)) :: .box 187 (.cons (.lit (.func (.yield q.1) #[] #[])) .nil) :: yh5) (λq c=>c<=(qe9 (nL m 0).length q.2).length) (λ_ c=>c))
 | _=>none
theorem wi5 (m:List (List Int)) (y:List Int) (a:Nat):∀j,∃t,qi0 m y (a+j)=qi0 m y a++t
 | 0=>⟨[],by simp⟩
 | j+1=>by
  obtain⟨t,ht⟩:=wi5 m y a j
  grind [qg2,qe9,nL,Nat.add_assoc,qi0,List.append_assoc]
theorem q15 (m:List (List Int)) (y:List Int) {s:List (List Int)} {c:Nat} {p:List Int} (h:s[c]? = some p):qg2 m y (s.take (c+1))=qg2 m y (s.take c)++if(qg5 m y p).2=true then[(qg5 m y p).1] else[]:=by
 rw[zeb,h]
 unfold qg2
 grind
theorem w80 (m:List (List Int)) (y:List Int) {s:List (List Int)} {c:Nat} {p:List Int} (h:s[c]? = some p) (hf:(qg5 m y p).2=true):∃t,qg2 m y s=qg2 m y (s.take c)++(qg5 m y p).1 :: t:=by
 have e:s=s.take (c+1)++s.drop (c+1):=(zet _ _).symm
 have h1:qg2 m y s=qg2 m y (s.take (c+1))++qg2 m y (s.drop (c+1)):=by
  grind [qg2,List.take_append_drop]
 rw[h1,q15 m y h,zam hf]
 simp
theorem wi6:q02 Tryz.prog 162 yh4:=by
 refine says (yo3 (SpecsOk.cons w8q (SpecsOk.cons xl0 (SpecsOk.cons wh8 (SpecsOk.nil _)))) (ItsOk.cons wh7 ItsOk.nil)) Tryz.func162 rfl rfl rfl [32] (λx=>yh6 x.2.1.1 x.2.1.2 x.1) (λ_=>by kernel_rfl) dc ?_
 rintro⟨k,q,⟨⟩⟩ l h
 revert k q
 intro(k:Int) (q:List (List Int) × List Int) (h:q9o q.1 q.2 k)
 refine vcs (let Q0:=qe0 q.1 q.2 k; let Q1:=(k,q,PUnit.unit); let Q2:=fitsN q.1 k; let Q3:=Int × Int; (0:Nat)<q.1.length/\fits .i64 (max2 false (max2 false k (↑(nL q.1 (0:Nat)).length:Int)) (↑q.1.length:Int)+(1:Int))/\∃(v0:Nat),∃(v1:Nat),Nat.le v1 Q2/\(((0:Int)=(↑v1:Int)/\True)/\some (0:Nat)=some (qi0 q.1 q.2 v1).length/\(Value.func (Fn.yield l) #[] #[]=Value.func (Fn.yield v0) #[] #[]/\True)/\True/\True/\True/\True/\True/\True/\True/\True/\True/\True)/\∀(v2:Nat),Nat.le v2 Q2->(decide ((↑v2:Int)<max2 false (max2 false k (↑(nL q.1 (0:Nat)).length:Int)) (↑q.1.length:Int)+(1:Int))=true->(0:Nat)<q.1.length/\True/\(((0:Ty.den qc0)<=(↑v2:Int)/\(↑v2:Int)<=(1000:Ty.den qc0))/\(0:Ty.den qc0)<=(↑(nL q.1 (0:Nat)).length:Int)/\(↑(nL q.1 (0:Nat)).length:Int)<=(1000:Ty.den qc0))/\∃(v5:Nat × Nat),∃(v6:Nat),Nat.le v6 (qe9 (↑(nL q.1 (0:Nat)).length:Int) (↑v5.2:Int)).length/\v6=(0:Nat)/\(some (qi0 q.1 q.2 v2).length=some ((qi0 q.1 q.2 v5.2).length+(qg2 q.1 q.2 (List.take v6 (qe9 (↑(nL q.1 (0:Nat)).length:Int) (↑v5.2:Int)))).length)/\(Value.func (Fn.yield v0) #[] #[]=Value.func (Fn.yield v5.1) #[] #[]/\True)/\True/\True/\True/\True/\True/\True/\True/\True/\True/\True)/\∀(v7:Nat),Nat.le v7 (qe9 (↑(nL q.1 (0:Nat)).length:Int) (↑v5.2:Int)).length->(∀(v9:List Int × qa3._f [] PUnit.unit),(List.map (λ(v11:List Int)=>(v11,())) (qe9 (↑(nL q.1 (0:Nat)).length:Int) (↑v2:Int)))[v7]?=some v9->∀(v11:q67),(q43 q.1 (nL [v9.1] (0:Nat)) q.2/\(nL [v9.1] (0:Nat)).length<=(100000:Nat))/\[v9.1]=[v9.1]/\v11=v11/\True/\((qg5 q.1 q.2 (nL [v9.1] (0:Nat))).2=true->Value.func (Fn.yield v5.1) #[] #[]=Value.func (Fn.yield (qh5.l (q1a [qc0,tQ] [qt5] [(32:Nat)] Q1 (List.map (λ(v13:List Int × List Q3)=>(v13,())) Q0) l))) #[] #[]/\(qh5.L (q1a [qc0,tQ] [qt5] [(32:Nat)] Q1 (List.map (λ(v13:List Int × List Q3)=>(v13,())) Q0) l))[(qi0 q.1 q.2 v5.2).length+(qg2 q.1 q.2 (List.take v7 (qe9 (↑(nL q.1 (0:Nat)).length:Int) (↑v5.2:Int)))).length]?=some (((qg5 q.1 q.2 (nL [v9.1] (0:Nat))).1.1,(qg5 q.1 q.2 (nL [v9.1] (0:Nat))).1.2),())/\(∃(v13:Nat),Nat.le v13 (qe9 (↑(nL q.1 (0:Nat)).length:Int) (↑v5.2:Int)).length/\v13=v7+(1:Nat)/\some ((qi0 q.1 q.2 v5.2).length+(qg2 q.1 q.2 (List.take v7 (qe9 (↑(nL q.1 (0:Nat)).length:Int) (↑v5.2:Int)))).length+(1:Nat))=some ((qi0 q.1 q.2 v5.2).length+(qg2 q.1 q.2 (List.take v13 (qe9 (↑(nL q.1 (0:Nat)).length:Int) (↑v5.2:Int)))).length)/\(Value.func (Fn.yield v5.1) #[] #[]=Value.func (Fn.yield v5.1) #[] #[]/\True)/\True/\True/\True/\True/\True/\True/\True/\True/\True/\True)/\True)/\((qg5 q.1 q.2 (nL [v9.1] (0:Nat))).2=false->∃(v13:Nat),Nat.le v13 (qe9 (↑(nL q.1 (0:Nat)).length:Int) (↑v5.2:Int)).length/\v13=v7+(1:Nat)/\some ((qi0 q.1 q.2 v5.2).length+(qg2 q.1 q.2 (List.take v7 (qe9 (↑(nL q.1 (0:Nat)).length:Int) (↑v5.2:Int)))).length)=some ((qi0 q.1 q.2 v5.2).length+(qg2 q.1 q.2 (List.take v13 (qe9 (↑(nL q.1 (0:Nat)).length:Int) (↑v5.2:Int)))).length)/\(Value.func (Fn.yield v5.1) #[] #[]=Value.func (Fn.yield v5.1) #[] #[]/\True)/\True/\True/\True/\True/\True/\True/\True/\True/\True/\True))/\(v7=(List.map (λ(v10:List Int)=>(v10,())) (qe9 (↑(nL q.1 (0:Nat)).length:Int) (↑v2:Int))).length->fits .i64 ((↑v2:Int)+(1:Int))/\∃(v10:Nat),Nat.le v10 Q2/\fitsN q.1 k-v10<fitsN q.1 k-v2/\((↑v2:Int)+(1:Int)=(↑v10:Int)/\True)/\some ((qi0 q.1 q.2 v5.2).length+(qg2 q.1 q.2 (List.take v7 (qe9 (↑(nL q.1 (0:Nat)).length:Int) (↑v5.2:Int)))).length)=some (qi0 q.1 q.2 v10).length/\(Value.func (Fn.yield v5.1) #[] #[]=Value.func (Fn.yield v0) #[] #[]/\True)/\True/\True/\True/\True/\True/\True/\True/\True/\True/\True))/\(decide ((↑v2:Int)<max2 false (max2 false k (↑(nL q.1 (0:Nat)).length:Int)) (↑q.1.length:Int)+(1:Int))=false->(qi0 q.1 q.2 v2).length=(qh5.L (q1a [qc0,tQ] [qt5] [(32:Nat)] Q1 (List.map (λ(v5:List Int × List Q3)=>(v5,())) Q0) l)).length)) ?_
 have hk0:=h.k0
 have hk1:=h.k1
 have hone:=h.one
 have hrows:=h.rows
 have hpix:=h.pix
 have hN:(fitsN q.1 k:Int)=min (min k (nL q.1 0).length) q.1.length+1:=by grind [fitsN]
 have hM:max2 false (max2 false k ((nL q.1 0).length:Int)) (q.1.length:Int)=min (min k (nL q.1 0).length) q.1.length:=rfl
 rw[hM]
 refine⟨hone,qa7,l,0,zaf _,⟨rfl,rfl,rfl⟩,λs hs=>⟨λhlt=>?_,λhge=>?_⟩⟩
 ·have hsN:s<fitsN q.1 k:=ow
  refine⟨hone,ow,(l,s),0,zaf _,rfl,⟨by rfl,rfl⟩,λc hc=>⟨?_,λhfin=>?_⟩⟩
  ·rintro⟨p,⟨⟩⟩ hp -
   have hp2:(qe9 (nL q.1 0).length s)[c]? = some p:=by
    grind
   have hcl:=(zag.1 hp2).1
   dsimp only
   refine⟨h.sets s hsN p (zah hp2),λhf=>⟨rfl,?_,c+1,hcl,rfl,?_⟩,λhf=>⟨c+1,hcl,rfl,?_⟩⟩
   ·show((qe0 q.1 q.2 k).map λf=>((f,()):qa3 [qt5]))[(qi0 q.1 q.2 s).length+(qg2 q.1 q.2 ((qe9 (nL q.1 0).length s).take c)).length]? = some ((qg5 q.1 q.2 p).1,())
    obtain⟨t,ht⟩:=wi5 q.1 q.2 (s+1) (fitsN q.1 k-(s+1))
    rw[show s+1+(fitsN q.1 k-(s+1))=fitsN q.1 k by omega,qi0] at ht
    obtain⟨t2,ht2⟩:=w80 q.1 q.2 hp2 hf
    rw[zbm]
    simp_all [qe0,List.append_assoc,List.getElem?_append_right,Nat.add_sub_cancel_left,Nat.le_refl,Nat.sub_self]
   ·rw[q15 q.1 q.2 hp2,zam hf,zaw]
    rfl
   simp_all [q15,if_neg,List.append_nil]
  ·rw[za4] at hfin
   refine⟨qa7,s+1,hsN,ow,ow,?_,rfl⟩
   grind [List.take_length,qi0,List.length_append]
 ·have e:s=fitsN q.1 k:=ow
  show(qi0 q.1 q.2 s).length=((qe0 q.1 q.2 k).map λf=>((f,()):qa3 [qt5])).length
  rw[za4,e]
  rfl
def w0f:(ts:List Ty)->qa3 ts->AV
 | [],_=>.nil
 | t :: r,x=>.cons (.imm (qi8 t x.1 .nil) 0) (w0f r x.2)
theorem q60:∀(ts:List Ty) (c:AV),Det (qq6 ts c)
 | [],c=>by cases c <;> first | exact qa4 | exact qa6 ()
 | t :: r,c=>by
  cases c <;> first | exact qa4 | skip
  rename_i a rest
  cases a <;> first | exact qa4 | skip
  rename_i cs off
  cases off with
  | succ n=>exact qa4
  | zero=>
   refine λk H=>(qj4 (f:=λx z k=>match z with
    | .nil=>qq6 r rest λy=>k (x,y)
    | _=>False) λx z=>?_) k H
   split
   ·exact qd4 (q60 r rest) λy=>qa6 (x,y)
   ·exact qa4
theorem q9p {P:Program} {m:View}:∀{ts:List Ty} {c:AV} {k:qa3 ts->Prop} {cs:List Value},qq6 ts c k->c.ok P m [] cs->∃x,k x/\(w0f ts x).ok P m [] cs
 | [],c,k,cs,h,hc=>by
  simp only[qq6] at h
  split at h
  ·exact⟨(),h,hc⟩
  grind
 | t :: r,c,k,cs,h,hc=>by
  simp only[qq6] at h
  split at h
  case h_2=>grind
  rename_i a rest
  obtain⟨u,us,rfl,h1,h2⟩:=hc
  split at h
  case h_2=>grind
  rename_i cells off
  split at h
  case h_2=>grind
  obtain⟨ad,vs,e1,e2,e3⟩:=h1
  obtain⟨x,z,u1,v1,e4,e5,e6,e7⟩:=qv2 h e2
  split at e7
  case h_2=>grind
  obtain rfl:v1=[]:=e6
  rw[zb8] at e4
  subst e4
  obtain⟨y,k1,k2⟩:=q9p e7 h2
  refine⟨(x,y),k1,u,us,rfl,⟨ad,vs,e1,?_,e3⟩,k2⟩
  have:=qv1 (P:=P) (ρ:=[]) (r:=.nil) (v:=[]) e5 rfl
  grind
def q9q (F:Nat) (ts:List Ty) (v:AV) (k:qa3 ts->Prop):Prop:=match v with
 | .clo G caps=>match Nat.beq G F with
  | true=>qq6 ts caps k
  | false=>False
 | _=>False
theorem w2r (F:Nat) (ts:List Ty) (v:AV):Det (q9q F ts v):=by
 unfold q9q
 split
 ·split
  all_goals grind [q60,qa4]
 ·exact qa4
theorem w81 {P:Program} {m:View} {F:Nat} {ts:List Ty} {v:AV} {k:qa3 ts->Prop} {u:Value} (h:q9q F ts v k) (hv:v.ok P m [] [u]):∃x,k x/\(AV.clo F (w0f ts x)).ok P m [] [u]:=by
 unfold q9q at h
 split at h
 case h_2=>grind
 split at h
 case h_2=>grind
 rename_i hb
 obtain rfl:=zab hb
 obtain⟨cs,e,hc⟩:=hv
 obtain⟨x,k1,k2⟩:=q9p h hc
 exact⟨x,k1,cs,e,k2⟩
def takeC (F:Nat) (ts:List Ty) (c:AV) (k:qa3 ts->Prop):Prop:=match c with
 | .cons v z=>match z with
  | .nil=>q9q F ts v k
  | _=>False
 | _=>False
def x7z (F:Nat) (ts:List Ty):ArgK:=⟨qa3 ts,takeC F ts,λx i=>match i with
 | 0=>.clo F (w0f ts x)
 | _+1=>.any,1,λc=>by
  unfold takeC
  split
  ·split
   ·exact w2r _ _ _
   ·exact qa4
  ·exact qa4⟩
theorem w5j {P:Program} (F:Nat) (ts:List Ty):(x7z F ts).Ok P:=⟨λ{m c k vs} h hc=>by
 have h:takeC F ts c k:=h
 unfold takeC at h
 split at h
 case h_2=>grind
 split at h
 case h_2=>grind
 obtain⟨u,us,rfl,h1,h2⟩:=hc
 obtain rfl:us=[]:=h2
 obtain⟨x,k1,k2⟩:=w81 h h1
 refine⟨x,k1,rfl,λi=>?_⟩
 cases i with
 | zero=>exact k2
 | succ i=>exact⟨_,rfl⟩⟩
def w5k (F:Nat) (ts:List Ty) (c:AV) (k:qa3 ts->Prop):Prop:=match c with
 | .cons v r=>match v with
  | .lit u=>match isNil u with
   | true=>takeC F ts r k
   | false=>False
  | _=>False
 | _=>False
theorem x1x {u:Value} (h:isNil u=true):u=.slice none 0 0:=by
 unfold isNil at h
 grind
def x49 (F:Nat) (ts:List Ty):ArgK:=⟨qa3 ts,w5k F ts,λx i=>match i with
 | 0=>.lit (.slice none 0 0)
 | 1=>.clo F (w0f ts x)
 | _+2=>.any,2,λc=>by
  unfold w5k
  split
  ·split
   ·split
    ·exact(x7z F ts).one _
    ·exact qa4
   ·exact qa4
  ·exact qa4⟩
theorem xm0 {P:Program} (F:Nat) (ts:List Ty):(x49 F ts).Ok P:=⟨λ{m c k vs} h hc=>by
 have h:w5k F ts c k:=h
 unfold w5k at h
 split at h
 case h_2=>grind
 split at h
 case h_2=>grind
 split at h
 case h_2=>grind
 rename_i hn
 obtain⟨u,us,rfl,h1,h2⟩:=hc
 obtain⟨x,k1,k2,k3⟩:=(w5j (P:=P) F ts).ok h h2
 refine⟨x,k1,by simp[k2]; rfl,λi=>?_⟩
 match i with
 | 0=>
  rw[x1x hn] at h1
  exact h1
 | 1=>exact k3 0
 | i+2=>exact⟨_,rfl⟩⟩
abbrev yh7:qa8:=ww6 false none [tQ,qc0] (λ_=>True) (λx=>.clo 162 (.cons (.imm (.cons (.lit (.int .i64 x.2.1)) .nil) 0) (.cons (.imm (.cons (.dat (.list (.int .i64)) x.1.1) (.cons (.dat (.int .i64) x.1.2) .nil)) 0) .nil)))
theorem q9r:Meets Tryz.prog 119 yh7:=by
 refine q6s (snd (SpecsOk.nil _)) Tryz.func119 rfl rfl (λ_ _=>none) (λ_=>by kernel_rfl) dc ?_
 rintro⟨q,k,⟨⟩⟩ -
 revert q k
 intro(q:List (List Int) × List Int) (k:Int)
 refine vcr (((k=k/\True)/\(0:Nat)=(0:Nat))/\((q.1=q.1/\q.2=q.2/\True)/\(0:Nat)=(0:Nat))/\True) ?_
 simp
structure qk5 (m:List (List Int)) (y:List Int) (k:Int):Prop where
 pre:q9o m y k
 len:(qe0 m y k).length<=1000000
abbrev y48:qa8:=q7d (x49 162 [qc0,tQ]) false (some 55) none (λx=>qk5 x.2.1.1 x.2.1.2 x.1) (λx=>.dat qt5 (qe0 x.2.1.1 x.2.1.2 x.1))
def yz7 (L:List Fit):Nat->Option Inv
 | 0=>some (Inv.of [] 2 (λ_=>[]) (λc:Nat=>[.box 104 (.cons (.own 1) .nil),.vec 55 qt5 (L.take c)]) (λc=>c<=L.length) (λc=>c))
 | _=>none
theorem xm1:Meets Tryz.prog 266 y48:=by
 refine q6r (yo3 (SpecsOk.nil _) (ItsOk.cons wi6 ItsOk.nil)) Tryz.func266 rfl rfl (xm0 _ _) (λx=>yz7 (qe0 x.2.1.1 x.2.1.2 x.1)) (λ_=>by kernel_rfl) dc ?_
 rintro⟨k,q,⟨⟩⟩ h
 revert k q
 intro(k:Int) (q:List (List Int) × List Int) (h:qk5 q.1 q.2 k)
 refine vcs (let Q0:=qe0 q.1 q.2 k; q9o q.1 q.2 k/\∃(v0:Unit),∃(v1:Nat),Nat.le v1 Q0.length/\v1=(0:Nat)/\((True/\True)/\List.take v1 Q0=[]/\True)/\∀(v2:Nat),Nat.le v2 Q0.length->(∀(v4:(List Int × List (Int × Int)) × qa3._f [] PUnit.unit),(List.map (λ(v6:List Int × List (Int × Int))=>(v6,())) Q0)[v2]?=some v4->((0:Nat)<List.length [(v4.1.1,v4.1.2)]/\Nat.le ((List.take v2 Q0).length+List.length [(v4.1.1,v4.1.2)]) (1000000:Nat))/\∃(v6:Nat),Nat.le v6 Q0.length/\v6=v2+(1:Nat)/\(True/\True)/\List.take v2 Q0++[(v4.1.1,v4.1.2)]=List.take v6 Q0/\True)/\(v2=(List.map (λ(v5:List Int × List (Int × Int))=>(v5,())) Q0).length->List.take v2 Q0=qe0 q.1 q.2 k)) ?_
 refine⟨h.pre,(),0,zaf _,rfl,rfl,λc hc=>⟨?_,λhfin=>?_⟩⟩
 ·rintro⟨f,⟨⟩⟩ hf
  rw[zbm] at hf
  obtain⟨f',h1,h2⟩:=zb5.1 hf
  obtain rfl:f'=f:=za1 Prod.fst h2
  have hlt:=(zag.1 h1).1
  have hl:=h.len
  refine⟨by grind,c+1,hlt,rfl,?_⟩
  grind [List.take_add_one]
 grind
abbrev y49:qa8:=q7d (x7z 162 [qc0,tQ]) false (some 55) none (λx=>qk5 x.2.1.1 x.2.1.2 x.1) (λx=>.dat qt5 (qe0 x.2.1.1 x.2.1.2 x.1))
theorem xm2:Meets Tryz.prog 216 y49:=by
 refine q6r (snd (SpecsOk.cons xm1 (SpecsOk.nil _))) Tryz.func216 rfl rfl (w5j _ _) (λ_ _=>none) (λ_=>by kernel_rfl) dc ?_
 rintro⟨k,q,⟨⟩⟩ h
 revert k q
 intro(k:Int) (q:List (List Int) × List Int) (h:qk5 q.1 q.2 k)
 refine vcr (qk5 q.1 q.2 k/\qe0 q.1 q.2 k=qe0 q.1 q.2 k) ?_
 grind
def qh3 (m:List (List Int)) (y:List Int) (k:Int):List Fit × Int:=if q1y m y k=0 then(qe0 m y k,0) else([],q1y m y k)
abbrev yh8:qa8:=qd9 false none [qg1,qf1,qc0] [w8s,qc0] (λx=>q1y x.1 x.2.1 x.2.2.1=0->qk5 x.1 x.2.1 x.2.2.1) (λx=>((qh3 x.1 x.2.1 x.2.2.1).1,(qh3 x.1 x.2.1 x.2.2.1).2,()))
theorem w2s:Meets Tryz.prog 165 yh8:=by
 refine mt0 (SpecsOk.cons wy7 (SpecsOk.cons q9r (SpecsOk.cons xm2 (SpecsOk.nil _)))) Tryz.func165 ?_
 rintro⟨m,y,k,⟨⟩⟩ h
 revert m y k
 intro(m:List (List Int)) (y:List Int) (k:Int) (h:q1y m y k=0->qk5 m y k)
 refine vcs (let Q0:=qh3 m y k; True/\((q1y m y k != (0:Int))=true->Q0.1=[]/\q1y m y k=Q0.2/\True)/\((q1y m y k != (0:Int))=false->True/\qk5 m y k/\qe0 m y k=Q0.1/\(0:Int)=Q0.2/\True)) ?_
 grind [qh3]
theorem xm3 (l:List Fit) (i:Nat) (h:i<l.length):nF l i=l[i]:=qo3 (t:=qt5) l i h
def shB (r:Int × Int):Bool:=r.2==1 && inB r.1 (0-1000000) 1000000
abbrev y5a:qa8:=qd9 true none [qx2] [.bool] (λ_=>True) (λx=>(shB x.1,()))
theorem xm4:Meets Tryz.prog 273 y5a:=by
 refine mt0 (SpecsOk.cons qu4 (SpecsOk.nil _)) Tryz.func273 ?_
 rintro⟨r,⟨⟩⟩ -
 revert r
 intro(r:Int × Int)
 refine vcs (((r.2==(1:Int))=true->True/\inB r.1 (-1000000:Int) (1000000:Int)=shB r)/\((r.2==(1:Int))=false->false=shB r)) ?_
 grind [shB]
def nQ (l:List (Int × Int)) (i:Nat):Int × Int:=qf0 qx2 l i
def whX (n:Nat) (f:Fit):Nat->List Int
 | 0=>List.replicate n 0
 | i+1=>(whX n f i).set (nI f.1 i).toNat (nQ f.2 i).1
def whB (f:Fit):Nat->Bool
 | 0=>true
 | i+1=>whB f i && shB (nQ f.2 i)
theorem q0t (n:Nat) (f:Fit):∀i,(whX n f i).length=n
 | 0=>by simp[whX]
 | i+1=>by rw[whX,zbd,q0t n f i]
def whL (n:Nat) (L:List Fit):List (List Int):=L.filterMap λf=>if whB f f.1.length=true then some (whX n f f.1.length) else none
def qk7 (m:List (List Int)) (y:List Int) (k:Int):List (List Int) × Int:=if q1y m y k=0 then(whL (nL m 0).length (qe0 m y k),0) else([],q1y m y k)
structure x70 (n:Nat) (f:Fit):Prop where
 len:f.2.length=f.1.length
 lenB:f.1.length<=1000
 at_:∀j,j<f.1.length->0<=nI f.1 j/\nI f.1 j<n
structure wp0 (m:List (List Int)) (y:List Int) (k:Int):Prop where
 pre:qk5 m y k
 each:∀f∈qe0 m y k,x70 (nL m 0).length f
theorem x1y (n:Nat) {L:List Fit} {c:Nat} {f:Fit} (h:L[c]? = some f):whL n (L.take (c+1))=whL n (L.take c)++if whB f f.1.length=true then[whX n f f.1.length] else[]:=by
 rw[zeb,h]
 unfold whL
 grind
open Go Go.Proofs Go.RowKit Eng Ls
abbrev y5b:qa8:=q7d (q1u [qg1,qf1,qc0]) true (some 24) (some 3) (λx=>q1y x.1 x.2.1 x.2.2.1=0->wp0 x.1 x.2.1 x.2.2.1) (λx=>.tup (.cons (.dat (.list (.int .i64)) (qk7 x.1 x.2.1 x.2.2.1).1) (.cons (.lit (.int .i64 (qk7 x.1 x.2.1 x.2.2.1).2)) .nil)))
def x5b (m:List (List Int)) (out:List (List Int)):List AObj:=[.box 23 (.cons (.dat (.list (.int .i64)) m) .nil),.box 121 (.cons (.clo 273 .nil) .nil),.box 22 (.cons (.msl 3 .none) .nil),.mat 24 3 (.int .i64) out .none .none]
def yz8 (m:List (List Int)) (L:List Fit):Nat->Option Inv
 | 0=>some (Inv.of [] 4 (λ_=>[]) (λc:Nat=>x5b m (whL (nL m 0).length (L.take c))) (λc=>c<=L.length) (λc=>c))
 | 1=>some (Eng.Inv.mk (Nat × Fit) Nat [12,13,37] 6 (λq i=>[(12,.own 5),(13,.lit (.bool (whB q.2 i))),(37,.lit (.int .i64 i))]) (λq i=>x5b m (whL (nL m 0).length (L.take q.1))++[.box 55 (.cons (.dat (.int .i64) q.2.1) (.cons (.dat qx2 q.2.2) .nil)),.vec 3 (.int .i64) (whX (nL m 0).length q.2 i)]) (λq i=>i<=q.2.1.length) (λq i=>q.2.1.length-i))
 | _=>none
theorem xm5:Meets Tryz.prog 235 y5b:=by
 refine q6r (x7u [65] [] (SpecsOk.cons wy7 (SpecsOk.cons q9r (SpecsOk.cons xm4 (SpecsOk.nil _)))) MutsOk.nil (ItsOk.cons wi6 ItsOk.nil)) Tryz.func235 rfl rfl (qm5 _) (λx=>yz8 x.1 (qe0 x.1 x.2.1 x.2.2.1)) (λ_=>by kernel_rfl) dc ?_
 rintro⟨m,y,k,⟨⟩⟩ h
 revert m y k
 intro(m:List (List Int)) (y:List Int) (k:Int) (h:q1y m y k=0->wp0 m y k)
 refine vcs (let Q0:=qe0 m y k; let Q1:=qk7 m y k; True/\((q1y m y k != (0:Int))=true->Q1.1=[]/\q1y m y k=Q1.2/\True)/\((q1y m y k != (0:Int))=false->True/\q9o m y k/\∃(v1:Unit),∃(v2:Nat),Nat.le v2 Q0.length/\v2=(0:Nat)/\((m=m/\True)/\(True/\True)/\(True/\True)/\whL (nL m (0:Nat)).length (List.take v2 Q0)=[]/\True)/\∀(v3:Nat),Nat.le v3 Q0.length->(∀(v5:(List Int × List (Int × Int)) × qa3._f [] PUnit.unit),(List.map (λ(v7:List Int × List (Int × Int))=>(v7,())) Q0)[v3]?=some v5->((0:Int)<=(0:Int)/\(0:Int)<(↑m.length:Int))/\((↑(nL m (0:Nat)).length:Int)=(↑(nL m (0:Nat)).length:Int)/\(0:Int)<=(↑(nL m (0:Nat)).length:Int)/\(↑(nL m (0:Nat)).length:Int)<=(1000000:Int))/\∃(v7:Nat × Fit),∃(v8:Nat),Nat.le v8 v7.2.1.length/\((True/\true=whB v7.2 v8/\(0:Int)=(↑v8:Int)/\True)/\(m=m/\True)/\(True/\True)/\(True/\True)/\(whL (nL m (0:Nat)).length (List.take v3 Q0)=whL (nL m (0:Nat)).length (List.take v7.1 Q0)/\True/\True)/\(v5.1.1=v7.2.1/\v5.1.2=v7.2.2/\True)/\List.replicate (↑(nL m (0:Nat)).length:Int).toNat (Ty.dflt (TI.ty T3))=whX (nL m (0:Nat)).length v7.2 v8/\True)/\∀(v9:Nat),Nat.le v9 v7.2.1.length->(decide ((↑v9:Int)<(↑v5.1.1.length:Int))=true->((0:Int)<=(↑v9:Int)/\(↑v9:Int)<(↑v5.1.1.length:Int))/\((0:Int)<=(↑v9:Int)/\(↑v9:Int)<(↑v7.2.2.length:Int))/\(whB v7.2 v9=true->((0:Int)<=(↑v9:Int)/\(↑v9:Int)<(↑v7.2.2.length:Int))/\True/\((0:Int)<=nI v5.1.1 v9/\nI v5.1.1 v9<(↑(whX (nL m (0:Nat)).length v7.2 v9).length:Int))/\(nI v5.1.1 v9).toNat<(whX (nL m (0:Nat)).length v7.2 v9).length/\fits .i64 ((↑v9:Int)+(1:Int))/\∃(v13:Nat),Nat.le v13 v7.2.1.length/\v7.2.1.length-v13<v7.2.1.length-v9/\(True/\shB ((qf0 qx2 v7.2.2 v9).1,(qf0 qx2 v7.2.2 v9).2)=whB v7.2 v13/\(↑v9:Int)+(1:Int)=(↑v13:Int)/\True)/\(m=m/\True)/\(True/\True)/\(True/\True)/\(whL (nL m (0:Nat)).length (List.take v7.1 Q0)=whL (nL m (0:Nat)).length (List.take v7.1 Q0)/\True/\True)/\(v7.2.1=v7.2.1/\v7.2.2=v7.2.2/\True)/\List.set (whX (nL m (0:Nat)).length v7.2 v9) (nI v5.1.1 v9).toNat (qf0 qx2 v7.2.2 v9).1=whX (nL m (0:Nat)).length v7.2 v13/\True)/\(whB v7.2 v9=false->((0:Int)<=nI v5.1.1 v9/\nI v5.1.1 v9<(↑(whX (nL m (0:Nat)).length v7.2 v9).length:Int))/\(nI v5.1.1 v9).toNat<(whX (nL m (0:Nat)).length v7.2 v9).length/\fits .i64 ((↑v9:Int)+(1:Int))/\∃(v13:Nat),Nat.le v13 v7.2.1.length/\v7.2.1.length-v13<v7.2.1.length-v9/\(True/\false=whB v7.2 v13/\(↑v9:Int)+(1:Int)=(↑v13:Int)/\True)/\(m=m/\True)/\(True/\True)/\(True/\True)/\(whL (nL m (0:Nat)).length (List.take v7.1 Q0)=whL (nL m (0:Nat)).length (List.take v7.1 Q0)/\True/\True)/\(v7.2.1=v7.2.1/\v7.2.2=v7.2.2/\True)/\List.set (whX (nL m (0:Nat)).length v7.2 v9) (nI v5.1.1 v9).toNat (qf0 qx2 v7.2.2 v9).1=whX (nL m (0:Nat)).length v7.2 v13/\True))/\(decide ((↑v9:Int)<(↑v5.1.1.length:Int))=false->(whB v7.2 v9=true->((0:Nat)<(0:Nat)+(1:Nat)/\(whL (nL m (0:Nat)).length (List.take v7.1 Q0)).length+((0:Nat)+(1:Nat))<=(1000000:Nat))/\∃(v13:Nat),Nat.le v13 Q0.length/\v13=v3+(1:Nat)/\(m=m/\True)/\(True/\True)/\(True/\True)/\(whL (nL m (0:Nat)).length (List.take v7.1 Q0)++[whX (nL m (0:Nat)).length v7.2 v9]=whL (nL m (0:Nat)).length (List.take v13 Q0)/\True/\True)/\True)/\(whB v7.2 v9=false->∃(v13:Nat),Nat.le v13 Q0.length/\v13=v3+(1:Nat)/\(m=m/\True)/\(True/\True)/\(True/\True)/\(whL (nL m (0:Nat)).length (List.take v7.1 Q0)=whL (nL m (0:Nat)).length (List.take v13 Q0)/\True/\True)/\True)))/\(v3=(List.map (λ(v6:List Int × List (Int × Int))=>(v6,())) Q0).length->whL (nL m (0:Nat)).length (List.take v3 Q0)=Q1.1/\(0:Int)=Q1.2/\True))) ?_
 refine⟨λhe=>by grind [qk7],λhe=>?_⟩
 have hw:=h he
 have hlen:=hw.pre.len
 have hea:=hw.each
 have hone:=hw.pre.pre.one
 have hpx:=hw.pre.pre.pix
 have hR:qk7 m y k=(whL (nL m 0).length (qe0 m y k),0):=by rw[qk7,zam he]
 refine⟨hw.pre.pre,(),0,zaf _,rfl,rfl,?_⟩
 rw[hR]
 generalize qe0 m y k=L at hlen hea ⊢
 rintro c hc
 refine⟨?_,λhfin=>?_⟩
 ·rintro⟨f,⟨⟩⟩ hf
  rw[zbm] at hf
  obtain⟨f',h1,h2⟩:=zb5.1 hf
  obtain rfl:f'=f:=za1 Prod.fst h2
  have hlt:=(zag.1 h1).1
  have hfi:=hea f' (zah h1)
  have hf1:=hfi.len
  have hf2:=hfi.lenB
  have hsn:=x1y (nL m 0).length h1
  have hwl:(whL (nL m 0).length (L.take c)).length<=c:=by
   have h3:=zed (λf:Fit=>if whB f f.1.length=true then some (whX (nL m 0).length f f.1.length) else none) (L.take c)
   grind [whL,nL,List.length_take]
  dsimp only
  refine⟨ow,ow,(c,f'),0,zaf _,⟨⟨rfl,rfl⟩,rfl,⟨rfl,rfl⟩,rfl⟩,λi hi=>⟨λhlt2=>?_,λhge=>?_⟩⟩
  ·have hat:=hfi.at_ i hlt2
   have hxl:=q0t (nL m 0).length f' i
   dsimp only at hi ⊢
   rw[hxl]
   refine⟨hlt2,ow,λhb=>⟨ow,hat,ow,qa7,i+1,hlt2,ow,⟨?_,ow⟩,rfl⟩,λhb=>⟨hat,ow,qa7,i+1,hlt2,ow,⟨?_,ow⟩,rfl⟩⟩
   ·rw[whB,hb,Bool.true_and]; rfl
   ·rw[whB,hb,Bool.false_and]
  grind
 grind
abbrev yz9:qa8:=qd9 true none [q05] [.bool] (λ_=>True) (λx=>(decide (x.1.2.length=0),()))
theorem w82:Meets Tryz.prog 234 yz9:=by
 refine mt0 (SpecsOk.nil _) Tryz.func234 ?_
 rintro⟨⟨b,l⟩,⟨⟩⟩ -
 revert b l
 intro(b:Bool) (l:List Int)
 refine vcr (((↑l.length:Int)==(0:Int))=decide (l.length=(0:Nat))) ?_
 grind
def qr1 (a b:List Int):Nat->List Int
 | 0=>a
 | k+1=>(qr1 a b k).set k (nI (qr1 a b k) k+nI b k)
def nextL (m:List (List Int)) (b:List Int) (f:Frm) (t:Int):List Int:=
 if f.2.length=0 then[] else if f.1=true then f.2 else if b=[] then[]
 else if(qk7 m f.2 t).2=0/\(qk7 m f.2 t).1.length=1 then(if q44 m (qr1 (nL (qk7 m f.2 t).1 0) b b.length) then qr1 (nL (qk7 m f.2 t).1 0) b b.length else[])
 else[]
structure w2t (m:List (List Int)) (b:List Int) (f:Frm) (t:Int):Prop where
 val:qb6 m=true
 before:b=[]\/q44 m b=true
 len:f.2.length<=100000
 wh:f.1=false->q1y m f.2 t=0->wp0 m f.2 t
theorem q46 (l:List Int) {p q:Nat} (h:q≠p) (x:Int):nI (l.set p x) q=nI l q:=by
 simp_all [nI,qf0,List.getD_eq_getElem?_getD,List.getElem?_set_ne,Ne.symm]
theorem q17 (a b:List Int):∀k,(qr1 a b k).length=a.length
 | 0=>rfl
 | k+1=>by rw[qr1,zbd,q17 a b k]
theorem q7y (a b:List Int):∀(k c:Nat),k<=c->nI (qr1 a b k) c=nI a c
 | 0,c,_=>rfl
 | k+1,c,h=>by rw[qr1,q46 _ ow,q7y a b k c ow]
theorem x1z {m:List (List Int)} {x:List Int} (h:q44 m x=true):x.length=(nL m 0).length/\∀j,j<x.length->qe5 1000 (nI x j):=by
 unfold q44 at h
 rw[zax,za5,zaq] at h
 refine⟨h.1,λj hj=>?_⟩
 have:=qh1.1 (h.2 (nI x j) (by grind [qf3,List.getElem_mem]))
 omega
theorem x5c (n:Nat) (f:Fit):∀i,whB f i=true->∀c,c<n->qe5 1000000 (nI (whX n f i) c)
 | 0,_,c,hc=>by
  simp_all [qf3,q0t,whX,List.getElem_replicate,qe5]
 | i+1,h,c,hc=>by
  rw[whB,zax] at h
  by_cases e:c=(nI f.1 i).toNat
  ·have h2:=h.2
   unfold shB at h2
   rw[zax] at h2
   have h3:=qh1.1 h2.2
   simp_all [whX,qf3,List.length_set,q0t,List.getElem_set_self,qe5]
  ·rw[whX,q46 _ e]
   exact x5c n f i h.1 c hc
theorem xm6 {m:List (List Int)} {y:List Int} {k:Int} {r:List Int} (h:r∈(qk7 m y k).1):r.length=(nL m 0).length/\∀c,c<r.length->qe5 1000000 (nI r c):=by
 unfold qk7 at h
 split at h
 ·unfold whL at h
  obtain⟨f,_,h2⟩:=zcs.1 h
  split at h2
  ·rename_i hb
   obtain rfl:=zaa h2
   exact⟨q0t _ _ _,λc hc=>x5c _ f _ hb c (by grind [q0t])⟩
  grind
 grind
theorem x13 {m:List (List Int)} {b:List Int} {l:List Int} {t:Int} (h0:¬l.length=0) (hb:b.isEmpty=false) (hw:(qk7 m l t).2=0/\(qk7 m l t).1.length=1) :
  nextL m b (false,l) t=if q44 m (qr1 (nL (qk7 m l t).1 0) b b.length) then qr1 (nL (qk7 m l t).1 0) b b.length else[]:=by
 simp_all [nextL,if_neg,if_pos]
abbrev y0a:qa8:=qd9 false none [qg1,.nlist qc0,q05,qc0] [.nlist qc0] (λx=>w2t x.1 x.2.1 x.2.2.1 x.2.2.2.1) (λx=>(nextL x.1 x.2.1 x.2.2.1 x.2.2.2.1,()))
def yh9 (m:List (List Int)) (b:List Int) (f:Frm) (t:Int):Nat->Option Inv
 | 0=>some (Inv.of [11,49] 2 (λk:Nat=>[(11,.msl 1 (some 0)),(49,.lit (.int .i64 k))]) (λk=>[.box 202 (.cons (.lit (.bool f.1)) (.cons (.dat (.int .i64) f.2) .nil)),.mat 24 3 (.int .i64) [qr1 (nL (qk7 m f.2 t).1 0) b k] .none .none]) (λk=>k<=b.length) (λk=>b.length-k))
 | _=>none
theorem w83:Meets Tryz.prog 179 y0a:=by
 refine meets (x7u [] [] (SpecsOk.cons w82 (SpecsOk.cons wz9 (SpecsOk.cons xm5 (SpecsOk.cons w0b (SpecsOk.nil _))))) MutsOk.nil ItsOk.nil) Tryz.func179 rfl rfl (λx=>yh9 x.1 x.2.1 x.2.2.1 x.2.2.2.1) (λ_=>by kernel_rfl) dc ?_
 rintro⟨m,b,⟨key,l⟩,t,⟨⟩⟩ h
 revert m b key l t
 intro(m:List (List Int)) (b:List Int) (key:Bool) (l:List Int) (t:Int) (h:w2t m b (key,l) t)
 refine vcs (let Q0:=qk7 m l t; let Q1:=qe1 Q0.1.length none; True/\(decide (l.length=(0:Nat))=true->nextL m b (key,l) t=[])/\(decide (l.length=(0:Nat))=false->(key=true->(0:Nat)<l.length/\l.length<=(100000:Nat)/\l=nextL m b (key,l) t)/\(key=false->(List.isEmpty b=true->nextL m b (key,l) t=[])/\(List.isEmpty b=false->(q1y m l t=(0:Int)->wp0 m l t)/\((Q0.2 != (0:Int))=true->nextL m b (key,l) t=[])/\((Q0.2 != (0:Int))=false->(((↑Q1:Int) != (1:Int))=true->nextL m b (key,l) t=[])/\(((↑Q1:Int) != (1:Int))=false->((0:Int)<=(0:Int)/\(0:Int)<(↑Q1:Int))/\(0:Nat)<qe1 Q0.1.length none/\∃(v5:Unit),∃(v6:Nat),Nat.le v6 b.length/\((some (0:Nat)=some (0:Nat)/\(0:Int)=(↑v6:Int)/\True)/\(key=key/\l=l/\True)/\(Q0.1=[qr1 (nL Q0.1 (0:Nat)) b v6]/\True/\True)/\True)/\∀(v7:Nat),Nat.le v7 b.length->(decide ((↑v7:Int)<(↑b.length:Int))=true->((0:Int)<=(↑v7:Int)/\(↑v7:Int)<(↑b.length:Int))/\((0:Int)<=(↑v7:Int)/\(↑v7:Int)<(↑(nL [qr1 (nL Q0.1 (0:Nat)) b v7] (0:Nat)).length:Int))/\v7<(nL [qr1 (nL Q0.1 (0:Nat)) b v7] (0:Nat)).length/\fits .i64 (nI (nL [qr1 (nL Q0.1 (0:Nat)) b v7] (0:Nat)) v7+qf0 qc0 b v7)/\((0:Int)<=(↑v7:Int)/\(↑v7:Int)<(↑(nL [qr1 (nL Q0.1 (0:Nat)) b v7] (0:Nat)).length:Int))/\v7<(nL [qr1 (nL Q0.1 (0:Nat)) b v7] (0:Nat)).length/\fits .i64 ((↑v7:Int)+(1:Int))/\∃(v10:Nat),Nat.le v10 b.length/\b.length-v10<b.length-v7/\(some (0:Nat)=some (0:Nat)/\(↑v7:Int)+(1:Int)=(↑v10:Int)/\True)/\(key=key/\l=l/\True)/\(List.set [qr1 (nL Q0.1 (0:Nat)) b v7] (0:Nat) (List.set (nL [qr1 (nL Q0.1 (0:Nat)) b v7] (0:Nat)) v7 (nI (nL [qr1 (nL Q0.1 (0:Nat)) b v7] (0:Nat)) v7+qf0 qc0 b v7))=[qr1 (nL Q0.1 (0:Nat)) b v10]/\True/\True)/\True)/\(decide ((↑v7:Int)<(↑b.length:Int))=false->qb6 m=true/\((!q44 m (nL [qr1 (nL Q0.1 (0:Nat)) b v7] (0:Nat)))=true->nextL m b (key,l) t=[])/\((!q44 m (nL [qr1 (nL Q0.1 (0:Nat)) b v7] (0:Nat)))=false->nL [qr1 (nL Q0.1 (0:Nat)) b v7] (0:Nat)=nextL m b (key,l) t/\Nat.le (1:Nat) (nL [qr1 (nL Q0.1 (0:Nat)) b v7] (0:Nat)).length)))))))) ?_
 refine⟨λh0=>zam h0,λh0=>⟨λhk=>⟨ow,h.len,?_⟩,λhk=>⟨λhb=>?_,λhb=>?_⟩⟩⟩
 ·simp_all [nextL,if_neg,if_pos]
 ·simp_all [nextL,if_neg,if_pos,List.isEmpty_iff]
 subst hk
 have hno:¬((qk7 m l t).2=0/\(qk7 m l t).1.length=1)->nextL m b (false,l) t=[]:=λhn=>by
  simp_all [nextL,if_neg]
 refine⟨h.wh rfl,λhe=>hno λq=>he q.1,λhe=>?_⟩
 simp only[qe1,qe8]
 refine⟨λhn=>hno λq=>hn ow,λhn=>⟨ow,ow,(),0,zaf _,⟨rfl,?_⟩,λk hk=>?_⟩⟩
 ·show _=[nL _ 0]
  obtain⟨r,hr⟩:=zdg.1 (show(qk7 m l t).1.length=1 by omega)
  rw[hr]; rfl
 have hpb:q44 m b=true:=by
  rcases h.before with e | e
  all_goals grind
 obtain⟨hbl,hbb⟩:=x1z hpb
 have hM:=Mk.of h.val
 have p1:=hM.pix1
 have p10:=hM.pix10
 obtain⟨hrl,hrb⟩:=xm6 (show nL (qk7 m l t).1 0∈(qk7 m l t).1 by grind [ql6,List.getElem_mem])
 simp only[q17]
 refine⟨λhlt=>?_,λhge=>?_⟩
 ·have h1:=hbb k hlt
  have h2:=hrb k ow
  rw[q7y _ _ k k (zac k)]
  unfold qe5 at h1 h2
  exact⟨hlt,ow,ow,qa7,ow,ow,qa7,k+1,hlt,ow,ow,by simp_all [qr1,q7y,Nat.le_refl]⟩
 ·obtain rfl:k=b.length:=ow
  have hn':=x13 (m:=m) h0 hb ⟨he,ow⟩
  exact⟨h.val,λhp=>by grind,λhp=>⟨by grind,ow⟩⟩
abbrev nFr (F:List Frm) (i:Nat):Frm:=qf0 (.prod .bool (.list (.int .i64))) F i
def qp6 (m:List (List Int)) (F:List Frm) (t:Int):Nat->List Int
 | 0=>[]
 | k+1=>nextL m (qp6 m F t k) (nFr F k) t
def xm7 (m:List (List Int)) (F:List Frm) (t:Int):Prop:=∀i,i<F.length->(nFr F i).1=false->q1y m (nFr F i).2 t=0->wp0 m (nFr F i).2 t
structure w0g (F:List Frm) (m:List (List Int)) (t:Int):Prop where
 val:qb6 m=true
 size:F.length<=1000000
 len:∀i,i<F.length->(nFr F i).2.length<=100000
 key:∀i,i<F.length->(nFr F i).1=true->q44 m (nFr F i).2=true
 wh:xm7 m F t
abbrev y5c (i:Nat) (l:List Int):qa3 [qc0,.nlist qc0]:=((i:Int),l,())
def xy2 (F:List Frm) (m:List (List Int)) (t:Int):List (qa3 [qc0,.nlist qc0]):=(List.range F.length).map λi=>y5c i (qp6 m F t (i+1))
abbrev y0b:q1e:=w2d [.list q05,qg1,qc0] [qc0,.nlist qc0] (λx=>w0g x.1 x.2.1 x.2.2.1) (λx=>xy2 x.1 x.2.1 x.2.2.1)
def y0c (F:List Frm) (m:List (List Int)) (t:Int):Nat->Option Inv
 | 0=>some (Inv.of [5,8,10] 1 (λk:Nat=>[(5,.ndat false (.int .i64) (qp6 m F t k)),(8,.dat (.prod .bool (.list (.int .i64))) F),(10,.lit (.int .i64 k))]) (λk=>[.cnt (some k)]) (λk=>k<=F.length) (λk=>F.length-k))
 | _=>none
theorem w5l {m:List (List Int)} {b:List Int} {f:Frm} {t:Int} (hk:f.1=true->q44 m f.2=true):nextL m b f t=[]\/q44 m (nextL m b f t)=true:=by
 unfold nextL
 grind
theorem w5m {F:List Frm} {m:List (List Int)} {t:Int} (h:w0g F m t):∀k,k<=F.length->qp6 m F t k=[]\/q44 m (qp6 m F t k)=true
 | 0,_=>.inl rfl
 | k+1,hk=>w5l (h.key k hk)
theorem w5n {m:List (List Int)} {x:List Int} (h:q44 m x=true):x.length=(nL m 0).length:=by
 simp_all [q44,Bool.and_eq_true,decide_eq_true_eq]
theorem xm8:q02 Tryz.prog 178 y0b:=by
 refine says (snd (SpecsOk.cons w83 (SpecsOk.cons w0a (SpecsOk.nil _)))) Tryz.func178 rfl rfl rfl [21] (λx=>y0c x.1 x.2.1 x.2.2.1) (λ_=>by kernel_rfl) dc ?_
 rintro⟨F,m,t,⟨⟩⟩ l h
 revert F m t
 intro(F:List Frm) (m:List (List Int)) (t:Int) (h:w0g F m t)
 refine vcs (let Q0:=(F,m,t,PUnit.unit); let Q1:=xy2 F m t; ∃(v0:Unit),∃(v1:Nat),Nat.le v1 F.length/\((qp6 m F t v1=[]/\F=F/\(0:Int)=(↑v1:Int)/\True)/\some (0:Nat)=some v1/\True)/\∀(v2:Nat),Nat.le v2 F.length->(decide ((↑v2:Int)<(↑F.length:Int))=true->((0:Int)<=(↑v2:Int)/\(↑v2:Int)<(↑F.length:Int))/\w2t m (qp6 m F t v2) ((qf0 (Ty.prod Ty.bool (Ty.list (Ty.int .i64))) F v2).1,(qf0 (Ty.prod Ty.bool (Ty.list (Ty.int .i64))) F v2).2) t/\(nextL m (qp6 m F t v2) ((qf0 (Ty.prod Ty.bool (Ty.list (Ty.int .i64))) F v2).1,(qf0 (Ty.prod Ty.bool (Ty.list (Ty.int .i64))) F v2).2) t).length<=(100000:Nat)/\(List.isEmpty (nextL m (qp6 m F t v2) ((qf0 (Ty.prod Ty.bool (Ty.list (Ty.int .i64))) F v2).1,(qf0 (Ty.prod Ty.bool (Ty.list (Ty.int .i64))) F v2).2) t)=true->Value.slice none (0:Nat) (0:Nat)=Value.slice none (0:Nat) (0:Nat)/\Value.func (Fn.yield l) #[] #[]=Value.func (Fn.yield (qh5.l (q1a [Ty.list q05,qg1,qc0] [qc0,Ty.nlist qc0] [(21:Nat)] Q0 Q1 l))) #[] #[]/\Value.slice none (0:Nat) (0:Nat)=Value.slice none (0:Nat) (0:Nat)/\(qh5.L (q1a [Ty.list q05,qg1,qc0] [qc0,Ty.nlist qc0] [(21:Nat)] Q0 Q1 l))[v2]?=some ((↑v2:Int),[],())/\(fits .i64 ((↑v2:Int)+(1:Int))/\∃(v6:Nat),Nat.le v6 F.length/\F.length-v6<F.length-v2/\(nextL m (qp6 m F t v2) ((qf0 (Ty.prod Ty.bool (Ty.list (Ty.int .i64))) F v2).1,(qf0 (Ty.prod Ty.bool (Ty.list (Ty.int .i64))) F v2).2) t=qp6 m F t v6/\F=F/\(↑v2:Int)+(1:Int)=(↑v6:Int)/\True)/\some (v2+(1:Nat))=some v6/\True)/\True)/\(List.isEmpty (nextL m (qp6 m F t v2) ((qf0 (Ty.prod Ty.bool (Ty.list (Ty.int .i64))) F v2).1,(qf0 (Ty.prod Ty.bool (Ty.list (Ty.int .i64))) F v2).2) t)=false->Value.func (Fn.yield l) #[] #[]=Value.func (Fn.yield (qh5.l (q1a [Ty.list q05,qg1,qc0] [qc0,Ty.nlist qc0] [(21:Nat)] Q0 Q1 l))) #[] #[]/\(0:Nat)<(nextL m (qp6 m F t v2) ((qf0 (Ty.prod Ty.bool (Ty.list (Ty.int .i64))) F v2).1,(qf0 (Ty.prod Ty.bool (Ty.list (Ty.int .i64))) F v2).2) t).length/\(qh5.L (q1a [Ty.list q05,qg1,qc0] [qc0,Ty.nlist qc0] [(21:Nat)] Q0 Q1 l))[v2]?=some ((↑v2:Int),nextL m (qp6 m F t v2) ((qf0 (Ty.prod Ty.bool (Ty.list (Ty.int .i64))) F v2).1,(qf0 (Ty.prod Ty.bool (Ty.list (Ty.int .i64))) F v2).2) t,())/\(fits .i64 ((↑v2:Int)+(1:Int))/\∃(v6:Nat),Nat.le v6 F.length/\F.length-v6<F.length-v2/\(nextL m (qp6 m F t v2) ((qf0 (Ty.prod Ty.bool (Ty.list (Ty.int .i64))) F v2).1,(qf0 (Ty.prod Ty.bool (Ty.list (Ty.int .i64))) F v2).2) t=qp6 m F t v6/\F=F/\(↑v2:Int)+(1:Int)=(↑v6:Int)/\True)/\some (v2+(1:Nat))=some v6/\True)/\True))/\(decide ((↑v2:Int)<(↑F.length:Int))=false->v2=(qh5.L (q1a [Ty.list q05,qg1,qc0] [qc0,Ty.nlist qc0] [(21:Nat)] Q0 Q1 l)).length)) ?_
 have hsz:=h.size
 have key:∀k,k<F.length->(xy2 F m t)[k]? = some ((k:Int),nextL m (qp6 m F t k) (nFr F k) t,()):=λk hk=>by
  unfold xy2
  rw[zbm,List.getElem?_range hk]
  rfl
 refine⟨(),0,zaf _,⟨⟨rfl,rfl⟩,rfl⟩,λk hk=>⟨λhlt=>?_,λhge=>?_⟩⟩
 ·have hn:nextL m (qp6 m F t k) (nFr F k) t=[]\/q44 m (nextL m (qp6 m F t k) (nFr F k) t)=true:=w5l (h.key k hlt)
  have hl:(nextL m (qp6 m F t k) (nFr F k) t).length<=100000:=by
   rcases hn with e | e
   ·grind
   ·have h1:=w5n e
    have h2:=(Mk.of h.val).pix10
    omega
  refine⟨hlt,⟨h.val,w5m h k hk,h.len k hlt,h.wh k hlt⟩,hl,λhe=>⟨rfl,?_,qa7,k+1,hlt,ow,⟨rfl,ow⟩,rfl⟩,λhe=>?_⟩
  ·have e:=List.isEmpty_iff.1 he
   have h1:=key k hlt
   rw[show nextL m (qp6 m F t k) (nFr F k) t=[] from e] at h1
   exact h1
  ·have hp:0<(nextL m (qp6 m F t k) (nFr F k) t).length:=by
    grind
   exact⟨rfl,hp,key k hlt,qa7,k+1,hlt,ow,⟨rfl,ow⟩,rfl⟩
 ·obtain rfl:k=F.length:=ow
  show _=(xy2 F m t).length
  simp[xy2]
abbrev y5d:qa8:=ww6 false none [qg1,.list q05,qc0] (λ_=>True) (λx=>.clo 178 (.cons (.imm (.cons (.dat (.prod .bool (.list (.int .i64))) x.2.1) .nil) 0) (.cons (.imm (.cons (.dat (.list (.int .i64)) x.1) .nil) 0) (.cons (.imm (.cons (.lit (.int .i64 x.2.2.1)) .nil) 0) .nil))))
theorem xm9:Meets Tryz.prog 129 y5d:=by
 refine q6s (snd (SpecsOk.nil _)) Tryz.func129 rfl rfl (λx _=>none) (λ_=>by kernel_rfl) dc ?_
 rintro⟨m,F,t,⟨⟩⟩ -
 revert m F t
 intro(m:List (List Int)) (F:List Frm) (t:Int)
 refine vcr (((F=F/\True)/\(0:Nat)=(0:Nat))/\((m=m/\True)/\(0:Nat)=(0:Nat))/\((t=t/\True)/\(0:Nat)=(0:Nat))/\True) ?_
 simp
structure xn0 (m p:List (List Int)) (e t:Int):Prop where
 enc:w0c m p e
 wh:xm7 m (qm0 m p e.toNat p.length) t
def xn1 (m p:List (List Int)) (e t:Int):Bool:=(List.range p.length).all λi=>decide (qp6 m (qm0 m p e.toNat p.length) t (i+1)=nL p i)
abbrev y5e:qa8:=qd9 true none [qg1,qg1,qc0,qc0] [.bool] (λx=>xn0 x.1 x.2.1 x.2.2.1 x.2.2.2.1) (λx=>(xn1 x.1 x.2.1 x.2.2.1 x.2.2.2.1,()))
structure x2a (m p:List (List Int)) (e t:Int) (c:Nat):Prop where
 le:c<=p.length
 all:∀i,i<c->qp6 m (qm0 m p e.toNat p.length) t (i+1)=nL p i
def y0d (m p:List (List Int)) (e t:Int):Nat->Option Inv
 | 0=>some (Inv.of [] 2 (λ_=>[]) (λc:Nat=>[.box 22 (.cons (.dat (.list (.int .i64)) p) .nil),.box 4 (.cons (.lit (.bool false)) .nil)]) (λc=>x2a m p e t c) (λc=>c))
 | _=>none
theorem xn2:Meets Tryz.prog 82 y5e:=by
 refine meets (yo3 (SpecsOk.cons w0d (SpecsOk.cons xm9 (SpecsOk.cons xk9 (SpecsOk.nil _)))) (ItsOk.cons xm8 ItsOk.nil)) Tryz.func82 rfl rfl (λx=>y0d x.1 x.2.1 x.2.2.1 x.2.2.2.1) (λ_=>by kernel_rfl) dc ?_
 rintro⟨m,p,e,t,⟨⟩⟩ h
 revert m p e t
 intro(m:List (List Int)) (p:List (List Int)) (e:Int) (t:Int) (h:xn0 m p e t)
 refine vcs (let Q0:=qm0 m p e.toNat p.length; w0c m p e/\True/\w0g Q0 m t/\∃(v0:Unit),∃(v1:Nat),x2a m p e t v1/\v1=(0:Nat)/\((p=p/\True)/\(false=false/\True)/\True)/\∀(v2:Nat),x2a m p e t v2->(∀(v4:Int × qa3._f [Ty.nlist qc0] ⟨qa3._f [] PUnit.unit,PUnit.unit⟩),(xy2 Q0 m t)[v2]?=some v4->(List.isEmpty v4.2.1=true->false=xn1 m p e t)/\(List.isEmpty v4.2.1=false->((0:Int)<=v4.1/\v4.1<(↑p.length:Int))/\v4.2.1.length<=(1000000:Nat)/\((!decide (v4.2.1=nL p v4.1.toNat))=true->false=xn1 m p e t)/\((!decide (v4.2.1=nL p v4.1.toNat))=false->∃(v8:Nat),x2a m p e t v8/\v8=v2+(1:Nat)/\(p=p/\True)/\(false=false/\True)/\True)))/\(v2=(xy2 Q0 m t).length->true=xn1 m p e t)) ?_
 have hv:=Vp.of h.enc.ok
 have p60:=hv.hi
 have p1:=hv.msk.pix1
 have p10:=hv.msk.pix10
 generalize hF:qm0 m p e.toNat p.length=F
 have hFl:F.length=p.length:=by grind [q14]
 have hat:∀i,i<p.length->nFr F i=xy1 m p e.toNat i:=λi hi=>by
  rw[<- hF]
  unfold nFr
  grind [qo3,q14,qm0]
 have hpic:∀i,i<p.length->q44 m (nL p i)=true:=λi hi=>by
  have h1:=h.enc.ok
  simp_all [vpB,Bool.and_eq_true,List.all_eq_true,ql6,List.getElem_mem]
 have hD:w0g F m t:=by
  refine⟨hv.val,ow,λi hi=>?_,λi hi hk=>?_,?_⟩
  ·rw[hat i ow]
   unfold xy1
   split
   ·have:=hv.len i ow; grind
   ·show(qz0 m _).1.length<=_
    unfold qz0
    split
    ·have:=hv.msk.rows6; grind [qc8,List.length_map,List.length_range]
    simp
  ·rw[hat i ow] at hk ⊢
   unfold xy1 at hk ⊢
   grind
  ·rw[<- hF]; exact h.wh
 have hrig:xn1 m p e t=(List.range p.length).all λi=>decide (qp6 m F t (i+1)=nL p i):=by unfold xn1; rw[hF]
 have hno:∀i,i<p.length->¬qp6 m F t (i+1)=nL p i->false=xn1 m p e t:=λi hi hne=>by
  grind
 refine⟨h.enc,hD,(),0,⟨zaf _,λi hi=>absurd hi ow⟩,rfl,λc hc=>⟨?_,λhfin=>?_⟩⟩
 ·rintro⟨i,x,⟨⟩⟩ hx
  unfold xy2 at hx
  rw[zbm] at hx
  obtain⟨j,hj,e1⟩:=zb5.1 hx
  have hcl:c<F.length:=by
   grind
  rw[List.getElem?_range hcl] at hj
  obtain rfl:=zaa hj
  obtain⟨rfl,rfl⟩:i=(c:Int)/\x=qp6 m F t (c+1):=⟨(za1 Prod.fst e1).symm,(za1 (λq=>q.2.1) e1).symm⟩
  dsimp only
  have hcp:c<p.length:=ow
  have hl:=hv.len c hcp
  refine⟨λhemp=>hno c hcp λq=>?_,λhemp=>⟨⟨ow,ow⟩,?_,λhne=>?_,λheq=>?_⟩⟩
  ·grind
  ·rcases w5m hD (c+1) hcl with q | q
   ·grind
   grind [w5n]
  ·exact hno c hcp hne
  ·refine⟨c+1,⟨hcp,λi hi=>?_⟩,rfl⟩
   rw[hF]
   by_cases q:i=c
   ·subst q; exact heq
   ·have:=hc.all i ow; grind
 ·have hfin:c=p.length:=by grind [xy2]
  rw[hrig]
  symm
  rw[zaq]
  intro i hi
  have hi:=za2.1 hi
  have:=hc.all i ow
  grind
def w0h (m p:List (List Int)) (e t:Int):Bool × Int:=if vpB m p=false then(false,1) else if inB e 1 60 && inB t 0 (nL m 0).length then(xn1 m p e t,0) else(false,7)
abbrev y5f:qa8:=qd9 true none [qg1,qg1,qc0,qc0] [.bool,qc0] (λx=>(w0h x.1 x.2.1 x.2.2.1 x.2.2.2.1).2=0->xm7 x.1 (qm0 x.1 x.2.1 x.2.2.1.toNat x.2.1.length) x.2.2.2.1) (λx=>((w0h x.1 x.2.1 x.2.2.1 x.2.2.2.1).1,(w0h x.1 x.2.1 x.2.2.1 x.2.2.2.1).2,()))
theorem w0i:Meets Tryz.prog 34 y5f:=by
 refine mt0 (SpecsOk.cons q7x (SpecsOk.cons qu7 (SpecsOk.cons xn2 (SpecsOk.nil _)))) Tryz.func34 ?_
 rintro⟨m,p,e,t,⟨⟩⟩ h
 revert m p e t
 intro(m:List (List Int)) (p:List (List Int)) (e:Int) (t:Int) (h:(w0h m p e t).2=0->xm7 m (qm0 m p e.toNat p.length) t)
 refine vcs (let Q0:=w0h m p e t; True/\((!vpB m p)=true->false=Q0.1/\(1:Int)=Q0.2/\True)/\((!vpB m p)=false->True/\((!inB e (1:Int) (60:Int))=true->false=Q0.1/\(7:Int)=Q0.2/\True)/\((!inB e (1:Int) (60:Int))=false->((0:Int)<=(0:Int)/\(0:Int)<(↑m.length:Int))/\True/\((!inB t (0:Int) (↑(nL m (0:Nat)).length:Int))=true->false=Q0.1/\(7:Int)=Q0.2/\True)/\((!inB t (0:Int) (↑(nL m (0:Nat)).length:Int))=false->xn0 m p e t/\xn1 m p e t=Q0.1/\(0:Int)=Q0.2/\True)))) ?_
 have h7:vpB m p=true->(inB e 1 60 && inB t 0 (nL m 0).length)=false->(w0h m p e t).1=false/\(w0h m p e t).2=7:=λhv hb=>by grind [w0h]
 refine⟨λhv=>by grind [w0h],λhv=>⟨λhe=>?_,λhe=>⟨by have:=(Vp.of hv).msk.rows1; omega,λht=>?_,λht=>?_⟩⟩⟩
 ·grind
 ·grind
 ·have hs:w0h m p e t=(xn1 m p e t,0):=by grind [w0h]
  rw[hs] at h ⊢
  exact⟨⟨⟨hv,(qh1.1 he).1,(qh1.1 he).2⟩,h rfl⟩,rfl,rfl⟩
open Go Go.RowKit Ls Eng
section
variable {P : Program} {Q : Exit -> Act -> World -> Prop}
end
def q07 (P:List Int) (n:Nat):Bool:=P.any λj=>j==(n:Int)
def q7k (n:Nat) (d:List (List Int)) (P:List Int):Nat->List (Int × Int)
 | 0=>List.replicate n (0,1)
 | i+1=>(q7k n d P i).set (nI P i).toNat (q51 (nI (nL d i) n) (nI (nL d i) (nI P i).toNat))
def svD (m:List (List Int)) (pix y:List Int):List (List Int):=(qu6 (qb8 m pix y)).1
def svP (m:List (List Int)) (pix y:List Int):List Int:=(qu6 (qb8 m pix y)).2
def svR (m:List (List Int)) (pix y:List Int):List (Int × Int) × Int × Bool:=if q07 (svP m pix y) pix.length=true then([],0,false) else(q7k pix.length (svD m pix y) (svP m pix y) (svP m pix y).length,(pix.length:Int)-(svP m pix y).length,true)
theorem q47 (n:Nat) (d:List (List Int)) (P:List Int):∀i,(q7k n d P i).length=n
 | 0=>by simp[q7k]
 | i+1=>by rw[q7k,zbd,q47 n d P i]
structure y5g (d:List (List Int)) (P:List Int) (n:Nat):Prop where
 cnt:d.length=P.length
 lenP:P.length<=1000
 each:∀k,k<d.length->(nL d k).length=n+1
 pv:∀k,k<P.length->0<=nI P k/\nI P k<=n
 nz:∀k,k<P.length->nI (nL d k) (nI P k).toNat≠0
 bigD:∀k,k<P.length->qe5 BIG (nI (nL d k) (nI P k).toNat)
 bigN:∀k,k<P.length->qe5 BIG (nI (nL d k) n)
structure y5h (m:List (List Int)) (pix y:List Int):Prop where
 one:0<m.length
 col:yy8 m pix
 pl:pix.length<=1000
 yl:y.length=m.length
 rd:yy9 (qb8 m pix y)
 ar:y5g (svD m pix y) (svP m pix y) pix.length
theorem q9s (m:List (List Int)) (pix y:List Int):(qb8 m pix y).length=m.length:=qr9 _ _ _
theorem qz1 (m:List (List Int)) (pix y:List Int) (k:Nat) (hk:k<m.length):nL (qb8 m pix y) k=nL (qp5 m pix) k++[nI y k]:=by
 grind [ql6,q9s,ql3,qb8,qb3]
open Go Go.RowKit Eng
def svT (m:List (List Int)) (pix y:List Int):List (Int × Int) × Int:=if(svR m pix y).2.2=false then([],8) else if 0<(svR m pix y).2.1 then([],11) else((svR m pix y).1,0)
def y0e (m:List (List Int)) (pix y:List Int):List (Int × Int) × Int:=if qq8 m y pix=0 then svT m pix y else([],qq8 m y pix)
structure yi0 (m:List (List Int)) (pix y:List Int):Prop where
 fit:x1h m
 len:pix.length<=100000
 ok:qq8 m y pix=0->y5h m pix y
def yi1 (l:List (Int × Int)):Bool:=l.any λr=>r.1==0
def y3l (s:List (Int × Int) × Int) (pix:List Int):Fit × Bool:=if s.2≠0\/yi1 s.1=true then(([],[]),false) else((pix,s.1),true)
def ya1 (m:List (List Int)) (y pix:List Int):Fit × Bool:=y3l (y0e m pix y) pix
theorem w5o {m:List (List Int)} {y:List Int} {pix:List Int} (h:wc5 m y=0):qq8 m y pix=w5b (nL m 0).length pix/\qb6 m=true:=by
 have hC:qq8 m y pix=if qb6 m=false then 1 else if ¬y.length=m.length then 9 else if wx9 y then 7 else w5c m pix:=rfl
 have hN:w5c m pix=if qb6 m=false then 1 else w5b (nL m 0).length pix:=rfl
 unfold wc5 at h
 split at h
 ·cases h
 ·rename_i hv
  unfold yx0 at h
  grind
theorem x71 {m:List (List Int)} {y:List Int} {pix:List Int} (h:wc5 m y≠0):qq8 m y pix=wc5 m y:=by
 have hC:qq8 m y pix=if qb6 m=false then 1 else if ¬y.length=m.length then 9 else if wx9 y then 7 else w5c m pix:=rfl
 unfold wc5 yx0 at *
 grind
def xn3 (m:List (List Int)) (y:List Int) (f:Fit):Bool:=decide (qq8 m y f.1=0) && (ya1 m y f.1).2 && x7s f (ya1 m y f.1).1
def q7z (m:List (List Int)) (y:List Int) (s:List (List Int)):List Fit:=s.filterMap λpix=>if(ya1 m y pix).2=true then some (ya1 m y pix).1 else none
def ya2 (m:List (List Int)) (y:List Int):List Fit:=q7z m y (q53 (nL m 0).length)
structure xn4 (m:List (List Int)) (y:List Int):Prop where
 one:0<m.length
 pix:(nL m 0).length<=7
 each:∀s∈q53 (nL m 0).length,yi0 m s y
theorem w0j (m:List (List Int)) (y:List Int) (s:List (List Int)):(q7z m y s).length<=s.length:=zed _ s
def xn5 (k:Int) (L:List Fit):List Fit:=L.filter λf=>decide ((f.1.length:Int)<=k)
theorem x2b {m:List (List Int)} {y:List Int} (h:xn4 m y):(ya2 m y).length<=128:=by
 have h1:=w0j m y (q53 (nL m 0).length)
 have h2:=(wy9 (n:=(nL m 0).length) (k:=128) h.pix (zac _)).1
 have e:q53 (nL m 0).length=qw0 (nL m 0).length 128:=rfl
 grind [ya2]
def sm:Nat->(Nat->Int)->Int
 | 0,_=>0
 | n+1,f=>sm n f+f n
theorem qd3 {n:Nat} {f g:Nat->Int} (h:∀i,i<n->f i=g i):sm n f=sm n g:=by
 induction n with
 | zero=>rfl
 | succ n ih=>grind [sm]
theorem qj9 {n:Nat} {f:Nat->Int} (h:∀i,i<n->f i=0):sm n f=0:=by
 induction n with
 | zero=>rfl
 | succ n ih=>grind [sm]
theorem q9t (n:Nat) (f g:Nat->Int):sm n (λi=>f i+g i)=sm n f+sm n g:=by
 induction n with
 | zero=>rfl
 | succ n ih=>grind [sm]
theorem xn6 (n:Nat) (f g:Nat->Int):sm n (λi=>f i-g i)=sm n f-sm n g:=by
 induction n with
 | zero=>rfl
 | succ n ih=>grind [sm]
theorem qj6 (n:Nat) (c:Int) (f:Nat->Int):sm n (λi=>c*f i)=c*sm n f:=by
 induction n with
 | zero=>simp[sm]
 | succ n ih=>grind [sm,Int.mul_add]
theorem qm8 {n k:Nat} {f:Nat->Int} (hk:k<n) (h:∀i,i<n->i≠k->f i=0):sm n f=f k:=by
 induction n with
 | zero=>omega
 | succ n ih=>
  rw[sm]
  by_cases e:k=n
  ·grind [qj9]
  grind
theorem q61 {n k l:Nat} {f:Nat->Int} (hk:k<n) (hl:l<n) (hkl:k≠l) (h:∀i,i<n->i≠k->i≠l->f i=0):sm n f=f k+f l:=by
 have e:sm n f=sm n (λi=>if i=k then f k else 0)+sm n (λi=>if i=l then f l else 0):=by
  rw[<- q9t]
  refine qd3 λi hi=>?_
  grind
 rw[e,qm8 hk λi _ hne=>zaj hne,qm8 hl λi _ hne=>zaj hne,zam rfl,zam rfl]
theorem xn7 {n:Nat} {f:Nat->Int} {B:Nat} (h:∀i,i<n->(f i).natAbs<=B):(sm n f).natAbs<=n*B:=by
 induction n with
 | zero=>simp[sm]
 | succ n ih=>
  grind [sm,Nat.succ_mul]
theorem xn8 (n k:Nat) (f:Nat->Nat->Int):sm n (λi=>sm k (λj=>f i j))=sm k (λj=>sm n (λi=>f i j)):=by
 induction n with
 | zero=>exact(qj9 λ_ _=>rfl).symm
 | succ n ih=>
  simp_all [sm,q9t]
theorem qu9 (n:Nat) (x y:Int) (f g r:Nat->Int):sm n (λb=>(x*f b-y*g b)*r b)=x*sm n (λb=>f b*r b)-y*sm n (λb=>g b*r b):=by
 simp_all [qj6,xn6,qd3,Int.sub_mul,Int.mul_assoc]
theorem q9u:∀(B A:Nat) (f:Nat->Nat),(∀i,i<A->f i<B)->B<A->∃i j,i<j/\j<A/\f i=f j
 | 0,A,f,h,hA=>absurd (h 0 hA) (zar _)
 | B+1,A,f,h,hA=>by
  by_cases hx:∃i,i<A/\f i=B
  ·obtain⟨i0,h0,h1⟩:=hx
   by_cases hy:∃j,j<A/\j≠i0/\f j=B
   ·obtain⟨j,k0,k1,k2⟩:=hy
    rcases Nat.lt_or_gt_of_ne k1 with q | q
    ·exact⟨j,i0,q,h0,ow⟩
    ·exact⟨i0,j,q,k0,ow⟩
   ·have hn:∀j,j<A->j≠i0->f j<B:=λj hj hne=>by
     grind
    obtain⟨i,j,q1,q2,q3⟩:=q9u B (A-1) (λi=>f (if i<i0 then i else i+1)) (λi hi=>hn _ (by grind) (by grind)) ow
    refine⟨if i<i0 then i else i+1,if j<i0 then j else j+1,?_,?_,q3⟩
    all_goals grind
  ·obtain⟨i,j,q1,q2,q3⟩:=q9u B A f (λi hi=>by
    grind) ow
   exact⟨i,j,q1,q2,q3⟩
def dig (b:Nat):Nat->Nat->Nat
 | 0,N=>N % b
 | a+1,N=>dig b a (N / b)
theorem x5d {b:Nat} (hb:0<b):∀a N,dig b a N<b
 | 0,N=>Nat.mod_lt _ hb
 | a+1,N=>x5d hb a (N / b)
theorem xn9 {b:Nat} (hb:0<b):∀(n N M:Nat),N<b ^ n->M<b ^ n->(∀a,a<n->dig b a N=dig b a M)->N=M
 | 0,N,M,h1,h2,_=>by grind
 | n+1,N,M,h1,h2,h=>by
  have h0:=h 0 ow
  have e:=xn9 hb n (N / b) (M / b) (zdp (by grind)) (zdp (by grind)) λa ha=>h (a+1) ow
  have h0:N % b=M % b:=h0
  grind [Nat.div_add_mod]
def q48 (B:Nat):List Nat->Nat
 | []=>0
 | x :: l=>x+B*q48 B l
theorem w5p {B:Nat}:∀(l:List Nat),(∀x∈l,x<B)->q48 B l<B ^ l.length
 | [],_=>by simp[q48]
 | x :: l,h=>by
  have h1:=w5p l λy hy=>h y (by grind)
  have h2:=h x (by simp)
  rw[q48,List.length_cons,zdm,zeu (B ^ l.length)]
  calc x+B*q48 B l<B+B*q48 B l:=ow
   _=B*(q48 B l+1):=by grind
   _<=B*B ^ l.length:=zbg (zac _) h1
theorem w0k {B:Nat} (hB:0<B):∀(l k:List Nat),l.length=k.length->(∀x∈l,x<B)->(∀x∈k,x<B)->q48 B l=q48 B k->l=k
 | [],[],_,_,_,_=>rfl
 | [],_ :: _,h,_,_,_=>by grind
 | _ :: _,[],h,_,_,_=>by grind
 | x :: l,y :: k,h,h1,h2,e=>by
  have hx:=h1 x (by simp)
  have hy:=h2 y (by simp)
  rw[q48,q48] at e
  have e1:x=y:=by
   have:=za1 (· % B) e
   grind [Nat.add_mul_mod_self_left,Nat.mod_eq_of_lt]
  subst e1
  have e2:q48 B l=q48 B k:=Nat.eq_of_mul_eq_mul_left hB ow
  rw[w0k hB l k (by grind) (λz hz=>h1 z (by grind)) (λz hz=>h2 z (by grind)) e2]
def smN:Nat->(Nat->Nat)->Nat
 | 0,_=>0
 | n+1,f=>smN n f+f n
theorem yi2 {n C:Nat} {f:Nat->Nat} (h:∀i,i<n->f i<=C):smN n f<=n*C:=by
 induction n with
 | zero=>simp[smN]
 | succ n ih=>
  grind [smN,Nat.succ_mul]
def lhsN (n C:Nat) (f:Nat->Int) (z:Nat->Nat):Nat:=smN n λa=>if 0<f a then z a else if f a<0 then C-z a else 0
theorem x72 {n C:Nat} {f:Nat->Int} (hf:∀a,a<n->(f a).natAbs<=1) {z y:Nat->Nat} (hz:∀a,a<n->z a<=C) (hy:∀a,a<n->y a<=C):(lhsN n C f z:Int)-(lhsN n C f y:Int)=sm n λa=>f a*((z a:Int)-(y a:Int)):=by
 unfold lhsN
 induction n with
 | zero=>rfl
 | succ n ih=>
  have h1:=ih (λa ha=>hf a ow) (λa ha=>hz a ow) (λa ha=>hy a ow)
  have h2:=hf n ow
  have h3:=hz n ow
  have h4:=hy n ow
  rw[smN,smN,sm,<- h1]
  rcases zcw (f n) 0 with q | q | q
  ·have e:f n=-1:=ow
   grind
  all_goals grind
theorem yi3 {n:Nat} (hn:0<n) (fs:List (Nat->Int)) (hlen:fs.length<n) (h1:∀f∈fs,∀a,a<n->(f a).natAbs<=1):∃z:Nat->Int,(∃a,a<n/\z a≠0)/\(∀a,a<n->(z a).natAbs<=n ^ (n-1))/\∀f∈fs,sm n (λa=>f a*z a)=0:=by
 obtain⟨C,hC⟩:∃C,C=n ^ (n-1):=⟨_,rfl⟩
 have hb:0<C+1:=ow
 let code:Nat->Nat:=λN=>q48 (n*C+1) (fs.map λf=>lhsN n C f λa=>dig (C+1) a N)
 have hdig:∀N a,dig (C+1) a N<=C:=λN a=>by have:=x5d hb a N; omega
 have hl:∀N,∀x∈fs.map (λf=>lhsN n C f λa=>dig (C+1) a N),x<n*C+1:=λN x hx=>by
  obtain⟨f,hf,rfl⟩:=zbf.1 hx
  have:=yi2 (n:=n) (C:=C) (f:=λa=>if 0<f a then dig (C+1) a N else if f a<0 then C-dig (C+1) a N else 0) λi _=>by
   grind
  exact Nat.lt_succ_of_le this
 obtain⟨N,M,hNM,hM,he⟩:=q9u ((n*C+1) ^ fs.length) ((C+1) ^ n) code (λN _=>by
  have:=w5p _ (hl N)
  grind) (by
  calc(n*C+1) ^ fs.length<=(n*C+1) ^ (n-1):=zey ow ow
   _<=(n*(C+1)) ^ (n-1):=Nat.pow_le_pow_left (by grind) _
   _=n ^ (n-1)*(C+1) ^ (n-1):=Nat.mul_pow _ _ _
   _=C*(C+1) ^ (n-1):=by grind
   _<(C+1)*(C+1) ^ (n-1):=Nat.mul_lt_mul_of_pos_right ow (Nat.pow_pos hb)
   _=(C+1) ^ n:=by rw[zeu,<- zdm,show(n-1).succ=n by omega])
 refine⟨λa=>(dig (C+1) a M:Int)-(dig (C+1) a N:Int),zae λhno=>?_,λa ha=>?_,λf hf=>?_⟩
 ·have:=xn9 hb n N M ow hM λa ha=>by
   grind
  omega
 ·grind
 ·have hll:=w0k (B:=n*C+1) ow _ _ (by simp) (hl N) (hl M) he
  have hfe:lhsN n C f (λa=>dig (C+1) a N)=lhsN n C f (λa=>dig (C+1) a M):=List.map_inj_left.1 hll f hf
  grind [x72]
structure El (n W:Nat) (R ρ:Nat->Nat->Int) (pv:Nat->Option Nat):Prop where
 comb:∀a,a<n->∃(c:Int) (l:Nat->Int),c≠0/\(∀j,j<W->c*ρ a j=sm n λb=>l b*R b j)/\(∀b,b<n->l b≠0->pv b≠none\/b=a)/\(pv a=none->l a≠0)
 ind:∀ν:Nat->Int,(∀b,b<n->ν b≠0->pv b≠none)->(∀t p,t<n->pv t=some p->(sm n λb=>ν b*R b p)=0)->∀b,b<n->ν b=0
 piv:∀t p,t<n->pv t=some p->p<W/\ρ t p≠0/\∀a,a<n->a≠t->ρ a p=0
theorem El.start {n W:Nat} {R ρ:Nat->Nat->Int} (h:∀a,a<n->∃c:Int,c≠0/\∀j,j<W->c*ρ a j=R a j):El n W R ρ (λ_=>none):=by
 refine⟨λa ha=>?_,fun ν h1 _ b hb=>?_,λt p _ h=>by cases h⟩
 ·obtain⟨c,hc,h1⟩:=h a ha
  refine⟨c,λb=>if b=a then 1 else 0,hc,λj hj=>?_,λb _ hb=>?_,λ_=>by simp⟩
  ·rw[h1 j hj,qm8 ha λi _ hne=>by grind]
   simp
  grind
 grind
theorem q08 {a b:Int} (ha:a≠0) (hb:b≠0):a*b≠0:=λh=>(zev.1 h).elim ha hb
theorem qd0 {a b:Int} (h:a*b=0) (ha:a≠0):b=0:=(zev.1 h).resolve_left ha
theorem El.step {n W:Nat} {R ρ ρ':Nat->Nat->Int} {pv:Nat->Option Nat} {t0 j:Nat} (h:El n W R ρ pv) (ht:t0<n) (hp:pv t0=none) (hj:j<W) (hx:ρ t0 j≠0)
  (hT:∃s:Int,s≠0/\∀c,c<W->ρ' t0 c=s*ρ t0 c) (hO:∀a,a<n->a≠t0->ρ' a j=0/\∃α β γ:Int,α≠0/\β≠0/\∀c,c<W->α*ρ' a c=β*ρ a c-γ*ρ' t0 c) :
  El n W R ρ' (λb=>if b=t0 then some j else pv b):=by
 obtain⟨s,hs,hsT⟩:=hT
 obtain⟨c0,l0,hc0,hl0,hs0,hn0⟩:=h.comb t0 ht
 have hn0:=hn0 hp
 have hpv:∀b,(if b=t0 then some j else pv b)≠none↔(pv b≠none\/b=t0):=λb=>by
  grind
 refine⟨λa ha=>?_,fun ν h1 h2=>?_,λt p htn htp=>?_⟩
 ·by_cases e:a=t0
  ·subst e
   refine⟨c0,λb=>s*l0 b,hc0,λc hc=>?_,λb hb hne=>(hs0 b hb λq=>hne (by grind)).imp (λq=>(hpv b).2 (.inl q)) id,λq=>absurd q (by simp)⟩
   have e1:(sm n λb=>s*l0 b*R b c)=s*sm n (λb=>l0 b*R b c):=by grind [qj6,qd3,Int.mul_assoc]
   grind
  ·obtain⟨hz,α,β,γ,hα,hβ,hrel⟩:=hO a ha e
   obtain⟨ca,la,hca,hla,hsa,hna⟩:=h.comb a ha
   refine⟨ca*c0*α,λb=>c0*β*la b-ca*γ*s*l0 b,q08 (q08 hca hc0) hα,λc hc=>?_,λb hb hne=>?_,λq=>?_⟩
   ·rw[qu9 n (c0*β) (ca*γ*s) la l0 (λb=>R b c),<- hla c hc,<- hl0 c hc]
    grind
   ·grind
   ·have hpa:pv a=none:=by
     grind
    have h0:l0 a=0:=zae λk=>by
     grind
    simp_all
 ·-- independent
  have hcol:∀p,(sm n λb=>ν b*R b p)=0->(sm n λb=>(l0 t0*ν b-ν t0*l0 b)*R b p)=- (ν t0*sm n λb=>l0 b*R b p):=λp hp=>by
   simp_all [qu9]
  have h2':∀t p,t<n->(if t=t0 then some j else pv t)=some p->(sm n λb=>ν b*R b p)=0:=h2
  have hz:=h.ind (λb=>l0 t0*ν b-ν t0*l0 b) (λb hb hne=>by
   grind) (λt p htn htp=>by
   have hne:t≠t0:=λe=>by grind
   have hR:=h2' t p htn (by grind)
   obtain⟨hpW,_,hpa⟩:=h.piv t p htn htp
   rw[hcol p hR,<- hl0 p hpW,hpa t0 ht (zds hne)]
   simp)
  have h0:ν t0=0:=by
   have hR:=h2' t0 j ht (zam rfl)
   have e1:=hcol j hR
   grind [sm,qj9,qd0,q08]
  grind [qd0]
 ·by_cases e:t=t0
  ·simp_all
  ·rw[zaj e] at htp
   obtain⟨hpW,hpt,hpa⟩:=h.piv t p htn htp
   have h0:ρ' t0 p=0:=by grind
   grind [q08,qd0]
def yi4 (W:Nat) (r0 r:Nat->Int):Prop:=(∃s:Int,(s=1\/s=-1)/\∀c,c<W->r c=s*r0 c)\/(∀c,c<W->r c=0)\/∀d:Nat,(∀c,c<W->d∣(r c).natAbs)->d=1
theorem w0l {W:Nat} {r s:Nat->Int} {α β:Int} (hα:α≠0) (h:∀c,c<W->α*r c=β*s c) (hp:∀d:Nat,(∀c,c<W->d∣(r c).natAbs)->d=1):∀c,c<W->(r c).natAbs<=(s c).natAbs:=by
 have hg:0<Nat.gcd α.natAbs β.natAbs:=Nat.gcd_pos_of_pos_left _ ow
 obtain⟨a',ha'⟩:=zb0 α.natAbs β.natAbs
 obtain⟨b',hb'⟩:=zb2 α.natAbs β.natAbs
 have hco:Nat.Coprime b' a':=by
  have:=zdv hg
  grind [Nat.gcd,Nat.mul_div_cancel_left]
 have habs:∀c,c<W->a' * (r c).natAbs=b' * (s c).natAbs:=λc hc=>by
  have h1:=za1 Int.natAbs (h c hc)
  grind [Int.natAbs_mul,Nat.gcd,Nat.mul_assoc,Nat.eq_of_mul_eq_mul_left]
 have hb1:b'=1:=hp b' λc hc=>hco.dvd_of_dvd_mul_left ⟨_,habs c hc⟩
 have ha1:0<a':=by
  grind
 intro c hc
 have h1:=habs c hc
 rw[hb1,zdw] at h1
 rw[<- h1]
 exact zeo _ ha1
theorem El.bound {n W:Nat} {R ρ:Nat->Nat->Int} {pv:Nat->Option Nat} (h:El n W R ρ pv) (hone:∀t p,t<n->pv t=some p->∀b,b<n->(R b p).natAbs<=1) {a:Nat} (ha:a<n) (hnice:yi4 W (R a) (ρ a)) {B:Nat} {c:Nat} (hc:c<W) (hB:∀b,b<n->(R b c).natAbs<=B):(ρ a c).natAbs<=n ^ n*B:=by
 have hn:0<n:=ow
 have hpw:1<=n ^ n:=Nat.pow_pos hn
 rcases hnice with⟨s,hs,hr⟩ | hr | hr
 ·rw[hr c hc,zbp]
  have h1:=hB a ha
  have h2:s.natAbs=1:=ow
  rw[h2,zdw]
  exact zal h1 (zeo _ hpw)
 ·rw[hr c hc]; simp
 -- few equations
 obtain⟨l,hl⟩:∃form:Nat->Nat->Int,∀b,form b=(match pv b with
  | some p=>λx=>R x p
  | none=>λx=>if x=b then 1 else 0):=⟨_,λ_=>rfl⟩
 obtain⟨z,⟨a0,ha0,hza⟩,hzb,hze⟩:=yi3 hn (((List.range n).erase a).map l) (by
  grind) (λf hf x hx=>by
  grind)
 have heq:∀b,b<n->b≠a->sm n (λx=>l b x*z x)=0:=λb hb hne=>hze (l b) (zbf.2 ⟨b,(List.mem_erase_of_ne hne).2 (za2.2 hb),rfl⟩)
 have hcol:∀t p,t<n->t≠a->pv t=some p->(sm n λb=>z b*R b p)=0:=λt p ht hne htp=>by
  grind
 have hnul:∀b,b<n->b≠a->pv b=none->z b=0:=λb hb hne hpb=>by
  grind [qm8]
 obtain⟨c1,la,hc1,hla,hsa,hna⟩:=h.comb a ha
 obtain⟨s,hs⟩:∃s:Nat->Int,s=λc=>sm n λb=>z b*R b c:=⟨_,rfl⟩
 have hpar:∃α β:Int,α≠0/\∀c,c<W->α*ρ a c=β*s c:=by
  cases hpa:pv a with
  | none=>
   have hz:=h.ind (λb=>z a*la b-la a*z b) (λb hb hne hpb=>by
    grind) (λt p ht htp=>by
    have hne:t≠a:=λe=>by grind
    obtain⟨hpW,_,hp0⟩:=h.piv t p ht htp
    rw[qu9 n (z a) (la a) la z (λb=>R b p),<- hla p hpW,hcol t p ht hne htp,hp0 a ha (zds hne)]
    simp)
   have hza0:z a≠0:=λq=>by
    grind [qd0]
   refine⟨z a*c1,la a,q08 hza0 hc1,λc hc=>?_⟩
   have e1:(sm n λb=>(z a*la b-la a*z b)*R b c)=0:=qj9 λb hb=>by grind
   rw[qu9 n (z a) (la a) la z (λb=>R b c),<- hla c hc] at e1
   grind
  | some p=>
   obtain⟨hpW,hpa0,hp0⟩:=h.piv a p ha hpa
   have hz:=h.ind (λb=>(c1*ρ a p)*z b-s p*la b) (λb hb hne hpb=>by
    grind) (λt q ht htq=>by
    obtain⟨hqW,_,hq0⟩:=h.piv t q ht htq
    rw[qu9 n (c1*ρ a p) (s p) z la (λb=>R b q),<- hla q hqW]
    by_cases e:t=a
    ·subst e
     rw[hpa] at htq
     obtain rfl:=zaa htq
     rw[hs]
     grind
    grind)
   have he:s p≠0:=λq=>by
    grind [qd0,q08]
   refine⟨s p*c1,c1*ρ a p,q08 he hc1,λc hc=>?_⟩
   have e1:(sm n λb=>((c1*ρ a p)*z b-s p*la b)*R b c)=0:=qj9 λb hb=>by grind
   rw[qu9 n (c1*ρ a p) (s p) z la (λb=>R b c),<- hla c hc] at e1
   grind
 obtain⟨α,β,hα,hab⟩:=hpar
 have h1:=w0l hα hab hr c hc
 have h2:(s c).natAbs<=n*(n ^ (n-1)*B):=by
  rw[hs]
  refine xn7 λb hb=>?_
  rw[zbp]
  exact zbg (hzb b hb) (hB b hb)
 have h3:n*(n ^ (n-1)*B)=n ^ n*B:=by
  rw[<- Nat.mul_assoc,zeu n,<- zdm,show(n-1).succ=n by omega]
 omega
def dt (W:Nat) (r:List Int) (z:Nat->Int):Int:=sm W λc=>nI r c*z c
theorem w5q {W:Nat} {r' r p:List Int} {z:Nat->Int} {α β γ:Int} (h:∀c,c<W->α*nI r' c=β*nI r c-γ*nI p c):α*dt W r' z=β*dt W r z-γ*dt W p z:=by
 unfold dt
 rw[<- qj6,<- qj6,<- qj6,<- xn6]
 grind [qd3,Int.mul_assoc,Int.sub_mul]
theorem qk0 (P:List Int) (x:Int) {q:Nat} (h:q<P.length):nI (P++[x]) q=nI P q:=by
 grind [qf3,List.length_append,List.getElem_append_left]
theorem qn5 (P:List Int) (x:Int):nI (P++[x]) P.length=x:=by
 simp_all [qf3,List.length_append,Nat.lt_succ_self,List.getElem_append_right,Nat.le_refl]
theorem q49 {a x:Int} (ha:0<a) (h:0<a*x):0<x:=Int.lt_of_mul_lt_mul_left (a:=a) ow ow
structure Elm (W j:Nat) (r' r p:List Int):Prop where
 zero:nI r' j=0
 rel:∃α β γ:Int,0<α/\0<β/\∀c,c<W->α*nI r' c=β*nI r c-γ*nI p c
 nice:∀f,yi4 W f (nI r)->yi4 W f (nI r')
structure St (n W:Nat) (R:Nat->Nat->Int) (j:Nat) (rows:List (List Int)) (P:List Int):Prop where
 len:rows.length=n
 each:∀i,i<n->(nL rows i).length=W
 tag:∃(ρ:Nat->Nat->Int) (pv:Nat->Option Nat) (τ:Nat->Nat),El n W R ρ pv/\(∀i,i<n->τ i<n)/\(∀i k,i<n->k<n->τ i=τ k->i=k)/\(∀a,a<n->∃i,i<n/\τ i=a)/\(∀i,i<n->∀c,c<W->ρ (τ i) c=nI (nL rows i) c)/\(∀q,q<n->pv (τ q)=if q<P.length then some (nI P q).toNat else none)/\∀i,i<n->yi4 W (R (τ i)) (nI (nL rows i))
 sol:∀z:Nat->Int,(∀a,a<n->(sm W λc=>R a c*z c)=0)↔∀i,i<n->dt W (nL rows i) z=0
 pl:P.length<=n
 zero:∀i,P.length<=i->i<n->∀c,c<j->nI (nL rows i) c=0
 pos:∀q,q<P.length->0<=nI P q/\nI P q<j/\0<nI (nL rows q) (nI P q).toNat/\(∀c,c<(nI P q).toNat->nI (nL rows q) c=0)/\∀i,i<n->i≠q->nI (nL rows i) (nI P q).toNat=0
 asc:∀q k,q<k->k<P.length->nI P q<nI P k
theorem St.skip {n W:Nat} {R:Nat->Nat->Int} {j:Nat} {rows:List (List Int)} {P:List Int} (h:St n W R j rows P) (hz:∀i,P.length<=i->i<n->nI (nL rows i) j=0):St n W R (j+1) rows P:=by
 refine⟨h.len,h.each,h.tag,h.sol,h.pl,λi h1 h2 c hc=>?_,λq hq=>?_,h.asc⟩
 ·rcases zau.1 hc with e | e
  ·exact h.zero i h1 h2 c e
  grind
 ·obtain⟨q1,q2,q3,q4,q5⟩:=h.pos q hq
  grind
theorem St.step {n W:Nat} {R:Nat->Nat->Int} {j:Nat} {rows rows':List (List Int)} {P:List Int} (h:St n W R j rows P) (hj:j<W) (hk:P.length<n) (hlen:rows'.length=n) (heach:∀i,i<n->(nL rows' i).length=W)
  (π:Nat->Nat) (hπ:∀i,i<n->π i<n) (hinj:∀i k,i<n->k<n->π i=π k->i=k) (hsur:∀i,i<n->∃k,k<n/\π k=i) (hfix:∀i,i<P.length->π i=i)
  (hx:∃s:Int,(s=1\/s=-1)/\∀c,c<W->nI (nL rows' P.length) c=s*nI (nL rows (π P.length)) c) (hpos:0<nI (nL rows' P.length) j)
  (ho:∀i,i<n->i≠P.length->Elm W j (nL rows' i) (nL rows (π i)) (nL rows' P.length)):St n W R (j+1) rows' (P++[(j:Int)]):=by
 obtain⟨s,hs,hsx⟩:=hx
 have hs0:s≠0:=by rcases hs with rfl | rfl <;> decide
 have hge:∀i,P.length<=i->i<n->P.length<=π i:=λi h1 h2=>by
  rcases zap (π i) P.length with e | e
  ·have:=hinj (π i) i (hπ i h2) h2 (hfix _ e)
   omega
  ·exact e
 have hnx:nI (nL rows (π P.length)) j≠0:=λe=>by
  have:=hsx j hj
  rw[e,zbk] at this
  omega
 have hpk:∀c,c<j->nI (nL rows' P.length) c=0:=λc hc=>by
  rw[hsx c ow,h.zero _ (hge _ (zac _) hk) (hπ _ hk) c hc,zbk]
 have hpz:∀q,q<P.length->nI (nL rows' P.length) (nI P q).toNat=0:=λq hq=>by
  have:=h.pos q hq
  exact hpk _ ow
 obtain⟨ρ,pv,τ,hE,t1,t2,t3,t4,t5,t6⟩:=h.tag
 have hsur2:∀a,∃i,a<n->i<n/\τ (π i)=a:=λa=>by
  by_cases ha:a<n
  ·obtain⟨i,hi,e⟩:=t3 a ha
   obtain⟨k,hk,e2⟩:=hsur i hi
   exact⟨k,λ_=>⟨hk,by rw[e2,e]⟩⟩
  ·exact⟨0,λq=>absurd q ha⟩
 obtain⟨σ,hσ⟩:=zbq hsur2
 have hστ:∀i,i<n->σ (τ (π i))=i:=λi hi=>by
  obtain⟨q1,q2⟩:=hσ (τ (π i)) (t1 _ (hπ i hi))
  exact hinj _ _ q1 hi (t2 _ _ (hπ _ q1) (hπ _ hi) q2)
 refine⟨hlen,heach,⟨λa c=>nI (nL rows' (σ a)) c,λb=>if b=τ (π P.length) then some j else pv b,λi=>τ (π i),?_,λi hi=>t1 _ (hπ i hi),λi k hi hk e=>hinj _ _ hi hk (t2 _ _ (hπ i hi) (hπ k hk) e),λa ha=>⟨σ a,hσ a ha⟩,λi hi c hc=>by dsimp only; rw[hστ i hi],λq hq=>?_,λi hi=>?_⟩,λz=>?_,by rw[zaw]; exact hk,λi h1 h2 c hc=>?_,λq hq=>?_,λq k h1 h2=>?_⟩
 ·refine hE.step (t1 _ (hπ _ hk)) ?_ hj ?_ ⟨s,hs0,λc hc=>?_⟩ λa ha hne=>?_
  ·rw[t5 _ (hπ _ hk),zaj (Nat.not_lt.2 (hge _ (zac _) hk))]
  ·rw[t4 _ (hπ _ hk) j hj]; exact hnx
  ·try dsimp only
   rw[hστ _ hk,hsx c hc,t4 _ (hπ _ hk) c hc]
  ·obtain⟨q1,q2⟩:=hσ a ha
   have hne2:σ a≠P.length:=λe=>hne (by rw[<- q2,e])
   have hel:=ho _ q1 hne2
   refine⟨hel.zero,?_⟩
   obtain⟨α,β,γ,hα,hβ,hr⟩:=hel.rel
   refine⟨α,β,γ,ow,ow,λc hc=>?_⟩
   try dsimp only
   rw[hστ _ hk,hr c hc]
   have:=t4 _ (hπ _ q1) c hc
   rw[q2] at this
   rw[this]
 ·dsimp only
  by_cases e:q=P.length
  ·subst e
   rw[zam rfl,zam (by rw[zaw]; exact zei _),qn5]
   rfl
  ·rw[zaj λq2=>e (hinj _ _ hq hk (t2 _ _ (hπ _ hq) (hπ _ hk) q2)),t5 _ (hπ _ hq),zaw]
   rcases zap q P.length with e2 | e2
   ·rw[hfix _ e2,zam e2,zam ow,qk0 _ _ e2]
   ·rw[zaj (Nat.not_lt.2 (hge _ e2 hq)),zaj (by simp; omega)]
 ·dsimp only
  by_cases e:i=P.length
  ·subst e
   rcases t6 _ (hπ _ hi) with⟨u,hu,hr⟩ | hr | hr
   ·refine .inl ⟨s*u,?_,λc hc=>by rw[hsx c hc,hr c hc,ze4]⟩
    rcases hs with rfl | rfl <;> rcases hu with rfl | rfl <;> simp
   ·exact .inr (.inl λc hc=>by rw[hsx c hc,hr c hc,zbk])
   ·refine .inr (.inr λd hd=>hr d λc hc=>?_)
    have:=hd c hc
    rw[hsx c hc,zbp] at this
    have h1:s.natAbs=1:=by rcases hs with rfl | rfl <;> rfl
    rwa [h1,zdw] at this
  ·exact(ho i hi e).nice _ (t6 _ (hπ _ hi))
 ·rw[h.sol z]
  have hdk:dt W (nL rows' P.length) z=s*dt W (nL rows (π P.length)) z:=by
   have:=w5q (W:=W) (r':=nL rows' P.length) (r:=nL rows (π P.length)) (p:=[]) (z:=z) (α:=1) (β:=s) (γ:=0) λc hc=>by rw[hsx c hc]; simp
   simpa using this
  constructor
  ·intro hz i hi
   have hzk:dt W (nL rows' P.length) z=0:=by rw[hdk,hz _ (hπ _ hk),zbk]
   by_cases e:i=P.length
   ·rw[e]; exact hzk
   ·obtain⟨α,β,γ,hα,hβ,hr⟩:=(ho i hi e).rel
    have:=w5q (z:=z) hr
    rw[hzk,hz _ (hπ _ hi),zbk,zbk] at this
    exact qd0 ow (show α≠0 by omega)
  ·intro hz i' hi'
   obtain⟨i,hi,rfl⟩:=hsur i' hi'
   by_cases e:i=P.length
   ·have:=hz _ hk
    rw[hdk] at this
    rw[e]
    exact qd0 this hs0
   ·obtain⟨α,β,γ,hα,hβ,hr⟩:=(ho i hi e).rel
    have:=w5q (z:=z) hr
    rw[hz _ hk,hz _ hi,zbk,zbk] at this
    exact qd0 (a:=β) ow ow
 ·rw[zaw] at h1
  have h1:P.length+1<=i:=h1
  have hel:=ho i h2 ow
  rcases zau.1 hc with e | e
  ·obtain⟨α,β,γ,hα,hβ,hr⟩:=hel.rel
   have:=hr c ow
   rw[hpk c e,h.zero _ (hge _ ow h2) (hπ _ h2) c e] at this
   exact qd0 (a:=α) (by simpa using this) ow
  ·rw[e]; exact hel.zero
 ·rw[zaw] at hq
  have hq:q<P.length+1:=hq
  rcases zau.1 hq with e | e
  ·rw[qk0 _ _ e]
   obtain⟨q1,q2,q3,q4,q5⟩:=h.pos q e
   have hel:=ho q ow ow
   obtain⟨α,β,γ,hα,hβ,hr⟩:=hel.rel
   refine⟨q1,ow,q49 hα ?_,λc hc=>?_,λi hi hne=>?_⟩
   ·rw[hr _ ow,hpz q e,hfix _ e,zbk,Int.sub_zero]
    exact zca hβ q3
   ·have:=hr c ow
    rw[hpk c ow,hfix _ e,q4 c hc] at this
    exact qd0 (a:=α) (by simpa using this) ow
   ·by_cases e3:i=P.length
    ·rw[e3]; exact hpz q e
    ·obtain⟨α,β,γ,hα,hβ,hr⟩:=(ho i hi e3).rel
     have:=hr (nI P q).toNat ow
     rw[hpz q e,q5 (π i) (hπ _ hi) λe4=>hne (hinj _ _ hi ow (by rw[e4,hfix _ e]))] at this
     exact qd0 (a:=α) (by simpa using this) ow
  ·subst e
   rw[qn5]
   refine⟨ow,ow,hpos,λc hc=>hpk c hc,λi hi hne=>(ho i hi hne).zero⟩
 ·rw[zaw] at h2
  have h2:k<P.length+1:=h2
  rcases zau.1 h2 with e | e
  ·rw[qk0 _ _ e,qk0 _ _ ow]; exact h.asc q k h1 e
  ·subst e
   rw[qn5,qk0 _ _ h1]
   have:=h.pos q h1
   omega
theorem St.bound {n W:Nat} {R:Nat->Nat->Int} {j:Nat} {rows:List (List Int)} {P:List Int} (h:St n W R j rows P) (hone:∀a c,a<n->c<j->(R a c).natAbs<=1) {i c B:Nat} (hi:i<n) (hc:c<W) (hB:∀b,b<n->(R b c).natAbs<=B):(nI (nL rows i) c).natAbs<=n ^ n*B:=by
 obtain⟨ρ,pv,τ,hE,t1,t2,t3,t4,t5,t6⟩:=h.tag
 rw[<- t4 i hi c hc]
 refine hE.bound (λt p ht hp b hb=>?_) (t1 i hi) ?_ hc hB
 ·obtain⟨q,hq,rfl⟩:=t3 t ht
  rw[t5 q hq] at hp
  split at hp
  ·rename_i hqP
   obtain rfl:=zaa hp
   have:=h.pos q hqP
   exact hone b _ hb ow
  ·cases hp
 ·rcases t6 i hi with⟨s,hs,hr⟩ | hr | hr
  ·exact .inl ⟨s,hs,λc hc=>by rw[t4 i hi c hc]; exact hr c hc⟩
  ·exact .inr (.inl λc hc=>by rw[t4 i hi c hc]; exact hr c hc)
  ·exact .inr (.inr λd hd=>hr d λc hc=>by rw[<- t4 i hi c hc]; exact hd c hc)
open Go Go.RowKit Eng
theorem wp1 (l:List Int) {c:Nat} (h:l.length<=c):nI l c=0:=by
 unfold nI qf0
 simp[List.getElem?_eq_none h]
 rfl
theorem xo0 {l:List Int} {f:Int->Int} {c:Nat} (h:c<l.length):nI (l.map f) c=f (nI l c):=by
 grind [qf3]
theorem q9v {l:List Int} {c:Nat} (h:c<l.length):nI l c∈l:=by grind [qf3,List.getElem_mem]
theorem q9w {l:List Int} {x:Int} (h:x∈l):∃c,c<l.length/\x=nI l c:=by
 obtain⟨c,hc,rfl⟩:=zbh.1 h
 exact⟨c,hc,(qf3 l c hc).symm⟩
theorem xo1 (a b:Int):(gcdI a b).natAbs=Nat.gcd a.natAbs b.natAbs:=rfl
theorem yi5:∀(l:List Int) (a:Int),(l.foldl gcdI a).natAbs∣a.natAbs/\(∀x∈l,(l.foldl gcdI a).natAbs∣x.natAbs)/\∀d:Nat,d∣a.natAbs->(∀x∈l,d∣x.natAbs)->d∣(l.foldl gcdI a).natAbs
 | [],a=>⟨ze5 _,λx hx=>(by grind),λd h _=>h⟩
 | y :: l,a=>by
  obtain⟨h1,h2,h3⟩:=yi5 l (gcdI a y)
  rw[List.foldl_cons]
  rw[xo1] at h1 h3
  refine⟨Nat.dvd_trans h1 (zb0 _ _),λx hx=>?_,λd ha hx=>h3 d (Nat.dvd_gcd ha (hx y (by simp))) λx hx'=>hx x (by grind)⟩
  rcases zas.1 hx with rfl | hx
  all_goals grind [Nat.dvd_trans,Nat.gcd_dvd_right]
theorem q9x:∀(l:List Int) (a:Int),0<=a->0<=l.foldl gcdI a
 | [],a,h=>h
 | y :: l,a,_=>q9x l _ (q80 _ _)
theorem q36 (l:List Int):0<=gcdL l:=q9x l 0 dc
theorem q62 (l:List Int):qe4 l=qt7 l:=by
 have h0:=q36 l
 unfold qe4 qt7
 split
 ·grind
 simp_all [max,gcdL]
theorem qz2 (l:List Int) {c:Nat} (hc:c<l.length):max (gcdL l) 1*nI (qt7 l) c=nI l c:=by
 have h0:=q36 l
 unfold qt7
 rw[xo0 hc]
 apply za9
 rcases zc7 0 (gcdL l) with h | h
 ·grind [max,gcdL,Int.natAbs_dvd_natAbs,yi5,q9v]
 ·rw[show max (gcdL l) 1=1 by omega]
  simp
def Prim (l:List Int):Prop:=(∀c,c<l.length->nI l c=0)\/∀d:Nat,(∀c,c<l.length->d∣(nI l c).natAbs)->d=1
theorem qp2 (l:List Int):Prim (qt7 l):=by
 have h0:=q36 l
 unfold Prim
 rw[qv9]
 rcases zc7 0 (gcdL l) with h | h
 ·refine .inr λd hd=>?_
  have hm:max (gcdL l) 1=gcdL l:=ow
  have h1:(gcdL l).natAbs*d∣(gcdL l).natAbs:=(yi5 l 0).2.2 _ (Nat.dvd_zero _) λx hx=>by
   obtain⟨c,hc,rfl⟩:=q9w hx
   grind [qz2,Int.natAbs_mul,Nat.mul_dvd_mul_left]
  have h2:(gcdL l).natAbs*d∣(gcdL l).natAbs*1:=by grind
  exact Nat.dvd_one.1 (Nat.dvd_of_mul_dvd_mul_left ow h2)
 ·refine .inl λc hc=>?_
  have h1:nI l c=0:=by
   have:=(yi5 l 0).2.1 _ (q9v hc)
   have e:(l.foldl gcdI 0).natAbs=0:=by
    grind [gcdL]
   simp_all
  have:=qz2 l hc
  grind
theorem Prim.nice {l:List Int} {W:Nat} (h:Prim l) (hl:l.length=W) (f:Nat->Int):yi4 W f (nI l):=by
 subst hl
 exact .inr (h.imp id id)
theorem x2c (l:List Int) (c:Nat):(nI (qt7 l) c).natAbs<=(nI l c).natAbs:=by
 rcases zap c l.length with h | h
 ·unfold qt7
  rw[xo0 h,zck]; exact zes _ _
 grind [wp1,qv9]
theorem x5e {W j:Nat} {u r p:List Int} {β γ:Int} (hj:j<W) (hu:u.length=W) (h0:nI u j=0) (hβ:0<β) (h:∀c,c<W->nI u c=β*nI r c-γ*nI p c):Elm W j (qt7 u) r p:=by
 subst hu
 have hG:0<max (gcdL u) 1:=ow
 refine⟨?_,⟨max (gcdL u) 1,β,γ,hG,hβ,λc hc=>by grind [qz2]⟩,λf _=>(qp2 u).nice (qv9 u) f⟩
 grind [qz2,qd0]
theorem x2d {W j:Nat} {r p:List Int} (h0:nI r j=0):Elm W j r r p:=⟨h0,⟨1,1,0,dc,dc,λc _=>by simp⟩,λ_ h=>h⟩
theorem xo2 (r b:List Int) (j:Nat) {c:Nat} (hc:c<r.length):nI (q6u r b j) c=x97 r b j c:=by
 grind [qf3,q2t,q6u]
theorem xo3 {W j:Nat} {r p:List Int} (hj:j<W) (hr:r.length=W) (hp:0<nI p j):Elm W j (qy7 r p j) r p:=by
 have hg:0<gcdI (nI r j) (nI p j):=qo1 (.inr ow)
 have e1:gcdI (nI r j) (nI p j)*q1 r p j=nI p j:=za9 (za8.1 (zb2 _ _))
 have e2:gcdI (nI r j) (nI p j)*q2 r p j=nI r j:=za9 (za8.1 (zb0 _ _))
 unfold qy7
 rw[q62]
 refine x5e (β:=q1 r p j) (γ:=q2 r p j) hj (by grind [q2t]) ?_ (q49 hg ow) λc hc=>?_
 all_goals grind [xo2,x97,nI,q1,q2,gcdI]
theorem w5r (r p:List Int) (j:Nat) {c:Nat} (hc:c<r.length):nI (w2n r p j) c=nI r c*nI p j-nI p c*nI r j:=by
 grind [qf3,w2n]
theorem xo4 (r p:List Int) (j:Nat):(w2n r p j).length=r.length:=by simp[w2n]
theorem q9y {W j:Nat} {r p:List Int} (hj:j<W) (hr:r.length=W) (hp:0<nI p j):Elm W j (qi2 r p j) r p:=by
 unfold qi2
 refine x5e (β:=nI p j) (γ:=nI r j) hj (by grind [xo4]) ?_ hp λc hc=>?_
 all_goals grind [w5r]
structure Mat (n W:Nat) (M:List (List Int)):Prop where
 len:M.length=n
 each:∀i,i<n->(nL M i).length=W
def rowOf (M:List (List Int)):Nat->Nat->Int:=λa c=>nI (nL M a) c
theorem w0m (r:List Int) (c:Nat):nI (x1i r) c=- nI r c:=by
 grind [Nat.lt_or_ge,qf3,wo1,x1i,wp1]
theorem xo5 (r:List (List Int)) (k i:Nat):nL (r.drop k) i=nL r (k+i):=by
 grind [nL,qf0]
theorem xo6 {r:List (List Int)} {k j:Nat} (h:qu5 r k j<0):∀i,k<=i->i<r.length->nI (nL r i) j=0:=λi h1 h2=>by
 unfold qu5 ixT at h
 split at h
 ·omega
 ·rename_i hn
  have:=zbx.1 (zdj.2 hn) (nL r i) (by
   have:=xo5 r k (i-k)
   grind [q04,List.length_drop])
  grind
theorem w5s {r:List (List Int)} {k j:Nat} (h:0<=qu5 r k j):nI (nL r (k+(qu5 r k j).toNat)) j≠0:=by
 unfold qu5 ixT at h ⊢
 split at h
 ·rename_i ha
  rw[zam ha]
  have h1:=List.findIdx_getElem (xs:=r.drop k) (p:=λr=>nI r j != 0) (w:=List.findIdx_lt_length.2 (by grind))
  grind [nI,List.findIdx_lt_length,ql6,xo5]
 omega
theorem St.zero_ {n W:Nat} {M:List (List Int)} (h:Mat n W M):St n W (rowOf M) 0 M []:=by
 refine⟨h.len,h.each,⟨rowOf M,λ_=>none,id,El.start λa _=>⟨1,dc,λj _=>ze0 _⟩,λi hi=>hi,λi k _ _ e=>e,λa ha=>⟨a,ha,rfl⟩,λi _ c _=>rfl,λq _=>by simp,λi _=>.inl ⟨1,.inl rfl,λc _=>(ze0 _).symm⟩⟩,λz=>zeq,zaf _,λi _ _ c hc=>absurd hc (zar _),λq hq=>absurd hq (zar _),λq k _ hk=>absurd hk (zar _)⟩
theorem wi7 {n W j:Nat} {R:Nat->Nat->Int} {s:List (List Int) × List Int} (hj:j<W) (h:St n W R j s.1 s.2):St n W R (j+1) (qx6 s j).1 (qx6 s j).2:=by
 obtain⟨r,P⟩:=s
 have h:St n W R j r P:=h
 unfold qx6
 split
 ·rename_i hn
  exact h.skip λi h1 h2=>xo6 hn i h1 (by rw[h.len]; omega)
 ·rename_i hn
  have hn:0<=qu5 r P.length j:=zbo.1 hn
  have hlen:=h.len
  have hpl:=h.pl
  have hb:=q2w r P.length j ow hn
  have hk:P.length<n:=ow
  have hne:=w5s hn
  show St n W R (j+1) (xx9 (qi7 r P.length j) P.length j) (P++[(j:Int)])
  obtain⟨b,hbd⟩:∃b,b=P.length+(qu5 r P.length j).toNat:=⟨_,rfl⟩
  rw[<- hbd] at hb hne
  have hsw:∀i,i<n->nL (q2v r P.length j) i=nL r (if i=P.length then b else if i=b then P.length else i):=λi hi=>by
   unfold q2v
   rw[<- hbd,q4y _ _ _ ow hb i ow]
   grind
  have hpr:∀i,i<n->i≠P.length->nL (qi7 r P.length j) i=nL (q2v r P.length j) i:=λi hi hne=>by
   simp_all [q40,if_neg]
  have hpk:∃s:Int,(s=1\/s=-1)/\(∀c,nI (nL (qi7 r P.length j) P.length) c=s*nI (nL r b) c)/\0<nI (nL (qi7 r P.length j) P.length) j:=by
   have e:=hsw P.length hk
   rw[zam rfl] at e
   rw[q40 _ _ _ _ ow,e]
   by_cases q:nI (nL r b) j<0
   ·rw[zam ⟨rfl,q⟩]
    refine⟨-1,.inr rfl,λc=>by grind [w0m],by grind [w0m]⟩
   ·rw[zaj λk=>q k.2]
    exact⟨1,.inl rfl,λc=>by omega,ow⟩
  obtain⟨s,hs,hsx,hpos⟩:=hpk
  have hcl:xx9 (qi7 r P.length j) P.length j=xx9 (qi7 r P.length j) P.length j:=rfl
  have hat:∀i,i<n->nL (xx9 (qi7 r P.length j) P.length j) i=ws5 (qi7 r P.length j) P.length j i:=λi hi=>xj7 _ _ _ _ (by grind [ql8])
  have heach:=q2x (r:=r) (k:=P.length) (j:=j) (W:=W) ow hn λi hi=>h.each i ow
  have hatk:nL (xx9 (qi7 r P.length j) P.length j) P.length=nL (qi7 r P.length j) P.length:=by
   rw[hat _ hk]; unfold ws5; simp
  refine h.step hj hk (by grind [wo3,ql8]) (λi hi=>?_) (λi=>if i=P.length then b else if i=b then P.length else i) (λi hi=>?_) (λi k hi hk2 e=>?_) (λi hi=>?_) (λi hi=>?_) ⟨s,hs,λc hc=>?_⟩ ?_ λi hi hne2=>?_
  ·grind [ws5,wh4]
  ·grind
  ·grind
  ·refine⟨if i=P.length then b else if i=b then P.length else i,?_,?_⟩
   all_goals grind
  ·grind
  ·grind
  ·grind
  ·rw[hatk,hat i hi]
   try dsimp only
   rw[<- hsw i hi,<- hpr i hi hne2]
   unfold ws5
   by_cases q:nI (nL (qi7 r P.length j) i) j=0
   ·simp_all [if_neg,x2d]
   ·rw[zam ⟨hne2,q⟩]
    grind [xo3]
theorem qs8 {n W:Nat} {M:List (List Int)} (h:Mat n W M):∀j,j<=W->St n W (rowOf M) j (qb5 M j).1 (qb5 M j).2
 | 0,_=>St.zero_ h
 | j+1,hj=>wi7 ow (qs8 h j ow)
structure Small (n C W:Nat) (M:List (List Int)):Prop extends Mat n W M where
 n6:n<=6
 cw:C<=W
 w:W<=1000
 one:∀a c,a<n->c<C->(nI (nL M a) c).natAbs<=1
 read:∀a c,a<n->c<W->(nI (nL M a) c).natAbs<=1000000
theorem y5i {n:Nat} (h:n<=6):n ^ n<=46656:=by
 have:∀k:Fin 7,k.val ^ k.val<=46656:=dc
 exact this ⟨n,ow⟩
theorem St.small {n C W j:Nat} {M rows:List (List Int)} {P:List Int} (hM:Small n C W M) (h:St n W (rowOf M) j rows P) (hj:j<=C) {i:Nat} (hi:i<n):(∀c,c<C->(nI (nL rows i) c).natAbs<=46656)/\∀c,c<W->(nI (nL rows i) c).natAbs<=46656000000:=by
 have h6:=y5i hM.n6
 have hcw:=hM.cw
 refine⟨λc hc=>?_,λc hc=>?_⟩
 ·have:=h.bound (λa c ha hc=>hM.one a c ha ow) hi (show c<W by omega) (B:=1) λb hb=>hM.one b c hb hc
  omega
 ·have:=h.bound (λa c ha hc=>hM.one a c ha ow) hi hc (B:=1000000) λb hb=>hM.read b c hb hc
  omega
theorem q18 {a b:Int} {A B:Nat} (ha:a.natAbs<=A) (hb:b.natAbs<=B):(a*b).natAbs<=A*B:=by
 simp_all [Int.natAbs_mul,Nat.mul_le_mul]
theorem q20 (a b:Int):(a.tdiv b).natAbs<=a.natAbs:=by rw[zck]; exact zes _ _
structure Sml (n C W K B:Nat) (M:List (List Int)):Prop extends Mat n W M where
 n6:n<=6
 cw:C<=W
 w:W<=1000
 k1:1<=K
 kk:K*K<=B
 kB:K<=691200
 bB:B<=700000000000
 read:∀a c,a<n->c<W->(nI (nL M a) c).natAbs<=B
 small:∀j rows P,j<=C->St n W (rowOf M) j rows P->∀i,i<n->(∀c,c<C->(nI (nL rows i) c).natAbs<=K)/\∀c,c<W->(nI (nL rows i) c).natAbs<=B
theorem Small.sml {n C W:Nat} {M:List (List Int)} (h:Small n C W M):Sml n C W 46656 46656000000 M:=
 ⟨h.toMat,h.n6,h.cw,h.w,dc,dc,dc,dc,λa c ha hc=>by have:=h.read a c ha hc; omega,λj rows P hj hs i hi=>hs.small h hj hi⟩
theorem x73 {n C W K B:Nat} {M:List (List Int)} (hM:Sml n C W K B M):q5v M C W:=by
 have hkB:=hM.kB
 have hbB:=hM.bB
 have hBK:B*K<=700000000000*691200:=zbg hbB hkB
 have hn:=hM.n6
 have hl:=hM.len
 have hw:=hM.w
 have hcw:=hM.cw
 refine⟨ow,hw,hM.cw,λi hi=>hM.each i ow,λj hj hp=>?_⟩
 have hst:=qs8 hM.toMat j ow
 have hsm:=λ{i} (hi:i<n)=>hM.small _ _ _ ow hst i hi
 have hlen:=hst.len
 have hpl:=hst.pl
 generalize qb5 M j=s at hp hst hsm hlen hpl ⊢
 obtain⟨r,P⟩:=s
 simp only[] at hp hst hsm hlen hpl ⊢
 have hb:=q2w r P.length j ow hp
 have heachS:=q87 (r:=r) (k:=P.length) (j:=j) (W:=W) ow hp λi hi=>hst.each i ow
 have heach:=q2x (r:=r) (k:=P.length) (j:=j) (W:=W) ow hp λi hi=>hst.each i ow
 have hsw:∀i,i<n->(∀c,c<C->(nI (nL (q2v r P.length j) i) c).natAbs<=K)/\∀c,c<W->(nI (nL (q2v r P.length j) i) c).natAbs<=B:=λi hi=>by
  unfold q2v
  grind [q4y]
 have hpr:∀i,i<n->(∀c,c<C->(nI (nL (qi7 r P.length j) i) c).natAbs<=K)/\∀c,c<W->(nI (nL (qi7 r P.length j) i) c).natAbs<=B:=λi hi=>by
  rw[q40 _ _ _ _ ow]
  split
  all_goals grind [w0m,Int.natAbs_neg]
 have hst2:=wi7 (j:=j) ow (show St n W (rowOf M) j (r,P).1 (r,P).2 from hst)
 have hpk:nI (nL (qi7 r P.length j) P.length) j≠0:=by
  have e:=w5s hp
  have hs:nL (q2v r P.length j) P.length=nL r (P.length+(qu5 r P.length j).toNat):=by
   unfold q2v
   rw[q4y _ _ _ ow hb _ ow]
   grind
  rw[q40 _ _ _ _ ow]
  split
  ·rw[w0m,hs]; omega
  ·rw[hs]; exact e
 have hB:BIG=4000000000000000000:=rfl
 have hB2:yf4=2000000000000000000:=rfl
 refine⟨λx hx=>?_,λi hi hne hz=>⟨?_,?_,?_,hpk,?_,?_,λc hc=>?_,λc hc=>?_⟩⟩
 ·obtain⟨c,hc,rfl⟩:=q9w hx
  grind
 ·grind
 ·grind
 ·grind
 ·grind
 ·have:=(hpr P.length ow).1 j hj
  constructor <;> omega
 ·rw[heach i ow] at hc
  have h1:=(hpr i ow).2 c hc
  have h2:=(hpr P.length ow).1 j hj
  have h3:(q1 (nL (qi7 r P.length j) i) (nL (qi7 r P.length j) P.length) j).natAbs<=K:=zal (q20 _ _) h2
  have:=q18 h1 h3
  omega
 ·rw[heach i ow] at hc
  have h1:=(hpr P.length ow).2 c hc
  have h2:=(hpr i ow).1 j hj
  have h3:(q2 (nL (qi7 r P.length j) i) (nL (qi7 r P.length j) P.length) j).natAbs<=K:=zal (q20 _ _) h2
  have:=q18 h1 h3
  omega
theorem w0n {n C W:Nat} {M:List (List Int)} (hM:Small n C W M):q5v M C W:=x73 hM.sml
theorem qn6 (a b:List (List Int)) {i:Nat} (h:i<a.length):nL (a++b) i=nL a i:=by
 grind [ql6,List.length_append,List.getElem_append_left]
theorem qz3 (a b:List (List Int)) (i:Nat):nL (a++b) (a.length+i)=nL b i:=by
 grind [nL,qf0,List.getElem?_append_right]
theorem xo7 {f:List Int->List Int} {l:List (List Int)} {i:Nat} (h:i<l.length):nL (l.map f) i=f (nL l i):=by
 grind [ql6]
theorem w0o (left:List (List Int)) (p:List Int) (j a:Nat):∀K,(qv8 left p j a K).length=(if a<K then K-1 else K)/\∀i,i<(qv8 left p j a K).length->nL (qv8 left p j a K) i=qi2 (nL left (if i<a then i else i+1)) p j
 | 0=>⟨by rfl,λi hi=>absurd hi (zar _)⟩
 | K+1=>by
  obtain⟨h1,h2⟩:=w0o left p j a K
  rw[qv8]
  by_cases e:K=a
  ·grind
  ·rw[zam ow]
   refine⟨?_,λi hi=>?_⟩
   ·grind
   ·rw[zaw] at hi
    have hi:i<(qv8 left p j a K).length+1:=hi
    rcases zau.1 hi with q | q
    ·grind [qn6]
    ·rw[q]
     have:=qz3 (qv8 left p j a K) [qi2 (nL left K) p j] 0
     rw[zch] at this
     grind [q8y]
theorem wi8 {left:List (List Int)} {j:Nat}:∀K,lastTo left j K<0->∀i,i<K->nI (nL left i) j=0
 | 0,_,i,hi=>absurd hi (zar _)
 | K+1,h,i,hi=>by
  rw[lastTo] at h
  split at h
  ·omega
  ·rename_i hz
   rcases zau.1 hi with q | q
   ·exact wi8 K h i q
   grind
theorem q9z {left:List (List Int)} {j:Nat}:∀K,0<=lastTo left j K->nI (nL left (lastTo left j K).toNat) j≠0
 | 0,h=>by have:(0:Int)<=-1:=h; omega
 | K+1,h=>by
  rw[lastTo] at h ⊢
  split at h
  ·grind
  ·rename_i hz
   rw[zaj hz]
   exact q9z K h
theorem q70 (l:List Int) (n:Int) (c:Nat):nI (q9d l n) c=nI l c*n:=by
 rcases zap c l.length with h | h
 all_goals simp_all [q9d,xo0,wp1,qy9,Int.zero_mul]
structure Rst (n W:Nat) (R:Nat->Nat->Int) (j:Nat) (s:RS):Prop where
 st:St n W R j (s.done_++s.left) s.piv
 cnt:s.done_.length=s.piv.length
 prim:∀x∈s.left,Prim x
theorem w5t (left:List (List Int)) (j:Nat) (a:Int) (hne:nI (nL left a.toNat) j≠0):∃s:Int,(s=1\/s=-1)/\(∀c,nI (q6v left j a) c=s*nI (nL left a.toNat) c)/\0<nI (q6v left j a) j:=by
 unfold q6v
 by_cases q:nI (nL left a.toNat) j<0
 ·rw[zam q]
  exact⟨-1,.inr rfl,λc=>by grind [q70],by grind [q70]⟩
 ·rw[zaj q]
  exact⟨1,.inl rfl,λc=>by omega,ow⟩
theorem x2e {n W j:Nat} {R:Nat->Nat->Int} {s:RS} (hj:j<W) (h:Rst n W R j s):Rst n W R (j+1) (w8r s j):=by
 obtain⟨left,dn,P⟩:=s
 obtain⟨hst,hcnt,hprim⟩:=h
 have hst:St n W R j (dn++left) P:=hst
 have hcnt:dn.length=P.length:=hcnt
 have hprim:∀x∈left,Prim x:=hprim
 have hlen:=hst.len
 rw[zaw] at hlen
 have hL:∀i,i<left.length->nL (dn++left) (P.length+i)=nL left i:=λi hi=>by grind [qz3]
 have hD:∀i,i<P.length->nL (dn++left) i=nL dn i:=λi hi=>qn6 _ _ ow
 unfold w8r
 dsimp only
 split
 ·rename_i hn
  refine⟨hst.skip λi h1 h2=>?_,hcnt,hprim⟩
  have:=hL (i-P.length) ow
  grind [wi8]
 ·rename_i hn
  have hn:0<=lastTo left j left.length:=zbo.1 hn
  have hlt:=(q9e left j left.length).1
  have hne:=q9z _ hn
  obtain⟨sg,hs,hsx,hpos⟩:=w5t left j (lastTo left j left.length) hne
  have hplen:(q6v left j (lastTo left j left.length)).length=(nL left (lastTo left j left.length).toNat).length:=by
   grind [q6v,qy9]
  generalize hA:q6v left j (lastTo left j left.length)=p at hsx hpos hplen ⊢
  obtain⟨a,ha⟩:∃a:Nat,lastTo left j left.length=(a:Int):=⟨(lastTo left j left.length).toNat,ow⟩
  rw[ha] at hlt hne hsx hplen ⊢
  rw[zat] at hne hsx hplen
  have halt:a<left.length:=ow
  obtain⟨r1,r2⟩:=w0o left p j a left.length
  rw[zam halt] at r1
  have hW:∀i,i<left.length->(nL left i).length=W:=λi hi=>by rw[<- hL i hi]; exact hst.each _ ow
  have hWd:∀i,i<P.length->(nL dn i).length=W:=λi hi=>by rw[<- hD i hi]; exact hst.each _ ow
  have hdl:(dn.map λr=>qi2 r p j).length=P.length:=by grind
  have hA1:∀i,i<P.length->nL (((dn.map λr=>qi2 r p j)++[p])++qv8 left p j a left.length) i=qi2 (nL dn i) p j:=λi hi=>by
   grind [qn6,List.length_append,xo7]
  have hA2:nL (((dn.map λr=>qi2 r p j)++[p])++qv8 left p j a left.length) P.length=p:=by
   rw[qn6 _ _ (by grind)]
   have:=qz3 (dn.map λr=>qi2 r p j) [p] 0
   simp_all [Nat.add_zero,q8y]
  have hA3:∀i,i<left.length-1->nL (((dn.map λr=>qi2 r p j)++[p])++qv8 left p j a left.length) (P.length+1+i)=qi2 (nL left (if i<a then i else i+1)) p j:=λi hi=>by
   have e:((dn.map λr=>qi2 r p j)++[p]).length=P.length+1:=by grind
   have:=qz3 ((dn.map λr=>qi2 r p j)++[p]) (qv8 left p j a left.length) i
   grind
  refine⟨?_,by grind,λx hx=>?_⟩
  ·refine hst.step hj ow ?_ (λi hi=>?_) (λi=>if i<P.length then i else if i=P.length then P.length+a else if i-P.length-1<a then i-1 else i) (λi hi=>?_) (λi k hi hk e=>?_) (λi hi=>?_) (λi hi=>?_) ⟨sg,hs,λc hc=>?_⟩ ?_ λi hi hne2=>?_
   ·grind
   ·rcases zcv i P.length with q | q | q
    ·grind [q6w]
    ·grind
    ·have:=hA3 (i-P.length-1) ow
     grind [q6w]
   ·grind
   ·grind
   ·rcases zap i P.length with q | q
    ·grind
    ·rcases zcv i (P.length+a) with k | k | k
     ·exact⟨i+1,ow,by grind⟩
     ·exact⟨P.length,ow,by grind⟩
     ·exact⟨i,hi,by grind⟩
   ·grind
   ·grind
   ·grind
   ·rw[hA2]
    try dsimp only
    rcases zap i P.length with q | q
    ·simp_all [if_pos,q9y]
    ·have:=hA3 (i-P.length-1) ow
     rw[show P.length+1+(i-P.length-1)=i by omega] at this
     have hπi:(if i<P.length then i else if i=P.length then P.length+a else if i-P.length-1<a then i-1 else i)=(if i-P.length-1<a then i-1 else i):=by grind
     grind [nL,q9y]
  ·obtain⟨i,_,_,rfl⟩:=q52 _ _ _ _ _ x hx
   exact qp2 _
theorem q0u {n W:Nat} {M:List (List Int)} (h:Mat n W M):∀j,j<=W->Rst n W (rowOf M) j (qh2 M j)
 | 0,_=>by
  have hl:(M.map qt7).length=n:=by rw[za4]; exact h.len
  have ha:∀i,i<n->nL (M.map qt7) i=qt7 (nL M i):=λi hi=>xo7 (by grind)
  have hm:∀i,i<n->∀c,c<W->max (gcdL (nL M i)) 1*nI (qt7 (nL M i)) c=nI (nL M i) c:=λi hi c hc=>qz2 _ (by rw[h.each i hi]; omega)
  refine⟨?_,rfl,λx hx=>?_⟩
  ·show St n W (rowOf M) 0 (M.map qt7) []
   refine⟨hl,λi hi=>by rw[ha i hi,qv9]; exact h.each i hi,⟨rowOf (M.map qt7),λ_=>none,id,El.start λa ha'=>⟨max (gcdL (nL M a)) 1,ow,λj hj=>?_⟩,λi hi=>hi,λi k _ _ e=>e,λa ha=>⟨a,ha,rfl⟩,λi _ c _=>rfl,λq _=>by simp,λi hi=>?_⟩,λz=>?_,zaf _,λi _ _ c hc=>absurd hc (zar _),λq hq=>absurd hq (zar _),λq k _ hk=>absurd hk (zar _)⟩
   ·grind [rowOf]
   ·rw[ha i hi]
    exact(qp2 _).nice (by rw[qv9]; exact h.each i hi) _
   ·have hd:∀i,i<n->max (gcdL (nL M i)) 1*dt W (nL (M.map qt7) i) z=dt W (nL M i) z:=λi hi=>by
     have:=w5q (W:=W) (r':=nL (M.map qt7) i) (r:=nL M i) (p:=[]) (z:=z) (α:=max (gcdL (nL M i)) 1) (β:=1) (γ:=0) λc hc=>by grind
     omega
    constructor
    ·intro hz i hi
     have h1:=hd i hi
     have h2:dt W (nL M i) z=0:=hz i hi
     grind [qd0]
    ·intro hz i hi
     have h1:=hd i hi
     rw[hz i hi,zbk] at h1
     exact h1.symm
  ·obtain⟨u,_,rfl⟩:=zbf.1 hx
   exact qp2 u
 | j+1,hj=>x2e ow (q0u h j ow)
theorem Prim.last {l:List Int} {N:Nat} (h:Prim l) (hl:l.length=N+1) (hz:∀c,c<N->nI l c=0):(nI l N).natAbs<=1:=by
 rcases h with h | h
 ·grind
 ·have:=h (nI l N).natAbs λc hc=>by
   rcases zap c N with q | q
   ·simp_all
   grind [Nat.dvd_refl]
  omega
theorem yi6 {n N K B:Nat} {M:List (List Int)} (hM:Sml n N (N+1) K B M) (h0:0<n):yy9 M/\∀k,k<(qh2 M (N+1)).done_.length->∀c,c<N+1->(nI (nL (qh2 M (N+1)).done_ k) c).natAbs<=B:=by
 have hB:BIG=4000000000000000000:=rfl
 have hk1:=hM.k1
 have hkk:=hM.kk
 have hkB:=hM.kB
 have hbB:=hM.bB
 have hBK:B*K<=700000000000*691200:=zbg hbB hkB
 have hn:=hM.n6
 have hl:=hM.len
 have hw:=hM.w
 have hW:rdW M=N+1:=hM.each 0 h0
 -- the numbers at a step
 have key:∀j,j<N+1->0<=lastTo (qh2 M j).left j (qh2 M j).left.length->yg7 (qh2 M j) j/\((∀c,c<N+1->(nI (q6v (qh2 M j).left j (lastTo (qh2 M j).left j (qh2 M j).left.length)) c).natAbs<=B)/\∀i,i<(qh2 M j).done_.length->j=N->∀c,c<N+1->(nI (w2n (nL (qh2 M j).done_ i) (q6v (qh2 M j).left j (lastTo (qh2 M j).left j (qh2 M j).left.length)) j) c).natAbs<=B):=by
  intro j hj hp
  have hst:=q0u hM.toMat j ow
  generalize qh2 M j=s at hp hst ⊢
  obtain⟨left,dn,P⟩:=s
  obtain⟨hst,hcnt,hprim⟩:=hst
  have hst:St n (N+1) (rowOf M) j (dn++left) P:=hst
  have hcnt:dn.length=P.length:=hcnt
  have hprim:∀x∈left,Prim x:=hprim
  simp only[] at hp ⊢
  have hlen:=hst.len
  rw[zaw] at hlen
  have hL:∀i,i<left.length->nL (dn++left) (P.length+i)=nL left i:=λi hi=>by rw[<- hcnt]; exact qz3 _ _ _
  have hD:∀i,i<P.length->nL (dn++left) i=nL dn i:=λi hi=>qn6 _ _ ow
  have hlt:=(q9e left j left.length).1
  have hne:=q9z _ hp
  obtain⟨sg,hs,hsx,hpos⟩:=w5t left j (lastTo left j left.length) hne
  have hsm:=λ{i} (hi:i<n)=>hM.small _ _ _ (show j<=N by omega) hst i hi
  obtain⟨a,ha⟩:∃a:Nat,lastTo left j left.length=(a:Int):=⟨(lastTo left j left.length).toNat,ow⟩
  have hplen:(q6v left j (lastTo left j left.length)).length=(nL left a).length:=by
   unfold q6v; rw[ha]; split
   ·exact qy9 _ _
   ·rfl
  have ea:(lastTo left j left.length).toNat=a:=ow
  rw[ea] at hne hsx
  have halt:a<left.length:=ow
  have hWl:∀i,i<left.length->(nL left i).length=N+1:=λi hi=>by rw[<- hL i hi]; exact hst.each _ ow
  have hWd:∀i,i<P.length->(nL dn i).length=N+1:=λi hi=>by rw[<- hD i hi]; exact hst.each _ ow
  have bl:∀i,i<left.length->(∀c,c<N->(nI (nL left i) c).natAbs<=K)/\∀c,c<N+1->(nI (nL left i) c).natAbs<=B:=λi hi=>by rw[<- hL i hi]; exact hsm ow
  have bd:∀i,i<P.length->(∀c,c<N->(nI (nL dn i) c).natAbs<=K)/\∀c,c<N+1->(nI (nL dn i) c).natAbs<=B:=λi hi=>by rw[<- hD i hi]; exact hsm ow
  have hab:∀c,(nI (q6v left j (lastTo left j left.length)) c).natAbs=(nI (nL left a) c).natAbs:=λc=>by
   rw[hsx c,zbp]
   rcases hs with rfl | rfl <;> simp
  -- the numbers in the column,and in a row
  have zl:∀i,i<left.length->j=N->∀c,c<N->nI (nL left i) c=0:=λi hi e c hc=>by
   rw[<- hL i hi]
   exact hst.zero _ ow ow c ow
  have cl:∀i,i<left.length->(nI (nL left i) j).natAbs<=K:=λi hi=>by
   rcases zap j N with q | q
   ·exact(bl i hi).1 j q
   ·have e:j=N:=ow
    have:=(hprim _ (q04 left i hi)).last (hWl i hi) (zl i hi e)
    rw[e]; omega
  have hpj:(nI (q6v left j (lastTo left j left.length)) j).natAbs<=K:=by rw[hab]; exact cl a halt
  have hpc:∀c,c<N+1->(nI (q6v left j (lastTo left j left.length)) c).natAbs<=B:=λc hc=>by rw[hab]; exact(bl a halt).2 c hc
  have rowB:∀r:List Int,r.length=N+1->(∀c,c<N+1->(nI r c).natAbs<=B)->((nI r j).natAbs<=K\/j=N)->yy7 r (q6v left j (lastTo left j left.length)) j:=λr hr hb hc0=>by
   have b1:∀k,k<N+1->(nI r k*nI (q6v left j (lastTo left j left.length)) j).natAbs<=B*K:=λk hk=>q18 (hb k hk) hpj
   have b2:∀k,k<N+1->(nI (q6v left j (lastTo left j left.length)) k*nI r j).natAbs<=B*K:=λk hk=>by
    rcases hc0 with q | q
    ·exact q18 (hpc k hk) q
    ·rcases zap k N with q2 | q2
     ·have e0:nI (q6v left j (lastTo left j left.length)) k=0:=by
       have:=hab k
       rw[zl a halt q k q2] at this
       omega
      rw[e0,zb9]; exact zaf _
     ·have e1:k=j:=ow
      rw[e1,ze6]
      exact q18 (hb j ow) hpj
   refine⟨ow,by rw[hplen,hWl a halt,hr],ow,λk hk=>?_,λk hk=>?_,λk hk=>?_⟩
   ·have:=b1 k ow; constructor <;> omega
   ·have:=b2 k ow; constructor <;> omega
   ·have h1:=b1 k ow
    have h2:=b2 k ow
    constructor <;> omega
  refine⟨⟨λ_=>⟨by rw[ha,zat,hWl a halt]; exact hw,λc hc=>?_⟩,λi hi _=>rowB _ (hWl i hi) (bl i hi).2 (.inl (cl i hi)),λi hi=>?_⟩,hpc,λi hi e c hc=>?_⟩
  ·rw[ha,zat] at hc ⊢
   have hc:c<(nL left a).length:=hc
   rw[hWl a halt] at hc
   have:=(bl a halt).2 c hc
   show qe5 BIG (nI (nL left a) c*(-1))
   constructor <;> omega
  ·have hi:i<dn.length:=hi
   have hi2:i<P.length:=ow
   refine rowB _ (hWd i hi2) (bd i hi2).2 ?_
   rcases zap j N with q | q
   ·exact .inl ((bd i hi2).1 j q)
   ·exact .inr ow
  ·have hi2:i<P.length:=ow
   rw[w5r _ _ _ (by rw[hWd i hi2]; exact hc)]
   rcases zap c N with q | q
   ·have e0:nI (q6v left j (lastTo left j left.length)) c=0:=by
     have:=hab c
     rw[zl a halt e c q] at this
     omega
    have e1:(nI (q6v left j (lastTo left j left.length)) j).natAbs<=K:=hpj
    have:=q18 ((bd i hi2).1 c q) e1
    rw[e0,zb9,Int.sub_zero]
    omega
   ·have e1:c=j:=ow
    rw[e1,ze6,Int.sub_self]; exact zaf _
 refine⟨⟨ow,ow,λi hi=>by rw[hW]; exact hM.each i ow,λi hi=>⟨by rw[hM.each i ow]; exact hw,λx hx=>?_⟩,λj hj hp=>(key j ow hp).1⟩,λk hk c hc=>?_⟩
 ·obtain⟨c,hc,rfl⟩:=q9w hx
  have:=hM.read i c ow (by rw[hM.each i ow] at hc; exact hc)
  constructor <;> omega
 ·have hst:=q0u hM.toMat N ow
  have hk2:k<(w8r (qh2 M N) N).done_.length:=hk
  show(nI (nL (w8r (qh2 M N) N).done_ k) c).natAbs<=B
  have key:=key N ow
  unfold w8r at hk2 ⊢
  split at hk2
  ·rename_i hn
   rw[zam hn]
   have hlen:=hst.st.len
   rw[zaw] at hlen
   rw[<- qn6 _ (qh2 M N).left hk2]
   exact(hM.small _ _ _ (zac _) hst.st _ ow).2 c hc
  ·rename_i hn
   rw[zaj hn]
   obtain⟨_,k1,k2⟩:=key (zbo.1 hn)
   rw[zaw,za4] at hk2
   have hk2:k<(qh2 M N).done_.length+1:=hk2
   try dsimp only
   rcases zau.1 hk2 with q | q
   ·rw[qn6 _ _ (by rw[za4]; exact q),xo7 q]
    exact zal (x2c _ _) (k2 k q rfl c hc)
   ·rw[q]
    have:=qz3 ((qh2 M N).done_.map λr=>qi2 r (q6v (qh2 M N).left N (lastTo (qh2 M N).left N (qh2 M N).left.length)) N) [q6v (qh2 M N).left N (lastTo (qh2 M N).left N (qh2 M N).left.length)] 0
    rw[za4,zch] at this
    rw[this,q8y]
    exact k1 c hc
theorem x2f {n N:Nat} {M:List (List Int)} (hM:Small n N (N+1) M) (h0:0<n):yy9 M/\∀k,k<(qh2 M (N+1)).done_.length->∀c,c<N+1->(nI (nL (qh2 M (N+1)).done_ k) c).natAbs<=46656000000:=yi6 hM.sml h0
theorem exL:∀(k:Nat) (p:Nat->Int),(∀q,q<k->p q≠0)->∃(L:Int) (u:Nat->Int),L≠0/\∀q,q<k->L=p q*u q
 | 0,p,_=>⟨1,λ_=>0,dc,λq h=>absurd h (zar _)⟩
 | k+1,p,h=>by
  obtain⟨L,u,h1,h2⟩:=exL k p λq hq=>h q ow
  refine⟨L*p k,λq=>if q=k then L else u q*p k,q08 h1 (h k ow),λq hq=>?_⟩
  grind
def Sol (n W:Nat) (R:Nat->Nat->Int) (z:Nat->Int):Prop:=∀a,a<n->(sm W λc=>R a c*z c)=0
theorem St.inj {n W:Nat} {R:Nat->Nat->Int} {j:Nat} {rows:List (List Int)} {P:List Int} (h:St n W R j rows P) {q k:Nat} (hq:q<P.length) (hk:k<P.length) (e:nI P q=nI P k):q=k:=by
 rcases zcv q k with q1 | q1 | q1
 ·have:=h.asc q k q1 hk; omega
 ·omega
 ·have:=h.asc k q q1 hq; omega
theorem St.free {n W:Nat} {R:Nat->Nat->Int} {j:Nat} {rows:List (List Int)} {P:List Int} (h:St n W R j rows P) (hj:j<=W) {f:Nat} (hf:f<W) (hnp:∀q,q<P.length->nI P q≠(f:Int)) (hz:∀i,P.length<=i->i<n->nI (nL rows i) f=0) :
  ∃z,Sol n W R z/\z f≠0/\∀c,c<W->c≠f->(∀q,q<P.length->nI P q≠(c:Int))->z c=0:=by
 obtain⟨L,u,hL,hu⟩:=exL P.length (λq=>nI (nL rows q) (nI P q).toNat) λq hq=>by have:=(h.pos q hq).2.2.1; omega
 have hpl:=h.pl
 have hzf:(if f=f then L else sm P.length λq=>if nI P q=(f:Int) then-u q*nI (nL rows q) f else 0)=L:=zam rfl
 obtain⟨z,hzd⟩:∃z:Nat->Int,∀c,z c=if c=f then L else sm P.length λq=>if nI P q=(c:Int) then-u q*nI (nL rows q) f else 0:=⟨_,λ_=>rfl⟩
 have z1:z f=L:=by grind
 have z2:∀c,c≠f->(∀q,q<P.length->nI P q≠(c:Int))->z c=0:=λc hc hq=>by
  simp_all [if_neg,qj9]
 have z3:∀q,q<P.length->z (nI P q).toNat=- u q*nI (nL rows q) f:=λq hq=>by
  have hp:=h.pos q hq
  have e:((nI P q).toNat:Int)=nI P q:=ow
  rw[hzd,zaj (λk=>hnp q hq ow),qm8 hq λi hi hne=>by
   grind]
  omega
 refine⟨z,(h.sol z).2 λi hi=>?_,ow,λc hc=>z2 c⟩
 unfold dt
 rcases zap i P.length with q | q
 ·have hp:=h.pos i q
  rw[q61 (k:=f) (l:=(nI P i).toNat) hf ow (λk=>hnp i q ow) λc hc h1 h2=>?_]
  ·grind
  ·try dsimp only
   by_cases hx:∃q,q<P.length/\nI P q=(c:Int)
   ·obtain⟨q2,hq2,e⟩:=hx
    have hp2:=h.pos q2 hq2
    have:nI (nL rows i) (nI P q2).toNat=0:=hp2.2.2.2.2 i hi λk=>h2 (by grind)
    simp_all
   grind
 ·refine qj9 λc hc=>?_
  try dsimp only
  by_cases e:c=f
  ·grind
  ·by_cases hx:∃q,q<P.length/\nI P q=(c:Int)
   ·obtain⟨q2,hq2,e⟩:=hx
    have hp2:=h.pos q2 hq2
    have:nI (nL rows i) (nI P q2).toNat=0:=hp2.2.2.2.2 i hi ow
    simp_all
   grind
structure Asc (N:Nat) (P:List Int):Prop where
 at_:∀q,q<P.length->0<=nI P q/\nI P q<N
 asc:∀q k,q<k->k<P.length->nI P q<nI P k
theorem Asc.ge {N:Nat} {P:List Int} (h:Asc N P):∀q,q<P.length->(q:Int)<=nI P q
 | 0,hq=>(h.at_ 0 hq).1
 | q+1,hq=>by
  have h1:=h.ge q ow
  have h2:=h.asc q (q+1) ow hq
  omega
theorem Asc.le {N:Nat} {P:List Int} (h:Asc N P):P.length<=N:=by
 rcases zbt P.length with q | q
 ·omega
 ·have h1:=h.ge (P.length-1) ow
  have h2:=h.at_ (P.length-1) ow
  omega
theorem Asc.up {N:Nat} {P:List Int} (h:Asc N P):∀d,d<P.length->nI P (P.length-1-d)+d<N
 | 0,hd=>by have:=(h.at_ (P.length-1-0) ow).2; omega
 | d+1,hd=>by
  have h1:=h.up d ow
  have h2:=h.asc (P.length-1-(d+1)) (P.length-1-d) ow ow
  omega
theorem Asc.id {N:Nat} {P:List Int} (h:Asc N P) (hl:P.length=N) {q:Nat} (hq:q<N):nI P q=q:=by
 have h1:=h.ge q ow
 have h2:=h.up (P.length-1-q) ow
 grind
theorem Asc.free {N:Nat} {P:List Int} (hl:P.length<N):∃f,f<N/\∀q,q<P.length->nI P q≠(f:Int):=by
 refine zae λhno=>?_
 have hx:∀f,∃q,f<N->q<P.length/\nI P q=(f:Int):=λf=>by
  by_cases hf:f<N
  ·simp_all
  ·exact⟨0,λh=>absurd h hf⟩
 obtain⟨g,hg⟩:=zbq hx
 obtain⟨i,k,h1,h2,h3⟩:=q9u P.length N g (λi hi=>(hg i hi).1) hl
 grind
structure Good (n N:Nat) (R:Nat->Nat->Int) (rows:List (List Int)) (P:List Int):Prop where
 st:∃j,N<=j/\j<=N+1/\St n (N+1) R j rows P
 lt:∀q,q<P.length->nI P q<N
 no:∀i,P.length<=i->i<n->nI (nL rows i) N=0
theorem Good.asc {n N:Nat} {R:Nat->Nat->Int} {rows:List (List Int)} {P:List Int} (h:Good n N R rows P):Asc N P:=by
 obtain⟨j,_,_,hs⟩:=h.st
 exact⟨λq hq=>⟨(hs.pos q hq).1,h.lt q hq⟩,hs.asc⟩
theorem Good.last {n N:Nat} {R:Nat->Nat->Int} {rows:List (List Int)} {P:List Int} (h:Good n N R rows P):∃z,Sol n (N+1) R z/\z N≠0:=by
 obtain⟨j,_,h2,hs⟩:=h.st
 obtain⟨z,z1,z2,_⟩:=hs.free h2 (f:=N) ow (λq hq=>by have:=h.lt q hq; omega) h.no
 grind
theorem Good.more {n N:Nat} {R:Nat->Nat->Int} {rows:List (List Int)} {P:List Int} (h:Good n N R rows P) (hl:P.length<N):∃z f,Sol n (N+1) R z/\f<N/\z f≠0/\z N=0:=by
 obtain⟨j,h1,h2,hs⟩:=h.st
 obtain⟨f,hf,hq⟩:=Asc.free hl
 obtain⟨z,z1,z2,z3⟩:=hs.free h2 (f:=f) ow hq λi h3 h4=>hs.zero i h3 h4 f ow
 exact⟨z,f,z1,hf,z2,z3 N ow ow λq hq=>by have:=h.lt q hq; omega⟩
theorem Good.row {n N:Nat} {R:Nat->Nat->Int} {rows:List (List Int)} {P:List Int} (h:Good n N R rows P) (hl:P.length=N) {z:Nat->Int} (hz:Sol n (N+1) R z) {k:Nat} (hk:k<N):0<nI (nL rows k) k/\nI (nL rows k) k*z k+nI (nL rows k) N*z N=0:=by
 obtain⟨j,h1,h2,hs⟩:=h.st
 have hid:=λ{q} (hq:q<N)=>h.asc.id hl hq
 have hp:=hs.pos k ow
 have hpl:=hs.pl
 rw[hid hk,zat] at hp
 refine⟨hp.2.2.1,?_⟩
 have:=(hs.sol z).1 hz k ow
 unfold dt at this
 rw[q61 (k:=k) (l:=N) ow ow ow λc hc h1 h2=>?_] at this
 ·omega
 ·have hp2:=(hs.pos c ow).2.2.2.2 k ow ow
  grind
theorem Good.len {n N:Nat} {R:Nat->Nat->Int} {rows rows':List (List Int)} {P P':List Int} (h:Good n N R rows P) (h':Good n N R rows' P') (hl:P.length<N):P'.length<N:=by
 rcases zap P'.length N with q | q
 ·exact q
 ·have hl':P'.length=N:=by have:=h'.asc.le; omega
  obtain⟨z,f,z1,z2,z3,z4⟩:=h.more hl
  obtain⟨k1,k2⟩:=h'.row hl' z1 z2
  rw[z4,zbk,ze7] at k2
  grind [absurd,qd0]
theorem Good.val {n N:Nat} {R:Nat->Nat->Int} {rows rows':List (List Int)} {P P':List Int} (h:Good n N R rows P) (h':Good n N R rows' P') (hl:P.length=N) (hl':P'.length=N) {k:Nat} (hk:k<N):nI (nL rows k) N*nI (nL rows' k) k=nI (nL rows' k) N*nI (nL rows k) k:=by
 obtain⟨z,z1,z2⟩:=h.last
 obtain⟨a1,a2⟩:=h.row hl z1 hk
 obtain⟨b1,b2⟩:=h'.row hl' z1 hk
 have:z N*(nI (nL rows k) N*nI (nL rows' k) k-nI (nL rows' k) N*nI (nL rows k) k)=0:=by grind
 grind [qd0]
theorem xo8 {a b c d:Int} (hb:0<b) (hd:0<d) (h:a*d=c*b):q51 a b=q51 c d:=by
 have hg:0<gcdI a b:=qo1 (.inr ow)
 have hk:0<gcdI c d:=qo1 (.inr ow)
 have a1:gcdI a b*a.tdiv (gcdI a b)=a:=za9 (za8.1 (zb0 _ _))
 have b1:gcdI a b*b.tdiv (gcdI a b)=b:=za9 (za8.1 (zb2 _ _))
 have c1:gcdI c d*c.tdiv (gcdI c d)=c:=za9 (za8.1 (zb0 _ _))
 have d1:gcdI c d*d.tdiv (gcdI c d)=d:=za9 (za8.1 (zb2 _ _))
 have cop:∀x y:Int,0<gcdI x y->Nat.Coprime (x.tdiv (gcdI x y)).natAbs (y.tdiv (gcdI x y)).natAbs:=λx y h=>by
  have e1:(x.tdiv (gcdI x y)).natAbs=x.natAbs / Nat.gcd x.natAbs y.natAbs:=zck _ _
  have e2:(y.tdiv (gcdI x y)).natAbs=y.natAbs / Nat.gcd x.natAbs y.natAbs:=zck _ _
  rw[e1,e2]
  exact zdv (by have:(0:Int)<(Nat.gcd x.natAbs y.natAbs:Nat):=h; omega)
 have h1:=cop a b hg
 have h2:=cop c d hk
 unfold q51
 generalize gcdI a b=g at *
 generalize gcdI c d=k at *
 generalize a.tdiv g=x at *
 generalize b.tdiv g=y at *
 generalize c.tdiv k=u at *
 generalize d.tdiv k=v at *
 have hy:0<y:=q49 hg ow
 have hv:0<v:=q49 hk ow
 have e:x*v=u*y:=by
  have:(g*k)*(x*v-u*y)=0:=by grind
  grind [qd0,q08]
 have en:x.natAbs*v.natAbs=u.natAbs*y.natAbs:=by rw[<- zbp,<- zbp,e]
 have q1:y.natAbs∣v.natAbs:=h1.symm.dvd_of_dvd_mul_left ⟨u.natAbs,by grind⟩
 have q2:v.natAbs∣y.natAbs:=h2.symm.dvd_of_dvd_mul_left ⟨x.natAbs,by grind⟩
 have q3:y.natAbs=v.natAbs:=Nat.dvd_antisymm q1 q2
 have q4:y=v:=ow
 subst q4
 have:y*(x-u)=0:=by grind
 have:=qd0 this ow
 grind
theorem q90 {a b:Int} (hb:0<b):ofR a b=q51 a b:=by
 unfold ofR q51
 grind
theorem w5u (N:Nat) (d:List (List Int)) (P:List Int) (hP:∀q,q<N->nI P q=q):∀i,i<=N->∀k (hk:k<(q7k N d P i).length),(q7k N d P i)[k]=if k<i then q51 (nI (nL d k) N) (nI (nL d k) k) else(0,1)
 | 0,_,k,hk=>by simp[q7k]
 | i+1,hi,k,hk=>by
  have h1:=hP i ow
  simp only[q7k,h1,Int.toNat_natCast,List.getElem_set]
  by_cases e:i=k
  ·grind
  ·rw[zaj e,w5u N d P hP i ow k (by grind [q47])]
   grind
theorem yi7 {n N:Nat} {M:List (List Int)} (hM:Mat n (N+1) M):w1m (qb5 M N).1 (qb5 M N).2 N=(if(if q07 (qh2 M (N+1)).piv N=true then(([],0,false):List (Int × Int) × Int × Bool) else(q7k N (qh2 M (N+1)).done_ (qh2 M (N+1)).piv (qh2 M (N+1)).piv.length,(N:Int)-(qh2 M (N+1)).piv.length,true)).2.2=false then([],8) else if 0<(if q07 (qh2 M (N+1)).piv N=true then(([],0,false):List (Int × Int) × Int × Bool) else(q7k N (qh2 M (N+1)).done_ (qh2 M (N+1)).piv (qh2 M (N+1)).piv.length,(N:Int)-(qh2 M (N+1)).piv.length,true)).2.1 then([],11) else((if q07 (qh2 M (N+1)).piv N=true then(([],0,false):List (Int × Int) × Int × Bool) else(q7k N (qh2 M (N+1)).done_ (qh2 M (N+1)).piv (qh2 M (N+1)).piv.length,(N:Int)-(qh2 M (N+1)).piv.length,true)).1,0)):=by
 have hst:=qs8 hM N ow
 obtain⟨hrs,hcnt,_⟩:=q0u hM (N+1) ow
 generalize qb5 M N=r at *
 generalize qh2 M (N+1)=s at *
 obtain⟨rows,P⟩:=r
 obtain⟨left,dn,P3⟩:=s
 have hst:St n (N+1) (rowOf M) N rows P:=hst
 have hrs:St n (N+1) (rowOf M) (N+1) (dn++left) P3:=hrs
 have hcnt:dn.length=P3.length:=hcnt
 simp only[]
 have hD:∀i,i<P3.length->nL (dn++left) i=nL dn i:=λi hi=>qn6 _ _ ow
 have hlen:=hst.len
 have hplt:∀q,q<P.length->nI P q<N:=λq hq=>(hst.pos q hq).2.1
 -- the third list's pivots
 have g1:q34 rows P N=true->∀z,Sol n (N+1) (rowOf M) z->z N=0:=λh z hz=>by
  unfold q34 at h
  rw[zb1] at h
  obtain⟨i,hi,hb⟩:=h
  have hi:=za2.1 hi
  simp only[Bool.and_eq_true,decide_eq_true_eq,bne_iff_ne,ne_eq] at hb
  have:=(hst.sol z).1 hz i ow
  unfold dt at this
  rw[qm8 (k:=N) ow λc hc hne=>by
   try dsimp only
   rw[hst.zero i hb.1 ow c ow,zb9]] at this
  grind [qd0]
 have g2:q34 rows P N=false->Good n N (rowOf M) rows P:=λh=>by
  refine⟨⟨N,zac _,ow,hst⟩,hplt,λi h1 h2=>?_⟩
  grind [q34,List.any_eq_false]
 have g3:q07 P3 N=true->∀z,Sol n (N+1) (rowOf M) z->z N=0:=λh z hz=>by
  unfold q07 at h
  rw[zb1] at h
  obtain⟨x,hx,hb⟩:=h
  obtain⟨q,hq,rfl⟩:=q9w hx
  have e:nI P3 q=(N:Int):=by grind
  obtain⟨p1,p2,p3,p4,p5⟩:=hrs.pos q hq
  rw[e,zat] at p3 p4
  have hpl:=hrs.pl
  have:=(hrs.sol z).1 hz q ow
  unfold dt at this
  rw[qm8 (k:=N) ow λc hc hne=>by
   grind] at this
  grind [qd0]
 have g4:q07 P3 N=false->Good n N (rowOf M) (dn++left) P3:=λh=>by
  refine⟨⟨N+1,ow,zac _,hrs⟩,λq hq=>?_,λi h1 h2=>hrs.zero i h1 h2 N ow⟩
  unfold q07 at h
  have:=zbx.1 h _ (q9v hq)
  have p:=hrs.pos q hq
  grind
 unfold w1m
 cases hn:q34 rows P N with
 | true=>
  have:q07 P3 N=true:=by
   cases e:q07 P3 N with
   | true=>rfl
   | false=>
    obtain⟨z,z1,z2⟩:=(g4 e).last
    grind
  grind
 | false=>
  have hg:=g2 hn
  have e3:q07 P3 N=false:=by
   cases e:q07 P3 N with
   | false=>rfl
   | true=>
    obtain⟨z,z1,z2⟩:=hg.last
    grind
  have hg3:=g4 e3
  have hle:=hg.asc.le
  have hle3:=hg3.asc.le
  simp only[e3,Bool.false_eq_true,if_false,Bool.true_eq_false]
  by_cases hl:P.length<N
  ·have:=hg.len hg3 hl
   grind
  ·have hl3:¬P3.length<N:=λh=>hl (hg3.len hg h)
   rw[zaj hl,zaj ow]
   have eP:P.length=N:=ow
   have eP3:P3.length=N:=ow
   have i1:=λq (hq:q<N)=>hg.asc.id eP hq
   have i3:=λq (hq:q<N)=>hg3.asc.id eP3 hq
   congr 1
   apply zbl
   ·grind [q47,List.length_map,List.length_range]
   intro k h1 h2
   rw[q47] at h2
   rw[w5u N dn P3 i3 _ ow k ow,zam ow,zc5,zd6]
   unfold q7g
   rw[i1 k h2,zat]
   obtain⟨z,z1,_⟩:=hg.last
   have p1:=(hg.row eP z1 h2).1
   have p3:=(hg3.row eP3 z1 h2).1
   have hv:=hg.val hg3 eP eP3 h2
   grind [q90,xo8]
theorem qw3 {m:List (List Int)} {y pix:List Int} (h:Asked m y pix):Small m.length pix.length (pix.length+1) (qb8 m pix y):=by
 have hM:=h.msk
 have h6:=hM.rows6
 have hp10:=hM.pix10
 have hpl:=h.nam.len
 have hat:∀i,i<m.length->nL (qb8 m pix y) i=qx5 (nL m i) pix++[nI y i]:=λi hi=>by
  grind [qz1,ql3]
 have hlo:∀i,i<m.length->∀c,c<pix.length->(nI (nL (qb8 m pix y) i) c).natAbs<=1:=λi hi c hc=>by
  rw[hat i hi,qk0 _ _ (by grind [ql7]),qq9 _ _ _ hc]
  have h1:=h.nam.at_ c hc
  have h2:=hM.small i hi (nI pix c).toNat ow
  omega
 refine⟨⟨q9s m pix y,λi hi=>by grind [List.length_append,ql7]⟩,h6,ow,ow,λa c ha hc=>hlo a ha c hc,λa c ha hc=>?_⟩
 rcases zap c pix.length with q | q
 ·grind
 ·have e:nI (nL (qb8 m pix y) a) c=nI y a:=by
   grind [qx5,nL,ql7,qn5]
  have:=h.at_ a ha
  omega
theorem x74 (m:List (List Int)) (pix y:List Int):y0e m pix y=qy0 m pix y:=by
 unfold y0e qy0
 split
 ·rename_i h
  have hA:=Asked.of h
  have hS:=qw3 hA
  have hW:rdW (qb8 m pix y)=pix.length+1:=hS.each 0 (by have:=hA.msk.rows1; omega)
  unfold svT svR svP svD qu6 qr2
  rw[hW]
  exact(yi7 hS.toMat).symm
 rfl
theorem w2u (m:List (List Int)) (y pix:List Int):ya1 m y pix=qg5 m y pix:=by
 unfold ya1 qg5 y3l yi1
 rw[x74]
theorem xo9 {m:List (List Int)} {pix y:List Int} (hl:pix.length<=100000):q43 m pix y:=by
 refine⟨ow,λh=>?_⟩
 have hA:=Asked.of h
 have hS:=qw3 hA
 refine⟨w0n hS,?_⟩
 have hst:=qs8 hS.toMat pix.length ow
 have hpl:=hst.pl
 have hlen:=hst.len
 have hB:BIG=4000000000000000000:=rfl
 refine⟨λk hk=>?_,λk hk=>?_,λk hk=>?_⟩
 ·have:=(hst.pos k hk).2.2.1
  show nI (nL (qb5 (qb8 m pix y) pix.length).1 k) (nI (qb5 (qb8 m pix y) pix.length).2 k).toNat≠0
  omega
 ·have hk:k<(qb5 (qb8 m pix y) pix.length).2.length:=hk
  have h1:=hst.pos k hk
  have:=(hst.small hS (zac _) (i:=k) ow).2 (nI (qb5 (qb8 m pix y) pix.length).2 k).toNat ow
  show qe5 BIG (nI (nL (qb5 (qb8 m pix y) pix.length).1 k) (nI (qb5 (qb8 m pix y) pix.length).2 k).toNat)
  omega
 ·have hk:k<(qb5 (qb8 m pix y) pix.length).2.length:=hk
  have:=(hst.small hS (zac _) (i:=k) ow).2 pix.length ow
  show qe5 BIG (nI (nL (qb5 (qb8 m pix y) pix.length).1 k) pix.length)
  omega
theorem y0f {m:List (List Int)} {pix y:List Int} (hf:x1h m) (hl:pix.length<=100000):yi0 m pix y:=by
 refine⟨hf,hl,λh=>?_⟩
 have hA:=Asked.of h
 have hS:=qw3 hA
 have hM:=hA.msk
 have h1:=hM.rows1
 have h6:=hM.rows6
 have hp10:=hM.pix10
 have hpl:=hA.nam.len
 have hW:rdW (qb8 m pix y)=pix.length+1:=hS.each 0 ow
 obtain⟨r1,r2⟩:=x2f hS ow
 have hrst:=q0u hS.toMat (pix.length+1) (zac _)
 have hB:BIG=4000000000000000000:=rfl
 have e1:svD m pix y=(qh2 (qb8 m pix y) (pix.length+1)).done_:=by grind [svD,qu6]
 have e2:svP m pix y=(qh2 (qb8 m pix y) (pix.length+1)).piv:=by grind [svP,qu6]
 refine⟨ow,⟨ow,ow,λi hi j hj=>?_⟩,ow,hA.len,r1,?_⟩
 ·have:=hA.nam.at_ j hj
  rw[hM.each i hi]; omega
 ·rw[e1,e2]
  obtain⟨hst,hcnt,_⟩:=hrst
  have hlen:=hst.len
  have hpl2:=hst.pl
  rw[zaw] at hlen
  have hD:∀i,i<(qh2 (qb8 m pix y) (pix.length+1)).piv.length->nL ((qh2 (qb8 m pix y) (pix.length+1)).done_++(qh2 (qb8 m pix y) (pix.length+1)).left) i=nL (qh2 (qb8 m pix y) (pix.length+1)).done_ i:=λi hi=>qn6 _ _ ow
  refine⟨hcnt,ow,λk hk=>?_,λk hk=>?_,λk hk=>?_,λk hk=>?_,λk hk=>?_⟩
  ·rw[<- hD k ow]; exact hst.each k ow
  ·have:=hst.pos k hk; omega
  ·have:=(hst.pos k hk).2.2.1
   grind
  ·have:=hst.pos k hk
   grind
  grind
structure w84 (m:List (List Int)) (y pix:List Int):Prop where
 chk:qq8 m y pix=0
 rows:pix.length<=m.length
 fst:(qg5 m y pix).1.1=pix
 len:(qg5 m y pix).1.2.length=pix.length
theorem qn7 {m:List (List Int)} {y pix:List Int} (h:(qg5 m y pix).2=true):w84 m y pix:=by
 unfold qg5 at h
 split at h
 ·cases h
 ·rename_i hno
  have h0:(qy0 m pix y).2=0:=zae λq=>hno (.inl q)
  have ef:qg5 m y pix=((pix,(qy0 m pix y).1),true):=by simp_all [qg5,if_neg]
  rw[show w84 m y pix↔w84 m y pix from zeq]
  have hc:qq8 m y pix=0:=zae λq=>by
   simp_all [qy0,if_neg]
  have hA:=Asked.of hc
  have hS:=qw3 hA
  have hst:=qs8 hS.toMat pix.length ow
  have hpl:=hst.pl
  have es:qy0 m pix y=w1m (qb5 (qb8 m pix y) pix.length).1 (qb5 (qb8 m pix y) pix.length).2 pix.length:=by unfold qy0; rw[zam hc]; rfl
  have hle:(qb5 (qb8 m pix y) pix.length).2.length<=pix.length:=(⟨λq hq=>⟨(hst.pos q hq).1,(hst.pos q hq).2.1⟩,hst.asc⟩:Asc pix.length _).le
  rw[es] at h0
  unfold w1m at h0
  split at h0
  ·omega
  ·rename_i hn
   split at h0
   ·omega
   ·rename_i hl
    refine⟨hc,ow,by rw[ef],?_⟩
    rw[ef]
    show(qy0 m pix y).1.length=_
    rw[es]
    unfold w1m
    grind
theorem y0g {m:List (List Int)} {y pix:List Int} (h:w84 m y pix):x70 (nL m 0).length (qg5 m y pix).1:=by
 have hA:=Asked.of h.chk
 have h6:=hA.msk.rows6
 have hr:=h.rows
 refine⟨by rw[h.len,h.fst],by rw[h.fst]; omega,λj hj=>?_⟩
 rw[h.fst] at hj ⊢
 exact hA.nam.at_ j hj
theorem x2g:((List.range 8).all λn=>decide (q53 n=(List.range (n+1)).flatMap λ(k:Nat)=>qe9 (n:Nat) (k:Nat)))=true:=by decide +kernel
theorem xp0 {n:Nat} (h:n<=7):q53 n=(List.range (n+1)).flatMap λ(k:Nat)=>qe9 (n:Nat) (k:Nat):=by
 have:=zaq.1 x2g n (za2.2 ow)
 grind
theorem q5a {n k:Nat} {s:List Int} (h:s∈qe9 (n:Nat) (k:Nat)):s.length=k/\k<=n:=by
 grind [qe9,wy4]
theorem w2v (m:List (List Int)) (y:List Int) (s t:List (List Int)):qg2 m y (s++t)=qg2 m y s++qg2 m y t:=zdn
theorem w2w (m:List (List Int)) (y:List Int) (s:List (List Int)):q7z m y s=qg2 m y s:=by
 grind [q7z,qg2,w2u]
theorem q91 (m:List (List Int)) (y:List Int):∀K,qi0 m y K=qg2 m y ((List.range K).flatMap λ(k:Nat)=>qe9 (nL m 0).length (k:Nat))
 | 0=>rfl
 | K+1=>by
  rw[qi0,q91 m y K,zcl,zce,w2v]
  simp
theorem x75 {m:List (List Int)} (y:List Int) (h:(nL m 0).length<=7):ya2 m y=qi0 m y ((nL m 0).length+1):=by
 grind [ya2,w2w,xp0,q91]
theorem q92 {m:List (List Int)} {y:List Int} {s:List (List Int)} {f:Fit} (h:f∈qg2 m y s):∃pix∈s,w84 m y pix/\f=(qg5 m y pix).1:=by
 grind [qg2,qn7,Option.some.inj]
theorem q38 {m:List (List Int)} {y:List Int} {k:Nat} {f:Fit} (h:f∈qg2 m y (qe9 (nL m 0).length (k:Nat))):f.1.length=k/\k<=m.length/\k<=(nL m 0).length:=by
 obtain⟨pix,h1,h2,rfl⟩:=q92 h
 have h3:=q5a h1
 have h4:=h2.rows
 rw[h2.fst]
 omega
theorem w0p {m:List (List Int)} {y:List Int}:∀K,∀f∈qi0 m y K,f.1.length<K
 | 0,f,h=>by cases h
 | K+1,f,h=>by
  rcases zak.1 h with h | h
  ·have:=w0p K f h; omega
  ·have:=q38 h; omega
theorem xp1 (m:List (List Int)) (y:List Int) {k:Int} (hk:0<=k):∀K,xn5 k (qi0 m y K)=qi0 m y (min K (fitsN m k))
 | 0=>by rfl
 | K+1=>by
  have hN:fitsN m k=(min (min k (nL m 0).length) m.length+1).toNat:=rfl
  rw[qi0]
  unfold xn5
  rw[List.filter_append]
  have ih:=xp1 m y hk K
  unfold xn5 at ih
  rw[ih]
  by_cases e:K<fitsN m k
  ·rw[show min K (fitsN m k)=K by omega,show min (K+1) (fitsN m k)=K+1 by omega,qi0]
   congr 1
   rw[List.filter_eq_self]
   intro f hf
   have:=q38 hf
   grind
  ·rw[show min K (fitsN m k)=fitsN m k by omega,show min (K+1) (fitsN m k)=fitsN m k by omega]
   rw[List.filter_eq_nil_iff.2 λf hf=>?_,zb8]
   have:=q38 hf
   grind
theorem x2h {m:List (List Int)} (y:List Int) {k:Int} (hk:0<=k) (h7:(nL m 0).length<=7):qe0 m y k=xn5 k (ya2 m y):=by
 rw[x75 y h7,xp1 m y hk]
 have hN:fitsN m k=(min (min k (nL m 0).length) m.length+1).toNat:=rfl
 grind [qe0,min,nL,fitsN]
theorem x76 {m:List (List Int)} {y:List Int} (hf:x1h m) (hM:Mk m) (h7:(nL m 0).length<=7):xn4 m y:=by
 have h1:=hM.rows1
 refine⟨ow,h7,λs hs=>y0f hf ?_⟩
 have:=((wy9 (n:=(nL m 0).length) (k:=128) h7 (zac _)).2 s hs).1
 omega
theorem x77 {m:List (List Int)} {y:List Int} (h:wc5 m y=0):Mk m:=Mk.of (w5o (pix:=[]) h).2
theorem w2x (m:List (List Int)) (y:List Int):qq8 m y []=wc5 m y:=by
 by_cases h:wc5 m y=0
 ·rw[(w5o h).1,h]; rfl
 grind [x71]
theorem w5v {m:List (List Int)} {y:List Int} {k:Int} (hf:x1h m) (hM:Mk m) (h7:(nL m 0).length<=7) (h0:0<=k) (h1:k<=10):qk5 m y k:=by
 have r1:=hM.rows1
 have r6:=hM.rows6
 refine⟨⟨h0,ow,ow,ow,ow,λj hj s hs=>?_⟩,?_⟩
 ·have:=q5a hs
  grind [xo9]
 grind [x2h,x2b,x76,xn5,ya2,List.length_filter_le]
theorem wi9 {m:List (List Int)} {y:List Int}:∀K,∀f∈qi0 m y K,∃pix,w84 m y pix/\f=(qg5 m y pix).1
 | 0,f,h=>by cases h
 | K+1,f,h=>by
  rcases zak.1 h with h | h
  ·exact wi9 K f h
  grind [q92]
theorem xp2 (f:Fit):∀i,whB f i=true↔∀j,j<i->(nQ f.2 j).2=1/\inB (nQ f.2 j).1 (0-1000000) 1000000=true
 | 0=>⟨λ_ j hj=>absurd hj (zar _),λ_=>rfl⟩
 | i+1=>by
  rw[whB,zax,xp2 f i]
  unfold shB
  grind
theorem q63 (l:List Int) {p:Nat} (hp:p<l.length) (x:Int) (q:Nat):nI (l.set p x) q=if q=p then x else nI l q:=by
 by_cases e:q=p
 ·subst e
  rw[zam rfl,qf3 _ _ (by grind),zdo]
 simp_all [if_neg,nI,qf0,List.getD_eq_getElem?_getD,List.getElem?_set_ne,Ne.symm]
theorem x5f {n:Nat} {f:Fit} (hn:Named n f.1):∀i,i<=f.1.length->∀j,j<i->nI (whX n f i) (nI f.1 j).toNat=(nQ f.2 j).1
 | 0,_,j,hj=>absurd hj (zar _)
 | i+1,hi,j,hj=>by
  have h1:=hn.at_ i ow
  rw[whX,q63 _ (by grind [q0t])]
  rcases zau.1 hj with q | q
  ·have h2:=hn.asc j i q ow
   have h3:=hn.at_ j ow
   rw[zaj ow]
   exact x5f hn i ow j q
  grind
theorem yi8 {m:List (List Int)} {y:List Int} {k:Int} (h:q1y m y k=0):wc5 m y=0/\0<=k/\k<=10:=by
 grind [q1y,w2x,qh1,absurd]
theorem w2y {m:List (List Int)} {y:List Int} {k:Int} {f:Fit} (hf:f∈qe0 m y k):Named (nL m 0).length f.1/\x70 (nL m 0).length f:=by
 obtain⟨pix,h1,rfl⟩:=wi9 _ f hf
 refine⟨?_,y0g h1⟩
 rw[h1.fst]
 exact(Asked.of h1.chk).nam
theorem y0h {m:List (List Int)} {y:List Int} {k:Int} (hf:x1h m) (hl:q06 m=true) (h:q1y m y k=0):wp0 m y k:=by
 obtain⟨h1,h2,h3⟩:=yi8 h
 have hM:=x77 h1
 exact⟨w5v hf hM (wo9 hl hM) h2 h3,λf hf=>(w2y hf).2⟩
abbrev tU64:Ty:=.int .u64
abbrev q3d:Ty:=.prod (.int .i64) (.int .u64)
theorem y0i {a:Int} (h0:0<=a) (h1:a<4294967296):IntKind.u64.wrap ((BitVec.ofInt 64 a &&& BitVec.ofInt 64 4294967295).toNat:Int)=a:=by
 have e1:(BitVec.ofInt 64 a).toNat=a.toNat:=by
  grind
 have e2:(BitVec.ofInt 64 4294967295).toNat=2 ^ 32-1:=by rfl
 rw[zej,e1,e2,zcm]
 grind [Nat.mod_eq_of_lt,Go.IntWalk.u64_in]
theorem y0j {a:Int} (h0:0<=a) (h1:a<4294967296):a.fdiv 4294967296=0:=by
 grind
theorem w2z {x:Int} (h0:0<=x) (h1:x<=18446744073709551615):fits IntKind.u64 x:=by
 grind [fits,Go.IntWalk.u64_in]
def lil (x:Int):Prop:=0<=x/\x<=2000000000
theorem x78 {x y:Int} (hx:lil x) (hy:lil y):0<=x*y/\x*y<=4000000000000000000:=
 ⟨za3 hx.1 hy.1,zby hx.2 hy.2 hy.1 dc⟩
abbrev y0k:qa8:=qd9 true none [tU64,tU64] [tU64,tU64] (λx=>lil x.1/\lil x.2.1) (λx=>(0,x.1*x.2.1,()))
theorem w85:Meets Tryz.prog 220 y0k:=by
 refine mt0 (SpecsOk.nil _) Tryz.func220 ?_
 rintro⟨x,y,⟨⟩⟩ h
 revert x y
 intro(x:Int) (y:Int) (h:lil x/\lil y)
 refine vcs ((0:Int)<=(32:Int)/\(0:Int)<=(32:Int)/\fits IntKind.u64 (IntKind.wrap IntKind.u64 (↑(BitVec.toNat (BitVec.ofInt (64:Nat) x &&& BitVec.ofInt (64:Nat) (4294967295:Int))):Int)*IntKind.wrap IntKind.u64 (↑(BitVec.toNat (BitVec.ofInt (64:Nat) y &&& BitVec.ofInt (64:Nat) (4294967295:Int))):Int))/\fits IntKind.u64 (Int.fdiv x (4294967296:Int)*IntKind.wrap IntKind.u64 (↑(BitVec.toNat (BitVec.ofInt (64:Nat) y &&& BitVec.ofInt (64:Nat) (4294967295:Int))):Int))/\(0:Int)<=(32:Int)/\fits IntKind.u64 (Int.fdiv x (4294967296:Int)*IntKind.wrap IntKind.u64 (↑(BitVec.toNat (BitVec.ofInt (64:Nat) y &&& BitVec.ofInt (64:Nat) (4294967295:Int))):Int)+Int.fdiv (IntKind.wrap IntKind.u64 (↑(BitVec.toNat (BitVec.ofInt (64:Nat) x &&& BitVec.ofInt (64:Nat) (4294967295:Int))):Int)*IntKind.wrap IntKind.u64 (↑(BitVec.toNat (BitVec.ofInt (64:Nat) y &&& BitVec.ofInt (64:Nat) (4294967295:Int))):Int)) (4294967296:Int))/\(0:Int)<=(32:Int)/\fits IntKind.u64 (IntKind.wrap IntKind.u64 (↑(BitVec.toNat (BitVec.ofInt (64:Nat) x &&& BitVec.ofInt (64:Nat) (4294967295:Int))):Int)*Int.fdiv y (4294967296:Int))/\fits IntKind.u64 (IntKind.wrap IntKind.u64 (↑(BitVec.toNat (BitVec.ofInt (64:Nat) (Int.fdiv x (4294967296:Int)*IntKind.wrap IntKind.u64 (↑(BitVec.toNat (BitVec.ofInt (64:Nat) y &&& BitVec.ofInt (64:Nat) (4294967295:Int))):Int)+Int.fdiv (IntKind.wrap IntKind.u64 (↑(BitVec.toNat (BitVec.ofInt (64:Nat) x &&& BitVec.ofInt (64:Nat) (4294967295:Int))):Int)*IntKind.wrap IntKind.u64 (↑(BitVec.toNat (BitVec.ofInt (64:Nat) y &&& BitVec.ofInt (64:Nat) (4294967295:Int))):Int)) (4294967296:Int)) &&& BitVec.ofInt (64:Nat) (4294967295:Int))):Int)+IntKind.wrap IntKind.u64 (↑(BitVec.toNat (BitVec.ofInt (64:Nat) x &&& BitVec.ofInt (64:Nat) (4294967295:Int))):Int)*Int.fdiv y (4294967296:Int))/\fits IntKind.u64 (Int.fdiv x (4294967296:Int)*Int.fdiv y (4294967296:Int))/\fits IntKind.u64 (Int.fdiv x (4294967296:Int)*Int.fdiv y (4294967296:Int)+Int.fdiv (Int.fdiv x (4294967296:Int)*IntKind.wrap IntKind.u64 (↑(BitVec.toNat (BitVec.ofInt (64:Nat) y &&& BitVec.ofInt (64:Nat) (4294967295:Int))):Int)+Int.fdiv (IntKind.wrap IntKind.u64 (↑(BitVec.toNat (BitVec.ofInt (64:Nat) x &&& BitVec.ofInt (64:Nat) (4294967295:Int))):Int)*IntKind.wrap IntKind.u64 (↑(BitVec.toNat (BitVec.ofInt (64:Nat) y &&& BitVec.ofInt (64:Nat) (4294967295:Int))):Int)) (4294967296:Int)) (4294967296:Int))/\(0:Int)<=(32:Int)/\fits IntKind.u64 (Int.fdiv x (4294967296:Int)*Int.fdiv y (4294967296:Int)+Int.fdiv (Int.fdiv x (4294967296:Int)*IntKind.wrap IntKind.u64 (↑(BitVec.toNat (BitVec.ofInt (64:Nat) y &&& BitVec.ofInt (64:Nat) (4294967295:Int))):Int)+Int.fdiv (IntKind.wrap IntKind.u64 (↑(BitVec.toNat (BitVec.ofInt (64:Nat) x &&& BitVec.ofInt (64:Nat) (4294967295:Int))):Int)*IntKind.wrap IntKind.u64 (↑(BitVec.toNat (BitVec.ofInt (64:Nat) y &&& BitVec.ofInt (64:Nat) (4294967295:Int))):Int)) (4294967296:Int)) (4294967296:Int)+Int.fdiv (IntKind.wrap IntKind.u64 (↑(BitVec.toNat (BitVec.ofInt (64:Nat) (Int.fdiv x (4294967296:Int)*IntKind.wrap IntKind.u64 (↑(BitVec.toNat (BitVec.ofInt (64:Nat) y &&& BitVec.ofInt (64:Nat) (4294967295:Int))):Int)+Int.fdiv (IntKind.wrap IntKind.u64 (↑(BitVec.toNat (BitVec.ofInt (64:Nat) x &&& BitVec.ofInt (64:Nat) (4294967295:Int))):Int)*IntKind.wrap IntKind.u64 (↑(BitVec.toNat (BitVec.ofInt (64:Nat) y &&& BitVec.ofInt (64:Nat) (4294967295:Int))):Int)) (4294967296:Int)) &&& BitVec.ofInt (64:Nat) (4294967295:Int))):Int)+IntKind.wrap IntKind.u64 (↑(BitVec.toNat (BitVec.ofInt (64:Nat) x &&& BitVec.ofInt (64:Nat) (4294967295:Int))):Int)*Int.fdiv y (4294967296:Int)) (4294967296:Int))/\fits IntKind.u64 (x*y)/\Int.fdiv x (4294967296:Int)*Int.fdiv y (4294967296:Int)+Int.fdiv (Int.fdiv x (4294967296:Int)*IntKind.wrap IntKind.u64 (↑(BitVec.toNat (BitVec.ofInt (64:Nat) y &&& BitVec.ofInt (64:Nat) (4294967295:Int))):Int)+Int.fdiv (IntKind.wrap IntKind.u64 (↑(BitVec.toNat (BitVec.ofInt (64:Nat) x &&& BitVec.ofInt (64:Nat) (4294967295:Int))):Int)*IntKind.wrap IntKind.u64 (↑(BitVec.toNat (BitVec.ofInt (64:Nat) y &&& BitVec.ofInt (64:Nat) (4294967295:Int))):Int)) (4294967296:Int)) (4294967296:Int)+Int.fdiv (IntKind.wrap IntKind.u64 (↑(BitVec.toNat (BitVec.ofInt (64:Nat) (Int.fdiv x (4294967296:Int)*IntKind.wrap IntKind.u64 (↑(BitVec.toNat (BitVec.ofInt (64:Nat) y &&& BitVec.ofInt (64:Nat) (4294967295:Int))):Int)+Int.fdiv (IntKind.wrap IntKind.u64 (↑(BitVec.toNat (BitVec.ofInt (64:Nat) x &&& BitVec.ofInt (64:Nat) (4294967295:Int))):Int)*IntKind.wrap IntKind.u64 (↑(BitVec.toNat (BitVec.ofInt (64:Nat) y &&& BitVec.ofInt (64:Nat) (4294967295:Int))):Int)) (4294967296:Int)) &&& BitVec.ofInt (64:Nat) (4294967295:Int))):Int)+IntKind.wrap IntKind.u64 (↑(BitVec.toNat (BitVec.ofInt (64:Nat) x &&& BitVec.ofInt (64:Nat) (4294967295:Int))):Int)*Int.fdiv y (4294967296:Int)) (4294967296:Int)=(0:Ty.den tU64)/\x*y=x*y/\True) ?_
 have hm:=x78 h.1 h.2
 obtain⟨⟨x0,x1⟩,y0,y1⟩:=h
 have e1:=y0i (a:=x) x0 ow
 have e2:=y0i (a:=y) y0 ow
 have d1:=y0j (a:=x) x0 ow
 have d2:=y0j (a:=y) y0 ow
 have d3:(x*y).fdiv 4294967296=(x*y) / 4294967296:=zb4 _ dc
 have q0:0<=(x*y) / 4294967296:=ow
 have q1:(x*y) / 4294967296<4294967296:=ow
 have e3:=y0i q0 q1
 have d4:=y0j q0 q1
 simp only[e1,e2,d1,d2,d3,Int.zero_mul,Int.mul_zero,Int.zero_add,Int.add_zero,e3,d4]
 have f0:fits IntKind.u64 0:=w2z dc dc
 have f1:fits IntKind.u64 (x*y):=w2z hm.1 ow
 have f2:fits IntKind.u64 ((x*y) / 4294967296):=w2z q0 ow
 grind
abbrev yi9:qa8:=qd9 true none [qc0] [tU64] (λx=>lil x.1) (λx=>(x.1,()))
theorem w20:Meets Tryz.prog 221 yi9:=by
 refine mt0 (SpecsOk.nil _) Tryz.func221 ?_
 rintro⟨x,⟨⟩⟩ h
 revert x
 intro(x:Int) (h:lil x)
 refine vcs ((decide (x<(0:Int))=true->fits IntKind.u64 x/\fits IntKind.u64 ((0:Int)-x)/\(0:Int)-x=x)/\(decide (x<(0:Int))=false->fits IntKind.u64 x/\x=x)) ?_
 obtain⟨h0,h1⟩:=h
 grind [absurd,w2z]
abbrev y5j:qa8:=qd9 true none [qc0,qc0] [q3d] (λx=>lil x.1/\lil x.2.1) (λx=>((0,x.1*x.2.1),()))
theorem xp3:Meets Tryz.prog 222 y5j:=by
 refine mt0 (SpecsOk.cons w85 (SpecsOk.cons w20 (SpecsOk.nil _))) Tryz.func222 ?_
 rintro⟨x,y,⟨⟩⟩ h
 revert x y
 intro(x:Int) (y:Int) (h:lil x/\lil y)
 refine vcs (lil x/\lil y/\(lil x/\lil y)/\fits .i64 (0:Ty.den tU64)/\((decide (x<(0:Int)) != decide (y<(0:Int)))=true->False)/\((decide (x<(0:Int)) != decide (y<(0:Int)))=false->(0:Ty.den tU64)=(0:Ty.den (Ty.int .i64))/\x*y=x*y/\True)) ?_
 have hx:=h.1.1
 have hy:=h.2.1
 refine⟨h.1,h.2,h,qa7 dc dc,λhn=>?_⟩
 grind
def qx8 (a b:Int × Int):Int:=if a.1=b.1/\a.2=b.2 then 0 else if a.1<b.1\/a.1=b.1/\a.2<b.2 then -1 else 1
abbrev y0l:qa8:=qd9 true none [q3d,q3d] [qc0] (λ_=>True) (λx=>(qx8 x.1 x.2.1,()))
theorem q21:Meets Tryz.prog 218 y0l:=by
 refine mt0 (SpecsOk.nil _) Tryz.func218 ?_
 rintro⟨⟨a,b⟩,⟨c,d⟩,⟨⟩⟩ -
 revert a b c d
 intro(a:Int) (b:Int) (c:Int) (d:Int)
 refine vcs (((a==c && b==d)=true->(0:Int)=qx8 (a,b) (c,d))/\((a==c && b==d)=false->(decide (a<c)=true->(-1:Int)=qx8 (a,b) (c,d))/\(decide (a<c)=false->((a==c)=true->(decide (b<d)=true->(-1:Int)=qx8 (a,b) (c,d))/\(decide (b<d)=false->(1:Int)=qx8 (a,b) (c,d)))/\((a==c)=false->(1:Int)=qx8 (a,b) (c,d))))) ?_
 rw[zax,beq_iff_eq,beq_iff_eq,zdj,ne_eq,zax,beq_iff_eq,beq_iff_eq]
 simp_all [qx8,if_pos,if_neg]
def wj0 (a b:Int × Int):Int:=if a.1*b.2=b.1*a.2 then 0 else if a.1*b.2<b.1*a.2 then -1 else 1
structure q25 (a:Int × Int):Prop where
 n:lil a.1
 d:lil a.2
 pos:1<=a.2
abbrev yj0:qa8:=qd9 true none [qx2,qx2] [qc0] (λx=>q25 x.1/\q25 x.2.1) (λx=>(wj0 x.1 x.2.1,()))
theorem w86:Meets Tryz.prog 173 yj0:=by
 refine mt0 (SpecsOk.cons xp3 (SpecsOk.cons q21 (SpecsOk.nil _))) Tryz.func173 ?_
 rintro⟨⟨a,b⟩,⟨c,d⟩,⟨⟩⟩ h
 revert a b c d
 intro(a:Int) (b:Int) (c:Int) (d:Int) (h:q25 (a,b)/\q25 (c,d))
 refine vcs ((decide (b<(1:Int))=true->(decide (d<(1:Int))=true->(lil a/\lil (1:Int))/\(lil c/\lil (1:Int))/\True/\qx8 ((0:Ty.den (Ty.int .i64)),a*(1:Int)) ((0:Ty.den (Ty.int .i64)),c*(1:Int))=wj0 (a,b) (c,d))/\(decide (d<(1:Int))=false->(lil a/\lil d)/\(lil c/\lil (1:Int))/\True/\qx8 ((0:Ty.den (Ty.int .i64)),a*d) ((0:Ty.den (Ty.int .i64)),c*(1:Int))=wj0 (a,b) (c,d)))/\(decide (b<(1:Int))=false->(decide (d<(1:Int))=true->(lil a/\lil (1:Int))/\(lil c/\lil b)/\True/\qx8 ((0:Ty.den (Ty.int .i64)),a*(1:Int)) ((0:Ty.den (Ty.int .i64)),c*b)=wj0 (a,b) (c,d))/\(decide (d<(1:Int))=false->(lil a/\lil d)/\(lil c/\lil b)/\True/\qx8 ((0:Ty.den (Ty.int .i64)),a*d) ((0:Ty.den (Ty.int .i64)),c*b)=wj0 (a,b) (c,d)))) ?_
 obtain⟨⟨h1,h2,h3⟩,⟨h4,h5,h6⟩⟩:=h
 grind [absurd,qx8,wj0]
theorem w87:Meets Tryz.prog 123 yj0:=by
 refine mt0 (SpecsOk.cons w86 (SpecsOk.nil _)) Tryz.func123 ?_
 rintro⟨⟨a,b⟩,⟨c,d⟩,⟨⟩⟩ h
 revert a b c d
 intro(a:Int) (b:Int) (c:Int) (d:Int) (h:q25 (a,b)/\q25 (c,d))
 refine vcr ((q25 (a,b)/\q25 (c,d))/\wj0 (a,b) (c,d)=wj0 (a,b) (c,d)) ?_
 grind
theorem y0m {a:Int} (h0:0<=a) (h1:a<18446744073709551616):IntKind.u64.wrap ((BitVec.ofInt 64 a &&& BitVec.ofInt 64 4294967295).toNat:Int)=a % 4294967296:=by
 have e1:(BitVec.ofInt 64 a).toNat=a.toNat:=by
  rw[BitVec.toNat_ofInt]
  omega
 have e2:(BitVec.ofInt 64 4294967295).toNat=2 ^ 32-1:=dc
 rw[zej,e1,e2,zcm]
 have e4:((a.toNat % 2 ^ 32:Nat):Int)=a % 4294967296:=ow
 rw[e4]
 exact zee _ ow
theorem xp4 {a:Int} (h0:0<=a):a.fdiv 4294967296=a / 4294967296:=zb4 _ dc
theorem wc6 (n:Int):IntKind.u64.wrap n=n % 18446744073709551616:=rfl
def hiU (n:Int):Int:=n / 18446744073709551616
def loU (n:Int):Int:=n % 18446744073709551616
def spl (n:Int):Int × Int:=(hiU n,loU n)
abbrev y0n:qa8:=qd9 true none [tU64,tU64] [tU64,tU64] (λx=>(0<=x.1/\x.1<18446744073709551616)/\0<=x.2.1/\x.2.1<18446744073709551616) (λx=>((spl (x.1*x.2.1)).1,(spl (x.1*x.2.1)).2,()))
theorem wj1:Meets Tryz.prog 220 y0n:=by
 refine meets (y3k [50] (SpecsOk.nil _)) Tryz.func220 rfl rfl (λ_ _=>none) (λ_=>by kernel_rfl) dc ?_
 rintro⟨x,y,⟨⟩⟩ h
 revert x y
 intro(x:Int) (y:Int) (h:(0<=x/\x<18446744073709551616)/\0<=y/\y<18446744073709551616)
 refine vcs ((0:Int)<=(32:Int)/\(0:Int)<=(32:Int)/\fits IntKind.u64 (IntKind.wrap IntKind.u64 (↑(BitVec.toNat (BitVec.ofInt (64:Nat) x &&& BitVec.ofInt (64:Nat) (4294967295:Int))):Int)*IntKind.wrap IntKind.u64 (↑(BitVec.toNat (BitVec.ofInt (64:Nat) y &&& BitVec.ofInt (64:Nat) (4294967295:Int))):Int))/\fits IntKind.u64 (Int.fdiv x (4294967296:Int)*IntKind.wrap IntKind.u64 (↑(BitVec.toNat (BitVec.ofInt (64:Nat) y &&& BitVec.ofInt (64:Nat) (4294967295:Int))):Int))/\(0:Int)<=(32:Int)/\fits IntKind.u64 (Int.fdiv x (4294967296:Int)*IntKind.wrap IntKind.u64 (↑(BitVec.toNat (BitVec.ofInt (64:Nat) y &&& BitVec.ofInt (64:Nat) (4294967295:Int))):Int)+Int.fdiv (IntKind.wrap IntKind.u64 (↑(BitVec.toNat (BitVec.ofInt (64:Nat) x &&& BitVec.ofInt (64:Nat) (4294967295:Int))):Int)*IntKind.wrap IntKind.u64 (↑(BitVec.toNat (BitVec.ofInt (64:Nat) y &&& BitVec.ofInt (64:Nat) (4294967295:Int))):Int)) (4294967296:Int))/\(0:Int)<=(32:Int)/\fits IntKind.u64 (IntKind.wrap IntKind.u64 (↑(BitVec.toNat (BitVec.ofInt (64:Nat) x &&& BitVec.ofInt (64:Nat) (4294967295:Int))):Int)*Int.fdiv y (4294967296:Int))/\fits IntKind.u64 (IntKind.wrap IntKind.u64 (↑(BitVec.toNat (BitVec.ofInt (64:Nat) (Int.fdiv x (4294967296:Int)*IntKind.wrap IntKind.u64 (↑(BitVec.toNat (BitVec.ofInt (64:Nat) y &&& BitVec.ofInt (64:Nat) (4294967295:Int))):Int)+Int.fdiv (IntKind.wrap IntKind.u64 (↑(BitVec.toNat (BitVec.ofInt (64:Nat) x &&& BitVec.ofInt (64:Nat) (4294967295:Int))):Int)*IntKind.wrap IntKind.u64 (↑(BitVec.toNat (BitVec.ofInt (64:Nat) y &&& BitVec.ofInt (64:Nat) (4294967295:Int))):Int)) (4294967296:Int)) &&& BitVec.ofInt (64:Nat) (4294967295:Int))):Int)+IntKind.wrap IntKind.u64 (↑(BitVec.toNat (BitVec.ofInt (64:Nat) x &&& BitVec.ofInt (64:Nat) (4294967295:Int))):Int)*Int.fdiv y (4294967296:Int))/\fits IntKind.u64 (Int.fdiv x (4294967296:Int)*Int.fdiv y (4294967296:Int))/\fits IntKind.u64 (Int.fdiv x (4294967296:Int)*Int.fdiv y (4294967296:Int)+Int.fdiv (Int.fdiv x (4294967296:Int)*IntKind.wrap IntKind.u64 (↑(BitVec.toNat (BitVec.ofInt (64:Nat) y &&& BitVec.ofInt (64:Nat) (4294967295:Int))):Int)+Int.fdiv (IntKind.wrap IntKind.u64 (↑(BitVec.toNat (BitVec.ofInt (64:Nat) x &&& BitVec.ofInt (64:Nat) (4294967295:Int))):Int)*IntKind.wrap IntKind.u64 (↑(BitVec.toNat (BitVec.ofInt (64:Nat) y &&& BitVec.ofInt (64:Nat) (4294967295:Int))):Int)) (4294967296:Int)) (4294967296:Int))/\(0:Int)<=(32:Int)/\fits IntKind.u64 (Int.fdiv x (4294967296:Int)*Int.fdiv y (4294967296:Int)+Int.fdiv (Int.fdiv x (4294967296:Int)*IntKind.wrap IntKind.u64 (↑(BitVec.toNat (BitVec.ofInt (64:Nat) y &&& BitVec.ofInt (64:Nat) (4294967295:Int))):Int)+Int.fdiv (IntKind.wrap IntKind.u64 (↑(BitVec.toNat (BitVec.ofInt (64:Nat) x &&& BitVec.ofInt (64:Nat) (4294967295:Int))):Int)*IntKind.wrap IntKind.u64 (↑(BitVec.toNat (BitVec.ofInt (64:Nat) y &&& BitVec.ofInt (64:Nat) (4294967295:Int))):Int)) (4294967296:Int)) (4294967296:Int)+Int.fdiv (IntKind.wrap IntKind.u64 (↑(BitVec.toNat (BitVec.ofInt (64:Nat) (Int.fdiv x (4294967296:Int)*IntKind.wrap IntKind.u64 (↑(BitVec.toNat (BitVec.ofInt (64:Nat) y &&& BitVec.ofInt (64:Nat) (4294967295:Int))):Int)+Int.fdiv (IntKind.wrap IntKind.u64 (↑(BitVec.toNat (BitVec.ofInt (64:Nat) x &&& BitVec.ofInt (64:Nat) (4294967295:Int))):Int)*IntKind.wrap IntKind.u64 (↑(BitVec.toNat (BitVec.ofInt (64:Nat) y &&& BitVec.ofInt (64:Nat) (4294967295:Int))):Int)) (4294967296:Int)) &&& BitVec.ofInt (64:Nat) (4294967295:Int))):Int)+IntKind.wrap IntKind.u64 (↑(BitVec.toNat (BitVec.ofInt (64:Nat) x &&& BitVec.ofInt (64:Nat) (4294967295:Int))):Int)*Int.fdiv y (4294967296:Int)) (4294967296:Int))/\Int.fdiv x (4294967296:Int)*Int.fdiv y (4294967296:Int)+Int.fdiv (Int.fdiv x (4294967296:Int)*IntKind.wrap IntKind.u64 (↑(BitVec.toNat (BitVec.ofInt (64:Nat) y &&& BitVec.ofInt (64:Nat) (4294967295:Int))):Int)+Int.fdiv (IntKind.wrap IntKind.u64 (↑(BitVec.toNat (BitVec.ofInt (64:Nat) x &&& BitVec.ofInt (64:Nat) (4294967295:Int))):Int)*IntKind.wrap IntKind.u64 (↑(BitVec.toNat (BitVec.ofInt (64:Nat) y &&& BitVec.ofInt (64:Nat) (4294967295:Int))):Int)) (4294967296:Int)) (4294967296:Int)+Int.fdiv (IntKind.wrap IntKind.u64 (↑(BitVec.toNat (BitVec.ofInt (64:Nat) (Int.fdiv x (4294967296:Int)*IntKind.wrap IntKind.u64 (↑(BitVec.toNat (BitVec.ofInt (64:Nat) y &&& BitVec.ofInt (64:Nat) (4294967295:Int))):Int)+Int.fdiv (IntKind.wrap IntKind.u64 (↑(BitVec.toNat (BitVec.ofInt (64:Nat) x &&& BitVec.ofInt (64:Nat) (4294967295:Int))):Int)*IntKind.wrap IntKind.u64 (↑(BitVec.toNat (BitVec.ofInt (64:Nat) y &&& BitVec.ofInt (64:Nat) (4294967295:Int))):Int)) (4294967296:Int)) &&& BitVec.ofInt (64:Nat) (4294967295:Int))):Int)+IntKind.wrap IntKind.u64 (↑(BitVec.toNat (BitVec.ofInt (64:Nat) x &&& BitVec.ofInt (64:Nat) (4294967295:Int))):Int)*Int.fdiv y (4294967296:Int)) (4294967296:Int)=(spl (x*y)).1/\IntKind.wrap IntKind.u64 (x*y)=(spl (x*y)).2/\True) ?_
 obtain⟨⟨x0,x1⟩,y0,y1⟩:=h
 simp only[y0m x0 x1,y0m y0 y1,xp4 x0,xp4 y0]
 have hmul:∀u v:Int,0<=u->u<=4294967295->0<=v->v<=4294967295->0<=u*v/\u*v<=18446744065119617025:=λu v a1 a2 a3 a4=>⟨za3 a1 a3,zcu (zby a2 a4 a3 dc) dc⟩
 have P:=hmul (x % 4294967296) (y % 4294967296) ow ow ow ow
 have Q:=hmul (x / 4294967296) (y % 4294967296) ow ow ow ow
 have R:=hmul (x % 4294967296) (y / 4294967296) ow ow ow ow
 have S:=hmul (x / 4294967296) (y / 4294967296) ow ow ow ow
 have hxy:x*y=(x / 4294967296)*(y / 4294967296)*18446744073709551616+((x / 4294967296)*(y % 4294967296)+(x % 4294967296)*(y / 4294967296))*4294967296+(x % 4294967296)*(y % 4294967296):=by
  have e1:x=4294967296*(x / 4294967296)+x % 4294967296:=ow
  have e2:y=4294967296*(y / 4294967296)+y % 4294967296:=ow
  generalize x / 4294967296=a at e1 ⊢
  generalize x % 4294967296=b at e1 ⊢
  generalize y / 4294967296=c at e2 ⊢
  generalize y % 4294967296=d at e2 ⊢
  rw[e1,e2]
  grind
 rw[wc6 (x*y)]
 unfold spl hiU loU
 generalize x*y=xy at hxy ⊢
 generalize x % 4294967296*(y % 4294967296)=p at P hxy ⊢
 generalize x / 4294967296*(y % 4294967296)=q at Q hxy ⊢
 generalize x % 4294967296*(y / 4294967296)=r at R hxy ⊢
 generalize x / 4294967296*(y / 4294967296)=s at S hxy ⊢
 have t0:0<=q+p / 4294967296:=ow
 have t1:q+p / 4294967296<18446744073709551616:=ow
 simp only[xp4 P.1,y0m t0 t1,xp4 t0]
 have u0:0<=(q+p / 4294967296) % 4294967296+r:=ow
 simp only[xp4 u0]
 refine⟨w2z ow ow,w2z ow ow,w2z ow ow,w2z ow ow,w2z ow ow,w2z ow ow,w2z ow ow,w2z ow ow,?_,trivial⟩
 (try dsimp only); omega
abbrev y0o:qa8:=qd9 true none [qc0] [tU64] (λx=>qe5 BIG x.1) (λx=>((x.1.natAbs:Int),()))
theorem wj2:Meets Tryz.prog 221 y0o:=by
 refine meets (y3k [6,7] (SpecsOk.nil _)) Tryz.func221 rfl rfl (λ_ _=>none) (λ_=>by kernel_rfl) dc ?_
 rintro⟨x,⟨⟩⟩ h
 revert x
 intro(x:Int) (h:qe5 BIG x)
 refine vcs ((decide (x<(0:Int))=true->IntKind.wrap IntKind.u64 ((0:Int)-IntKind.wrap IntKind.u64 x)=(↑(Int.natAbs x):Int))/\(decide (x<(0:Int))=false->fits IntKind.u64 x/\x=(↑(Int.natAbs x):Int))) ?_
 have hB:BIG=4000000000000000000:=rfl
 unfold qe5 at h
 refine⟨λhl=>?_,λhl=>⟨w2z ow ow,ow⟩⟩
 rw[wc6,wc6]; omega
structure qw4 (a b:Int):Prop where
 fa:qe5 BIG a
 fb:qe5 BIG b
 sg:decide (a<0)=decide (b<0)
abbrev y0p:qa8:=qd9 true none [qc0,qc0] [q3d] (λx=>qw4 x.1 x.2.1) (λx=>(spl (x.1*x.2.1),()))
theorem w88:Meets Tryz.prog 222 y0p:=by
 refine mt0 (SpecsOk.cons wj1 (SpecsOk.cons wj2 (SpecsOk.nil _))) Tryz.func222 ?_
 rintro⟨x,y,⟨⟩⟩ h
 revert x y
 intro(x:Int) (y:Int) (h:qw4 x y)
 refine vcs (let Q0:=Int.natAbs y; let Q1:=Int.natAbs x; qe5 BIG x/\qe5 BIG y/\(((0:Ty.den tU64)<=(↑Q1:Int)/\(↑Q1:Int)<(18446744073709551616:Ty.den tU64))/\(0:Ty.den tU64)<=(↑Q0:Int)/\(↑Q0:Int)<(18446744073709551616:Ty.den tU64))/\fits .i64 (spl ((↑Q1:Int)*(↑Q0:Int))).1/\((decide (x<(0:Int)) != decide (y<(0:Int)))=true->False)/\((decide (x<(0:Int)) != decide (y<(0:Int)))=false->(spl ((↑Q1:Int)*(↑Q0:Int))).1=(spl (x*y)).1/\(spl ((↑Q1:Int)*(↑Q0:Int))).2=(spl (x*y)).2/\True)) ?_
 have hB:BIG=4000000000000000000:=rfl
 obtain⟨hx,hy,hs⟩:=h
 have e:(x.natAbs:Int)*(y.natAbs:Int)=x*y:=by
  rw[decide_eq_decide] at hs
  rcases zc7 x 0 with q | q
  ·rw[show((x.natAbs:Nat):Int)=-x by omega,show((y.natAbs:Nat):Int)=-y by omega,Int.neg_mul_neg]
  ·rw[show((x.natAbs:Nat):Int)=x by omega,show((y.natAbs:Nat):Int)=y by omega]
 have hb:0<=x*y/\x*y<=16000000000000000000000000000000000000:=by
  unfold qe5 at hx hy
  rw[<- e]
  exact⟨za3 ow ow,zcu (zby (show(x.natAbs:Int)<=4000000000000000000 by omega) (show(y.natAbs:Int)<=4000000000000000000 by omega) ow dc) dc⟩
 rw[e]
 unfold spl hiU loU
 refine⟨hx,hy,?_,qa7 (by(try dsimp only); omega) (by(try dsimp only); omega),λq=>absurd hs q,λ_=>⟨rfl,rfl⟩⟩
 unfold qe5 at hx hy
 omega
open Go Go.RowKit Eng Ls
def y3m (args:Array Value):Sem Value:=do
 let (x, y, c) <- Extern.MathBitsCarry.three "Add64" args
 pure (Extern.MathBitsCarry.pair ((x+y+c) % Extern.MathBitsCarry.m64) ((x+y+c) / Extern.MathBitsCarry.m64))
def y3n (args:Array Value):Sem Value:=do
 let (x, y, b) <- Extern.MathBitsCarry.three "Sub64" args
 pure (Extern.MathBitsCarry.pair ((x+Extern.MathBitsCarry.m64-y-b) % Extern.MathBitsCarry.m64) (if x<y+b then 1 else 0))
theorem yj1 (x y c:Int) (hx:0<=x) (hy:0<=y) (hc0:0<=c) (hc:c<=1) (w:World):(callFunc 267 #[.int .u64 x,.int .u64 y,.int .u64 c]).run Tryz.prog w =
  .ok (.value (.tuple #[.int .u64 ((x+y+c) % 18446744073709551616),.int .u64 ((x+y+c) / 18446744073709551616)])) w:=by
 obtain⟨x,rfl⟩:=zba hx
 obtain⟨y,rfl⟩:=zba hy
 obtain⟨c,rfl⟩:=zba hc0
 have h:(y3m #[.int .u64 x,.int .u64 y,.int .u64 c]).run Tryz.prog w=.ok (.tuple #[.int .u64 (((x+y+c) % 18446744073709551616:Nat):Int),.int .u64 (((x+y+c) / 18446744073709551616:Nat):Int)]) w:=by
  have:c=0\/c=1:=ow
  rcases this with rfl | rfl <;> rfl
 rw[run_callFunc_extern Tryz.func267 kr kr kr (e:=y3m) kr,h]
 rfl
theorem y0q (x y b:Int) (hx:0<=x) (hy:0<=y) (hy':y<18446744073709551616) (hb0:0<=b) (hb:b<=1) (w:World):(callFunc 219 #[.int .u64 x,.int .u64 y,.int .u64 b]).run Tryz.prog w =
  .ok (.value (.tuple #[.int .u64 ((x-y-b) % 18446744073709551616),.int .u64 (if x<y+b then 1 else 0)])) w:=by
 obtain⟨x,rfl⟩:=zba hx
 obtain⟨y,rfl⟩:=zba hy
 obtain⟨b,rfl⟩:=zba hb0
 have e1:(((x+18446744073709551616-y-b) % 18446744073709551616:Nat):Int)=((x:Int)-y-b) % 18446744073709551616:=ow
 have e2:((if x<y+b then 1 else 0:Nat):Int)=if(x:Int)<y+b then 1 else 0:=by grind
 have h:(y3n #[.int .u64 x,.int .u64 y,.int .u64 b]).run Tryz.prog w=.ok (.tuple #[.int .u64 (((x+18446744073709551616-y-b) % 18446744073709551616:Nat):Int),.int .u64 ((if x<y+b then 1 else 0:Nat):Int)]) w:=by
  have:b=0\/b=1:=ow
  rcases this with rfl | rfl <;> rfl
 rw[run_callFunc_extern Tryz.func219 kr kr kr (e:=y3n) kr,h,e1,e2]
 rfl
theorem x79 (x y:Int) (hx:0<=x) (hy:0<=y) (w:World):(callFunc 267 #[.int .u64 x,.int .u64 y,.int .u64 0]).run Tryz.prog w =
  .ok (.value (.tuple #[.int .u64 ((x+y) % 18446744073709551616),.int .u64 ((x+y) / 18446744073709551616)])) w:=by
 simp_all [yj1,Int.le_refl]
theorem xp5 (y b:Int) (hy:0<=y) (hy':y<18446744073709551616) (hb0:0<=b) (hb:b<=1) (w:World):(callFunc 219 #[.int .u64 0,.int .u64 y,.int .u64 b]).run Tryz.prog w =
  .ok (.value (.tuple #[.int .u64 ((0-y-b) % 18446744073709551616),.int .u64 (if 0<y+b then 1 else 0)])) w:=y0q 0 y b (zbs 0) hy hy' hb0 hb w
def yo6 (x:Int):Int:=if 0<x then 1 else 0
def val (w:Int × Int):Int:=w.1*18446744073709551616+w.2
structure Wd (w:Int × Int):Prop where
 h:qe5 2305843009213693952 w.1
 l0:0<=w.2
 l1:w.2<18446744073709551616
theorem Wd.spl {w:Int × Int} (h:Wd w):Go.Proofs.YtnchigbbjajiiaaGreat.spl (Go.Proofs.YtnchigbbjajiiaaGreat.val w)=w:=by
 obtain⟨a,b⟩:=w
 obtain⟨h1,h2,h3⟩:=h
 unfold qe5 at h1
 grind [Go.Proofs.YtnchigbbjajiiaaGreat.spl,hiU,loU,Go.Proofs.YtnchigbbjajiiaaGreat.val,Prod.mk.injEq]
theorem q0v (n:Int):val (spl n)=n:=by grind [val,spl,hiU,loU]
abbrev y5k:qa8:=qd9 true none [q3d,q3d] [q3d] (λx=>Wd x.1/\Wd x.2.1) (λx=>(spl (val x.1+val x.2.1),()))
set_option maxRecDepth 100000 in
theorem x8a (ah al bh bl:Int) (ha:Wd (ah,al)) (hb:Wd (bh,bl)) (w:World) :
  Calls Tryz.prog 217 #[.agg #[.int .i64 ah,.int .u64 al],.agg #[.int .i64 bh,.int .u64 bl]] w λe w'=>
   e=.returned (.agg #[.int .i64 (spl (val (ah,al)+val (bh,bl))).1,.int .u64 (spl (val (ah,al)+val (bh,bl))).2])/\Below w.heap.size w w':=by
 obtain⟨a1,a2,a3⟩:=ha
 obtain⟨b1,b2,b3⟩:=hb
 unfold qe5 at a1 b1
 dsimp only at a1 a2 a3 b1 b2 b3
 have k0:0<=(al+bl) / 18446744073709551616:=ow
 have k1:(al+bl) / 18446744073709551616<=1:=ow
 have c0:0<=IntKind.u64.wrap ah:=by grind [wc6]
 have d0:0<=IntKind.u64.wrap bh:=by grind [wc6]
 go_enter Tryz.func217,Tryz.ntmps217
 go_wp2_with (first | simp only[x79 al bl a2 b2] | simp only[yj1 _ _ _ c0 d0 k0 k1])
 simp[bodyPost,results,Tryz.results217,go_sem]
 refine⟨⟨?_,?_⟩,((below_alloc w _).alloc (by simp) _).alloc (by simp; omega) _⟩
 ·rw[wc6,wc6]; unfold wrap64 spl hiU loU val; omega
 grind [spl,hiU,loU,val]
theorem w0q:Meets Tryz.prog 217 y5k:=q2r ⟨_,_,Tryz.func217,rfl,rfl⟩ λw m x vs hm hp hx=>by
 obtain⟨⟨ah,al⟩,⟨bh,bl⟩,⟨⟩⟩:=x
 obtain⟨u,rest,rfl,⟨cs,rfl,us,vs,rfl,rfl,rfl⟩,u',rest',rfl,⟨cs,rfl,us,vs,rfl,rfl,rfl⟩,rfl⟩:=hx
 refine(x8a ah al bh bl hp.1 hp.2 w).mono λe w' ⟨h1,h2⟩=>⟨_,h1,h2,_,rfl,_,[],rfl,⟨_,rfl,[_],[_],rfl,rfl,rfl⟩,rfl⟩
abbrev y5l:qa8:=qd9 true none [q3d] [q3d] (λx=>Wd x.1) (λx=>(spl (-val x.1),()))
set_option maxRecDepth 100000 in
theorem x8c (ah al:Int) (ha:Wd (ah,al)) (w:World) :
  Calls Tryz.prog 169 #[.agg #[.int .i64 ah,.int .u64 al]] w λe w'=>
   e=.returned (.agg #[.int .i64 (spl (-val (ah,al))).1,.int .u64 (spl (-val (ah,al))).2])/\Below w.heap.size w w':=by
 obtain⟨a1,a2,a3⟩:=ha
 unfold qe5 at a1
 dsimp only at a1 a2 a3
 have c0:0<=IntKind.u64.wrap ah:=by grind [wc6]
 have c1:IntKind.u64.wrap ah<18446744073709551616:=by grind [wc6]
 have k0:(0:Int)<=(if 0<al then 1 else 0):=ow
 have k1:(if 0<al then 1 else 0:Int)<=1:=ow
 have s0:∀w:World,(callFunc 219 #[.int .u64 0,.int .u64 al,.int .u64 0]).run Tryz.prog w=.ok (.value (.tuple #[.int .u64 ((0-al) % 18446744073709551616),.int .u64 (yo6 al)])) w:=λw=>by
  simp_all [xp5,Int.le_refl,yo6]
 have s1:=xp5 (IntKind.u64.wrap ah) (yo6 al) c0 c1 k0 k1
 go_enter Tryz.func169,Tryz.ntmps169
 go_wp2_with (first | simp only[s0] | simp only[s1])
 all_goals
  simp[bodyPost,results,Tryz.results169,go_sem]
  refine⟨⟨?_,?_⟩,(below_alloc w _).alloc (by simp) _⟩
  ·rw[wc6]; unfold wrap64 spl hiU loU val yo6; omega
  grind [spl,hiU,loU,val]
theorem w0r:Meets Tryz.prog 169 y5l:=q2r ⟨_,_,Tryz.func169,rfl,rfl⟩ λw m x vs hm hp hx=>by
 obtain⟨⟨ah,al⟩,⟨⟩⟩:=x
 obtain⟨u,rest,rfl,⟨cs,rfl,us,vs,rfl,rfl,rfl⟩,rfl⟩:=hx
 refine(x8c ah al hp w).mono λe w' ⟨h1,h2⟩=>⟨_,h1,h2,_,rfl,_,[],rfl,⟨_,rfl,[_],[_],rfl,rfl,rfl⟩,rfl⟩
end Go.Proofs.YtnchigbbjajiiaaGreat
