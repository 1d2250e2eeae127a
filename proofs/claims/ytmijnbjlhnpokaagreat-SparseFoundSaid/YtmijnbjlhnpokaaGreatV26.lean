/- Fits collected, the sparsest ones, whole ones: contracts by the engine. No condition. -/
import Derived.Test.YtmijnbjlhnpokaaGreatProg
import Derived.Test.YtmijnbjlhnpokaaGreatApp
import Derived.Test.YtmijnbjlhnpokaaGreatEng3
import Derived.Test.YtmijnbjlhnpokaaGreatV12
set_option linter.unusedVariables false
namespace Go.Proofs.YtmijnbjlhnpokaaGreat
open Go Go.RowKit Ls Eng
theorem ye4:Elt Tryz.prog 34 3 (.int .i64 0) 1 8:=⟨Tryz.underlying34,by kernel_rfl⟩
theorem w8w (w:World) (t:TypeId):(w.alloc (.cells #[] t)).ownsRow w.heap.size t 1 (.slice (some ⟨w.heap.size,0,none⟩) 0 0) 0 []:=
 ⟨rfl,.inr ⟨w.heap.size,0,#[],rfl,Nat.le_refl _,heap_alloc_new w _,Nat.le_refl _,by unfold maxLen; omega,rfl,rfl⟩⟩
set_option maxRecDepth 100000 in
set_option maxHeartbeats 400000 in
theorem clone_any (X:Option Addr) (k d:Nat) (l:List Int) (w:World) (hl:SI w X k d l) (hk:k<=100000) :
  Calls Tryz.prog 105 #[.slice X k d] w λe w'=>∃A' c',e=.returned (.slice A' k c')/\w'.ownsRow w.heap.size 3 1 (.slice A' k c') k (ints l)/\Below w.heap.size w w':=by
 have hll:=hidx hl.len
 cases X with
 | none=>
  have h0:k=0:=by
   rcases Nat.eq_zero_or_pos k with h | h
   ·exact h
   ·obtain⟨ad,e,_⟩:=hl.at_ h; cases e
  subst h0
  have hl0:l=[]:=List.eq_nil_of_length_eq_zero hll.out
  subst hl0
  have hq:=λw=>Lib.run_eql_slice_nil (P:=Tryz.prog) w 34 3 none 0 d 0 0 Tryz.underlying34
  go_enter Tryz.func105,Tryz.ntmps105
  go_wp2
  go_ret
  exact⟨none,0,rfl,World.ownsRow_nil _ _ _ _,Below.refl _ _⟩
 | some ad=>
  have sv:=hl.values
  have o1:=xl3 l
  have hq:=λw=>Lib.run_eql_slice_nil (P:=Tryz.prog) w 34 3 (some ad) k d 0 0 Tryz.underlying34
  go_enter Tryz.func105,Tryz.ntmps105
  go_wp2_with (at_builtin; refine ye3 _ ye4 rfl rfl _ _ rfl rfl rfl (w8w _ _) (below_alloc _ _) (Nat.le_refl _) (sv.below (below_alloc _ _)) o1 (by omega) (by omega) ?_; intro A2 c2 w2 hown2 hb2 _; rw[Nat.zero_add] at hown2)
  go_ret
  exact⟨A2,c2,rfl,by simpa using hown2,hb2⟩
abbrev x3j:qb9:=qg2 true (some 3) [.list (.int .i64)] [.list (.int .i64)] (λx=>x.1.length<=100000) (λx=>(x.1,()))
theorem rdL_ints (m:View):∀l:List Int,RdL m (.int .i64) l (ints l)
 | []=>rfl
 | x :: l=>⟨[.int .i64 x],ints l,rfl,rfl,rdL_ints m l⟩
theorem wx5:Meets Tryz.prog 105 x3j:=by
 refine⟨⟨_,_,Tryz.func105,rfl,rfl⟩,λw m args vs k hm hargs hrun=>?_⟩
 obtain⟨⟨l,⟨⟩⟩,⟨hp,hk⟩,hx⟩:=qt5 hrun hargs
 have hp:l.length<=100000:=hp
 obtain⟨u,us,rfl,h1,h2⟩:=hx
 obtain rfl:us=[]:=h2
 obtain⟨A,c,rfl,hSI⟩:=xw9 hm (show Rd m (.list (.int .i64)) l [u] from h1)
 refine(clone_any A l.length c l w hSI hp).mono λe w' ⟨A',c',e1,e2,e3⟩=>?_
 exact⟨_,λ_=>none,e1,e3,(λb o h=>by cases h),(λb o h=>by cases h),.inl ⟨.int .i64,l,ints l,hk,e2,rdL_ints _ l,λ_ _=>rfl⟩⟩
end Go.Proofs.YtmijnbjlhnpokaaGreat
set_option linter.unusedSimpArgs false
namespace Go.Proofs.YtmijnbjlhnpokaaGreat
open Go Go.RowKit Eng
theorem w19 (t:Ty) (a b:List t.den) (hl:a.length=b.length) (h:∀i,i<a.length->qd4 t a i=qd4 t b i):a=b:=by
 apply List.ext_getElem hl
 intro i h1 h2
 have:=h i h1
 rwa [qj8 a i h1,qj8 b i h2] at this
def x3k (r:Int × Int):Bool:=decide (1<=r.2) && decide (r.2<=400) && decide (-10000000000<=r.1) && decide (r.1<=10000000000) && (qd8 r.1 r.2==1)
def xr9 (v:List (Int × Int)):Bool:=v.any λr=>!x3k r || r.1==0
def ya6 (f:List Int × List (Int × Int)):Bool:=decide (f.1.length=f.2.length) && !xr9 f.2 && xj9 f.1
abbrev tQ:Ty:=.prod (.list (.list (.int .i64))) (.list (.int .i64))
abbrev x3l:qb9:=qg2 true none [ya1] [.bool] (λ_=>True) (λx=>(x.1.1==0,()))
theorem w4q:Meets Tryz.prog 240 x3l:=by
 refine meets (snd (SpecsOk.nil _)) Tryz.func240 rfl rfl (λ_ _=>none) (λ_=>by kernel_rfl) (by decide) ?_
 rintro⟨r,⟨⟩⟩ -
 revert r
 intro(r:Int × Int)
 refine @qe1 _ ((r.1==(0:Int))=(r.1==(0:Ty.den (Ty.int .i64)))) (by kernel_rfl) ?_
 try simp only[z0,z1,z2,z3,z4,z5,z6,z7,z8,z9,z10,Int.reduceEq,z11,z12,z13,z14,z15,z16,z17,z18,z19,z20,z21,z22,z23,z24,z25,z26,z27,z28,z29,z30,Int.reduceLE,Int.reduceLT,z31,z32,z33,z34,qa3]
 try simp only[qb5,qb6,qd0,z31,z32,z2,z1]
 done
abbrev x7e:qb9:=qg2 true none [tQ] [tInt] (λx=>0<x.1.1.length) (λx=>((nL x.1.1 0).length,()))
theorem q9z:Meets Tryz.prog 144 x7e:=by
 refine meets (snd (SpecsOk.nil _)) Tryz.func144 rfl rfl (λ_ _=>none) (λ_=>by kernel_rfl) (by decide) ?_
 rintro⟨q,⟨⟩⟩ h
 revert q
 intro(q:List (List Int) × List Int) (h:0<q.1.length)
 refine @qe1 _ (((0:Int)<=(0:Int)/\(0:Int)<(↑q.1.length:Int))/\(↑(nL q.1 (0:Nat)).length:Int)=(↑(nL q.1 (0:Nat)).length:Int)) (by kernel_rfl) ?_
 try simp only[z0,z1,z2,z3,z4,z5,z6,z7,z8,z9,z10,Int.reduceEq,z11,z12,z13,z14,z15,z16,z17,z18,z19,z20,z21,z22,z23,z24,z25,z26,z27,z28,z29,z30,Int.reduceLE,Int.reduceLT,z31,z32,z33,z34,qa3]
 try simp only[qb5,qb6,qd0,z31,z32,z2,z1]
 omega
def qp2 (m:List (List Int)) (y pix:List Int):(List Int × List (Int × Int)) × Bool:=if(q1a m pix y).2≠0\/((q1a m pix y).1.any λr=>r.1==0)=true then(([],[]),false) else((pix,(q1a m pix y).1),true)
abbrev x7g:qb9:=qg2 true none [tQ,tInts] [wf5,.bool] (λx=>q3w x.1.1 x.2.1 x.1.2/\x.2.1.length<=100000) (λx=>((qp2 x.1.1 x.1.2 x.2.1).1,(qp2 x.1.1 x.1.2 x.2.1).2,()))
theorem xl4 {m:List (List Int)} {pix y:List Int} (h:q3w m pix y):(q1a m pix y).1.length<=1000000:=by
 unfold q1a
 split
 ·rename_i he
  have hA:=Asked.of he
  have hO:=h.ok he
  unfold wu0
  split
  ·simp
  ·split
   ·simp
   ·have hsh:=(qs7 hO.red pix.length).piv
    rw[show(qc8 m pix y).length=m.length from ql8 _ _ _] at hsh
    have:=hA.msk.rows6
    have e:(q0c m pix y).2.length=(qa4 (qc8 m pix y) pix.length).2.length:=rfl
    simp
    omega
 ·simp
theorem w8x:Meets Tryz.prog 215 x7g:=by
 refine meets (snd (SpecsOk.cons w8v (SpecsOk.cons wx5 (SpecsOk.cons (w77 (fs:=[(240,x3l)]) (SpecsOk.cons w4q (SpecsOk.nil _))) (SpecsOk.nil _))))) Tryz.func215 rfl rfl (λ_ _=>none) (λ_=>by kernel_rfl) (by decide) ?_
 rintro⟨q,pix,⟨⟩⟩ h
 revert q pix
 intro(q:List (List Int) × List Int) (pix:List Int) (h:q3w q.1 pix q.2/\pix.length<=100000)
 refine @qe1 _ (let Q0:=qp2 q.1 q.2 pix; let Q1:=q1a q.1 pix q.2; q3w q.1 pix q.2/\((Q1.2 != (0:Int))=true->(Q0.1.1=[]/\Q0.1.2=[]/\True)/\false=Q0.2/\True)/\((Q1.2 != (0:Int))=false->∃(v1:qa5 [Ty.prod (Ty.int .i64) (Ty.int .i64)]->Prop),∃(v2:qa5 [Ty.prod (Ty.int .i64) (Ty.int .i64)]->Bool),(∀(v3:(Int × Int) × qa5._f [] PUnit.unit),v1 v3->True/\(v3.1.1==(0:Ty.den (Ty.int .i64)))=v2 v3)/\(Q1.1.length<=(1000000:Nat)/\∀(v3:Nat),v3<Q1.1.length->v1 (qd4 (Ty.prod (Ty.int .i64) (Ty.int .i64)) Q1.1 v3,()))/\((List.any Q1.1 λ(v4:Int × Int)=>v2 (v4,()))=true->(Q0.1.1=[]/\Q0.1.2=[]/\True)/\false=Q0.2/\True)/\((List.any Q1.1 λ(v4:Int × Int)=>v2 (v4,()))=false->pix.length<=(100000:Nat)/\(pix=Q0.1.1/\Q1.1=Q0.1.2/\True)/\true=Q0.2/\True))) (by kernel_rfl) ?_
 try simp only[z0,z1,z2,z3,z4,z5,z6,z7,z8,z9,z10,Int.reduceEq,z11,z12,z13,z14,z15,z16,z17,z18,z19,z20,z21,z22,z23,z24,z25,z26,z27,z28,z29,z30,Int.reduceLE,Int.reduceLT,z31,z32,z33,z34,qa3]
 try simp only[qb5,qb6,qd0,z31,z32,z2,z1]
 obtain⟨hp,hl⟩:=h
 refine⟨hp,λh1=>by simp[qp2,h1],λh1=>⟨λ_=>True,λx=>x.1.1==0,λ_ _=>rfl,⟨?_,λ_ _=>trivial⟩,λh2=>?_,λh2=>⟨hl,?_⟩⟩⟩
 ·exact xl4 hp
 ·have h2:((q1a q.1 pix q.2).1.any λr=>r.1==0)=true:=h2
  unfold qp2; rw[if_pos (.inr h2)]; exact⟨⟨rfl,rfl⟩,rfl⟩
 ·have h2:((q1a q.1 pix q.2).1.any λr=>r.1==0)=false:=h2
  unfold qp2; rw[if_neg (by rw[h1,h2]; simp)]; exact⟨⟨rfl,rfl⟩,rfl⟩
def q90 (m:List (List Int)) (y:List Int) (f:List Int × List (Int × Int)):Bool:=ya6 f && decide (qr5 m y f.1=0) && (qp2 m y f.1).2 && decide ((qp2 m y f.1).1.2=f.2)
def qr7 (l:List Int):List Int:=l.map λn=>n.tdiv (max (gcdL l) 1)
def q7q (l:List Int) (n:Int):List Int:=l.map λk=>k*n
structure x7h (l:List Int) (n:Int):Prop where
 len:l.length<=1000
 big:∀i,i<l.length->qd6 BIG (nI l i*n)
def wp5 (r p:List Int) (j:Nat):List Int:=(List.range r.length).map λk=>nI r k*nI p j-nI p k*nI r j
def qi6 (r p:List Int) (j:Nat):List Int:=qr7 (wp5 r p j)
structure x7i (r p:List Int) (j:Nat):Prop where
 len:r.length<=1000
 eq:p.length=r.length
 lt:j<r.length
 b1:∀k,k<r.length->qd6 BIG (nI r k*nI p j)
 b2:∀k,k<r.length->qd6 BIG (nI p k*nI r j)
 b3:∀k,k<r.length->qd6 BIG (nI r k*nI p j-nI p k*nI r j)
def q91 (n d:Int):Int × Int:=(n.tdiv (qd8 n d),d.tdiv (qd8 n d))
def qg3 (m:List (List Int)) (pix:List Int):List (List Int):=(List.range m.length).map λi=>qu4 (nL m i) pix
theorem q1b (m:List (List Int)) (pix:List Int):(qg3 m pix).length=m.length:=by simp[qg3]
theorem qj6 (m:List (List Int)) (pix:List Int) (i:Nat) (hi:i<m.length):nL (qg3 m pix) i=qu4 (nL m i) pix:=by
 rw[qp9 _ _ (by rw[q1b]; exact hi)]; simp[qg3]
structure x7j (m:List (List Int)) (pix:List Int):Prop where
 rows:m.length<=10000
 cols:pix.length<=10000
 at_:∀i,i<m.length->∀j,j<pix.length->0<=nI pix j/\nI pix j<(nL m i).length
def lastTo (left:List (List Int)) (j:Nat):Nat->Int
 | 0=>-1
 | i+1=>if nI (nL left i) j≠0 then(i:Int) else lastTo left j i
def q26 (left:List (List Int)) (j:Nat) (at_:Int):List Int:=if nI (nL left at_.toNat) j<0 then q7q (nL left at_.toNat) (-1) else nL left at_.toNat
def qr2 (left:List (List Int)) (p:List Int) (j:Nat) (at_:Int):Nat->List (List Int)
 | 0=>[]
 | i+1=>if(i:Int)≠at_ then qr2 left p j at_ i++[qi6 (nL left i) p j] else qr2 left p j at_ i
structure RS where
 left:List (List Int)
 done_:List (List Int)
 piv:List Int
def q8r (s:RS) (j:Nat):RS:=
 if lastTo s.left j s.left.length<0 then s
 else⟨qr2 s.left (q26 s.left j (lastTo s.left j s.left.length)) j (lastTo s.left j s.left.length) s.left.length,(s.done_.map λr=>qi6 r (q26 s.left j (lastTo s.left j s.left.length)) j)++[q26 s.left j (lastTo s.left j s.left.length)],s.piv++[(j:Int)]⟩
def qg7 (rows:List (List Int)):Nat->RS
 | 0=>⟨rows.map qr7,[],[]⟩
 | j+1=>q8r (qg7 rows j) j
def rdW (rows:List (List Int)):Nat:=(nL rows 0).length
def qf0 (rows:List (List Int)):List (List Int) × List Int:=((qg7 rows (rdW rows)).done_,(qg7 rows (rdW rows)).piv)
structure x3m (s:RS) (j:Nat):Prop where
 sca:nI (nL s.left (lastTo s.left j s.left.length).toNat) j<0->x7h (nL s.left (lastTo s.left j s.left.length).toNat) (-1)
 wo:∀i,i<s.left.length->(i:Int)≠lastTo s.left j s.left.length->x7i (nL s.left i) (q26 s.left j (lastTo s.left j s.left.length)) j
 woD:∀i,i<s.done_.length->x7i (nL s.done_ i) (q26 s.left j (lastTo s.left j s.left.length)) j
structure x7k (rows:List (List Int)):Prop where
 n:rows.length<=1000
 w:rdW rows<=1000
 each:∀i,i<rows.length->(nL rows i).length=rdW rows
 big:∀i,i<rows.length->wh0 (nL rows i)
 step:∀j,j<rdW rows->0<=lastTo (qg7 rows j).left j (qg7 rows j).left.length->x3m (qg7 rows j) j
theorem qt9 (l:List Int):(qr7 l).length=l.length:=by simp[qr7]
theorem qv3 (r p:List Int) (j:Nat):(qi6 r p j).length=r.length:=by unfold qi6; rw[qt9]; simp[wp5]
theorem qo1 (l:List Int) (n:Int):(q7q l n).length=l.length:=by simp[q7q]
theorem q1c (left:List (List Int)) (j:Nat):∀k:Nat,lastTo left j k<k/\-1<=lastTo left j k
 | 0=>⟨by show(-1:Int)<0; omega,by show(-1:Int)<=-1; omega⟩
 | k+1=>by
  have:=q1c left j k
  rw[lastTo]
  split <;> omega
theorem q2a (left:List (List Int)) (p:List Int) (j:Nat) (a:Int):∀k,∀x∈qr2 left p j a k,∃i,i<k/\(i:Int)≠a/\x=qi6 (nL left i) p j
 | 0,x,hx=>by cases hx
 | k+1,x,hx=>by
  rw[qr2] at hx
  split at hx
  ·rename_i hne
   rcases List.mem_append.1 hx with hx | hx
   ·obtain⟨i,h1,h2,h3⟩:=q2a left p j a k x hx
    exact⟨i,by omega,h2,h3⟩
   ·exact⟨k,by omega,hne,by simpa using hx⟩
  ·obtain⟨i,h1,h2,h3⟩:=q2a left p j a k x hx
   exact⟨i,by omega,h2,h3⟩
theorem q92 (left:List (List Int)) (p:List Int) (j:Nat) (a:Int):∀k,(qr2 left p j a k).length<=k
 | 0=>Nat.le_refl _
 | k+1=>by
  have:=q92 left p j a k
  rw[qr2]
  split
  ·simp; omega
  ·omega
structure RdSh (n W j:Nat) (s:RS):Prop where
 ln:s.left.length<=n
 le:∀x∈s.left,x.length=W
 dn:s.done_.length<=j
 de:∀x∈s.done_,x.length=W
 pn:s.piv.length<=j
theorem qs2 (m:List (List Int)) (i:Nat) (h:i<m.length):nL m i∈m:=by rw[qp9 m i h]; exact List.getElem_mem h
theorem xl5 {n W j:Nat} {s:RS} (h:RdSh n W j s) (a:Int) (ha:0<=a) (hb:a<s.left.length):(q26 s.left j a).length=W:=by
 unfold q26
 have:=h.le _ (qs2 s.left a.toNat (by omega))
 split
 ·rw[qo1]; exact this
 ·exact this
theorem RdSh.step {n W j:Nat} {s:RS} (h:RdSh n W j s):RdSh n W (j+1) (q8r s j):=by
 unfold q8r
 have hl:=q1c s.left j s.left.length
 generalize lastTo s.left j s.left.length=a at *
 split
 ·exact⟨h.ln,h.le,by have:=h.dn; omega,h.de,by have:=h.pn; omega⟩
 ·have hp:=xl5 h a (by omega) hl.1
  refine⟨Nat.le_trans (q92 _ _ _ _ _) h.ln,λx hx=>?_,by have:=h.dn; simp; omega,λx hx=>?_,by have:=h.pn; simp; omega⟩
  ·obtain⟨i,h1,_,rfl⟩:=q2a _ _ _ _ _ x hx
   rw[qv3]; exact h.le _ (qs2 _ _ h1)
  ·rcases List.mem_append.1 hx with hx | hx
   ·obtain⟨y,hy,rfl⟩:=List.mem_map.1 hx
    rw[qv3]; exact h.de y hy
   ·rw[List.mem_singleton.1 hx]; exact hp
theorem wp6 {rows:List (List Int)} {j:Nat} {s:RS} (h:qg7 rows j=s) (h0:s.left=[]):∀k,qg7 rows (j+k)=s
 | 0=>h
 | k+1=>by
  rw[<- Nat.add_assoc,qg7,wp6 h h0 k,q8r,if_pos]
  rw[h0]; exact(by decide:(-1:Int)<0)
def x3n (a b:List (Ty.den (.int .i64))):Nat->Option Inv
 | 0=>some (Inv.of [13] 0 (λk:Nat=>[(13,.lit (.int .i64 k))]) (λ_=>[]) (λk=>k<=a.length/\∀i,i<k->qd4 (.int .i64) a i=qd4 (.int .i64) b i) (λk=>a.length-k))
 | _=>none
abbrev x7l:qb9:=qg2 true none [.list (.int .i64),.list (.int .i64)] [.bool] (λx=>x.1.length<=1000000) (λx=>(decide (x.1=x.2.1),()))
theorem w4r:Meets Tryz.prog 41 x7l:=by
 refine meets (snd (SpecsOk.nil _)) Tryz.func41 rfl rfl (λx=>x3n x.1 x.2.1) (λ_=>by kernel_rfl) (by decide) ?_
 rintro⟨a,b,⟨⟩⟩ h
 revert a b
 intro(a:List (Ty.den (.int .i64))) (b:List (Ty.den (.int .i64))) (h:a.length<=1000000)
 refine @qe1 _ ((((↑a.length:Int) != (↑b.length:Int))=true->false=decide (a=b))/\(((↑a.length:Int) != (↑b.length:Int))=false->∃(v1:Unit),∃(v2:Nat),(v2<=a.length/\∀(v3:Nat),Nat.le (Nat.succ v3) v2->nI a v3=nI b v3)/\(((0:Int)=(↑v2:Int)/\True)/\True)/\∀(v3:Nat),(v3<=a.length/\∀(v5:Nat),Nat.le (Nat.succ v5) v3->nI a v5=nI b v5)->(decide ((↑v3:Int)<(↑a.length:Int))=true->((0:Int)<=(↑v3:Int)/\(↑v3:Int)<(↑a.length:Int))/\((0:Int)<=(↑v3:Int)/\(↑v3:Int)<(↑b.length:Int))/\((nI a v3 != nI b v3)=true->false=decide (a=b))/\((nI a v3 != nI b v3)=false->fits .i64 ((↑v3:Int)+(1:Int))/\∃(v7:Nat),(v7<=a.length/\∀(v8:Nat),Nat.le (Nat.succ v8) v7->nI a v8=nI b v8)/\a.length-v7<a.length-v3/\((↑v3:Int)+(1:Int)=(↑v7:Int)/\True)/\True))/\(decide ((↑v3:Int)<(↑a.length:Int))=false->true=decide (a=b)))) (by kernel_rfl) ?_
 try simp only[z0,z1,z2,z3,z4,z5,z6,z7,z8,z9,z10,Int.reduceEq,z11,z12,z13,z14,z15,z16,z17,z18,z19,z20,z21,z22,z23,z24,z25,z26,z27,z28,z29,z30,Int.reduceLE,Int.reduceLT,z31,z32,z33,z34,qa3]
 try simp only[qb5,qb6,qd0,z31,z32,z2,z1]
 refine⟨λhl=>?_,λhl=>?_⟩
 ·rw[decide_eq_false]; intro e; subst e; exact hl rfl
 ·refine⟨(),0,⟨Nat.zero_le _,λi hi=>absurd hi (by omega)⟩,rfl,λk ⟨hk,hall⟩=>⟨λhlt=>⟨hlt,by omega,λhne=>?_,λhe=>⟨qa9 (by omega) (by omega),k+1,⟨by omega,λi hi=>?_⟩,by omega,by omega⟩⟩,λhge=>?_⟩⟩
  ·rw[decide_eq_false]; intro e; subst e; first | exact hne rfl | (revert hne; simp)
  ·by_cases e:i=k
   ·subst e; first | exact he | (refine Prod.ext ?_ ?_ <;> simp_all)
   ·exact hall i (by omega)
  ·exact(decide_eq_true (w19 _ a b (by omega) λi hi=>hall i (by omega))).symm
def x3o (a b:List (Ty.den (.prod (.int .i64) (.int .i64)))):Nat->Option Inv
 | 0=>some (Inv.of [13] 0 (λk:Nat=>[(13,.lit (.int .i64 k))]) (λ_=>[]) (λk=>k<=a.length/\∀i,i<k->qd4 (.prod (.int .i64) (.int .i64)) a i=qd4 (.prod (.int .i64) (.int .i64)) b i) (λk=>a.length-k))
 | _=>none
abbrev x7m:qb9:=qg2 true none [.list (.prod (.int .i64) (.int .i64)),.list (.prod (.int .i64) (.int .i64))] [.bool] (λx=>x.1.length<=1000000) (λx=>(decide (x.1=x.2.1),()))
theorem w4s:Meets Tryz.prog 30 x7m:=by
 refine meets (snd (SpecsOk.nil _)) Tryz.func30 rfl rfl (λx=>x3o x.1 x.2.1) (λ_=>by kernel_rfl) (by decide) ?_
 rintro⟨a,b,⟨⟩⟩ h
 revert a b
 intro(a:List (Ty.den (.prod (.int .i64) (.int .i64)))) (b:List (Ty.den (.prod (.int .i64) (.int .i64)))) (h:a.length<=1000000)
 refine @qe1 _ ((((↑a.length:Int) != (↑b.length:Int))=true->false=decide (a=b))/\(((↑a.length:Int) != (↑b.length:Int))=false->∃(v1:Unit),∃(v2:Nat),(v2<=a.length/\∀(v3:Nat),Nat.le (Nat.succ v3) v2->qd4 (Ty.prod (Ty.int .i64) (Ty.int .i64)) a v3=qd4 (Ty.prod (Ty.int .i64) (Ty.int .i64)) b v3)/\(((0:Int)=(↑v2:Int)/\True)/\True)/\∀(v3:Nat),(v3<=a.length/\∀(v5:Nat),Nat.le (Nat.succ v5) v3->qd4 (Ty.prod (Ty.int .i64) (Ty.int .i64)) a v5=qd4 (Ty.prod (Ty.int .i64) (Ty.int .i64)) b v5)->(decide ((↑v3:Int)<(↑a.length:Int))=true->((0:Int)<=(↑v3:Int)/\(↑v3:Int)<(↑a.length:Int))/\((0:Int)<=(↑v3:Int)/\(↑v3:Int)<(↑b.length:Int))/\((!((qd4 (Ty.prod (Ty.int .i64) (Ty.int .i64)) a v3).1==(qd4 (Ty.prod (Ty.int .i64) (Ty.int .i64)) b v3).1 && (qd4 (Ty.prod (Ty.int .i64) (Ty.int .i64)) a v3).2==(qd4 (Ty.prod (Ty.int .i64) (Ty.int .i64)) b v3).2))=true->false=decide (a=b))/\((!((qd4 (Ty.prod (Ty.int .i64) (Ty.int .i64)) a v3).1==(qd4 (Ty.prod (Ty.int .i64) (Ty.int .i64)) b v3).1 && (qd4 (Ty.prod (Ty.int .i64) (Ty.int .i64)) a v3).2==(qd4 (Ty.prod (Ty.int .i64) (Ty.int .i64)) b v3).2))=false->fits .i64 ((↑v3:Int)+(1:Int))/\∃(v7:Nat),(v7<=a.length/\∀(v8:Nat),Nat.le (Nat.succ v8) v7->qd4 (Ty.prod (Ty.int .i64) (Ty.int .i64)) a v8=qd4 (Ty.prod (Ty.int .i64) (Ty.int .i64)) b v8)/\a.length-v7<a.length-v3/\((↑v3:Int)+(1:Int)=(↑v7:Int)/\True)/\True))/\(decide ((↑v3:Int)<(↑a.length:Int))=false->true=decide (a=b)))) (by kernel_rfl) ?_
 try simp only[z0,z1,z2,z3,z4,z5,z6,z7,z8,z9,z10,Int.reduceEq,z11,z12,z13,z14,z15,z16,z17,z18,z19,z20,z21,z22,z23,z24,z25,z26,z27,z28,z29,z30,Int.reduceLE,Int.reduceLT,z31,z32,z33,z34,qa3]
 try simp only[qb5,qb6,qd0,z31,z32,z2,z1]
 refine⟨λhl=>?_,λhl=>?_⟩
 ·rw[decide_eq_false]; intro e; subst e; exact hl rfl
 ·refine⟨(),0,⟨Nat.zero_le _,λi hi=>absurd hi (by omega)⟩,rfl,λk ⟨hk,hall⟩=>⟨λhlt=>⟨hlt,by omega,λhne=>?_,λhe=>⟨qa9 (by omega) (by omega),k+1,⟨by omega,λi hi=>?_⟩,by omega,by omega⟩⟩,λhge=>?_⟩⟩
  ·rw[decide_eq_false]; intro e; subst e; first | exact hne rfl | (revert hne; simp)
  ·by_cases e:i=k
   ·subst e; first | exact he | (refine Prod.ext ?_ ?_ <;> simp_all)
   ·exact hall i (by omega)
  ·exact(decide_eq_true (w19 _ a b (by omega) λi hi=>hall i (by omega))).symm
structure q7r (f:List Int × List (Int × Int)):Prop where
 pix:f.1.length<=1000000
 val:f.2.length<=1000000
def q1d (f g:List Int × List (Int × Int)):Bool:=decide (f.1=g.1) && decide (f.2=g.2)
abbrev x3p:qb9:=qg2 true none [wf5,wf5] [.bool] (λx=>q7r x.1) (λx=>(q1d x.1 x.2.1,()))
theorem q7s:Meets Tryz.prog 42 x3p:=by
 refine meets (snd (SpecsOk.cons w4r (SpecsOk.cons w4s (SpecsOk.nil _)))) Tryz.func42 rfl rfl (λ_ _=>none) (λ_=>by kernel_rfl) (by decide) ?_
 rintro⟨f,g,⟨⟩⟩ h
 revert f g
 intro(f:List Int × List (Int × Int)) (g:List Int × List (Int × Int)) (h:q7r f)
 refine @qe1 _ (f.1.length<=(1000000:Nat)/\(decide (f.1=g.1)=true->f.2.length<=(1000000:Nat)/\decide (f.2=g.2)=q1d f g)/\(decide (f.1=g.1)=false->false=q1d f g)) (by kernel_rfl) ?_
 try simp only[z0,z1,z2,z3,z4,z5,z6,z7,z8,z9,z10,Int.reduceEq,z11,z12,z13,z14,z15,z16,z17,z18,z19,z20,z21,z22,z23,z24,z25,z26,z27,z28,z29,z30,Int.reduceLE,Int.reduceLT,z31,z32,z33,z34,qa3]
 try simp only[qb5,qb6,qd0,z31,z32,z2,z1]
 exact⟨h.pix,λe=>⟨h.val,by simp[q1d,e]⟩,λe=>by simp[q1d,e]⟩
abbrev x7n:Ty:=.list (.prod (.list (.int .i64)) (.list (.prod (.int .i64) (.int .i64))))
def nF (l:List (List Int × List (Int × Int))) (i:Nat):List Int × List (Int × Int):=qd4 (.prod (.list (.int .i64)) (.list (.prod (.int .i64) (.int .i64)))) l i
def x3q (s:List Int):Int:=if 0<s.length then nI s (s.length-1)+1 else 0
def x3r (n:Nat) (s:List Int):List (List Int):=(List.range ((n:Int)-x3q s).toNat).map λt:Nat=>s++[x3q s+t]
def qs3 (n:Nat):Nat->List (List Int)
 | 0=>[[]]
 | k+1=>if k<(qs3 n k).length then qs3 n k++x3r n (nL (qs3 n k) k) else qs3 n k
def w4t (n:Nat):List (List Int):=qs3 n 128
theorem q93 (n k:Nat):∀j,∃t,qs3 n (k+j)=qs3 n k++t
 | 0=>⟨[],by simp⟩
 | j+1=>by
  obtain⟨t,ht⟩:=q93 n k j
  rw[<- Nat.add_assoc,qs3]
  split
  ·exact⟨t++x3r n (nL (qs3 n (k+j)) (k+j)),by rw[<- List.append_assoc,<- ht]⟩
  ·exact⟨t,ht⟩
def w8y (n:Nat):Bool:=decide ((qs3 n 128).length<=128) && (qs3 n 128).all λs=>decide (s.length<=7) && s.all λx=>decide (0<=x) && decide (x<n)
theorem wx6:((List.range 8).all λn=>w8y n)=true:=by decide +kernel
theorem w4u {n:Nat} (h:n<=7):(qs3 n 128).length<=128/\∀s∈qs3 n 128,s.length<=7/\∀x∈s,0<=x/\x<n:=by
 have:=List.all_eq_true.1 wx6 n (List.mem_range.2 (by omega))
 unfold w8y at this
 rw[Bool.and_eq_true,decide_eq_true_eq,List.all_eq_true] at this
 refine⟨this.1,λs hs=>?_⟩
 have h2:=this.2 s hs
 rw[Bool.and_eq_true,decide_eq_true_eq,List.all_eq_true] at h2
 refine⟨h2.1,λx hx=>?_⟩
 have:=h2.2 x hx
 simpa using this
theorem wp7 {n k:Nat} (h:n<=7) (hk:k<=128):(qs3 n k).length<=128/\∀s∈qs3 n k,s.length<=7/\∀x∈s,0<=x/\x<n:=by
 obtain⟨t,ht⟩:=q93 n k (128-k)
 rw[show k+(128-k)=128 by omega] at ht
 have:=w4u h
 rw[ht] at this
 refine⟨by have:=this.1; simp at this; omega,λs hs=>this.2 s (by simp[hs])⟩
def q3x (piv:List Int) (f:Nat):Nat->Bool
 | 0=>true
 | k+1=>q3x piv f k && (nI piv k != (f:Int))
def w4v (d:List (List Int)) (piv:List Int) (k:Nat):Int:=nI (nL d k) (nI piv k).toNat
def q4u (d:List (List Int)) (piv:List Int):Nat->Int
 | 0=>1
 | k+1=>(q4u d piv k).tdiv (qd8 (q4u d piv k) (w4v d piv k))*w4v d piv k
def xy4 (d:List (List Int)) (piv:List Int) (n f:Nat):Nat->List Int
 | 0=>(List.replicate n 0).set f (q4u d piv piv.length)
 | k+1=>(xy4 d piv n f k).set (nI piv k).toNat ((0-nI (nL d k) f)*(q4u d piv piv.length).tdiv (w4v d piv k))
def q7t (d:List (List Int)) (piv:List Int) (n:Nat):Nat->List (List Int)
 | 0=>[]
 | f+1=>if q3x piv f piv.length then q7t d piv n f++[qr7 (xy4 d piv n f piv.length)] else q7t d piv n f
def qk0 (rows:List (List Int)):List (List Int):=q7t (qf0 rows).1 (qf0 rows).2 (rdW rows) (rdW rows)
def qg5 (n:Nat) (set v:List Int):Nat->List Int
 | 0=>List.replicate n 0
 | j+1=>(qg5 n set v j).set (nI set j).toNat (nI v j)
def q8s (l:List (List Int)):Bool:=decide (l.length=1) && !((nL l 0).any λe=>(0:Int)==e)
def x5f (m:List (List Int)) (n:Nat) (set:List Int):List Int:=q7o (qg5 n set (nL (ql9 m set) 0) set.length)
def qr3 (m:List (List Int)) (n:Nat) (L:List (List Int)):Nat->List (List Int)
 | 0=>[]
 | c+1=>if q8s (ql9 m (nL L c)) then qr3 m n L c++[x5f m n (nL L c)] else qr3 m n L c
def q3y (m:List (List Int)) (n:Nat):Nat->List (List Int)
 | 0=>[]
 | k+1=>q3y m n k++qr3 m n (qe7 n (k+1:Nat)) (qe7 n (k+1:Nat)).length
def q7u (m:List (List Int)):Nat:=min ((qh1 m (q06 (nL m 0).length)).2.length+1) (nL m 0).length
def q4v (m:List (List Int)):List (List Int) × Int:=if validB m=false then([],1) else(q3y m (nL m 0).length (q7u m),0)
structure wp8 (m:List (List Int)):Prop where
 rank:wp3 m
 ker:∀k,k<(nL m 0).length->∀set∈qe7 (nL m 0).length (k+1:Nat),w4n m set
abbrev ye5:qb9:=qg2 true none [tMask] [tMask,tInt] (λx=>validB x.1=true->wp8 x.1) (λx=>((q4v x.1).1,(q4v x.1).2,()))
def x7o (m:List (List Int)) (n:Nat):Nat->Option Inv
 | 0=>some (Inv.of [30] 4 (λk:Nat=>[(30,.lit (.int .i64 k))]) (λk=>[.box 23 (.cons (.dat (.list (.int .i64)) m) .nil),.box 3 (.cons (.lit (.int .i64 n)) .nil),.box 22 (.cons (.msl 3 .none) .nil),.mat 34 3 (.int .i64) (q3y m n k) .none .none]) (λk=>k<=q7u m) (λk=>q7u m-k))
 | 1=>some (Eng.Inv.mk Nat Nat [] 4 (λ_ _=>[]) (λk c=>[.box 23 (.cons (.dat (.list (.int .i64)) m) .nil),.box 3 (.cons (.lit (.int .i64 n)) .nil),.box 22 (.cons (.msl 3 .none) .nil),.mat 34 3 (.int .i64) (q3y m n k++qr3 m n (qe7 n (k+1:Nat)) c) .none .none]) (λk c=>c<=(qe7 n (k+1:Nat)).length) (λk c=>c))
 | 2=>some (Eng.Inv.mk (q8m × Nat × Nat × List Int) Nat [9,11,52,54] 6 (λq j=>[(9,.msl 4 (some 0)),(11,.own 5),(52,.msl 4 (some 0)),(54,.lit (.int .i64 j))]) (λq j=>[.box 23 (.cons (.dat (.list (.int .i64)) m) .nil),.box 3 (.cons (.lit (.int .i64 n)) .nil),.box 22 (.cons (.msl 3 .none) .nil),.mat 34 3 (.int .i64) (q3y m n q.2.1++qr3 m n (qe7 n (q.2.1+1:Nat)) q.2.2.1) .none .none,.mat 3 3 (.int .i64) [q.2.2.2] (some []) (some q.1),.vec 3 (.int .i64) (qg5 n q.2.2.2 (nL (ql9 m q.2.2.2) 0) j)]) (λq j=>j<=q.2.2.2.length) (λq j=>q.2.2.2.length-j))
 | _=>none
def x7p (mats em:List Nat) (specs:List (Nat × qb9)) (muts:List (Nat × qp4)) (its:List (Nat × q0m)):Ctx:={ specs:=specs,tys:=tys,wr:=[],muts:=muts,mats:=mats,em:=em,its:=its }
theorem x7q (mats em:List Nat) {specs:List (Nat × qb9)} {muts:List (Nat × qp4)} {its:List (Nat × q0m)} (h:SpecsOk Tryz.prog specs) (hm:MutsOk muts) (hi:ItsOk its):Sound Tryz.prog (x7p mats em specs muts its):=SpecsOk.sound h q2h (by kernel_rfl) hi (hmu:=hm)
theorem q7v (m:List (List Int)) (n:Nat) (L:List (List Int)):∀c,(qr3 m n L c).length<=c
 | 0=>Nat.le_refl _
 | c+1=>by
  have:=q7v m n L c
  rw[qr3]
  split
  ·simp; omega
  ·omega
theorem wx7:((List.range 11).all λn=>(List.range 12).all λk=>decide ((qe7 (n:Nat) (k:Nat)).length<=1000))=true:=by decide +kernel
theorem wp9 (n k:Nat) (hn:n<=10) (hk:k<=11):(qe7 (n:Nat) (k:Nat)).length<=1000:=
 of_decide_eq_true (List.all_eq_true.1 (List.all_eq_true.1 wx7 n (List.mem_range.2 (by omega))) k (List.mem_range.2 (by omega)))
theorem w2a (m:List (List Int)) (n:Nat) (hn:n<=10):∀k,k<=11->(q3y m n k).length<=1000*k
 | 0,_=>Nat.le_refl _
 | k+1,hk=>by
  have h1:=w2a m n hn k (by omega)
  have h2:=wp9 n (k+1) hn hk
  have h3:=q7v m n (qe7 (n:Nat) (k+1:Nat)) (qe7 (n:Nat) (k+1:Nat)).length
  rw[q3y,List.length_append]
  omega
theorem q7w {R:List (List Int)} {P:List Int} {n:Nat} (h:w8s R P n) (hn:n<=1000):∀f,f<=n->∀x∈qo5 R P n f,x.length=n/\wh0 x
 | 0,_,x,hx=>by cases hx
 | f+1,hf,x,hx=>by
  rw[qo5] at hx
  split at hx
  ·exact q7w h hn f (by omega) x hx
  ·rename_i hfree
   rcases List.mem_append.1 hx with hx | hx
   ·exact q7w h hn f (by omega) x hx
   ·obtain rfl:=List.mem_singleton.1 hx
    have hb:wh0 (hTo R P n f P.length):=⟨by rw[q7p]; exact hn,wx4 h (by omega) (Bool.eq_false_iff.2 hfree) _ (Nat.le_refl _)⟩
    exact⟨by rw[q9r,q7p],q9x hb⟩
theorem q7x {m:List (List Int)} {set:List Int} (h:w4n m set) (x:List Int) (hx:x∈ql9 m set):x.length=set.length/\set.length<=1000/\wh0 x:=by
 have hw:=h.red.w
 have:=q7w h.ar hw _ (Nat.le_refl _) x hx
 exact⟨this.1,hw,this.2⟩
theorem qm0 (n:Nat) (set v:List Int):∀j,(qg5 n set v j).length=n
 | 0=>by simp[qg5]
 | j+1=>by rw[qg5,List.length_set]; exact qm0 n set v j
theorem q5h {n:Nat} {set v:List Int} (hv:wh0 v) (hn:n<=1000) (hl:v.length=set.length):∀j,j<=set.length->wh0 (qg5 n set v j)
 | 0,_=>⟨by simp[qg5]; omega,λx hx=>by
  obtain rfl:=(List.mem_replicate.1 hx).2
  unfold BIG; omega⟩
 | j+1,hj=>by
  have h1:=q5h hv hn hl j (by omega)
  refine⟨by rw[qm0]; exact hn,λx hx=>?_⟩
  rw[qg5] at hx
  rcases List.mem_or_eq_of_mem_set hx with hx | rfl
  ·exact h1.2 x hx
  ·exact q7h hv (by omega)
theorem w8z:Meets Tryz.prog 64 ye5:=by
 refine meets (x7q [72] [] (SpecsOk.cons w4p (SpecsOk.cons q9w (SpecsOk.cons w8t (SpecsOk.cons wp1 (SpecsOk.nil _))))) (MutsOk.cons w4m MutsOk.nil) (ItsOk.cons q9v ItsOk.nil)) Tryz.func64 rfl rfl (λx=>x7o x.1 (nL x.1 0).length) (λ_=>by kernel_rfl) (by decide) ?_
 rintro⟨m,⟨⟩⟩ h
 revert m
 intro(m:List (List Int)) (h:validB m=true->wp8 m)
 refine @qe1 _ ((validB m=true->wp3 m)/\(((qx1 m).2 != (0:Int))=true->(q4v m).1=[]/\(qx1 m).2=(q4v m).2/\True)/\(((qx1 m).2 != (0:Int))=false->((0:Int)<=(0:Int)/\(0:Int)<(↑m.length:Int))/\fits .i64 ((qx1 m).1+(1:Int))/\∃(v1:Unit),∃(v2:Nat),Nat.le v2 (q7u m)/\(((0:Int)=(↑v2:Int)/\True)/\(m=m/\True)/\((↑(nL m (0:Nat)).length:Int)=(↑(nL m (0:Nat)).length:Int)/\True)/\(True/\True)/\q3y m (nL m (0:Nat)).length v2=[]/\True)/\∀(v3:Nat),Nat.le v3 (q7u m)->(decide ((↑v3:Int)<max2 false ((qx1 m).1+(1:Int)) (↑(nL m (0:Nat)).length:Int))=true->fits .i64 ((↑v3:Int)+(1:Int))/\True/\(((0:Ty.den tInt)<=(↑v3:Int)+(1:Int)/\(↑v3:Int)+(1:Int)<=(1000:Ty.den tInt))/\(0:Ty.den tInt)<=(↑(nL m (0:Nat)).length:Int)/\(↑(nL m (0:Nat)).length:Int)<=(1000:Ty.den tInt))/\∃(v6:Nat),∃(v7:Nat),Nat.le v7 (qe7 (↑(nL m (0:Nat)).length:Int) (↑(v6+(1:Nat)):Int)).length/\v7=(0:Nat)/\((m=m/\True)/\((↑(nL m (0:Nat)).length:Int)=(↑(nL m (0:Nat)).length:Int)/\True)/\(True/\True)/\(q3y m (nL m (0:Nat)).length v3=q3y m (nL m (0:Nat)).length v6++qr3 m (nL m (0:Nat)).length (qe7 (↑(nL m (0:Nat)).length:Int) (↑(v6+(1:Nat)):Int)) v7/\True/\True)/\True)/\∀(v8:Nat),Nat.le v8 (qe7 (↑(nL m (0:Nat)).length:Int) (↑(v6+(1:Nat)):Int)).length->(∀(v10:List Int × qa5._f [] PUnit.unit),(List.map (λ(v12:List Int)=>(v12,())) (qe7 (↑(nL m (0:Nat)).length:Int) ((↑v3:Int)+(1:Int))))[v8]?=some v10->∀(v12:q8m),w4n m (nL [v10.1] (0:Nat))/\(((↑(ql9 m (nL [v10.1] (0:Nat))).length:Int) != (1:Int))=true->[v10.1]=[v10.1]/\v12=v12/\True/\∃(v14:Nat),Nat.le v14 (qe7 (↑(nL m (0:Nat)).length:Int) (↑(v6+(1:Nat)):Int)).length/\v14=v8+(1:Nat)/\(m=m/\True)/\((↑(nL m (0:Nat)).length:Int)=(↑(nL m (0:Nat)).length:Int)/\True)/\(True/\True)/\(q3y m (nL m (0:Nat)).length v6++qr3 m (nL m (0:Nat)).length (qe7 (↑(nL m (0:Nat)).length:Int) (↑(v6+(1:Nat)):Int)) v8=q3y m (nL m (0:Nat)).length v6++qr3 m (nL m (0:Nat)).length (qe7 (↑(nL m (0:Nat)).length:Int) (↑(v6+(1:Nat)):Int)) v14/\True/\True)/\True)/\(((↑(ql9 m (nL [v10.1] (0:Nat))).length:Int) != (1:Int))=false->((0:Int)<=(0:Int)/\(0:Int)<(↑(ql9 m (nL [v10.1] (0:Nat))).length:Int))/\(nL (ql9 m (nL [v10.1] (0:Nat))) (0:Nat)).length<=(1000000:Nat)/\((List.any (nL (ql9 m (nL [v10.1] (0:Nat))) (0:Nat)) λ(v15:Int)=>(0:Int)==v15)=true->[v10.1]=[v10.1]/\v12=v12/\True/\∃(v15:Nat),Nat.le v15 (qe7 (↑(nL m (0:Nat)).length:Int) (↑(v6+(1:Nat)):Int)).length/\v15=v8+(1:Nat)/\(m=m/\True)/\((↑(nL m (0:Nat)).length:Int)=(↑(nL m (0:Nat)).length:Int)/\True)/\(True/\True)/\(q3y m (nL m (0:Nat)).length v6++qr3 m (nL m (0:Nat)).length (qe7 (↑(nL m (0:Nat)).length:Int) (↑(v6+(1:Nat)):Int)) v8=q3y m (nL m (0:Nat)).length v6++qr3 m (nL m (0:Nat)).length (qe7 (↑(nL m (0:Nat)).length:Int) (↑(v6+(1:Nat)):Int)) v15/\True/\True)/\True)/\((List.any (nL (ql9 m (nL [v10.1] (0:Nat))) (0:Nat)) λ(v15:Int)=>(0:Int)==v15)=false->((↑(nL m (0:Nat)).length:Int)=(↑(nL m (0:Nat)).length:Int)/\(0:Int)<=(↑(nL m (0:Nat)).length:Int)/\(↑(nL m (0:Nat)).length:Int)<=(1000000:Int))/\∃(v15:q8m × Nat × Nat × List Int),∃(v16:Nat),Nat.le v16 v15.2.2.2.length/\((some (0:Nat)=some (0:Nat)/\True/\some (0:Nat)=some (0:Nat)/\(0:Int)=(↑v16:Int)/\True)/\(m=m/\True)/\((↑(nL m (0:Nat)).length:Int)=(↑(nL m (0:Nat)).length:Int)/\True)/\(True/\True)/\(q3y m (nL m (0:Nat)).length v6++qr3 m (nL m (0:Nat)).length (qe7 (↑(nL m (0:Nat)).length:Int) (↑(v6+(1:Nat)):Int)) v8=q3y m (nL m (0:Nat)).length v15.2.1++qr3 m (nL m (0:Nat)).length (qe7 (↑(nL m (0:Nat)).length:Int) (↑(v15.2.1+(1:Nat)):Int)) v15.2.2.1/\True/\True)/\([v10.1]=[v15.2.2.2]/\True/\v12=v15.1)/\List.replicate (↑(nL m (0:Nat)).length:Int).toNat (Ty.dflt (TI.ty T3))=qg5 (nL m (0:Nat)).length v15.2.2.2 (nL (ql9 m v15.2.2.2) (0:Nat)) v16/\True)/\∀(v17:Nat),Nat.le v17 v15.2.2.2.length->(decide ((↑v17:Int)<(↑(nL [v10.1] (0:Nat)).length:Int))=true->((0:Int)<=(↑v17:Int)/\(↑v17:Int)<(↑(nL [v15.2.2.2] (0:Nat)).length:Int))/\v17<(nL [v15.2.2.2] (0:Nat)).length/\((0:Int)<=(0:Int)/\(0:Int)<(↑(ql9 m (nL [v10.1] (0:Nat))).length:Int))/\((0:Int)<=(↑v17:Int)/\(↑v17:Int)<(↑(nL (ql9 m (nL [v10.1] (0:Nat))) (0:Nat)).length:Int))/\((0:Int)<=nI (nL [v15.2.2.2] (0:Nat)) v17/\nI (nL [v15.2.2.2] (0:Nat)) v17<(↑(qg5 (nL m (0:Nat)).length v15.2.2.2 (nL (ql9 m v15.2.2.2) (0:Nat)) v17).length:Int))/\(nI (nL [v15.2.2.2] (0:Nat)) v17).toNat<(qg5 (nL m (0:Nat)).length v15.2.2.2 (nL (ql9 m v15.2.2.2) (0:Nat)) v17).length/\fits .i64 ((↑v17:Int)+(1:Int))/\∃(v20:Nat),Nat.le v20 v15.2.2.2.length/\v15.2.2.2.length-v20<v15.2.2.2.length-v17/\(some (0:Nat)=some (0:Nat)/\True/\some (0:Nat)=some (0:Nat)/\(↑v17:Int)+(1:Int)=(↑v20:Int)/\True)/\(m=m/\True)/\((↑(nL m (0:Nat)).length:Int)=(↑(nL m (0:Nat)).length:Int)/\True)/\(True/\True)/\(q3y m (nL m (0:Nat)).length v15.2.1++qr3 m (nL m (0:Nat)).length (qe7 (↑(nL m (0:Nat)).length:Int) (↑(v15.2.1+(1:Nat)):Int)) v15.2.2.1=q3y m (nL m (0:Nat)).length v15.2.1++qr3 m (nL m (0:Nat)).length (qe7 (↑(nL m (0:Nat)).length:Int) (↑(v15.2.1+(1:Nat)):Int)) v15.2.2.1/\True/\True)/\([v15.2.2.2]=[v15.2.2.2]/\True/\v15.1=v15.1)/\List.set (qg5 (nL m (0:Nat)).length v15.2.2.2 (nL (ql9 m v15.2.2.2) (0:Nat)) v17) (nI (nL [v15.2.2.2] (0:Nat)) v17).toNat (nI (nL (ql9 m (nL [v10.1] (0:Nat))) (0:Nat)) v17)=qg5 (nL m (0:Nat)).length v15.2.2.2 (nL (ql9 m v15.2.2.2) (0:Nat)) v20/\True)/\(decide ((↑v17:Int)<(↑(nL [v10.1] (0:Nat)).length:Int))=false->wh0 (nL [qg5 (nL m (0:Nat)).length v15.2.2.2 (nL (ql9 m v15.2.2.2) (0:Nat)) v17] (0:Nat))/\((0:Nat)<(0:Nat)+(1:Nat)/\(q3y m (nL m (0:Nat)).length v15.2.1++qr3 m (nL m (0:Nat)).length (qe7 (↑(nL m (0:Nat)).length:Int) (↑(v15.2.1+(1:Nat)):Int)) v15.2.2.1).length+((0:Nat)+(1:Nat))<=(1000000:Nat))/\[v15.2.2.2]=[v10.1]/\v15.1=v12/\True/\∃(v20:Nat),Nat.le v20 (qe7 (↑(nL m (0:Nat)).length:Int) (↑(v6+(1:Nat)):Int)).length/\v20=v8+(1:Nat)/\(m=m/\True)/\((↑(nL m (0:Nat)).length:Int)=(↑(nL m (0:Nat)).length:Int)/\True)/\(True/\True)/\(q3y m (nL m (0:Nat)).length v15.2.1++qr3 m (nL m (0:Nat)).length (qe7 (↑(nL m (0:Nat)).length:Int) (↑(v15.2.1+(1:Nat)):Int)) v15.2.2.1++[nL [q7o (nL [qg5 (nL m (0:Nat)).length v15.2.2.2 (nL (ql9 m v15.2.2.2) (0:Nat)) v17] (0:Nat))] (0:Nat)]=q3y m (nL m (0:Nat)).length v6++qr3 m (nL m (0:Nat)).length (qe7 (↑(nL m (0:Nat)).length:Int) (↑(v6+(1:Nat)):Int)) v20/\True/\True)/\True))))/\(v8=(List.map (λ(v11:List Int)=>(v11,())) (qe7 (↑(nL m (0:Nat)).length:Int) ((↑v3:Int)+(1:Int)))).length->fits .i64 ((↑v3:Int)+(1:Int))/\∃(v11:Nat),Nat.le v11 (q7u m)/\q7u m-v11<q7u m-v3/\((↑v3:Int)+(1:Int)=(↑v11:Int)/\True)/\(m=m/\True)/\((↑(nL m (0:Nat)).length:Int)=(↑(nL m (0:Nat)).length:Int)/\True)/\(True/\True)/\(q3y m (nL m (0:Nat)).length v6++qr3 m (nL m (0:Nat)).length (qe7 (↑(nL m (0:Nat)).length:Int) (↑(v6+(1:Nat)):Int)) v8=q3y m (nL m (0:Nat)).length v11/\True/\True)/\True))/\(decide ((↑v3:Int)<max2 false ((qx1 m).1+(1:Int)) (↑(nL m (0:Nat)).length:Int))=false->q4c (Ty.int .i64) (q3y m (nL m (0:Nat)).length v3) none=(q4v m).1/\(0:Int)=(q4v m).2/\True))) (by kernel_rfl) ?_
 try simp only[z0,z1,z2,z3,z4,z5,z6,z7,z8,z9,z10,Int.reduceEq,z11,z12,z13,z14,z15,z16,z17,z18,z19,z20,z21,z22,z23,z24,z25,z26,z27,z28,z29,z30,Int.reduceLE,Int.reduceLT,z31,z32,z33,z34,qa3]
 try simp only[qb5,qb6,qd0,z31,z32,z2,z1]
 refine⟨λhv=>(h hv).rank,λhe=>?_,λhe=>?_⟩
 ·have hv:validB m=false:=by
   cases e:validB m with
   | false=>rfl
   | true=>exact absurd (by simp[qx1,e]) he
  simp[qx1,q4v,hv]
 have hv:validB m=true:=by
  cases e:validB m with
  | true=>rfl
  | false=>simp[qx1,e] at he
 have hO:=h hv
 have hM:=Mk.of hv
 have hm1:=hM.rows1
 have hn1:=hM.pix1
 have hn10:=hM.pix10
 have hrank:(qh1 m (q06 (nL m 0).length)).2.length<=10:=by
  have:=(qs7 hO.rank.red (nL m 0).length).pivj
  unfold qh1
  rw[qk8]
  exact Nat.le_trans this hn10
 have hr:qx1 m=(((qh1 m (q06 (nL m 0).length)).2.length:Int),0):=by simp[qx1,hv]
 have hcN:q7u m=min ((qh1 m (q06 (nL m 0).length)).2.length+1) (nL m 0).length:=rfl
 have hcR:q4v m=(q3y m (nL m 0).length (q7u m),0):=by simp[q4v,hv]
 rw[hr,hcR]
 generalize(qh1 m (q06 (nL m 0).length)).2.length=r at *
 have hker:=hO.ker
 generalize hnn:(nL m 0).length=n at *
 dsimp only
 refine⟨by omega,qa9 (by omega) (by omega),(),0,Nat.zero_le _,⟨rfl,rfl⟩,λk hk=>⟨λhlt=>?_,λhge=>?_⟩⟩
 ·have hlt:(k:Int)<min ((r:Int)+1) n:=hlt
  have hkn:k<n:=by omega
  have hca:((k:Int)+1)=((k+1:Nat):Int):=by omega
  have hkl:=w2a m n hn10 k (by omega)
  have hsl:=wp9 n (k+1) hn10 (by omega)
  rw[hca]
  have hb1:(0:Int)<=((k+1:Nat):Int)/\((k+1:Nat):Int)<=1000:=by omega
  refine⟨qa9 (by omega) (by omega),⟨hb1,by omega⟩,k,0,Nat.zero_le _,rfl,by simp[qr3],λc hc=>⟨?_,λhce=>?_⟩⟩
  ·rintro⟨set,⟨⟩⟩ hset T
   dsimp only
   have hs:(qe7 n (k+1:Nat))[c]? = some set:=by
    rw[List.getElem?_map] at hset
    obtain⟨x,hx,hx2⟩:=Option.map_eq_some_iff.1 hset
    injection hx2 with hx2
    rw[<- hx2]; exact hx
   have hcl:c<(qe7 n (k+1:Nat)).length:=(List.getElem?_eq_some_iff.1 hs).1
   have hnl:nL (qe7 n (k+1:Nat)) c=set:=by rw[qp9 _ c hcl]; exact(List.getElem?_eq_some_iff.1 hs).2
   have hK:w4n m set:=hker k hkn set (List.mem_of_getElem? hs)
   have hctl:=q7v m n (qe7 n (k+1:Nat)) c
   refine⟨hK,λh1=>⟨c+1,hcl,rfl,?_⟩,λh1=>⟨by omega,?_,λh2=>⟨c+1,hcl,rfl,?_⟩,λh2=>⟨by omega,(T,k,c,set),0,Nat.zero_le _,⟨rfl,rfl,⟨rfl,rfl⟩,rfl⟩,λj hj=>⟨λhjl=>?_,λhjl=>?_⟩⟩⟩⟩
   ·rw[qr3,hnl,if_neg]
    intro q
    unfold q8s at q
    rw[Bool.and_eq_true,decide_eq_true_eq] at q
    exact h1 (by omega)
   ·have h0:=q7x hK (nL (ql9 m set) 0) (qs2 _ 0 (by omega))
    omega
   ·rw[qr3,hnl,if_neg]
    intro q
    unfold q8s at q
    rw[Bool.and_eq_true,h2] at q
    cases q.2
   ·dsimp only at hj ⊢
    have hat:=hK.cho.at_ 0 (by omega) j hjl
    rw[hnn] at hat
    have hkm:=q7x hK (nL (ql9 m set) 0) (qs2 _ 0 (by omega))
    have hsp:=qm0 n set (nL (ql9 m set) 0) j
    have hat':0<=nI set j/\nI set j<((qg5 n set (nL (ql9 m set) 0) j).length:Int):=⟨hat.1,by omega⟩
    exact⟨hjl,hjl,by omega,by omega,hat',by omega,qa9 (by omega) (by omega),j+1,hjl,by omega,by omega,rfl⟩
   ·dsimp only at hj ⊢
    obtain rfl:j=set.length:=by omega
    have hkm:=q7x hK (nL (ql9 m set) 0) (qs2 _ 0 (by omega))
    refine⟨q5h hkm.2.2 (by omega) hkm.1 _ (Nat.le_refl _),by rw[List.length_append]; omega,rfl,rfl,c+1,hcl,rfl,?_⟩
    have hg:q8s (ql9 m set)=true:=by
     unfold q8s
     rw[h2,Bool.and_eq_true,decide_eq_true_eq]
     exact⟨by omega,rfl⟩
    rw[qr3,hnl,if_pos hg,List.append_assoc]
    rfl
  ·rw[List.length_map] at hce
   subst hce
   exact⟨qa9 (by omega) (by omega),k+1,by omega,by omega,rfl,rfl⟩
 ·have hge:min ((r:Int)+1) n<=k:=hge
  obtain rfl:k=q7u m:=by omega
  exact⟨rfl,rfl⟩
def qh7 (m:List (List Int)):List Int × Int:=if(q4v m).2≠0 then([],(q4v m).2) else if(q4v m).1=[] then([],8) else(nL (q4v m).1 0,0)
abbrev x7r:qb9:=qg2 false none [tMask] [tInts,tInt] (λx=>validB x.1=true->wp8 x.1) (λx=>((qh7 x.1).1,(qh7 x.1).2,()))
theorem w4w:Meets Tryz.prog 16 x7r:=by
 refine meets (snd (SpecsOk.cons w8z (SpecsOk.nil _))) Tryz.func16 rfl rfl (λ_ _=>none) (λ_=>by kernel_rfl) (by decide) ?_
 rintro⟨m,⟨⟩⟩ h
 revert m
 intro(m:List (List Int)) (h:validB m=true->wp8 m)
 refine @qe1 _ ((validB m=true->wp8 m)/\(((q4v m).2 != (0:Int))=true->(qh7 m).1=[]/\(q4v m).2=(qh7 m).2/\True)/\(((q4v m).2 != (0:Int))=false->(((↑(q4v m).1.length:Int)==(0:Int))=true->(qh7 m).1=[]/\(8:Int)=(qh7 m).2/\True)/\(((↑(q4v m).1.length:Int)==(0:Int))=false->((0:Int)<=(0:Int)/\(0:Int)<(↑(q4v m).1.length:Int))/\nL (q4v m).1 (0:Nat)=(qh7 m).1/\(0:Int)=(qh7 m).2/\True))) (by kernel_rfl) ?_
 try simp only[z0,z1,z2,z3,z4,z5,z6,z7,z8,z9,z10,Int.reduceEq,z11,z12,z13,z14,z15,z16,z17,z18,z19,z20,z21,z22,z23,z24,z25,z26,z27,z28,z29,z30,Int.reduceLE,Int.reduceLT,z31,z32,z33,z34,qa3]
 try simp only[qb5,qb6,qd0,z31,z32,z2,z1]
 refine⟨h,λhe=>by simp[qh7,he],λhe=>⟨λh0=>?_,λh0=>?_⟩⟩
 ·have e:(q4v m).1=[]:=List.eq_nil_of_length_eq_zero (by omega)
  simp[qh7,he,e]
 ·have e:¬(q4v m).1=[]:=λe=>by rw[e] at h0; exact h0 rfl
  unfold qh7
  rw[if_neg (λq=>q he),if_neg e]
  exact⟨by omega,rfl,rfl⟩
def nzTo (l:List Int):Nat->Nat
 | 0=>0
 | k+1=>if nI l k≠0 then nzTo l k+1 else nzTo l k
theorem wh8 (l:List Int):∀k,nzTo l k<=k
 | 0=>Nat.le_refl _
 | k+1=>by have:=wh8 l k; rw[nzTo]; split <;> omega
def qo2 (m:List (List Int)):Int × Int:=((nzTo (qh7 m).1 (qh7 m).1.length:Int),(qh7 m).2)
structure q8t (m:List (List Int)):Prop where
 cir:validB m=true->wp8 m
 len:(qh7 m).1.length<=1000
abbrev x3s:qb9:=qg2 true none [tMask] [tInt,tInt] (λx=>q8t x.1) (λx=>((qo2 x.1).1,(qo2 x.1).2,()))
def xy5 (l:List Int):Nat->Option Inv
 | 0=>some (Inv.of [6,16] 0 (λk:Nat=>[(6,.lit (.int .i64 (nzTo l k))),(16,.lit (.int .i64 k))]) (λ_=>[]) (λk=>k<=l.length) (λk=>l.length-k))
 | _=>none
theorem wx8:Meets Tryz.prog 17 x3s:=by
 refine meets (snd (SpecsOk.cons w4w (SpecsOk.nil _))) Tryz.func17 rfl rfl (λx=>xy5 (qh7 x.1).1) (λ_=>by kernel_rfl) (by decide) ?_
 rintro⟨m,⟨⟩⟩ h
 revert m
 intro(m:List (List Int)) (h:q8t m)
 refine @qe1 _ ((validB m=true->wp8 m)/\∃(v0:Unit),∃(v1:Nat),Nat.le v1 (qh7 m).1.length/\(((0:Int)=(↑(nzTo (qh7 m).1 v1):Int)/\(0:Int)=(↑v1:Int)/\True)/\True)/\∀(v2:Nat),Nat.le v2 (qh7 m).1.length->(decide ((↑v2:Int)<(↑(qh7 m).1.length:Int))=true->((0:Int)<=(↑v2:Int)/\(↑v2:Int)<(↑(qh7 m).1.length:Int))/\((nI (qh7 m).1 v2 != (0:Int))=true->fits .i64 ((↑(nzTo (qh7 m).1 v2):Int)+(1:Int))/\fits .i64 ((↑v2:Int)+(1:Int))/\∃(v6:Nat),Nat.le v6 (qh7 m).1.length/\(qh7 m).1.length-v6<(qh7 m).1.length-v2/\((↑(nzTo (qh7 m).1 v2):Int)+(1:Int)=(↑(nzTo (qh7 m).1 v6):Int)/\(↑v2:Int)+(1:Int)=(↑v6:Int)/\True)/\True)/\((nI (qh7 m).1 v2 != (0:Int))=false->fits .i64 ((↑v2:Int)+(1:Int))/\∃(v6:Nat),Nat.le v6 (qh7 m).1.length/\(qh7 m).1.length-v6<(qh7 m).1.length-v2/\((↑(nzTo (qh7 m).1 v2):Int)=(↑(nzTo (qh7 m).1 v6):Int)/\(↑v2:Int)+(1:Int)=(↑v6:Int)/\True)/\True))/\(decide ((↑v2:Int)<(↑(qh7 m).1.length:Int))=false->(↑(nzTo (qh7 m).1 v2):Int)=(qo2 m).1/\(qh7 m).2=(qo2 m).2/\True)) (by kernel_rfl) ?_
 try simp only[z0,z1,z2,z3,z4,z5,z6,z7,z8,z9,z10,Int.reduceEq,z11,z12,z13,z14,z15,z16,z17,z18,z19,z20,z21,z22,z23,z24,z25,z26,z27,z28,z29,z30,Int.reduceLE,Int.reduceLT,z31,z32,z33,z34,qa3]
 try simp only[qb5,qb6,qd0,z31,z32,z2,z1]
 have hl:=h.len
 refine⟨h.cir,(),0,Nat.zero_le _,⟨rfl,rfl⟩,λi hi=>⟨λhlt=>?_,λhge=>?_⟩⟩
 ·have:=wh8 (qh7 m).1 i
  exact⟨hlt,λhz=>⟨qa9 (by omega) (by omega),qa9 (by omega) (by omega),i+1,hlt,by omega,by rw[nzTo,if_pos hz]; omega,by omega⟩,λhz=>⟨qa9 (by omega) (by omega),i+1,hlt,by omega,by rw[nzTo,if_neg (λq=>q hz)],by omega⟩⟩
 ·obtain rfl:i=(qh7 m).1.length:=by omega
  exact⟨rfl,rfl⟩
def qs8 (m:List (List Int)):Int × Int:=if(qo2 m).2=0 then(((qo2 m).1-1).tdiv 2,0) else if(qo2 m).2=8 then((nL m 0).length,0) else(0,(qo2 m).2)
abbrev x7s:qb9:=qg2 true none [tMask] [tInt,tInt] (λx=>q8t x.1) (λx=>((qs8 x.1).1,(qs8 x.1).2,()))
theorem q94:Meets Tryz.prog 46 x7s:=by
 refine meets (snd (SpecsOk.cons wx8 (SpecsOk.nil _))) Tryz.func46 rfl rfl (λ_ _=>none) (λ_=>by kernel_rfl) (by decide) ?_
 rintro⟨m,⟨⟩⟩ h
 revert m
 intro(m:List (List Int)) (h:q8t m)
 refine @qe1 _ (let Q0:=qo2 m; q8t m/\((Q0.2==(0:Int))=true->fits .i64 (Q0.1-(1:Int))/\(2:Int)≠(0:Int)/\fits .i64 (Int.tdiv (Q0.1-(1:Int)) (2:Int))/\Int.tdiv (Q0.1-(1:Int)) (2:Int)=(qs8 m).1/\(0:Int)=(qs8 m).2/\True)/\((Q0.2==(0:Int))=false->((Q0.2==(8:Int))=true->((0:Int)<=(0:Int)/\(0:Int)<(↑m.length:Int))/\(↑(nL m (0:Nat)).length:Int)=(qs8 m).1/\(0:Int)=(qs8 m).2/\True)/\((Q0.2==(8:Int))=false->(0:Int)=(qs8 m).1/\Q0.2=(qs8 m).2/\True))) (by kernel_rfl) ?_
 try simp only[z0,z1,z2,z3,z4,z5,z6,z7,z8,z9,z10,Int.reduceEq,z11,z12,z13,z14,z15,z16,z17,z18,z19,z20,z21,z22,z23,z24,z25,z26,z27,z28,z29,z30,Int.reduceLE,Int.reduceLT,z31,z32,z33,z34,qa3]
 try simp only[qb5,qb6,qd0,z31,z32,z2,z1]
 have hl:=h.len
 have hn:=wh8 (qh7 m).1 (qh7 m).1.length
 have e1:(qo2 m).1=(nzTo (qh7 m).1 (qh7 m).1.length:Int):=rfl
 have hb:qd6 1000 ((qo2 m).1-1):=by unfold qd6; rw[e1]; omega
 have hb2:qd6 1000 (((qo2 m).1-1).tdiv 2):=ql4 hb
 unfold qd6 at hb hb2
 refine⟨h,λhe=>⟨qa9 (by omega) (by omega),qa9 (by omega) (by omega),by simp[qs8,he]⟩,λhe=>⟨λh8=>⟨?_,by simp[qs8,h8]⟩,λh8=>by simp[qs8,he,h8]⟩⟩
 have hv:validB m=true:=by
  cases e:validB m with
  | true=>rfl
  | false=>
   have e2:(qo2 m).2=1:=by simp[qo2,qh7,q4v,e]
   rw[e2] at h8; cases h8
 have:=(Mk.of hv).rows1
 omega
def qh0 (a b:List Int):Nat->Int
 | 0=>0
 | k+1=>qh0 a b k+nI a k*nI b k
structure DotOk (a b:List Int):Prop where
 len:a.length<=10
 le:a.length<=b.length
 sa:∀i,i<a.length->-1<=nI a i/\nI a i<=1
 sb:∀i,i<a.length->qd6 1000000 (nI b i)
theorem q31 {x y K:Int} (hx:-1<=x/\x<=1) (hy:qd6 K y):qd6 K (x*y):=by
 unfold qd6 at *
 rcases(show x=-1\/x=0\/x=1 by omega) with rfl | rfl | rfl
 ·rw[show(-1:Int)*y=-y by omega]; omega
 ·rw[Int.zero_mul]; omega
 ·rw[Int.one_mul]; exact hy
theorem w2b {a b:List Int} (h:DotOk a b):∀k,k<=a.length->qd6 (1000000*k) (qh0 a b k)
 | 0,_=>by unfold qd6; simp[qh0]
 | k+1,hk=>by
  have h1:=w2b h k (by omega)
  have h2:=q31 (h.sa k (by omega)) (h.sb k (by omega))
  unfold qd6 at *
  rw[qh0]
  omega
abbrev ye6:qb9:=qg2 true none [tInts,tInts] [tInt] (λx=>DotOk x.1 x.2.1) (λx=>(qh0 x.1 x.2.1 x.1.length,()))
def x3t (a b:List Int):Nat->Option Inv
 | 0=>some (Inv.of [5,9] 0 (λk:Nat=>[(5,.lit (.int .i64 (qh0 a b k))),(9,.lit (.int .i64 k))]) (λ_=>[]) (λk=>k<=a.length) (λk=>a.length-k))
 | _=>none
theorem w4x:Meets Tryz.prog 98 ye6:=by
 refine meets (snd (SpecsOk.nil _)) Tryz.func98 rfl rfl (λx=>x3t x.1 x.2.1) (λ_=>by kernel_rfl) (by decide) ?_
 rintro⟨a,b,⟨⟩⟩ h
 revert a b
 intro(a:List Int) (b:List Int) (h:DotOk a b)
 refine @qe1 _ (∃(v0:Unit),∃(v1:Nat),Nat.le v1 a.length/\(((0:Int)=qh0 a b v1/\(0:Int)=(↑v1:Int)/\True)/\True)/\∀(v2:Nat),Nat.le v2 a.length->(decide ((↑v2:Int)<(↑a.length:Int))=true->((0:Int)<=(↑v2:Int)/\(↑v2:Int)<(↑a.length:Int))/\((0:Int)<=(↑v2:Int)/\(↑v2:Int)<(↑b.length:Int))/\fits .i64 (nI a v2*nI b v2)/\fits .i64 (qh0 a b v2+nI a v2*nI b v2)/\fits .i64 ((↑v2:Int)+(1:Int))/\∃(v5:Nat),Nat.le v5 a.length/\a.length-v5<a.length-v2/\(qh0 a b v2+nI a v2*nI b v2=qh0 a b v5/\(↑v2:Int)+(1:Int)=(↑v5:Int)/\True)/\True)/\(decide ((↑v2:Int)<(↑a.length:Int))=false->qh0 a b v2=qh0 a b a.length)) (by kernel_rfl) ?_
 try simp only[z0,z1,z2,z3,z4,z5,z6,z7,z8,z9,z10,Int.reduceEq,z11,z12,z13,z14,z15,z16,z17,z18,z19,z20,z21,z22,z23,z24,z25,z26,z27,z28,z29,z30,Int.reduceLE,Int.reduceLT,z31,z32,z33,z34,qa3]
 try simp only[qb5,qb6,qd0,z31,z32,z2,z1]
 have hl:=h.len
 have hle:=h.le
 refine⟨(),0,Nat.zero_le _,⟨rfl,rfl⟩,λk hk=>⟨λhlt=>?_,λhge=>?_⟩⟩
 ·have h1:=w2b h k hk
  have h2:=q31 (h.sa k hlt) (h.sb k hlt)
  unfold qd6 at h1 h2
  exact⟨hlt,by omega,qa9 (by omega) (by omega),qa9 (by omega) (by omega),qa9 (by omega) (by omega),k+1,hlt,by omega,rfl,by omega⟩
 ·obtain rfl:k=a.length:=by omega
  rfl
def x3u (m:List (List Int)) (l:List Int) (n k:Int):Int:=if validB m=false then 1 else if(l.length:Int)≠n then 9 else if(l.all λe=>inB e (0-k) k)=false then 7 else 0
def wq0 (m:List (List Int)) (x:List Int):Int:=x3u m x (nL m 0).length 1000000
structure Shw (m:List (List Int)) (x:List Int):Prop where
 msk:Mk m
 val:validB m=true
 len:x.length=(nL m 0).length
 bd:∀i,i<x.length->qd6 1000000 (nI x i)
theorem Shw.of {m:List (List Int)} {x:List Int} (h:wq0 m x=0):Shw m x:=by
 unfold wq0 x3u at h
 split at h
 ·cases h
 ·rename_i hv
  have hv:validB m=true:=by cases e:validB m with | true=>rfl | false=>exact absurd e hv
  split at h
  ·cases h
  ·rename_i hl
   split at h
   ·cases h
   ·rename_i ha
    have ha:(x.all λe=>inB e (0-1000000) 1000000)=true:=by simpa using ha
    refine⟨Mk.of hv,hv,by omega,λi hi=>?_⟩
    have:=inB_iff.1 (List.all_eq_true.1 ha (nI x i) (by rw[qg1 x i hi]; exact List.getElem_mem hi))
    unfold qd6; omega
theorem Shw.dot {m:List (List Int)} {x:List Int} (h:Shw m x) (k:Nat) (hk:k<m.length):DotOk (nL m k) x:=by
 have h1:=h.msk.each k hk
 have h2:=h.msk.pix10
 have h3:=h.len
 exact⟨by omega,by omega,λi hi=>h.msk.small k hk i (by omega),λi hi=>h.bd i (by omega)⟩
def qg8 (m:List (List Int)) (x:List Int):List Int:=(List.range m.length).map λi=>qh0 (nL m i) x (nL m i).length
def readR (m:List (List Int)) (x:List Int):List Int × Int:=if wq0 m x=0 then(qg8 m x,0) else([],wq0 m x)
def q4w (l:List Int) (n k:Int):Int:=if(l.length:Int)≠n then 9 else if(l.all λe=>inB e (0-k) k)=false then 7 else 0
structure xl6 (l:List Int) (k:Int) (i:Nat):Prop where
 le:i<=l.length
 ok:∀j,j<i->inB (nI l j) (0-k) k=true
def x3v (l:List Int) (k:Int):Nat->Option Inv
 | 0=>some (Inv.of [15] 0 (λi:Nat=>[(15,.lit (.int .i64 i))]) (λ_=>[]) (λi=>xl6 l k i) (λi=>l.length-i))
 | _=>none
theorem q4x {m:List (List Int)} (hv:validB m=true) {x:List Int}:wq0 m x=q4w x (nL m 0).length 1000000:=by simp[wq0,x3u,q4w,hv]
theorem q7y {m:List (List Int)} {x:List Int} (h:wq0 m x=0):(readR m x).1=qg8 m x:=by simp[readR,h]
def xy6 (m:List (List Int)) (x:List Int):Nat->Option Inv
 | 0=>some (Inv.of [7,24] 1 (λk:Nat=>[(7,.own 0),(24,.lit (.int .i64 k))]) (λk=>[.vec 3 (.int .i64) ((qg8 m x).take k)]) (λk=>k<=m.length) (λk=>m.length-k))
 | _=>none
abbrev x7t:qb9:=qg2 true none [tInts] [tInt] (λx=>x.1.length<=1000000) (λx=>((nzTo x.1 x.1.length:Int),()))
def x3w (l:List Int):Nat->Option Inv
 | 0=>some (Inv.of [3,8] 0 (λk:Nat=>[(3,.lit (.int .i64 (nzTo l k))),(8,.lit (.int .i64 k))]) (λ_=>[]) (λk=>k<=l.length) (λk=>l.length-k))
 | _=>none
def qz9 (m:List (List Int)) (s:List Int):List (List Int):=qk0 (qg3 m s)
def wh9 (v:List Int):Nat->Bool
 | 0=>true
 | k+1=>wh9 v k && (nI v k != 0)
def q8u (m:List (List Int)) (s:List Int):Bool:=decide (s.length≠0) && decide (s.length<=m.length+1)
def q7z (m:List (List Int)) (n:Nat) (s:List Int):List Int:=qg5 n s (nL (qz9 m s) 0) s.length
def wq1 (m:List (List Int)) (n:Nat) (s:List Int):List Int:=if nI (q7z m n s) (nI s 0).toNat<0 then q7q (q7z m n s) (-1) else q7z m n s
def wq3 (m:List (List Int)) (s:List Int):Bool:=q8u m s && decide ((qz9 m s).length=1) && wh9 (nL (qz9 m s) 0) s.length
def ye7 (wr:List Nat) (specs:List (Nat × qb9)):Ctx:={ specs:=specs,tys:=tys,wr:=wr }
theorem x7u (wr:List Nat) {specs:List (Nat × qb9)} (h:SpecsOk Tryz.prog specs):Sound Tryz.prog (ye7 wr specs):=SpecsOk.sound h q2h (by kernel_rfl)
def wi0 (m:List (List Int)):Nat->Int
 | 0=>0
 | k+1=>IntKind.i64.wrap (wi0 m k+IntKind.i64.wrap ((nL m k).length+1))
def wi1 (l:List Int):Bool:=decide (7<l.length) && decide (l.length<=10)
def qp1 (m:List (List Int)):Bool:=!(m.any wi1) && decide (wi0 m m.length<=200)
theorem wi2 {m:List (List Int)} (hl:qp1 m=true) (hM:Mk m):(nL m 0).length<=7:=by
 unfold qp1 at hl
 rw[Bool.and_eq_true,Bool.not_eq_true',List.any_eq_false] at hl
 have h1:=hl.1 (nL m 0) (qs2 m 0 (by have:=hM.rows1; omega))
 have h2:=hM.pix10
 unfold wi1 at h1
 rw[Bool.and_eq_true,decide_eq_true_eq,decide_eq_true_eq] at h1
 omega
structure w80 (m:List (List Int)) (k:Nat):Prop where
 le:k<=m.length
 ok:∀i,i<k->wi1 (nL m i)=false
abbrev ye8:qb9:=qg2 true none [tMask] [.bool] (λx=>q5g x.1) (λx=>(qp1 x.1,()))
def x7v (m:List (List Int)):Nat->Option Inv
 | 0=>some (Inv.of [3,8] 0 (λk:Nat=>[(3,.lit (.int .i64 (wi0 m k))),(8,.lit (.int .i64 k))]) (λ_=>[]) (λk=>w80 m k) (λk=>m.length-k))
 | _=>none
theorem w81:Meets Tryz.prog 22 ye8:=by
 refine meets (x7u [15,16] (SpecsOk.nil _)) Tryz.func22 rfl rfl (λx=>x7v x.1) (λ_=>by kernel_rfl) (by decide) ?_
 rintro⟨m,⟨⟩⟩ h
 revert m
 intro(m:List (List Int)) (h:q5g m)
 refine @qe1 _ (∃(v0:Unit),∃(v1:Nat),w80 m v1/\(((0:Int)=wi0 m v1/\(0:Int)=(↑v1:Int)/\True)/\True)/\∀(v2:Nat),w80 m v2->(decide ((↑v2:Int)<(↑m.length:Int))=true->((0:Int)<=(↑v2:Int)/\(↑v2:Int)<(↑m.length:Int))/\(decide ((7:Int)<(↑(nL m v2).length:Int))=true->(decide ((↑(nL m v2).length:Int)<=(10:Int))=true->false=qp1 m)/\(decide ((↑(nL m v2).length:Int)<=(10:Int))=false->fits .i64 ((↑v2:Int)+(1:Int))/\∃(v7:Nat),w80 m v7/\m.length-v7<m.length-v2/\(IntKind.wrap IntKind.i64 (wi0 m v2+IntKind.wrap IntKind.i64 ((↑(nL m v2).length:Int)+(1:Int)))=wi0 m v7/\(↑v2:Int)+(1:Int)=(↑v7:Int)/\True)/\True))/\(decide ((7:Int)<(↑(nL m v2).length:Int))=false->fits .i64 ((↑v2:Int)+(1:Int))/\∃(v6:Nat),w80 m v6/\m.length-v6<m.length-v2/\(IntKind.wrap IntKind.i64 (wi0 m v2+IntKind.wrap IntKind.i64 ((↑(nL m v2).length:Int)+(1:Int)))=wi0 m v6/\(↑v2:Int)+(1:Int)=(↑v6:Int)/\True)/\True))/\(decide ((↑v2:Int)<(↑m.length:Int))=false->decide (wi0 m v2<=(200:Int))=qp1 m)) (by kernel_rfl) ?_
 try simp only[z0,z1,z2,z3,z4,z5,z6,z7,z8,z9,z10,Int.reduceEq,z11,z12,z13,z14,z15,z16,z17,z18,z19,z20,z21,z22,z23,z24,z25,z26,z27,z28,z29,z30,Int.reduceLE,Int.reduceLT,z31,z32,z33,z34,qa3]
 try simp only[qb5,qb6,qd0,z31,z32,z2,z1]
 have hr:=h.rows
 have dk:∀k,k<m.length->wi1 (nL m k)=true->qp1 m=false:=λk hk hd=>by
  have:m.any wi1=true:=List.any_eq_true.2 ⟨_,qs2 m k hk,hd⟩
  simp[qp1,this]
 refine⟨(),0,⟨Nat.zero_le _,λi hi=>absurd hi (Nat.not_lt_zero _)⟩,⟨rfl,rfl⟩,λk hk=>⟨λhlt=>⟨hlt,λh7=>⟨λh10=>?_,λh10=>⟨qa9 (by omega) (by omega),k+1,⟨hlt,λi hi=>?_⟩,by omega,rfl,by omega⟩⟩,λh7=>⟨qa9 (by omega) (by omega),k+1,⟨hlt,λi hi=>?_⟩,by omega,rfl,by omega⟩⟩,λhge=>?_⟩⟩
 ·refine(dk k hlt ?_).symm
  unfold wi1
  rw[Bool.and_eq_true,decide_eq_true_eq,decide_eq_true_eq]
  omega
 ·by_cases e:i=k
  ·subst e
   have:¬(nL m i).length<=10:=by omega
   simp[wi1,this]
  ·exact hk.ok i (by omega)
 ·by_cases e:i=k
  ·subst e
   have:¬7<(nL m i).length:=by omega
   simp[wi1,this]
  ·exact hk.ok i (by omega)
 ·obtain rfl:k=m.length:=by have:=hk.le; omega
  have:m.any wi1=false:=by
   rw[List.any_eq_false]
   intro x hx
   obtain⟨i,hi,rfl⟩:=List.getElem_of_mem hx
   rw[<- qp9 m i hi,hk.ok i hi]; decide
  simp[qp1,this]
def q95:List (List Int):=[[1,1,0],[0,1,1]]
abbrev ye9:qb9:=qg2 false none [] [tMask] (λ_=>True) (λ_=>(q95,()))
theorem w82:Meets Tryz.prog 77 ye9:=by
 refine meets (snd (SpecsOk.nil _)) Tryz.func77 rfl rfl (λ_ _=>none) (λ_=>by kernel_rfl) (by decide) ?_
 rintro⟨⟩ -
 refine @qe1 _ ([[(1:Int),(1:Int),(0:Int)],[(0:Int),(1:Int),(1:Int)]]=q95) (by kernel_rfl) ?_
 try simp only[z0,z1,z2,z3,z4,z5,z6,z7,z8,z9,z10,Int.reduceEq,z11,z12,z13,z14,z15,z16,z17,z18,z19,z20,z21,z22,z23,z24,z25,z26,z27,z28,z29,z30,Int.reduceLE,Int.reduceLT,z31,z32,z33,z34,qa3]
 try simp only[qb5,qb6,qd0,z31,z32,z2,z1]
 rfl
abbrev Fit:=List Int × List (Int × Int)
def qg0 (m:List (List Int)) (y:List Int) (s:List (List Int)):List Fit:=s.filterMap λpix=>if(qp2 m y pix).2=true then some (qp2 m y pix).1 else none
def qh9 (m:List (List Int)) (y:List Int):Nat->List Fit
 | 0=>[]
 | k+1=>qh9 m y k++qg0 m y (qe7 (nL m 0).length k)
def fitsN (m:List (List Int)) (k:Int):Nat:=(min (min k (nL m 0).length) m.length+1).toNat
def qi8 (m:List (List Int)) (y:List Int) (k:Int):List Fit:=qh9 m y (fitsN m k)
structure wi3 (m:List (List Int)) (y:List Int) (k:Int):Prop where
 k0:0<=k
 k1:k<=1000
 one:0<m.length
 rows:m.length<=1000
 pix:(nL m 0).length<=1000
 sets:∀j:Nat,j<fitsN m k->∀s∈qe7 (nL m 0).length j,q3w m s y/\s.length<=100000
abbrev x3x:q0m:=xi2 [tInt,tQ] [wf5] (λx=>wi3 x.2.1.1 x.2.1.2 x.1) (λx=>(qi8 x.2.1.1 x.2.1.2 x.1).map λf=>(f,()))
def x3y:List AObj:=[.dead,.dead,.dead,.dead,.dead,.dead,.dead,.dead,.dead]
def x3z (m:List (List Int)) (y:List Int) (k:Int):Nat->Option Inv
 | 0=>some (Eng.Inv.mk Nat Nat [16] 11 (λ_ s=>[(16,.lit (.int .i64 s))]) (λl s=>.cnt (some (qh9 m y s).length) :: .box 226 (.cons (.lit (.func (.yield l) #[] #[])) .nil) :: x3y) (λ_ s=>s<=fitsN m k) (λ_ s=>fitsN m k-s))
 | 1=>some (Eng.Inv.mk (Nat × Nat) Nat [] 11 (λ_ _=>[]) (λq c=>.cnt (some ((qh9 m y q.2).length+(qg0 m y ((qe7 (nL m 0).length q.2).take c)).length)) :: .box 226 (.cons (.lit (.func (.yield q.1) #[] #[])) .nil) :: x3y) (λq c=>c<=(qe7 (nL m 0).length q.2).length) (λ_ c=>c))
 | _=>none
theorem q96 (m:List (List Int)) (y:List Int) (a:Nat):∀j,∃t,qh9 m y (a+j)=qh9 m y a++t
 | 0=>⟨[],by simp⟩
 | j+1=>by
  obtain⟨t,ht⟩:=q96 m y a j
  exact⟨t++qg0 m y (qe7 (nL m 0).length (a+j:Nat)),by rw[<- Nat.add_assoc,qh9,ht,List.append_assoc]⟩
theorem q1e (m:List (List Int)) (y:List Int) {s:List (List Int)} {c:Nat} {p:List Int} (h:s[c]? = some p):qg0 m y (s.take (c+1))=qg0 m y (s.take c)++if(qp2 m y p).2=true then[(qp2 m y p).1] else[]:=by
 rw[List.take_add_one,h]
 unfold qg0
 rw[List.filterMap_append]
 congr 1
 simp only[Option.toList_some,List.filterMap_cons,List.filterMap_nil]
 by_cases hf:(qp2 m y p).2=true
 ·rw[if_pos hf,if_pos hf]
 ·rw[if_neg hf,if_neg hf]
theorem w4y (m:List (List Int)) (y:List Int) {s:List (List Int)} {c:Nat} {p:List Int} (h:s[c]? = some p) (hf:(qp2 m y p).2=true):∃t,qg0 m y s=qg0 m y (s.take c)++(qp2 m y p).1 :: t:=by
 have e:s=s.take (c+1)++s.drop (c+1):=(List.take_append_drop _ _).symm
 have h1:qg0 m y s=qg0 m y (s.take (c+1))++qg0 m y (s.drop (c+1)):=by
  unfold qg0
  rw[<- List.filterMap_append,List.take_append_drop]
 rw[h1,q1e m y h,if_pos hf]
 exact⟨qg0 m y (s.drop (c+1)),by simp⟩
theorem w4z:q0a Tryz.prog 214 x3x:=by
 refine says (x6u (SpecsOk.cons q9z (SpecsOk.cons w8x (SpecsOk.cons q9w (SpecsOk.nil _)))) (ItsOk.cons q9v ItsOk.nil)) Tryz.func214 rfl rfl rfl [32] (λx=>x3z x.2.1.1 x.2.1.2 x.1) (λ_=>by kernel_rfl) (by decide) ?_
 rintro⟨k,q,⟨⟩⟩ l h
 revert k q
 intro(k:Int) (q:List (List Int) × List Int) (h:wi3 q.1 q.2 k)
 refine @qe1 _ (let Q0:=qi8 q.1 q.2 k; let Q1:=(k,q,PUnit.unit); let Q2:=fitsN q.1 k; let Q3:=Int × Int; (0:Nat)<q.1.length/\fits .i64 (max2 false (max2 false k (↑(nL q.1 (0:Nat)).length:Int)) (↑q.1.length:Int)+(1:Int))/\∃(v0:Nat),∃(v1:Nat),Nat.le v1 Q2/\(((0:Int)=(↑v1:Int)/\True)/\some (0:Nat)=some (qh9 q.1 q.2 v1).length/\(Value.func (Fn.yield l) #[] #[]=Value.func (Fn.yield v0) #[] #[]/\True)/\True/\True/\True/\True/\True/\True/\True/\True/\True/\True)/\∀(v2:Nat),Nat.le v2 Q2->(decide ((↑v2:Int)<max2 false (max2 false k (↑(nL q.1 (0:Nat)).length:Int)) (↑q.1.length:Int)+(1:Int))=true->(0:Nat)<q.1.length/\True/\(((0:Ty.den tInt)<=(↑v2:Int)/\(↑v2:Int)<=(1000:Ty.den tInt))/\(0:Ty.den tInt)<=(↑(nL q.1 (0:Nat)).length:Int)/\(↑(nL q.1 (0:Nat)).length:Int)<=(1000:Ty.den tInt))/\∃(v5:Nat × Nat),∃(v6:Nat),Nat.le v6 (qe7 (↑(nL q.1 (0:Nat)).length:Int) (↑v5.2:Int)).length/\v6=(0:Nat)/\(some (qh9 q.1 q.2 v2).length=some ((qh9 q.1 q.2 v5.2).length+(qg0 q.1 q.2 (List.take v6 (qe7 (↑(nL q.1 (0:Nat)).length:Int) (↑v5.2:Int)))).length)/\(Value.func (Fn.yield v0) #[] #[]=Value.func (Fn.yield v5.1) #[] #[]/\True)/\True/\True/\True/\True/\True/\True/\True/\True/\True/\True)/\∀(v7:Nat),Nat.le v7 (qe7 (↑(nL q.1 (0:Nat)).length:Int) (↑v5.2:Int)).length->(∀(v9:List Int × qa5._f [] PUnit.unit),(List.map (λ(v11:List Int)=>(v11,())) (qe7 (↑(nL q.1 (0:Nat)).length:Int) (↑v2:Int)))[v7]?=some v9->∀(v11:q8m),(q3w q.1 (nL [v9.1] (0:Nat)) q.2/\(nL [v9.1] (0:Nat)).length<=(100000:Nat))/\[v9.1]=[v9.1]/\v11=v11/\True/\((qp2 q.1 q.2 (nL [v9.1] (0:Nat))).2=true->Value.func (Fn.yield v5.1) #[] #[]=Value.func (Fn.yield (qk2.l (q4l [tInt,tQ] [wf5] [(32:Nat)] Q1 (List.map (λ(v13:List Int × List Q3)=>(v13,())) Q0) l))) #[] #[]/\(qk2.L (q4l [tInt,tQ] [wf5] [(32:Nat)] Q1 (List.map (λ(v13:List Int × List Q3)=>(v13,())) Q0) l))[(qh9 q.1 q.2 v5.2).length+(qg0 q.1 q.2 (List.take v7 (qe7 (↑(nL q.1 (0:Nat)).length:Int) (↑v5.2:Int)))).length]?=some (((qp2 q.1 q.2 (nL [v9.1] (0:Nat))).1.1,(qp2 q.1 q.2 (nL [v9.1] (0:Nat))).1.2),())/\(∃(v13:Nat),Nat.le v13 (qe7 (↑(nL q.1 (0:Nat)).length:Int) (↑v5.2:Int)).length/\v13=v7+(1:Nat)/\some ((qh9 q.1 q.2 v5.2).length+(qg0 q.1 q.2 (List.take v7 (qe7 (↑(nL q.1 (0:Nat)).length:Int) (↑v5.2:Int)))).length+(1:Nat))=some ((qh9 q.1 q.2 v5.2).length+(qg0 q.1 q.2 (List.take v13 (qe7 (↑(nL q.1 (0:Nat)).length:Int) (↑v5.2:Int)))).length)/\(Value.func (Fn.yield v5.1) #[] #[]=Value.func (Fn.yield v5.1) #[] #[]/\True)/\True/\True/\True/\True/\True/\True/\True/\True/\True/\True)/\True)/\((qp2 q.1 q.2 (nL [v9.1] (0:Nat))).2=false->∃(v13:Nat),Nat.le v13 (qe7 (↑(nL q.1 (0:Nat)).length:Int) (↑v5.2:Int)).length/\v13=v7+(1:Nat)/\some ((qh9 q.1 q.2 v5.2).length+(qg0 q.1 q.2 (List.take v7 (qe7 (↑(nL q.1 (0:Nat)).length:Int) (↑v5.2:Int)))).length)=some ((qh9 q.1 q.2 v5.2).length+(qg0 q.1 q.2 (List.take v13 (qe7 (↑(nL q.1 (0:Nat)).length:Int) (↑v5.2:Int)))).length)/\(Value.func (Fn.yield v5.1) #[] #[]=Value.func (Fn.yield v5.1) #[] #[]/\True)/\True/\True/\True/\True/\True/\True/\True/\True/\True/\True))/\(v7=(List.map (λ(v10:List Int)=>(v10,())) (qe7 (↑(nL q.1 (0:Nat)).length:Int) (↑v2:Int))).length->fits .i64 ((↑v2:Int)+(1:Int))/\∃(v10:Nat),Nat.le v10 Q2/\fitsN q.1 k-v10<fitsN q.1 k-v2/\((↑v2:Int)+(1:Int)=(↑v10:Int)/\True)/\some ((qh9 q.1 q.2 v5.2).length+(qg0 q.1 q.2 (List.take v7 (qe7 (↑(nL q.1 (0:Nat)).length:Int) (↑v5.2:Int)))).length)=some (qh9 q.1 q.2 v10).length/\(Value.func (Fn.yield v5.1) #[] #[]=Value.func (Fn.yield v0) #[] #[]/\True)/\True/\True/\True/\True/\True/\True/\True/\True/\True/\True))/\(decide ((↑v2:Int)<max2 false (max2 false k (↑(nL q.1 (0:Nat)).length:Int)) (↑q.1.length:Int)+(1:Int))=false->(qh9 q.1 q.2 v2).length=(qk2.L (q4l [tInt,tQ] [wf5] [(32:Nat)] Q1 (List.map (λ(v5:List Int × List Q3)=>(v5,())) Q0) l)).length)) (by kernel_rfl) ?_
 try simp only[z0,z1,z2,z3,z4,z5,z6,z7,z8,z9,z10,Int.reduceEq,z11,z12,z13,z14,z15,z16,z17,z18,z19,z20,z21,z22,z23,z24,z25,z26,z27,z28,z29,z30,Int.reduceLE,Int.reduceLT,z31,z32,z33,z34,qa3]
 try simp only[qb5,qb6,qd0,z31,z32,z2,z1]
 have hk0:=h.k0
 have hk1:=h.k1
 have hone:=h.one
 have hrows:=h.rows
 have hpix:=h.pix
 have hN:(fitsN q.1 k:Int)=min (min k (nL q.1 0).length) q.1.length+1:=by unfold fitsN; omega
 have hM:max2 false (max2 false k ((nL q.1 0).length:Int)) (q.1.length:Int)=min (min k (nL q.1 0).length) q.1.length:=rfl
 rw[hM]
 refine⟨hone,qa9 (by omega) (by omega),l,0,Nat.zero_le _,⟨rfl,rfl,rfl⟩,λs hs=>⟨λhlt=>?_,λhge=>?_⟩⟩
 ·have hsN:s<fitsN q.1 k:=by omega
  refine⟨hone,by omega,(l,s),0,Nat.zero_le _,rfl,⟨by simp[qg0],rfl⟩,λc hc=>⟨?_,λhfin=>?_⟩⟩
  ·rintro⟨p,⟨⟩⟩ hp -
   have hp2:(qe7 (nL q.1 0).length s)[c]? = some p:=by
    rw[List.getElem?_map] at hp
    obtain⟨p',h1,h2⟩:=Option.map_eq_some_iff.1 hp
    rw[h1]
    exact congrArg some (congrArg Prod.fst h2)
   have hcl:=(List.getElem?_eq_some_iff.1 hp2).1
   dsimp only
   refine⟨h.sets s hsN p (List.mem_of_getElem? hp2),λhf=>⟨rfl,?_,c+1,hcl,rfl,?_⟩,λhf=>⟨c+1,hcl,rfl,?_⟩⟩
   ·show((qi8 q.1 q.2 k).map λf=>((f,()):qa5 [wf5]))[(qh9 q.1 q.2 s).length+(qg0 q.1 q.2 ((qe7 (nL q.1 0).length s).take c)).length]? = some ((qp2 q.1 q.2 p).1,())
    obtain⟨t,ht⟩:=q96 q.1 q.2 (s+1) (fitsN q.1 k-(s+1))
    rw[show s+1+(fitsN q.1 k-(s+1))=fitsN q.1 k by omega,qh9] at ht
    obtain⟨t2,ht2⟩:=w4y q.1 q.2 hp2 hf
    rw[List.getElem?_map]
    unfold qi8
    rw[ht,ht2,List.append_assoc,List.append_assoc,List.getElem?_append_right (by omega),Nat.add_sub_cancel_left,List.getElem?_append_right (Nat.le_refl _),Nat.sub_self]
    rfl
   ·rw[q1e q.1 q.2 hp2,if_pos hf,List.length_append]
    rfl
   ·rw[q1e q.1 q.2 hp2,if_neg (by rw[hf]; decide),List.append_nil]
  ·rw[List.length_map] at hfin
   refine⟨qa9 (by omega) (by omega),s+1,hsN,by omega,by omega,?_,rfl⟩
   dsimp only
   rw[hfin,List.take_length,qh9,List.length_append]
 ·have e:s=fitsN q.1 k:=by omega
  show(qh9 q.1 q.2 s).length=((qi8 q.1 q.2 k).map λf=>((f,()):qa5 [wf5])).length
  rw[List.length_map,e]
  rfl
abbrev x33:qb9:=w7i false none [tQ,tInt] (λ_=>True) (λx=>.clo 214 (.cons (.imm (.cons (.lit (.int .i64 x.2.1)) .nil) 0) (.cons (.imm (.cons (.dat (.list (.int .i64)) x.1.1) (.cons (.dat (.int .i64) x.1.2) .nil)) 0) .nil)))
theorem wx9:Meets Tryz.prog 159 x33:=by
 refine wn3 (snd (SpecsOk.nil _)) Tryz.func159 rfl rfl (λ_ _=>none) (λ_=>by kernel_rfl) (by decide) ?_
 rintro⟨q,k,⟨⟩⟩ -
 revert q k
 intro(q:List (List Int) × List Int) (k:Int)
 refine @qe1 _ (((k=k/\True)/\(0:Nat)=(0:Nat))/\((q.1=q.1/\q.2=q.2/\True)/\(0:Nat)=(0:Nat))/\True) (by kernel_rfl) ?_
 try simp only[z0,z1,z2,z3,z4,z5,z6,z7,z8,z9,z10,Int.reduceEq,z11,z12,z13,z14,z15,z16,z17,z18,z19,z20,z21,z22,z23,z24,z25,z26,z27,z28,z29,z30,Int.reduceLE,Int.reduceLT,z31,z32,z33,z34,qa3]
 try simp only[qb5,qb6,qd0,z31,z32,z2,z1]
structure w2c (m:List (List Int)) (y:List Int) (k:Int):Prop where
 pre:wi3 m y k
 len:(qi8 m y k).length<=1000000
def spL (L:List Fit):List Fit:=L.takeWhile λf=>decide (f.1.length<=(nF L 0).1.length)
def qx2 (m:List (List Int)) (y:List Int):List Fit × Int:=if qr5 m y []=0 then(if qi8 m y 10=[] then([],10) else(spL (qi8 m y 10),0)) else([],qr5 m y [])
structure q0d (m:List (List Int)) (y:List Int):Prop where
 ok:qr5 m y []=0->w2c m y 10
structure w40 (L:List Fit) (c:Nat):Prop where
 le:c<=L.length
 all:∀i,i<c->(nF L i).1.length<=(nF L 0).1.length
abbrev x7w:qb9:=qg2 false none [tMask,tInts] [x7n,tInt] (λx=>q0d x.1 x.2.1) (λx=>((qx2 x.1 x.2.1).1,(qx2 x.1 x.2.1).2,()))
def x35 (L:List Fit):Nat->Option Inv
 | 0=>some (Inv.of [] 2 (λ_=>[]) (λc:Nat=>[.box 127 (.cons (.own 1) .nil),.vec 72 wf5 (L.take c)]) (λc=>w40 L c) (λc=>c))
 | _=>none
theorem w83 {α:Type} (p:α->Bool):∀(l:List α) (c:Nat),c<=l.length->(∀(i:Nat) (h:i<l.length),i<c->p l[i]=true)->(∀h:c<l.length,p l[c]=false)->l.takeWhile p=l.take c
 | [],c,h,_,_=>by simp
 | x :: l,0,_,_,h2=>by
  have:=h2 (by simp)
  simp only[List.getElem_cons_zero] at this
  simp[List.takeWhile_cons,this]
 | x :: l,c+1,h,h1,h2=>by
  have hx:=h1 0 (by simp) (by omega)
  simp only[List.getElem_cons_zero] at hx
  rw[List.takeWhile_cons,hx,if_pos rfl,List.take_succ_cons,w83 p l c (by simpa using h) (λi hi hc=>h1 (i+1) (by simpa using hi) (by omega)) (λhc=>h2 (by simpa using hc))]
theorem xl7 (l:List Fit) (i:Nat) (h:i<l.length):nF l i=l[i]:=qj8 (t:=wf5) l i h
theorem w2d {L:List Fit} {c:Nat} (h:w40 L c) (hs:∀h:c<L.length,(nF L 0).1.length<(nF L c).1.length):spL L=L.take c:=by
 refine w83 _ L c h.le (λi hi hc=>?_) λhc=>?_
 ·have:=h.all i hc
  rw[xl7 L i hi] at this
  exact decide_eq_true this
 ·have:=hs hc
  rw[xl7 L c hc] at this
  exact decide_eq_false (by omega)
theorem q97:Meets Tryz.prog 99 x7w:=by
 refine meets (x6u (SpecsOk.cons q7i (SpecsOk.cons wx9 (SpecsOk.nil _))) (ItsOk.cons w4z ItsOk.nil)) Tryz.func99 rfl rfl (λx=>x35 (qi8 x.1 x.2.1 10)) (λ_=>by kernel_rfl) (by decide) ?_
 rintro⟨m,y,⟨⟩⟩ h
 revert m y
 intro(m:List (List Int)) (y:List Int) (h:q0d m y)
 refine @qe1 _ (let Q0:=qx2 m y; Value.slice none (0:Nat) (0:Nat)=Value.slice none (0:Nat) (0:Nat)/\(0:Nat)<=(1000000:Nat)/\((qr5 m y [] != (0:Int))=true->Q0.1=[]/\qr5 m y []=Q0.2/\True)/\((qr5 m y [] != (0:Int))=false->True/\wi3 m y (10:Int)/\∃(v1:Unit),∃(v2:Nat),w40 (qi8 m y (10:Int)) v2/\v2=(0:Nat)/\((True/\True)/\List.take v2 (qi8 m y (10:Int))=[]/\True)/\∀(v3:Nat),w40 (qi8 m y (10:Int)) v3->(∀(v5:(List Int × List (Int × Int)) × qa5._f [] PUnit.unit),(List.map (λ(v7:List Int × List (Int × Int))=>(v7,())) (qi8 m y (10:Int)))[v3]?=some v5->(decide ((0:Int)<(↑(List.take v3 (qi8 m y (10:Int))).length:Int))=true->((0:Int)<=(0:Int)/\(0:Int)<(↑(List.take v3 (qi8 m y (10:Int))).length:Int))/\(0:Nat)<(List.take v3 (qi8 m y (10:Int))).length/\(decide ((↑(qd4 wf5 (List.take v3 (qi8 m y (10:Int))) (0:Nat)).1.length:Int)<(↑v5.1.1.length:Int))=true->(((↑(List.take v3 (qi8 m y (10:Int))).length:Int)==(0:Int))=true->Q0.1=[]/\(10:Int)=Q0.2/\True)/\(((↑(List.take v3 (qi8 m y (10:Int))).length:Int)==(0:Int))=false->List.take v3 (qi8 m y (10:Int))=Q0.1/\(0:Int)=Q0.2/\True))/\(decide ((↑(qd4 wf5 (List.take v3 (qi8 m y (10:Int))) (0:Nat)).1.length:Int)<(↑v5.1.1.length:Int))=false->((0:Nat)<List.length [(v5.1.1,v5.1.2)]/\Nat.le ((List.take v3 (qi8 m y (10:Int))).length+List.length [(v5.1.1,v5.1.2)]) (1000000:Nat))/\∃(v9:Nat),w40 (qi8 m y (10:Int)) v9/\v9=v3+(1:Nat)/\(True/\True)/\List.take v3 (qi8 m y (10:Int))++[(v5.1.1,v5.1.2)]=List.take v9 (qi8 m y (10:Int))/\True))/\(decide ((0:Int)<(↑(List.take v3 (qi8 m y (10:Int))).length:Int))=false->((0:Nat)<List.length [(v5.1.1,v5.1.2)]/\Nat.le ((List.take v3 (qi8 m y (10:Int))).length+List.length [(v5.1.1,v5.1.2)]) (1000000:Nat))/\∃(v8:Nat),w40 (qi8 m y (10:Int)) v8/\v8=v3+(1:Nat)/\(True/\True)/\List.take v3 (qi8 m y (10:Int))++[(v5.1.1,v5.1.2)]=List.take v8 (qi8 m y (10:Int))/\True))/\(v3=(List.map (λ(v6:List Int × List (Int × Int))=>(v6,())) (qi8 m y (10:Int))).length->(((↑(List.take v3 (qi8 m y (10:Int))).length:Int)==(0:Int))=true->Q0.1=[]/\(10:Int)=Q0.2/\True)/\(((↑(List.take v3 (qi8 m y (10:Int))).length:Int)==(0:Int))=false->List.take v3 (qi8 m y (10:Int))=Q0.1/\(0:Int)=Q0.2/\True)))) (by kernel_rfl) ?_
 try simp only[z0,z1,z2,z3,z4,z5,z6,z7,z8,z9,z10,Int.reduceEq,z11,z12,z13,z14,z15,z16,z17,z18,z19,z20,z21,z22,z23,z24,z25,z26,z27,z28,z29,z30,Int.reduceLE,Int.reduceLT,z31,z32,z33,z34,qa3]
 try simp only[qb5,qb6,qd0,z31,z32,z2,z1]
 refine⟨by omega,λhe=>by simp[qx2,he],λhe=>?_⟩
 have hp:=h.ok he
 have hR:qx2 m y=if qi8 m y 10=[] then([],10) else(spL (qi8 m y 10),0):=by rw[qx2,if_pos he]
 have hlen:=hp.len
 refine⟨hp.pre,(),0,⟨Nat.zero_le _,λi hi=>absurd hi (by omega)⟩,rfl,rfl,?_⟩
 generalize qi8 m y 10=L at hR hlen ⊢
 rw[hR]
 rintro c hc
 have hcl:=hc.le
 have htl:(L.take c).length=c:=by rw[List.length_take]; omega
 rw[htl]
 refine⟨?_,λhfin=>?_⟩
 ·rintro⟨f,⟨⟩⟩ hf
  rw[List.getElem?_map] at hf
  obtain⟨f',h1,h2⟩:=Option.map_eq_some_iff.1 hf
  obtain rfl:f'=f:=congrArg Prod.fst h2
  have hlt:=(List.getElem?_eq_some_iff.1 h1).1
  have hLne:L≠[]:=λe=>by rw[e] at hlt; exact absurd hlt (by simp)
  have hfe:nF L c=f':=by rw[xl7 L c hlt]; exact(List.getElem?_eq_some_iff.1 h1).2
  have hnx:L.take c++[(f'.1,f'.2)]=L.take (c+1):=by rw[List.take_add_one,h1]; rfl
  refine⟨λh0=>?_,λh0=>?_⟩
  ·have h0:0<c:=by omega
   have hn0:qd4 wf5 (L.take c) 0=nF L 0:=by
    rw[qj8 (t:=wf5) _ 0 (by rw[htl]; exact h0),xl7 L 0 (by omega)]
    simp
   rw[hn0]
   refine⟨by omega,h0,λhbr=>⟨λhz=>by omega,λ_=>?_⟩,λhbr=>⟨by omega,c+1,⟨hlt,λi hi=>?_⟩,rfl,hnx⟩⟩
   ·rw[if_neg hLne,w2d hc λ_=>by rw[hfe]; exact hbr]
    exact⟨rfl,rfl⟩
   ·by_cases e:i=c
    ·have hbr:¬(nF L 0).1.length<f'.1.length:=hbr
     subst e; rw[hfe]; omega
    ·exact hc.all i (by omega)
  ·have h0:c=0:=by omega
   subst h0
   exact⟨by omega,1,⟨hlt,λi hi=>(by have e:i=0:=(by omega); subst e; exact Nat.le_refl _)⟩,rfl,hnx⟩
 ·rw[List.length_map] at hfin
  refine⟨λhz=>?_,λhz=>?_⟩
  ·have e:L=[]:=List.eq_nil_of_length_eq_zero (by omega)
   rw[if_pos e]
   exact⟨rfl,rfl⟩
  ·have e:L≠[]:=λe=>by rw[e] at hfin; simp at hfin; omega
   rw[if_neg e,w2d hc λh=>by omega]
   exact⟨rfl,rfl⟩
def w84:Fit:=([],[])
def w5o (m:List (List Int)) (y:List Int):Fit × Int:=if(qx2 m y).2=0 then(nF (qx2 m y).1 0,0) else(w84,(qx2 m y).2)
def w5p (m:List (List Int)) (y:List Int):Fit × Int:=if(qx2 m y).2≠0 then(w84,(qx2 m y).2) else if 1<(qx2 m y).1.length then(w84,11) else(nF (qx2 m y).1 0,0)
theorem x36 {L:List Fit} (h:L≠[]):0<(spL L).length:=by
 cases L with
 | nil=>exact absurd rfl h
 | cons f l=>
  unfold spL
  rw[List.takeWhile_cons,if_pos]
  ·simp
  ·exact decide_eq_true (Nat.le_refl _)
theorem w2e {m:List (List Int)} {y:List Int} (h:(qx2 m y).2=0):0<(qx2 m y).1.length:=by
 unfold qx2 at h ⊢
 split
 ·rename_i he
  rw[if_pos he] at h
  split
  ·rename_i e; rw[if_pos e] at h; cases h
  ·rename_i e; exact x36 e
 ·rename_i he
  rw[if_neg he] at h
  exact absurd h he
abbrev yf0:qb9:=qg2 false none [tMask,tInts] [wf5,tInt] (λx=>q0d x.1 x.2.1) (λx=>((w5o x.1 x.2.1).1,(w5o x.1 x.2.1).2,()))
theorem w85:Meets Tryz.prog 76 yf0:=by
 refine meets (snd (SpecsOk.cons q97 (SpecsOk.nil _))) Tryz.func76 rfl rfl (λ_ _=>none) (λ_=>by kernel_rfl) (by decide) ?_
 rintro⟨m,y,⟨⟩⟩ h
 revert m y
 intro(m:List (List Int)) (y:List Int) (h:q0d m y)
 refine @qe1 _ (let Q0:=qx2 m y; let Q1:=w5o m y; q0d m y/\((Q0.2 != (0:Int))=true->(Q1.1.1=[]/\Q1.1.2=[]/\True)/\Q0.2=Q1.2/\True)/\((Q0.2 != (0:Int))=false->((0:Int)<=(0:Int)/\(0:Int)<(↑Q0.1.length:Int))/\((qd4 (Ty.prod (Ty.list (Ty.int .i64)) (Ty.list (Ty.prod (Ty.int .i64) (Ty.int .i64)))) Q0.1 (0:Nat)).1=Q1.1.1/\(qd4 (Ty.prod (Ty.list (Ty.int .i64)) (Ty.list (Ty.prod (Ty.int .i64) (Ty.int .i64)))) Q0.1 (0:Nat)).2=Q1.1.2/\True)/\(0:Int)=Q1.2/\True)) (by kernel_rfl) ?_
 try simp only[z0,z1,z2,z3,z4,z5,z6,z7,z8,z9,z10,Int.reduceEq,z11,z12,z13,z14,z15,z16,z17,z18,z19,z20,z21,z22,z23,z24,z25,z26,z27,z28,z29,z30,Int.reduceLE,Int.reduceLT,z31,z32,z33,z34,qa3]
 try simp only[qb5,qb6,qd0,z31,z32,z2,z1]
 refine⟨h,λhe=>?_,λhe=>⟨by have:=w2e he; omega,?_⟩⟩
 ·rw[w5o,if_neg (by omega)]; exact⟨⟨rfl,rfl⟩,rfl⟩
 ·rw[w5o,if_pos (by omega)]; exact⟨⟨rfl,rfl⟩,rfl⟩
abbrev yf1:qb9:=qg2 false none [tMask,tInts] [wf5,tInt] (λx=>q0d x.1 x.2.1) (λx=>((w5p x.1 x.2.1).1,(w5p x.1 x.2.1).2,()))
theorem w86:Meets Tryz.prog 47 yf1:=by
 refine meets (snd (SpecsOk.cons q97 (SpecsOk.nil _))) Tryz.func47 rfl rfl (λ_ _=>none) (λ_=>by kernel_rfl) (by decide) ?_
 rintro⟨m,y,⟨⟩⟩ h
 revert m y
 intro(m:List (List Int)) (y:List Int) (h:q0d m y)
 refine @qe1 _ (let Q0:=qx2 m y; let Q1:=w5p m y; q0d m y/\((Q0.2 != (0:Int))=true->(Q1.1.1=[]/\Q1.1.2=[]/\True)/\Q0.2=Q1.2/\True)/\((Q0.2 != (0:Int))=false->(decide ((1:Int)<(↑Q0.1.length:Int))=true->(Q1.1.1=[]/\Q1.1.2=[]/\True)/\(11:Int)=Q1.2/\True)/\(decide ((1:Int)<(↑Q0.1.length:Int))=false->((0:Int)<=(0:Int)/\(0:Int)<(↑Q0.1.length:Int))/\((qd4 (Ty.prod (Ty.list (Ty.int .i64)) (Ty.list (Ty.prod (Ty.int .i64) (Ty.int .i64)))) Q0.1 (0:Nat)).1=Q1.1.1/\(qd4 (Ty.prod (Ty.list (Ty.int .i64)) (Ty.list (Ty.prod (Ty.int .i64) (Ty.int .i64)))) Q0.1 (0:Nat)).2=Q1.1.2/\True)/\(0:Int)=Q1.2/\True))) (by kernel_rfl) ?_
 try simp only[z0,z1,z2,z3,z4,z5,z6,z7,z8,z9,z10,Int.reduceEq,z11,z12,z13,z14,z15,z16,z17,z18,z19,z20,z21,z22,z23,z24,z25,z26,z27,z28,z29,z30,Int.reduceLE,Int.reduceLT,z31,z32,z33,z34,qa3]
 try simp only[qb5,qb6,qd0,z31,z32,z2,z1]
 refine⟨h,λhe=>?_,λhe=>⟨λh1=>?_,λh1=>⟨by have:=w2e he; omega,?_⟩⟩⟩
 ·rw[w5p,if_pos he]; exact⟨⟨rfl,rfl⟩,rfl⟩
 ·rw[w5p,if_neg (by omega),if_pos (by omega)]; exact⟨⟨rfl,rfl⟩,rfl⟩
 ·rw[w5p,if_neg (by omega),if_neg (by omega)]; exact⟨⟨rfl,rfl⟩,rfl⟩
end Go.Proofs.YtmijnbjlhnpokaaGreat
