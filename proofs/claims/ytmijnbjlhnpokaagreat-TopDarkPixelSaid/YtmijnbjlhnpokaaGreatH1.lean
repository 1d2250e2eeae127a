/- Faults of a mask: valid, and what they do; contracts by the engine. No condition. -/
import Derived.Test.YtmijnbjlhnpokaaGreatV12
import Derived.Test.YtmijnbjlhnpokaaGreatV8
import Derived.Test.YtmijnbjlhnpokaaGreatV4
set_option linter.unusedVariables false
set_option linter.unusedSimpArgs false
namespace Go.Proofs.YtmijnbjlhnpokaaGreat
open Go Go.RowKit Eng
theorem xl9 (t:Ty) (a b:List t.den) (hl:a.length=b.length) (h:∀i,i<a.length->qf2 t a i=qf2 t b i):a=b:=by
 apply List.ext_getElem hl
 intro i h1 h2
 have:=h i h1
 rwa [qq4 a i h1,qq4 b i h2] at this
def x8i (a b:List (Ty.den (.int .i64))):Nat->Option Inv
 | 0=>some (Inv.of [13] 0 (λk:Nat=>[(13,.lit (.int .i64 k))]) (λ_=>[]) (λk=>k<=a.length/\∀i,i<k->qf2 (.int .i64) a i=qf2 (.int .i64) b i) (λk=>a.length-k))
 | _=>none
abbrev yk2:qb7:=qf1 true none [.list (.int .i64),.list (.int .i64)] [.bool] (λx=>x.1.length<=1000000) (λx=>(decide (x.1=x.2.1),()))
theorem w9e:Meets Tryz.prog 116 yk2:=by
 refine meets (snd (SpecsOk.nil _)) Tryz.func116 rfl rfl (λx=>x8i x.1 x.2.1) (λ_=>by kernel_rfl) (by decide) ?_
 rintro⟨a,b,⟨⟩⟩ h
 revert a b
 intro(a:List (Ty.den (.int .i64))) (b:List (Ty.den (.int .i64))) (h:a.length<=1000000)
 refine @qd1 _ ((((↑a.length:Int) != (↑b.length:Int))=true->false=decide (a=b))/\(((↑a.length:Int) != (↑b.length:Int))=false->∃(v1:Unit),∃(v2:Nat),(v2<=a.length/\∀(v3:Nat),Nat.le (Nat.succ v3) v2->nI a v3=nI b v3)/\(((0:Int)=(↑v2:Int)/\True)/\True)/\∀(v3:Nat),(v3<=a.length/\∀(v5:Nat),Nat.le (Nat.succ v5) v3->nI a v5=nI b v5)->(decide ((↑v3:Int)<(↑a.length:Int))=true->((0:Int)<=(↑v3:Int)/\(↑v3:Int)<(↑a.length:Int))/\((0:Int)<=(↑v3:Int)/\(↑v3:Int)<(↑b.length:Int))/\((nI a v3 != nI b v3)=true->false=decide (a=b))/\((nI a v3 != nI b v3)=false->fits .i64 ((↑v3:Int)+(1:Int))/\∃(v7:Nat),(v7<=a.length/\∀(v8:Nat),Nat.le (Nat.succ v8) v7->nI a v8=nI b v8)/\a.length-v7<a.length-v3/\((↑v3:Int)+(1:Int)=(↑v7:Int)/\True)/\True))/\(decide ((↑v3:Int)<(↑a.length:Int))=false->true=decide (a=b)))) (by kernel_rfl) ?_
 try simp only[z0,z1,z2,z3,z4,z5,z6,z7,z8,z9,z10,Int.reduceEq,z11,z12,z13,z14,z15,z16,z17,z18,z19,z20,z21,z22,z23,z24,z25,z26,z27,z28,z29,z30,Int.reduceLE,Int.reduceLT,z31,z32,z33,z34,qa1]
 try simp only[qa7,qa8,qb8,z31,z32,z2,z1]
 refine⟨λhl=>?_,λhl=>?_⟩
 ·rw[decide_eq_false]; intro e; subst e; exact hl rfl
 ·refine⟨(),0,⟨Nat.zero_le _,λi hi=>absurd hi (by omega)⟩,rfl,λk ⟨hk,hall⟩=>⟨λhlt=>⟨hlt,by omega,λhne=>?_,λhe=>⟨qb5 (by omega) (by omega),k+1,⟨by omega,λi hi=>?_⟩,by omega,by omega⟩⟩,λhge=>?_⟩⟩
  ·rw[decide_eq_false]; intro e; subst e; first | exact hne rfl | (revert hne; simp)
  ·by_cases e:i=k
   ·subst e; first | exact he | (refine Prod.ext ?_ ?_ <;> simp_all)
   ·exact hall i (by omega)
  ·exact(decide_eq_true (xl9 _ a b (by omega) λi hi=>hall i (by omega))).symm
abbrev tQ:Ty:=.prod (.list (.list (.int .i64))) (.list (.int .i64))
abbrev x4g:qb7:=qf1 true none [q0e] [.bool] (λ_=>True) (λx=>(x.1.1==0,()))
theorem w5h:Meets Tryz.prog 240 x4g:=by
 refine meets (snd (SpecsOk.nil _)) Tryz.func240 rfl rfl (λ_ _=>none) (λ_=>by kernel_rfl) (by decide) ?_
 rintro⟨r,⟨⟩⟩ -
 revert r
 intro(r:Int × Int)
 refine @qd1 _ ((r.1==(0:Int))=(r.1==(0:Ty.den (Ty.int .i64)))) (by kernel_rfl) ?_
 try simp only[z0,z1,z2,z3,z4,z5,z6,z7,z8,z9,z10,Int.reduceEq,z11,z12,z13,z14,z15,z16,z17,z18,z19,z20,z21,z22,z23,z24,z25,z26,z27,z28,z29,z30,Int.reduceLE,Int.reduceLT,z31,z32,z33,z34,qa1]
 try simp only[qa7,qa8,qb8,z31,z32,z2,z1]
 done
abbrev x8j:qb7:=qf1 true none [tQ] [qc8] (λx=>0<x.1.1.length) (λx=>((nL x.1.1 0).length,()))
theorem w5i:Meets Tryz.prog 144 x8j:=by
 refine meets (snd (SpecsOk.nil _)) Tryz.func144 rfl rfl (λ_ _=>none) (λ_=>by kernel_rfl) (by decide) ?_
 rintro⟨q,⟨⟩⟩ h
 revert q
 intro(q:List (List Int) × List Int) (h:0<q.1.length)
 refine @qd1 _ (((0:Int)<=(0:Int)/\(0:Int)<(↑q.1.length:Int))/\(↑(nL q.1 (0:Nat)).length:Int)=(↑(nL q.1 (0:Nat)).length:Int)) (by kernel_rfl) ?_
 try simp only[z0,z1,z2,z3,z4,z5,z6,z7,z8,z9,z10,Int.reduceEq,z11,z12,z13,z14,z15,z16,z17,z18,z19,z20,z21,z22,z23,z24,z25,z26,z27,z28,z29,z30,Int.reduceLE,Int.reduceLT,z31,z32,z33,z34,qa1]
 try simp only[qa7,qa8,qb8,z31,z32,z2,z1]
 omega
def wj5 (m:List (List Int)) (y pix:List Int):(List Int × List (Int × Int)) × Bool:=if(w2e m pix y).2≠0\/((w2e m pix y).1.any λr=>r.1==0)=true then(([],[]),false) else((pix,(w2e m pix y).1),true)
abbrev x8k:qb7:=qf1 true none [tQ,qe9] [x0e,.bool] (λx=>q3w x.1.1 x.2.1 x.1.2/\x.2.1.length<=100000) (λx=>((wj5 x.1.1 x.1.2 x.2.1).1,(wj5 x.1.1 x.1.2 x.2.1).2,()))
theorem xm0 {m:List (List Int)} {pix y:List Int} (h:q3w m pix y):(w2e m pix y).1.length<=1000000:=by
 unfold w2e
 split
 ·rename_i he
  have hA:=Asked.of he
  have hO:=h.ok he
  unfold x2f
  split
  ·simp
  ·split
   ·simp
   ·have hsh:=(q1w hO.red pix.length).piv
    rw[show(qk3 m pix y).length=m.length from ql2 _ _ _] at hsh
    have:=hA.msk.rows6
    have e:(w2d m pix y).2.length=(qc7 (qk3 m pix y) pix.length).2.length:=rfl
    simp
    omega
 ·simp
theorem w9f:Meets Tryz.prog 215 x8k:=by
 refine meets (snd (SpecsOk.cons w9d (SpecsOk.cons q7c (SpecsOk.cons (w8q (fs:=[(240,x4g)]) (SpecsOk.cons w5h (SpecsOk.nil _))) (SpecsOk.nil _))))) Tryz.func215 rfl rfl (λ_ _=>none) (λ_=>by kernel_rfl) (by decide) ?_
 rintro⟨q,pix,⟨⟩⟩ h
 revert q pix
 intro(q:List (List Int) × List Int) (pix:List Int) (h:q3w q.1 pix q.2/\pix.length<=100000)
 refine @qd1 _ (let Q0:=wj5 q.1 q.2 pix; let Q1:=w2e q.1 pix q.2; q3w q.1 pix q.2/\((Q1.2 != (0:Int))=true->(Q0.1.1=[]/\Q0.1.2=[]/\True)/\false=Q0.2/\True)/\((Q1.2 != (0:Int))=false->∃(v1:qa4 [Ty.prod (Ty.int .i64) (Ty.int .i64)]->Prop),∃(v2:qa4 [Ty.prod (Ty.int .i64) (Ty.int .i64)]->Bool),(∀(v3:(Int × Int) × qa4._f [] PUnit.unit),v1 v3->True/\(v3.1.1==(0:Ty.den (Ty.int .i64)))=v2 v3)/\(Q1.1.length<=(1000000:Nat)/\∀(v3:Nat),v3<Q1.1.length->v1 (qf2 (Ty.prod (Ty.int .i64) (Ty.int .i64)) Q1.1 v3,()))/\((List.any Q1.1 λ(v4:Int × Int)=>v2 (v4,()))=true->(Q0.1.1=[]/\Q0.1.2=[]/\True)/\false=Q0.2/\True)/\((List.any Q1.1 λ(v4:Int × Int)=>v2 (v4,()))=false->pix.length<=(100000:Nat)/\(pix=Q0.1.1/\Q1.1=Q0.1.2/\True)/\true=Q0.2/\True))) (by kernel_rfl) ?_
 try simp only[z0,z1,z2,z3,z4,z5,z6,z7,z8,z9,z10,Int.reduceEq,z11,z12,z13,z14,z15,z16,z17,z18,z19,z20,z21,z22,z23,z24,z25,z26,z27,z28,z29,z30,Int.reduceLE,Int.reduceLT,z31,z32,z33,z34,qa1]
 try simp only[qa7,qa8,qb8,z31,z32,z2,z1]
 obtain⟨hp,hl⟩:=h
 refine⟨hp,λh1=>by simp[wj5,h1],λh1=>⟨λ_=>True,λx=>x.1.1==0,λ_ _=>rfl,⟨?_,λ_ _=>trivial⟩,λh2=>?_,λh2=>⟨hl,?_⟩⟩⟩
 ·exact xm0 hp
 ·have h2:((w2e q.1 pix q.2).1.any λr=>r.1==0)=true:=h2
  unfold wj5; rw[if_pos (.inr h2)]; exact⟨⟨rfl,rfl⟩,rfl⟩
 ·have h2:((w2e q.1 pix q.2).1.any λr=>r.1==0)=false:=h2
  unfold wj5; rw[if_neg (by rw[h1,h2]; simp)]; exact⟨⟨rfl,rfl⟩,rfl⟩
def wj6 (m:List (List Int)) (y:List Int) (k:Int):Int:=if q8o m y []=0 then(if inB k 0 10 then 0 else 7) else q8o m y []
abbrev yk3:qb7:=qf1 true none [qg0,qe9,qc8] [qc8] (λ_=>True) (λx=>(wj6 x.1 x.2.1 x.2.2.1,()))
theorem w9g:Meets Tryz.prog 254 yk3:=by
 refine meets (snd (SpecsOk.cons wo7 (SpecsOk.cons qt2 (SpecsOk.nil _)))) Tryz.func254 rfl rfl (λ_ _=>none) (λ_=>by kernel_rfl) (by decide) ?_
 rintro⟨m,y,k,⟨⟩⟩ -
 revert m y k
 intro(m:List (List Int)) (y:List Int) (k:Int)
 refine @qd1 _ (Value.slice none (0:Nat) (0:Nat)=Value.slice none (0:Nat) (0:Nat)/\(0:Nat)<=(1000000:Nat)/\((q8o m y [] != (0:Int))=true->q8o m y []=wj6 m y k)/\((q8o m y [] != (0:Int))=false->True/\((!inB k (0:Int) (10:Int))=true->(7:Int)=wj6 m y k)/\((!inB k (0:Int) (10:Int))=false->(0:Int)=wj6 m y k))) (by kernel_rfl) ?_
 try simp only[z0,z1,z2,z3,z4,z5,z6,z7,z8,z9,z10,Int.reduceEq,z11,z12,z13,z14,z15,z16,z17,z18,z19,z20,z21,z22,z23,z24,z25,z26,z27,z28,z29,z30,Int.reduceLE,Int.reduceLT,z31,z32,z33,z34,qa1]
 try simp only[qa7,qa8,qb8,z31,z32,z2,z1]
 exact⟨by decide,λhe=>by simp[wj6,he],λhe=>⟨λhk=>by simp[wj6,he,hk],λhk=>by simp[wj6,he,hk]⟩⟩
def qu3 (l:List Int):List Int:=l.map λn=>n.tdiv (max (gcdL l) 1)
def q7j (l:List Int) (n:Int):List Int:=l.map λk=>k*n
def wy5 (r p:List Int) (j:Nat):List Int:=(List.range r.length).map λk=>nI r k*nI p j-nI p k*nI r j
def qi6 (r p:List Int) (j:Nat):List Int:=qu3 (wy5 r p j)
def qn4 (m:List (List Int)) (pix:List Int):List (List Int):=(List.range m.length).map λi=>qx0 (nL m i) pix
theorem wp4 (m:List (List Int)) (pix:List Int):(qn4 m pix).length=m.length:=by simp[qn4]
theorem qr3 (m:List (List Int)) (pix:List Int) (i:Nat) (hi:i<m.length):nL (qn4 m pix) i=qx0 (nL m i) pix:=by
 rw[qj8 _ _ (by rw[wp4]; exact hi)]; simp[qn4]
def lastTo (left:List (List Int)) (j:Nat):Nat->Int
 | 0=>-1
 | i+1=>if nI (nL left i) j≠0 then(i:Int) else lastTo left j i
def w9h (left:List (List Int)) (j:Nat) (at_:Int):List Int:=if nI (nL left at_.toNat) j<0 then q7j (nL left at_.toNat) (-1) else nL left at_.toNat
def qr5 (left:List (List Int)) (p:List Int) (j:Nat) (at_:Int):Nat->List (List Int)
 | 0=>[]
 | i+1=>if(i:Int)≠at_ then qr5 left p j at_ i++[qi6 (nL left i) p j] else qr5 left p j at_ i
structure RS where
 left:List (List Int)
 done_:List (List Int)
 piv:List Int
def w9i (s:RS) (j:Nat):RS:=
 if lastTo s.left j s.left.length<0 then s
 else⟨qr5 s.left (w9h s.left j (lastTo s.left j s.left.length)) j (lastTo s.left j s.left.length) s.left.length,(s.done_.map λr=>qi6 r (w9h s.left j (lastTo s.left j s.left.length)) j)++[w9h s.left j (lastTo s.left j s.left.length)],s.piv++[(j:Int)]⟩
def qn0 (rows:List (List Int)):Nat->RS
 | 0=>⟨rows.map qu3,[],[]⟩
 | j+1=>w9i (qn0 rows j) j
def rdW (rows:List (List Int)):Nat:=(nL rows 0).length
def q57 (rows:List (List Int)):List (List Int) × List Int:=((qn0 rows (rdW rows)).done_,(qn0 rows (rdW rows)).piv)
theorem qx2 (l:List Int):(qu3 l).length=l.length:=by simp[qu3]
theorem qv0 (r p:List Int) (j:Nat):(qi6 r p j).length=r.length:=by unfold qi6; rw[qx2]; simp[wy5]
theorem qx3 (l:List Int) (n:Int):(q7j l n).length=l.length:=by simp[q7j]
theorem q7k (left:List (List Int)) (j:Nat):∀k:Nat,lastTo left j k<k/\-1<=lastTo left j k
 | 0=>⟨by show(-1:Int)<0; omega,by show(-1:Int)<=-1; omega⟩
 | k+1=>by
  have:=q7k left j k
  rw[lastTo]
  split <;> omega
theorem q1x (left:List (List Int)) (p:List Int) (j:Nat) (a:Int):∀k,∀x∈qr5 left p j a k,∃i,i<k/\(i:Int)≠a/\x=qi6 (nL left i) p j
 | 0,x,hx=>by cases hx
 | k+1,x,hx=>by
  rw[qr5] at hx
  split at hx
  ·rename_i hne
   rcases List.mem_append.1 hx with hx | hx
   ·obtain⟨i,h1,h2,h3⟩:=q1x left p j a k x hx
    exact⟨i,by omega,h2,h3⟩
   ·exact⟨k,by omega,hne,by simpa using hx⟩
  ·obtain⟨i,h1,h2,h3⟩:=q1x left p j a k x hx
   exact⟨i,by omega,h2,h3⟩
theorem q92 (left:List (List Int)) (p:List Int) (j:Nat) (a:Int):∀k,(qr5 left p j a k).length<=k
 | 0=>Nat.le_refl _
 | k+1=>by
  have:=q92 left p j a k
  rw[qr5]
  split
  ·simp; omega
  ·omega
structure RdSh (n W j:Nat) (s:RS):Prop where
 ln:s.left.length<=n
 le:∀x∈s.left,x.length=W
 dn:s.done_.length<=j
 de:∀x∈s.done_,x.length=W
 pn:s.piv.length<=j
theorem qx4 (m:List (List Int)) (i:Nat) (h:i<m.length):nL m i∈m:=by rw[qj8 m i h]; exact List.getElem_mem h
theorem xm1 {n W j:Nat} {s:RS} (h:RdSh n W j s) (a:Int) (ha:0<=a) (hb:a<s.left.length):(w9h s.left j a).length=W:=by
 unfold w9h
 have:=h.le _ (qx4 s.left a.toNat (by omega))
 split
 ·rw[qx3]; exact this
 ·exact this
theorem RdSh.step {n W j:Nat} {s:RS} (h:RdSh n W j s):RdSh n W (j+1) (w9i s j):=by
 unfold w9i
 have hl:=q7k s.left j s.left.length
 generalize lastTo s.left j s.left.length=a at *
 split
 ·exact⟨h.ln,h.le,by have:=h.dn; omega,h.de,by have:=h.pn; omega⟩
 ·have hp:=xm1 h a (by omega) hl.1
  refine⟨Nat.le_trans (q92 _ _ _ _ _) h.ln,λx hx=>?_,by have:=h.dn; simp; omega,λx hx=>?_,by have:=h.pn; simp; omega⟩
  ·obtain⟨i,h1,_,rfl⟩:=q1x _ _ _ _ _ x hx
   rw[qv0]; exact h.le _ (qx4 _ _ h1)
  ·rcases List.mem_append.1 hx with hx | hx
   ·obtain⟨y,hy,rfl⟩:=List.mem_map.1 hx
    rw[qv0]; exact h.de y hy
   ·rw[List.mem_singleton.1 hx]; exact hp
def nF (l:List (List Int × List (Int × Int))) (i:Nat):List Int × List (Int × Int):=qf2 (.prod (.list (.int .i64)) (.list (.prod (.int .i64) (.int .i64)))) l i
def q3x (piv:List Int) (f:Nat):Nat->Bool
 | 0=>true
 | k+1=>q3x piv f k && (nI piv k != (f:Int))
def w5j (d:List (List Int)) (piv:List Int) (k:Nat):Int:=nI (nL d k) (nI piv k).toNat
def q4s (d:List (List Int)) (piv:List Int):Nat->Int
 | 0=>1
 | k+1=>(q4s d piv k).tdiv (gcdI (q4s d piv k) (w5j d piv k))*w5j d piv k
def x0q (d:List (List Int)) (piv:List Int) (n f:Nat):Nat->List Int
 | 0=>(List.replicate n 0).set f (q4s d piv piv.length)
 | k+1=>(x0q d piv n f k).set (nI piv k).toNat ((0-nI (nL d k) f)*(q4s d piv piv.length).tdiv (w5j d piv k))
def q7l (d:List (List Int)) (piv:List Int) (n:Nat):Nat->List (List Int)
 | 0=>[]
 | f+1=>if q3x piv f piv.length then q7l d piv n f++[qu3 (x0q d piv n f piv.length)] else q7l d piv n f
def qj4 (rows:List (List Int)):List (List Int):=q7l (q57 rows).1 (q57 rows).2 (rdW rows) (rdW rows)
def qg2 (n:Nat) (set v:List Int):Nat->List Int
 | 0=>List.replicate n 0
 | j+1=>(qg2 n set v j).set (nI set j).toNat (nI v j)
def q8t (l:List (List Int)):Bool:=decide (l.length=1) && !((nL l 0).any λe=>(0:Int)==e)
def x5z (m:List (List Int)) (n:Nat) (set:List Int):List Int:=q7h (qg2 n set (nL (ql3 m set) 0) set.length)
def qr6 (m:List (List Int)) (n:Nat) (L:List (List Int)):Nat->List (List Int)
 | 0=>[]
 | c+1=>if q8t (ql3 m (nL L c)) then qr6 m n L c++[x5z m n (nL L c)] else qr6 m n L c
def q2d (m:List (List Int)) (n:Nat):Nat->List (List Int)
 | 0=>[]
 | k+1=>q2d m n k++qr6 m n (qf0 n (k+1:Nat)) (qf0 n (k+1:Nat)).length
def q3y (m:List (List Int)):Nat:=min ((qi5 m (ql7 (nL m 0).length)).2.length+1) (nL m 0).length
def qi1 (m:List (List Int)):List (List Int) × Int:=if qa9 m=false then([],1) else(q2d m (nL m 0).length (q3y m),0)
structure q2v (m:List (List Int)):Prop where
 rank:q06 m
 ker:∀k,k<(nL m 0).length->∀set∈qf0 (nL m 0).length (k+1:Nat),w5g m set
abbrev yk4:qb7:=qf1 true none [qg0] [qg0,qc8] (λx=>qa9 x.1=true->q2v x.1) (λx=>((qi1 x.1).1,(qi1 x.1).2,()))
def x8l (m:List (List Int)) (n:Nat):Nat->Option Inv
 | 0=>some (Inv.of [30] 4 (λk:Nat=>[(30,.lit (.int .i64 k))]) (λk=>[.box 23 (.cons (.dat (.list (.int .i64)) m) .nil),.box 3 (.cons (.lit (.int .i64 n)) .nil),.box 22 (.cons (.msl 3 .none) .nil),.mat 34 3 (.int .i64) (q2d m n k) .none .none]) (λk=>k<=q3y m) (λk=>q3y m-k))
 | 1=>some (Eng.Inv.mk Nat Nat [] 4 (λ_ _=>[]) (λk c=>[.box 23 (.cons (.dat (.list (.int .i64)) m) .nil),.box 3 (.cons (.lit (.int .i64 n)) .nil),.box 22 (.cons (.msl 3 .none) .nil),.mat 34 3 (.int .i64) (q2d m n k++qr6 m n (qf0 n (k+1:Nat)) c) .none .none]) (λk c=>c<=(qf0 n (k+1:Nat)).length) (λk c=>c))
 | 2=>some (Eng.Inv.mk (q5k × Nat × Nat × List Int) Nat [9,11,52,54] 6 (λq j=>[(9,.msl 4 (some 0)),(11,.own 5),(52,.msl 4 (some 0)),(54,.lit (.int .i64 j))]) (λq j=>[.box 23 (.cons (.dat (.list (.int .i64)) m) .nil),.box 3 (.cons (.lit (.int .i64 n)) .nil),.box 22 (.cons (.msl 3 .none) .nil),.mat 34 3 (.int .i64) (q2d m n q.2.1++qr6 m n (qf0 n (q.2.1+1:Nat)) q.2.2.1) .none .none,.mat 3 3 (.int .i64) [q.2.2.2] (some []) (some q.1),.vec 3 (.int .i64) (qg2 n q.2.2.2 (nL (ql3 m q.2.2.2) 0) j)]) (λq j=>j<=q.2.2.2.length) (λq j=>q.2.2.2.length-j))
 | _=>none
def x8m (mats em:List Nat) (specs:List (Nat × qb7)) (muts:List (Nat × qm0)) (its:List (Nat × qw4)):Ctx:={ specs:=specs,tys:=tys,wr:=[],muts:=muts,mats:=mats,em:=em,its:=its }
theorem x0r (mats em:List Nat) {specs:List (Nat × qb7)} {muts:List (Nat × qm0)} {its:List (Nat × qw4)} (h:SpecsOk Tryz.prog specs) (hm:MutsOk muts) (hi:ItsOk its):Sound Tryz.prog (x8m mats em specs muts its):=SpecsOk.sound h q05 (by kernel_rfl) hi (hmu:=hm)
theorem q7m (m:List (List Int)) (n:Nat) (L:List (List Int)):∀c,(qr6 m n L c).length<=c
 | 0=>Nat.le_refl _
 | c+1=>by
  have:=q7m m n L c
  rw[qr6]
  split
  ·simp; omega
  ·omega
theorem wy6:((List.range 11).all λn=>(List.range 12).all λk=>decide ((qf0 (n:Nat) (k:Nat)).length<=1000))=true:=by decide +kernel
theorem wp5 (n k:Nat) (hn:n<=10) (hk:k<=11):(qf0 (n:Nat) (k:Nat)).length<=1000:=
 of_decide_eq_true (List.all_eq_true.1 (List.all_eq_true.1 wy6 n (List.mem_range.2 (by omega))) k (List.mem_range.2 (by omega)))
theorem wg1 (m:List (List Int)) (n:Nat) (hn:n<=10):∀k,k<=11->(q2d m n k).length<=1000*k
 | 0,_=>Nat.le_refl _
 | k+1,hk=>by
  have h1:=wg1 m n hn k (by omega)
  have h2:=wp5 n (k+1) hn hk
  have h3:=q7m m n (qf0 (n:Nat) (k+1:Nat)) (qf0 (n:Nat) (k+1:Nat)).length
  rw[q2d,List.length_append]
  omega
theorem q7n {R:List (List Int)} {P:List Int} {n:Nat} (h:xl7 R P n) (hn:n<=1000):∀f,f<=n->∀x∈qo6 R P n f,x.length=n/\wj3 x
 | 0,_,x,hx=>by cases hx
 | f+1,hf,x,hx=>by
  rw[qo6] at hx
  split at hx
  ·exact q7n h hn f (by omega) x hx
  ·rename_i hfree
   rcases List.mem_append.1 hx with hx | hx
   ·exact q7n h hn f (by omega) x hx
   ·obtain rfl:=List.mem_singleton.1 hx
    have hb:wj3 (hTo R P n f P.length):=⟨by rw[q7i]; exact hn,wy4 h (by omega) (Bool.eq_false_iff.2 hfree) _ (Nat.le_refl _)⟩
    exact⟨by rw[q9u,q7i],q90 hb⟩
theorem q7o {m:List (List Int)} {set:List Int} (h:w5g m set) (x:List Int) (hx:x∈ql3 m set):x.length=set.length/\set.length<=1000/\wj3 x:=by
 have hw:=h.red.w
 have:=q7n h.ar hw _ (Nat.le_refl _) x hx
 exact⟨this.1,hw,this.2⟩
theorem ql4 (n:Nat) (set v:List Int):∀j,(qg2 n set v j).length=n
 | 0=>by simp[qg2]
 | j+1=>by rw[qg2,List.length_set]; exact ql4 n set v j
theorem q5g {n:Nat} {set v:List Int} (hv:wj3 v) (hn:n<=1000) (hl:v.length=set.length):∀j,j<=set.length->wj3 (qg2 n set v j)
 | 0,_=>⟨by simp[qg2]; omega,λx hx=>by
  obtain rfl:=(List.mem_replicate.1 hx).2
  unfold BIG; omega⟩
 | j+1,hj=>by
  have h1:=q5g hv hn hl j (by omega)
  refine⟨by rw[ql4]; exact hn,λx hx=>?_⟩
  rw[qg2] at hx
  rcases List.mem_or_eq_of_mem_set hx with hx | rfl
  ·exact h1.2 x hx
  ·exact q7b hv (by omega)
theorem wp6:Meets Tryz.prog 64 yk4:=by
 refine meets (x0r [72] [] (SpecsOk.cons q91 (SpecsOk.cons q9z (SpecsOk.cons w9a (SpecsOk.cons wp2 (SpecsOk.nil _))))) (MutsOk.cons w5f MutsOk.nil) (ItsOk.cons q9y ItsOk.nil)) Tryz.func64 rfl rfl (λx=>x8l x.1 (nL x.1 0).length) (λ_=>by kernel_rfl) (by decide) ?_
 rintro⟨m,⟨⟩⟩ h
 revert m
 intro(m:List (List Int)) (h:qa9 m=true->q2v m)
 refine @qd1 _ ((qa9 m=true->q06 m)/\(((qg9 m).2 != (0:Int))=true->(qi1 m).1=[]/\(qg9 m).2=(qi1 m).2/\True)/\(((qg9 m).2 != (0:Int))=false->((0:Int)<=(0:Int)/\(0:Int)<(↑m.length:Int))/\fits .i64 ((qg9 m).1+(1:Int))/\∃(v1:Unit),∃(v2:Nat),Nat.le v2 (q3y m)/\(((0:Int)=(↑v2:Int)/\True)/\(m=m/\True)/\((↑(nL m (0:Nat)).length:Int)=(↑(nL m (0:Nat)).length:Int)/\True)/\(True/\True)/\q2d m (nL m (0:Nat)).length v2=[]/\True)/\∀(v3:Nat),Nat.le v3 (q3y m)->(decide ((↑v3:Int)<max2 false ((qg9 m).1+(1:Int)) (↑(nL m (0:Nat)).length:Int))=true->fits .i64 ((↑v3:Int)+(1:Int))/\True/\(((0:Ty.den qc8)<=(↑v3:Int)+(1:Int)/\(↑v3:Int)+(1:Int)<=(1000:Ty.den qc8))/\(0:Ty.den qc8)<=(↑(nL m (0:Nat)).length:Int)/\(↑(nL m (0:Nat)).length:Int)<=(1000:Ty.den qc8))/\∃(v6:Nat),∃(v7:Nat),Nat.le v7 (qf0 (↑(nL m (0:Nat)).length:Int) (↑(v6+(1:Nat)):Int)).length/\v7=(0:Nat)/\((m=m/\True)/\((↑(nL m (0:Nat)).length:Int)=(↑(nL m (0:Nat)).length:Int)/\True)/\(True/\True)/\(q2d m (nL m (0:Nat)).length v3=q2d m (nL m (0:Nat)).length v6++qr6 m (nL m (0:Nat)).length (qf0 (↑(nL m (0:Nat)).length:Int) (↑(v6+(1:Nat)):Int)) v7/\True/\True)/\True)/\∀(v8:Nat),Nat.le v8 (qf0 (↑(nL m (0:Nat)).length:Int) (↑(v6+(1:Nat)):Int)).length->(∀(v10:List Int × qa4._f [] PUnit.unit),(List.map (λ(v12:List Int)=>(v12,())) (qf0 (↑(nL m (0:Nat)).length:Int) ((↑v3:Int)+(1:Int))))[v8]?=some v10->∀(v12:q5k),w5g m (nL [v10.1] (0:Nat))/\(((↑(ql3 m (nL [v10.1] (0:Nat))).length:Int) != (1:Int))=true->[v10.1]=[v10.1]/\v12=v12/\True/\∃(v14:Nat),Nat.le v14 (qf0 (↑(nL m (0:Nat)).length:Int) (↑(v6+(1:Nat)):Int)).length/\v14=v8+(1:Nat)/\(m=m/\True)/\((↑(nL m (0:Nat)).length:Int)=(↑(nL m (0:Nat)).length:Int)/\True)/\(True/\True)/\(q2d m (nL m (0:Nat)).length v6++qr6 m (nL m (0:Nat)).length (qf0 (↑(nL m (0:Nat)).length:Int) (↑(v6+(1:Nat)):Int)) v8=q2d m (nL m (0:Nat)).length v6++qr6 m (nL m (0:Nat)).length (qf0 (↑(nL m (0:Nat)).length:Int) (↑(v6+(1:Nat)):Int)) v14/\True/\True)/\True)/\(((↑(ql3 m (nL [v10.1] (0:Nat))).length:Int) != (1:Int))=false->((0:Int)<=(0:Int)/\(0:Int)<(↑(ql3 m (nL [v10.1] (0:Nat))).length:Int))/\(nL (ql3 m (nL [v10.1] (0:Nat))) (0:Nat)).length<=(1000000:Nat)/\((List.any (nL (ql3 m (nL [v10.1] (0:Nat))) (0:Nat)) λ(v15:Int)=>(0:Int)==v15)=true->[v10.1]=[v10.1]/\v12=v12/\True/\∃(v15:Nat),Nat.le v15 (qf0 (↑(nL m (0:Nat)).length:Int) (↑(v6+(1:Nat)):Int)).length/\v15=v8+(1:Nat)/\(m=m/\True)/\((↑(nL m (0:Nat)).length:Int)=(↑(nL m (0:Nat)).length:Int)/\True)/\(True/\True)/\(q2d m (nL m (0:Nat)).length v6++qr6 m (nL m (0:Nat)).length (qf0 (↑(nL m (0:Nat)).length:Int) (↑(v6+(1:Nat)):Int)) v8=q2d m (nL m (0:Nat)).length v6++qr6 m (nL m (0:Nat)).length (qf0 (↑(nL m (0:Nat)).length:Int) (↑(v6+(1:Nat)):Int)) v15/\True/\True)/\True)/\((List.any (nL (ql3 m (nL [v10.1] (0:Nat))) (0:Nat)) λ(v15:Int)=>(0:Int)==v15)=false->((↑(nL m (0:Nat)).length:Int)=(↑(nL m (0:Nat)).length:Int)/\(0:Int)<=(↑(nL m (0:Nat)).length:Int)/\(↑(nL m (0:Nat)).length:Int)<=(1000000:Int))/\∃(v15:q5k × Nat × Nat × List Int),∃(v16:Nat),Nat.le v16 v15.2.2.2.length/\((some (0:Nat)=some (0:Nat)/\True/\some (0:Nat)=some (0:Nat)/\(0:Int)=(↑v16:Int)/\True)/\(m=m/\True)/\((↑(nL m (0:Nat)).length:Int)=(↑(nL m (0:Nat)).length:Int)/\True)/\(True/\True)/\(q2d m (nL m (0:Nat)).length v6++qr6 m (nL m (0:Nat)).length (qf0 (↑(nL m (0:Nat)).length:Int) (↑(v6+(1:Nat)):Int)) v8=q2d m (nL m (0:Nat)).length v15.2.1++qr6 m (nL m (0:Nat)).length (qf0 (↑(nL m (0:Nat)).length:Int) (↑(v15.2.1+(1:Nat)):Int)) v15.2.2.1/\True/\True)/\([v10.1]=[v15.2.2.2]/\True/\v12=v15.1)/\List.replicate (↑(nL m (0:Nat)).length:Int).toNat (Ty.dflt (TI.ty T3))=qg2 (nL m (0:Nat)).length v15.2.2.2 (nL (ql3 m v15.2.2.2) (0:Nat)) v16/\True)/\∀(v17:Nat),Nat.le v17 v15.2.2.2.length->(decide ((↑v17:Int)<(↑(nL [v10.1] (0:Nat)).length:Int))=true->((0:Int)<=(↑v17:Int)/\(↑v17:Int)<(↑(nL [v15.2.2.2] (0:Nat)).length:Int))/\v17<(nL [v15.2.2.2] (0:Nat)).length/\((0:Int)<=(0:Int)/\(0:Int)<(↑(ql3 m (nL [v10.1] (0:Nat))).length:Int))/\((0:Int)<=(↑v17:Int)/\(↑v17:Int)<(↑(nL (ql3 m (nL [v10.1] (0:Nat))) (0:Nat)).length:Int))/\((0:Int)<=nI (nL [v15.2.2.2] (0:Nat)) v17/\nI (nL [v15.2.2.2] (0:Nat)) v17<(↑(qg2 (nL m (0:Nat)).length v15.2.2.2 (nL (ql3 m v15.2.2.2) (0:Nat)) v17).length:Int))/\(nI (nL [v15.2.2.2] (0:Nat)) v17).toNat<(qg2 (nL m (0:Nat)).length v15.2.2.2 (nL (ql3 m v15.2.2.2) (0:Nat)) v17).length/\fits .i64 ((↑v17:Int)+(1:Int))/\∃(v20:Nat),Nat.le v20 v15.2.2.2.length/\v15.2.2.2.length-v20<v15.2.2.2.length-v17/\(some (0:Nat)=some (0:Nat)/\True/\some (0:Nat)=some (0:Nat)/\(↑v17:Int)+(1:Int)=(↑v20:Int)/\True)/\(m=m/\True)/\((↑(nL m (0:Nat)).length:Int)=(↑(nL m (0:Nat)).length:Int)/\True)/\(True/\True)/\(q2d m (nL m (0:Nat)).length v15.2.1++qr6 m (nL m (0:Nat)).length (qf0 (↑(nL m (0:Nat)).length:Int) (↑(v15.2.1+(1:Nat)):Int)) v15.2.2.1=q2d m (nL m (0:Nat)).length v15.2.1++qr6 m (nL m (0:Nat)).length (qf0 (↑(nL m (0:Nat)).length:Int) (↑(v15.2.1+(1:Nat)):Int)) v15.2.2.1/\True/\True)/\([v15.2.2.2]=[v15.2.2.2]/\True/\v15.1=v15.1)/\List.set (qg2 (nL m (0:Nat)).length v15.2.2.2 (nL (ql3 m v15.2.2.2) (0:Nat)) v17) (nI (nL [v15.2.2.2] (0:Nat)) v17).toNat (nI (nL (ql3 m (nL [v10.1] (0:Nat))) (0:Nat)) v17)=qg2 (nL m (0:Nat)).length v15.2.2.2 (nL (ql3 m v15.2.2.2) (0:Nat)) v20/\True)/\(decide ((↑v17:Int)<(↑(nL [v10.1] (0:Nat)).length:Int))=false->wj3 (nL [qg2 (nL m (0:Nat)).length v15.2.2.2 (nL (ql3 m v15.2.2.2) (0:Nat)) v17] (0:Nat))/\((0:Nat)<(0:Nat)+(1:Nat)/\(q2d m (nL m (0:Nat)).length v15.2.1++qr6 m (nL m (0:Nat)).length (qf0 (↑(nL m (0:Nat)).length:Int) (↑(v15.2.1+(1:Nat)):Int)) v15.2.2.1).length+((0:Nat)+(1:Nat))<=(1000000:Nat))/\[v15.2.2.2]=[v10.1]/\v15.1=v12/\True/\∃(v20:Nat),Nat.le v20 (qf0 (↑(nL m (0:Nat)).length:Int) (↑(v6+(1:Nat)):Int)).length/\v20=v8+(1:Nat)/\(m=m/\True)/\((↑(nL m (0:Nat)).length:Int)=(↑(nL m (0:Nat)).length:Int)/\True)/\(True/\True)/\(q2d m (nL m (0:Nat)).length v15.2.1++qr6 m (nL m (0:Nat)).length (qf0 (↑(nL m (0:Nat)).length:Int) (↑(v15.2.1+(1:Nat)):Int)) v15.2.2.1++[nL [q7h (nL [qg2 (nL m (0:Nat)).length v15.2.2.2 (nL (ql3 m v15.2.2.2) (0:Nat)) v17] (0:Nat))] (0:Nat)]=q2d m (nL m (0:Nat)).length v6++qr6 m (nL m (0:Nat)).length (qf0 (↑(nL m (0:Nat)).length:Int) (↑(v6+(1:Nat)):Int)) v20/\True/\True)/\True))))/\(v8=(List.map (λ(v11:List Int)=>(v11,())) (qf0 (↑(nL m (0:Nat)).length:Int) ((↑v3:Int)+(1:Int)))).length->fits .i64 ((↑v3:Int)+(1:Int))/\∃(v11:Nat),Nat.le v11 (q3y m)/\q3y m-v11<q3y m-v3/\((↑v3:Int)+(1:Int)=(↑v11:Int)/\True)/\(m=m/\True)/\((↑(nL m (0:Nat)).length:Int)=(↑(nL m (0:Nat)).length:Int)/\True)/\(True/\True)/\(q2d m (nL m (0:Nat)).length v6++qr6 m (nL m (0:Nat)).length (qf0 (↑(nL m (0:Nat)).length:Int) (↑(v6+(1:Nat)):Int)) v8=q2d m (nL m (0:Nat)).length v11/\True/\True)/\True))/\(decide ((↑v3:Int)<max2 false ((qg9 m).1+(1:Int)) (↑(nL m (0:Nat)).length:Int))=false->q15 (Ty.int .i64) (q2d m (nL m (0:Nat)).length v3) none=(qi1 m).1/\(0:Int)=(qi1 m).2/\True))) (by kernel_rfl) ?_
 try simp only[z0,z1,z2,z3,z4,z5,z6,z7,z8,z9,z10,Int.reduceEq,z11,z12,z13,z14,z15,z16,z17,z18,z19,z20,z21,z22,z23,z24,z25,z26,z27,z28,z29,z30,Int.reduceLE,Int.reduceLT,z31,z32,z33,z34,qa1]
 try simp only[qa7,qa8,qb8,z31,z32,z2,z1]
 refine⟨λhv=>(h hv).rank,λhe=>?_,λhe=>?_⟩
 ·have hv:qa9 m=false:=by
   cases e:qa9 m with
   | false=>rfl
   | true=>exact absurd (by simp[qg9,e]) he
  simp[qg9,qi1,hv]
 have hv:qa9 m=true:=by
  cases e:qa9 m with
  | true=>rfl
  | false=>simp[qg9,e] at he
 have hO:=h hv
 have hM:=Mk.of hv
 have hm1:=hM.rows1
 have hn1:=hM.pix1
 have hn10:=hM.pix10
 have hrank:(qi5 m (ql7 (nL m 0).length)).2.length<=10:=by
  have:=(q1w hO.rank.red (nL m 0).length).pivj
  unfold qi5
  rw[qd8]
  exact Nat.le_trans this hn10
 have hr:qg9 m=(((qi5 m (ql7 (nL m 0).length)).2.length:Int),0):=by simp[qg9,hv]
 have hcN:q3y m=min ((qi5 m (ql7 (nL m 0).length)).2.length+1) (nL m 0).length:=rfl
 have hcR:qi1 m=(q2d m (nL m 0).length (q3y m),0):=by simp[qi1,hv]
 rw[hr,hcR]
 generalize(qi5 m (ql7 (nL m 0).length)).2.length=r at *
 have hker:=hO.ker
 generalize hnn:(nL m 0).length=n at *
 dsimp only
 refine⟨by omega,qb5 (by omega) (by omega),(),0,Nat.zero_le _,⟨rfl,rfl⟩,λk hk=>⟨λhlt=>?_,λhge=>?_⟩⟩
 ·have hlt:(k:Int)<min ((r:Int)+1) n:=hlt
  have hkn:k<n:=by omega
  have hca:((k:Int)+1)=((k+1:Nat):Int):=by omega
  have hkl:=wg1 m n hn10 k (by omega)
  have hsl:=wp5 n (k+1) hn10 (by omega)
  rw[hca]
  have hb1:(0:Int)<=((k+1:Nat):Int)/\((k+1:Nat):Int)<=1000:=by omega
  refine⟨qb5 (by omega) (by omega),⟨hb1,by omega⟩,k,0,Nat.zero_le _,rfl,by simp[qr6],λc hc=>⟨?_,λhce=>?_⟩⟩
  ·rintro⟨set,⟨⟩⟩ hset T
   dsimp only
   have hs:(qf0 n (k+1:Nat))[c]? = some set:=by
    rw[List.getElem?_map] at hset
    obtain⟨x,hx,hx2⟩:=Option.map_eq_some_iff.1 hset
    injection hx2 with hx2
    rw[<- hx2]; exact hx
   have hcl:c<(qf0 n (k+1:Nat)).length:=(List.getElem?_eq_some_iff.1 hs).1
   have hnl:nL (qf0 n (k+1:Nat)) c=set:=by rw[qj8 _ c hcl]; exact(List.getElem?_eq_some_iff.1 hs).2
   have hK:w5g m set:=hker k hkn set (List.mem_of_getElem? hs)
   have hctl:=q7m m n (qf0 n (k+1:Nat)) c
   refine⟨hK,λh1=>⟨c+1,hcl,rfl,?_⟩,λh1=>⟨by omega,?_,λh2=>⟨c+1,hcl,rfl,?_⟩,λh2=>⟨by omega,(T,k,c,set),0,Nat.zero_le _,⟨rfl,rfl,⟨rfl,rfl⟩,rfl⟩,λj hj=>⟨λhjl=>?_,λhjl=>?_⟩⟩⟩⟩
   ·rw[qr6,hnl,if_neg]
    intro q
    unfold q8t at q
    rw[Bool.and_eq_true,decide_eq_true_eq] at q
    exact h1 (by omega)
   ·have h0:=q7o hK (nL (ql3 m set) 0) (qx4 _ 0 (by omega))
    omega
   ·rw[qr6,hnl,if_neg]
    intro q
    unfold q8t at q
    rw[Bool.and_eq_true,h2] at q
    cases q.2
   ·dsimp only at hj ⊢
    have hat:=hK.cho.at_ 0 (by omega) j hjl
    rw[hnn] at hat
    have hkm:=q7o hK (nL (ql3 m set) 0) (qx4 _ 0 (by omega))
    have hsp:=ql4 n set (nL (ql3 m set) 0) j
    have hat':0<=nI set j/\nI set j<((qg2 n set (nL (ql3 m set) 0) j).length:Int):=⟨hat.1,by omega⟩
    exact⟨hjl,hjl,by omega,by omega,hat',by omega,qb5 (by omega) (by omega),j+1,hjl,by omega,by omega,rfl⟩
   ·dsimp only at hj ⊢
    obtain rfl:j=set.length:=by omega
    have hkm:=q7o hK (nL (ql3 m set) 0) (qx4 _ 0 (by omega))
    refine⟨q5g hkm.2.2 (by omega) hkm.1 _ (Nat.le_refl _),by rw[List.length_append]; omega,rfl,rfl,c+1,hcl,rfl,?_⟩
    have hg:q8t (ql3 m set)=true:=by
     unfold q8t
     rw[h2,Bool.and_eq_true,decide_eq_true_eq]
     exact⟨by omega,rfl⟩
    rw[qr6,hnl,if_pos hg,List.append_assoc]
    rfl
  ·rw[List.length_map] at hce
   subst hce
   exact⟨qb5 (by omega) (by omega),k+1,by omega,by omega,rfl,rfl⟩
 ·have hge:min ((r:Int)+1) n<=k:=hge
  obtain rfl:k=q3y m:=by omega
  exact⟨rfl,rfl⟩
def qh0 (m:List (List Int)):List Int × Int:=if(qi1 m).2≠0 then([],(qi1 m).2) else if(qi1 m).1=[] then([],8) else(nL (qi1 m).1 0,0)
abbrev x8o:qb7:=qf1 false none [qg0] [qe9,qc8] (λx=>qa9 x.1=true->q2v x.1) (λx=>((qh0 x.1).1,(qh0 x.1).2,()))
theorem q93:Meets Tryz.prog 16 x8o:=by
 refine meets (snd (SpecsOk.cons wp6 (SpecsOk.nil _))) Tryz.func16 rfl rfl (λ_ _=>none) (λ_=>by kernel_rfl) (by decide) ?_
 rintro⟨m,⟨⟩⟩ h
 revert m
 intro(m:List (List Int)) (h:qa9 m=true->q2v m)
 refine @qd1 _ ((qa9 m=true->q2v m)/\(((qi1 m).2 != (0:Int))=true->(qh0 m).1=[]/\(qi1 m).2=(qh0 m).2/\True)/\(((qi1 m).2 != (0:Int))=false->(((↑(qi1 m).1.length:Int)==(0:Int))=true->(qh0 m).1=[]/\(8:Int)=(qh0 m).2/\True)/\(((↑(qi1 m).1.length:Int)==(0:Int))=false->((0:Int)<=(0:Int)/\(0:Int)<(↑(qi1 m).1.length:Int))/\nL (qi1 m).1 (0:Nat)=(qh0 m).1/\(0:Int)=(qh0 m).2/\True))) (by kernel_rfl) ?_
 try simp only[z0,z1,z2,z3,z4,z5,z6,z7,z8,z9,z10,Int.reduceEq,z11,z12,z13,z14,z15,z16,z17,z18,z19,z20,z21,z22,z23,z24,z25,z26,z27,z28,z29,z30,Int.reduceLE,Int.reduceLT,z31,z32,z33,z34,qa1]
 try simp only[qa7,qa8,qb8,z31,z32,z2,z1]
 refine⟨h,λhe=>by simp[qh0,he],λhe=>⟨λh0=>?_,λh0=>?_⟩⟩
 ·have e:(qi1 m).1=[]:=List.eq_nil_of_length_eq_zero (by omega)
  simp[qh0,he,e]
 ·have e:¬(qi1 m).1=[]:=λe=>by rw[e] at h0; exact h0 rfl
  unfold qh0
  rw[if_neg (λq=>q he),if_neg e]
  exact⟨by omega,rfl,rfl⟩
def nzTo (l:List Int):Nat->Nat
 | 0=>0
 | k+1=>if nI l k≠0 then nzTo l k+1 else nzTo l k
theorem wy7 (l:List Int):∀k,nzTo l k<=k
 | 0=>Nat.le_refl _
 | k+1=>by have:=wy7 l k; rw[nzTo]; split <;> omega
def q07 (m:List (List Int)):Int × Int:=((nzTo (qh0 m).1 (qh0 m).1.length:Int),(qh0 m).2)
structure xm2 (m:List (List Int)):Prop where
 cir:qa9 m=true->q2v m
 len:(qh0 m).1.length<=1000
abbrev x4h:qb7:=qf1 true none [qg0] [qc8,qc8] (λx=>xm2 x.1) (λx=>((q07 x.1).1,(q07 x.1).2,()))
def x0s (l:List Int):Nat->Option Inv
 | 0=>some (Inv.of [6,16] 0 (λk:Nat=>[(6,.lit (.int .i64 (nzTo l k))),(16,.lit (.int .i64 k))]) (λ_=>[]) (λk=>k<=l.length) (λk=>l.length-k))
 | _=>none
theorem wy8:Meets Tryz.prog 17 x4h:=by
 refine meets (snd (SpecsOk.cons q93 (SpecsOk.nil _))) Tryz.func17 rfl rfl (λx=>x0s (qh0 x.1).1) (λ_=>by kernel_rfl) (by decide) ?_
 rintro⟨m,⟨⟩⟩ h
 revert m
 intro(m:List (List Int)) (h:xm2 m)
 refine @qd1 _ ((qa9 m=true->q2v m)/\∃(v0:Unit),∃(v1:Nat),Nat.le v1 (qh0 m).1.length/\(((0:Int)=(↑(nzTo (qh0 m).1 v1):Int)/\(0:Int)=(↑v1:Int)/\True)/\True)/\∀(v2:Nat),Nat.le v2 (qh0 m).1.length->(decide ((↑v2:Int)<(↑(qh0 m).1.length:Int))=true->((0:Int)<=(↑v2:Int)/\(↑v2:Int)<(↑(qh0 m).1.length:Int))/\((nI (qh0 m).1 v2 != (0:Int))=true->fits .i64 ((↑(nzTo (qh0 m).1 v2):Int)+(1:Int))/\fits .i64 ((↑v2:Int)+(1:Int))/\∃(v6:Nat),Nat.le v6 (qh0 m).1.length/\(qh0 m).1.length-v6<(qh0 m).1.length-v2/\((↑(nzTo (qh0 m).1 v2):Int)+(1:Int)=(↑(nzTo (qh0 m).1 v6):Int)/\(↑v2:Int)+(1:Int)=(↑v6:Int)/\True)/\True)/\((nI (qh0 m).1 v2 != (0:Int))=false->fits .i64 ((↑v2:Int)+(1:Int))/\∃(v6:Nat),Nat.le v6 (qh0 m).1.length/\(qh0 m).1.length-v6<(qh0 m).1.length-v2/\((↑(nzTo (qh0 m).1 v2):Int)=(↑(nzTo (qh0 m).1 v6):Int)/\(↑v2:Int)+(1:Int)=(↑v6:Int)/\True)/\True))/\(decide ((↑v2:Int)<(↑(qh0 m).1.length:Int))=false->(↑(nzTo (qh0 m).1 v2):Int)=(q07 m).1/\(qh0 m).2=(q07 m).2/\True)) (by kernel_rfl) ?_
 try simp only[z0,z1,z2,z3,z4,z5,z6,z7,z8,z9,z10,Int.reduceEq,z11,z12,z13,z14,z15,z16,z17,z18,z19,z20,z21,z22,z23,z24,z25,z26,z27,z28,z29,z30,Int.reduceLE,Int.reduceLT,z31,z32,z33,z34,qa1]
 try simp only[qa7,qa8,qb8,z31,z32,z2,z1]
 have hl:=h.len
 refine⟨h.cir,(),0,Nat.zero_le _,⟨rfl,rfl⟩,λi hi=>⟨λhlt=>?_,λhge=>?_⟩⟩
 ·have:=wy7 (qh0 m).1 i
  exact⟨hlt,λhz=>⟨qb5 (by omega) (by omega),qb5 (by omega) (by omega),i+1,hlt,by omega,by rw[nzTo,if_pos hz]; omega,by omega⟩,λhz=>⟨qb5 (by omega) (by omega),i+1,hlt,by omega,by rw[nzTo,if_neg (λq=>q hz)],by omega⟩⟩
 ·obtain rfl:i=(qh0 m).1.length:=by omega
  exact⟨rfl,rfl⟩
def q19 (a b:List Int):Nat->Int
 | 0=>0
 | k+1=>q19 a b k+nI a k*nI b k
structure w9j (a b:List Int):Prop where
 len:a.length<=10
 le:a.length<=b.length
 sa:∀i,i<a.length->-1<=nI a i/\nI a i<=1
 sb:∀i,i<a.length->qf8 1000000 (nI b i)
theorem wp7 {x y K:Int} (hx:-1<=x/\x<=1) (hy:qf8 K y):qf8 K (x*y):=by
 unfold qf8 at *
 rcases(show x=-1\/x=0\/x=1 by omega) with rfl | rfl | rfl
 ·rw[show(-1:Int)*y=-y by omega]; omega
 ·rw[Int.zero_mul]; omega
 ·rw[Int.one_mul]; exact hy
theorem w2f {a b:List Int} (h:w9j a b):∀k,k<=a.length->qf8 (1000000*k) (q19 a b k)
 | 0,_=>by unfold qf8; simp[q19]
 | k+1,hk=>by
  have h1:=w2f h k (by omega)
  have h2:=wp7 (h.sa k (by omega)) (h.sb k (by omega))
  unfold qf8 at *
  rw[q19]
  omega
abbrev yk5:qb7:=qf1 true none [qe9,qe9] [qc8] (λx=>w9j x.1 x.2.1) (λx=>(q19 x.1 x.2.1 x.1.length,()))
def xm3 (a b:List Int):Nat->Option Inv
 | 0=>some (Inv.of [5,10] 0 (λk:Nat=>[(5,.lit (.int .i64 (q19 a b k))),(10,.lit (.int .i64 k))]) (λ_=>[]) (λk=>k<=a.length) (λk=>a.length-k))
 | _=>none
theorem wp8:Meets Tryz.prog 172 yk5:=by
 refine meets (snd (SpecsOk.nil _)) Tryz.func172 rfl rfl (λx=>xm3 x.1 x.2.1) (λ_=>by kernel_rfl) (by decide) ?_
 rintro⟨a,b,⟨⟩⟩ h
 revert a b
 intro(a:List Int) (b:List Int) (h:w9j a b)
 refine @qd1 _ (∃(v0:Unit),∃(v1:Nat),Nat.le v1 a.length/\(((0:Int)=q19 a b v1/\(0:Int)=(↑v1:Int)/\True)/\True)/\∀(v2:Nat),Nat.le v2 a.length->(decide ((↑v2:Int)<(↑a.length:Int))=true->((0:Int)<=(↑v2:Int)/\(↑v2:Int)<(↑a.length:Int))/\((0:Int)<=(↑v2:Int)/\(↑v2:Int)<(↑b.length:Int))/\fits .i64 (nI a v2*nI b v2)/\fits .i64 (q19 a b v2+nI a v2*nI b v2)/\fits .i64 ((↑v2:Int)+(1:Int))/\∃(v5:Nat),Nat.le v5 a.length/\a.length-v5<a.length-v2/\(q19 a b v2+nI a v2*nI b v2=q19 a b v5/\(↑v2:Int)+(1:Int)=(↑v5:Int)/\True)/\True)/\(decide ((↑v2:Int)<(↑a.length:Int))=false->q19 a b v2=q19 a b a.length)) (by kernel_rfl) ?_
 try simp only[z0,z1,z2,z3,z4,z5,z6,z7,z8,z9,z10,Int.reduceEq,z11,z12,z13,z14,z15,z16,z17,z18,z19,z20,z21,z22,z23,z24,z25,z26,z27,z28,z29,z30,Int.reduceLE,Int.reduceLT,z31,z32,z33,z34,qa1]
 try simp only[qa7,qa8,qb8,z31,z32,z2,z1]
 have hl:=h.len
 have hle:=h.le
 refine⟨(),0,Nat.zero_le _,⟨rfl,rfl⟩,λk hk=>⟨λhlt=>?_,λhge=>?_⟩⟩
 ·have h1:=w2f h k hk
  have h2:=wp7 (h.sa k hlt) (h.sb k hlt)
  unfold qf8 at h1 h2
  exact⟨hlt,by omega,qb5 (by omega) (by omega),qb5 (by omega) (by omega),qb5 (by omega) (by omega),k+1,hlt,by omega,rfl,by omega⟩
 ·obtain rfl:k=a.length:=by omega
  rfl
abbrev x4i:qb7:=hspec [] true none [.cap qg0] [qc8] (λx=>0<x.1.length) (λx=>((nL x.1 0).length,()))
theorem w5k:Meets Tryz.prog 174 x4i:=by
 refine qm7 (SpecsOk.nil _) (snd (SpecsOk.nil _)) Tryz.func174 rfl rfl (λ_ _=>none) (λ_=>by kernel_rfl) (by decide) ?_
 rintro⟨m,⟨⟩⟩ h
 revert m
 intro(m:List (List Int)) (h:0<m.length)
 refine @qd1 _ (((0:Int)<=(0:Int)/\(0:Int)<(↑m.length:Int))/\(↑(nL m (0:Nat)).length:Int)=(↑(nL m (0:Nat)).length:Int)) (by kernel_rfl) ?_
 try simp only[z0,z1,z2,z3,z4,z5,z6,z7,z8,z9,z10,Int.reduceEq,z11,z12,z13,z14,z15,z16,z17,z18,z19,z20,z21,z22,z23,z24,z25,z26,z27,z28,z29,z30,Int.reduceLE,Int.reduceLT,z31,z32,z33,z34,qa1]
 try simp only[qa7,qa8,qb8,z31,z32,z2,z1]
 omega
abbrev x4j:qb7:=hspec [] true none [.d qc8,.cap qc8] [.bool] (λx=>qf8 BIG x.2.1) (λx=>(inB x.1 (0-x.2.1) x.2.1,()))
theorem w5l:Meets Tryz.prog 225 x4j:=by
 refine qm7 (SpecsOk.nil _) (snd (SpecsOk.cons qt1 (SpecsOk.nil _))) Tryz.func225 rfl rfl (λ_ _=>none) (λ_=>by kernel_rfl) (by decide) ?_
 rintro⟨n,k,⟨⟩⟩ h
 revert n k
 intro(n:Int) (k:Int) (h:qf8 BIG k)
 refine @qd1 _ (fits .i64 ((0:Int)-k)/\True/\inB n ((0:Int)-k) k=inB n ((0:Int)-k) k) (by kernel_rfl) ?_
 try simp only[z0,z1,z2,z3,z4,z5,z6,z7,z8,z9,z10,Int.reduceEq,z11,z12,z13,z14,z15,z16,z17,z18,z19,z20,z21,z22,z23,z24,z25,z26,z27,z28,z29,z30,Int.reduceLE,Int.reduceLT,z31,z32,z33,z34,qa1]
 try simp only[qa7,qa8,qb8,z31,z32,z2,z1]
 unfold qf8 BIG at h
 exact qb5 (by omega) (by omega)
def w5m (m:List (List Int)) (l:List Int) (n k:Int):Int:=if qa9 m=false then 1 else if(l.length:Int)≠n then 9 else if(l.all λe=>inB e (0-k) k)=false then 7 else 0
abbrev yk6 (fs:List (Nat × qb7)):qb7:=hspec fs true none [.d qg0,.d qe9,.fn [] qc8,.d qc8] [qc8] (λx=>(qa9 x.1=true->x.2.2.1.1 ())/\qf8 BIG x.2.2.2.1/\x.2.1.length<=1000000) (λx=>(w5m x.1 x.2.1 (x.2.2.1.2 ()) x.2.2.2.1,()))
theorem w9k {fs:List (Nat × qb7)} (hfs:SpecsOk Tryz.prog fs):Meets Tryz.prog 173 (yk6 fs):=by
 refine qm7 hfs (snd (SpecsOk.cons qp4 (SpecsOk.cons (q9r (fs:=[(225,x4j)]) (SpecsOk.cons w5l (SpecsOk.nil _))) (SpecsOk.nil _)))) Tryz.func173 rfl rfl (λ_ _=>none) (λ_=>by kernel_rfl) (by decide) ?_
 rintro⟨m,l,⟨p,f⟩,k,⟨⟩⟩ h
 revert m l p f k
 intro(m:List (List Int)) (l:List Int) (p:qa4 []->Prop) (f:qa4 []->Int) (k:Int) (h:(qa9 m=true->p ())/\qf8 BIG k/\l.length<=1000000)
 refine @qd1 _ (True/\((!qa9 m)=true->(1:Int)=w5m m l (f ()) k)/\((!qa9 m)=false->p ()/\(((↑l.length:Int) != f ())=true->(9:Int)=w5m m l (f ()) k)/\(((↑l.length:Int) != f ())=false->∃(v2:qa4 [qc8]->Prop),∃(v3:qa4 [qc8]->Bool),(∀(v4:Int × qa4._f [] PUnit.unit),v2 v4->qf8 BIG k/\inB v4.1 ((0:Int)-k) k=v3 v4)/\(l.length<=(1000000:Nat)/\∀(v4:Nat),v4<l.length->v2 (nI l v4,()))/\((!List.all l λ(v5:Int)=>v3 (v5,()))=true->(7:Int)=w5m m l (f ()) k)/\((!List.all l λ(v5:Int)=>v3 (v5,()))=false->(0:Int)=w5m m l (f ()) k)))) (by kernel_rfl) ?_
 try simp only[z0,z1,z2,z3,z4,z5,z6,z7,z8,z9,z10,Int.reduceEq,z11,z12,z13,z14,z15,z16,z17,z18,z19,z20,z21,z22,z23,z24,z25,z26,z27,z28,z29,z30,Int.reduceLE,Int.reduceLT,z31,z32,z33,z34,qa1]
 try simp only[qa7,qa8,qb8,z31,z32,z2,z1]
 obtain⟨h1,h2,h3⟩:=h
 refine⟨λhv=>by simp[w5m,hv],λhv=>⟨h1 hv,λhl=>by simp[w5m,hv,hl],λhl=>⟨λ_=>True,λx=>inB x.1 (0-k) k,λ_ _=>⟨h2,rfl⟩,⟨h3,λ_ _=>trivial⟩,λha=>?_,λha=>?_⟩⟩⟩
 ·unfold w5m; rw[if_neg (by rw[hv]; decide),if_neg (λq=>q hl),if_pos ha]
 ·unfold w5m; rw[if_neg (by rw[hv]; decide),if_neg (λq=>q hl),if_neg (by rw[ha]; decide)]
def w2g (m:List (List Int)) (x:List Int):Int:=w5m m x (nL m 0).length 1000000
abbrev yk7:qb7:=qf1 true none [qg0,qe9] [qc8] (λx=>x.2.1.length<=1000000) (λx=>(w2g x.1 x.2.1,()))
theorem w9l:Meets Tryz.prog 111 yk7:=by
 refine meets (snd (SpecsOk.cons (w9k (fs:=[(174,x4i)]) (SpecsOk.cons w5k (SpecsOk.nil _))) (SpecsOk.nil _))) Tryz.func111 rfl rfl (λ_ _=>none) (λ_=>by kernel_rfl) (by decide) ?_
 rintro⟨m,x,⟨⟩⟩ h
 revert m x
 intro(m:List (List Int)) (x:List Int) (h:x.length<=1000000)
 refine @qd1 _ (∃(v0:qa4 []->Prop),∃(v1:qa4 []->Int),(∀(v2:Unit),v0 v2->(0:Nat)<m.length/\(↑(nL m (0:Nat)).length:Int)=v1 v2)/\((qa9 m=true->v0 ())/\qf8 BIG (1000000:Int)/\x.length<=(1000000:Nat))/\w5m m x (v1 ()) (1000000:Int)=w2g m x) (by kernel_rfl) ?_
 try simp only[z0,z1,z2,z3,z4,z5,z6,z7,z8,z9,z10,Int.reduceEq,z11,z12,z13,z14,z15,z16,z17,z18,z19,z20,z21,z22,z23,z24,z25,z26,z27,z28,z29,z30,Int.reduceLE,Int.reduceLT,z31,z32,z33,z34,qa1]
 try simp only[qa7,qa8,qb8,z31,z32,z2,z1]
 exact⟨λ_=>0<m.length,λ_=>((nL m 0).length:Int),λ_ hp=>⟨hp,rfl⟩,⟨λhv=>by have:=(Mk.of hv).rows1; omega,⟨by decide,by decide⟩,h⟩,rfl⟩
structure Shw (m:List (List Int)) (x:List Int):Prop where
 msk:Mk m
 val:qa9 m=true
 len:x.length=(nL m 0).length
 bd:∀i,i<x.length->qf8 1000000 (nI x i)
theorem Shw.of {m:List (List Int)} {x:List Int} (h:w2g m x=0):Shw m x:=by
 unfold w2g w5m at h
 split at h
 ·cases h
 ·rename_i hv
  have hv:qa9 m=true:=by cases e:qa9 m with | true=>rfl | false=>exact absurd e hv
  split at h
  ·cases h
  ·rename_i hl
   split at h
   ·cases h
   ·rename_i ha
    have ha:(x.all λe=>inB e (0-1000000) 1000000)=true:=by simpa using ha
    refine⟨Mk.of hv,hv,by omega,λi hi=>?_⟩
    have:=qh5.1 (List.all_eq_true.1 ha (nI x i) (by rw[qg5 x i hi]; exact List.getElem_mem hi))
    unfold qf8; omega
theorem Shw.dot {m:List (List Int)} {x:List Int} (h:Shw m x) (k:Nat) (hk:k<m.length):w9j (nL m k) x:=by
 have h1:=h.msk.each k hk
 have h2:=h.msk.pix10
 have h3:=h.len
 exact⟨by omega,by omega,λi hi=>h.msk.small k hk i (by omega),λi hi=>h.bd i (by omega)⟩
def q7p (m:List (List Int)) (x:List Int):List Int:=(List.range m.length).map λi=>q19 (nL m i) x (nL m i).length
def qv8 (m:List (List Int)) (x:List Int):List Int × Int:=if w2g m x=0 then(q7p m x,0) else([],w2g m x)
abbrev x8p:qb7:=qf1 true none [qg0,qe9] [qe9,qc8] (λx=>x.2.1.length<=1000000) (λx=>((qv8 x.1 x.2.1).1,(qv8 x.1 x.2.1).2,()))
def x4k (m:List (List Int)) (x:List Int):Nat->Option Inv
 | 0=>some (Inv.of [7,18] 1 (λk:Nat=>[(7,.own 0),(18,.lit (.int .i64 k))]) (λk=>[.vec 3 (.int .i64) ((q7p m x).take k)]) (λk=>k<=m.length) (λk=>m.length-k))
 | _=>none
theorem w5n:Meets Tryz.prog 110 x8p:=by
 refine meets (snd (SpecsOk.cons w9l (SpecsOk.cons wp8 (SpecsOk.nil _)))) Tryz.func110 rfl rfl (λx=>x4k x.1 x.2.1) (λ_=>by kernel_rfl) (by decide) ?_
 rintro⟨m,x,⟨⟩⟩ h
 revert m x
 intro(m:List (List Int)) (x:List Int) (h:x.length<=1000000)
 refine @qd1 _ (let Q0:=q7p m x; let Q1:=qv8 m x; x.length<=(1000000:Nat)/\((w2g m x != (0:Int))=true->Q1.1=[]/\w2g m x=Q1.2/\True)/\((w2g m x != (0:Int))=false->∃(v1:Unit),∃(v2:Nat),Nat.le v2 m.length/\((True/\(0:Int)=(↑v2:Int)/\True)/\List.take v2 Q0=[]/\True)/\∀(v3:Nat),Nat.le v3 m.length->(decide ((↑v3:Int)<(↑m.length:Int))=true->((0:Int)<=(↑v3:Int)/\(↑v3:Int)<(↑m.length:Int))/\w9j (nL m v3) x/\((0:Nat)<List.length [q19 (nL m v3) x (nL m v3).length]/\Nat.le ((List.take v3 Q0).length+List.length [q19 (nL m v3) x (nL m v3).length]) (1000000:Nat))/\fits .i64 ((↑v3:Int)+(1:Int))/\∃(v6:Nat),Nat.le v6 m.length/\m.length-v6<m.length-v3/\(True/\(↑v3:Int)+(1:Int)=(↑v6:Int)/\True)/\List.take v3 Q0++[q19 (nL m v3) x (nL m v3).length]=List.take v6 Q0/\True)/\(decide ((↑v3:Int)<(↑m.length:Int))=false->List.take v3 Q0=Q1.1/\(0:Int)=Q1.2/\True))) (by kernel_rfl) ?_
 try simp only[z0,z1,z2,z3,z4,z5,z6,z7,z8,z9,z10,Int.reduceEq,z11,z12,z13,z14,z15,z16,z17,z18,z19,z20,z21,z22,z23,z24,z25,z26,z27,z28,z29,z30,Int.reduceLE,Int.reduceLT,z31,z32,z33,z34,qa1]
 try simp only[qa7,qa8,qb8,z31,z32,z2,z1]
 refine⟨h,λhe=>by simp[qv8,he],λhe=>?_⟩
 have hS:=Shw.of he
 have hM:=hS.msk
 have h6:=hM.rows6
 have h10:=hM.pix10
 have hlen:(q7p m x).length=m.length:=by simp[q7p]
 have hR:qv8 m x=(q7p m x,0):=by simp[qv8,he]
 rw[hR]
 refine⟨(),0,Nat.zero_le _,⟨rfl,rfl⟩,λk hk=>⟨λhlt=>⟨hlt,hS.dot k hlt,by rw[List.length_take]; omega,qb5 (by omega) (by omega),k+1,hlt,by omega,by omega,?_⟩,λhge=>⟨List.take_of_length_le (by omega),rfl⟩⟩⟩
 rw[wf5 _ k (by omega),qg5 (q7p m x) k (by omega)]
 simp[q7p]
def x8q (mats:List Nat) (specs:List (Nat × qb7)) (muts:List (Nat × qm0)):Ctx:={ specs:=specs,tys:=tys,wr:=[],mats:=mats,muts:=muts }
theorem x8r (mats:List Nat) {specs:List (Nat × qb7)} {muts:List (Nat × qm0)} (h:SpecsOk Tryz.prog specs) (hm:MutsOk muts):Sound Tryz.prog (x8q mats specs muts):=SpecsOk.sound h q05 (by kernel_rfl) (hmu:=hm)
abbrev qo3:Ty:=.prod (.int .i64) (.prod (.int .i64) (.int .i64))
abbrev Flt:=Int × Int × Int
theorem wg6:Meets Tryz.prog 166 we9:=by
 refine meets (snd (SpecsOk.nil _)) Tryz.func166 rfl rfl (λ_ _=>none) (λ_=>by kernel_rfl) (by decide) ?_
 rintro⟨n,lo,hi,⟨⟩⟩ -
 revert n lo hi
 intro(n:Int) (lo:Int) (hi:Int)
 refine @qd1 _ ((decide (lo<=n)=true->decide (n<=hi)=inB n lo hi)/\(decide (lo<=n)=false->false=inB n lo hi)) (by kernel_rfl) ?_
 try simp only[z0,z1,z2,z3,z4,z5,z6,z7,z8,z9,z10,Int.reduceEq,z11,z12,z13,z14,z15,z16,z17,z18,z19,z20,z21,z22,z23,z24,z25,z26,z27,z28,z29,z30,Int.reduceLE,Int.reduceLT,z31,z32,z33,z34,qa1]
 try simp only[qa7,qa8,qb8,z31,z32,z2,z1]
 constructor
 ·intro h1
  simp[inB,h1]
 ·intro h1
  have:¬lo<=n:=by omega
  simp[inB,this]
def wy9 (m:List (List Int)) (f:Flt):Bool:=inB f.2.1 0 ((m.length:Int)-1)
def wz3 (m:List (List Int)) (f:Flt):Bool:=inB f.2.2 0 (((nL m 0).length:Int)-1)
def xm4 (m:List (List Int)) (i j:Int):Int:=nI (nL m i.toNat) j.toNat
def fvB (m:List (List Int)) (f:Flt):Bool:=
 if f.1=0 then decide (f.2.1=0) && decide (f.2.2=0) else if f.1=1 then wy9 m f && decide (f.2.2=0) else if f.1=2 then wz3 m f && decide (f.2.1=0)
 else if f.1=3 then wy9 m f && wz3 m f && decide (xm4 m f.2.1 f.2.2≠0) else false
abbrev sFv:qb7:=qf1 true none [qg0,qo3] [.bool] (λx=>qa9 x.1=true) (λx=>(fvB x.1 x.2.1,()))
theorem wg7 (a b:Int):(a==b)=decide (a=b):=rfl
theorem x0t (a:Int):(a != 0)=decide ¬a=0:=by by_cases h:a=0 <;> simp[h]
theorem w2h:Meets Tryz.prog 104 sFv:=by
 refine meets (snd (SpecsOk.cons wg6 (SpecsOk.nil _))) Tryz.func104 rfl rfl (λ_ _=>none) (λ_=>by kernel_rfl) (by decide) ?_
 rintro⟨m,⟨kd,r,p⟩,⟨⟩⟩ hv
 revert m kd r p
 intro(m:List (List Int)) (kd:Int) (r:Int) (p:Int) (hv:qa9 m=true)
 refine @qd1 _ (fits .i64 ((↑m.length:Int)-(1:Int))/\True/\((0:Int)<=(0:Int)/\(0:Int)<(↑m.length:Int))/\fits .i64 ((↑(nL m (0:Nat)).length:Int)-(1:Int))/\True/\((kd==(0:Int))=true->(kd==(0:Int) && (r==(0:Int) && p==(0:Int)))=fvB m (kd,r,p))/\((kd==(0:Int))=false->((kd==(1:Int))=true->(inB r (0:Int) ((↑m.length:Int)-(1:Int))=true->(p==(0:Int))=fvB m (kd,r,p))/\(inB r (0:Int) ((↑m.length:Int)-(1:Int))=false->false=fvB m (kd,r,p)))/\((kd==(1:Int))=false->((kd==(2:Int))=true->(inB p (0:Int) ((↑(nL m (0:Nat)).length:Int)-(1:Int))=true->(r==(0:Int))=fvB m (kd,r,p))/\(inB p (0:Int) ((↑(nL m (0:Nat)).length:Int)-(1:Int))=false->false=fvB m (kd,r,p)))/\((kd==(2:Int))=false->((kd==(3:Int))=true->(inB r (0:Int) ((↑m.length:Int)-(1:Int))=true->(inB p (0:Int) ((↑(nL m (0:Nat)).length:Int)-(1:Int))=true->((0:Int)<=r/\r<(↑m.length:Int))/\((0:Int)<=p/\p<(↑(nL m r.toNat).length:Int))/\(nI (nL m r.toNat) p.toNat != (0:Int))=fvB m (kd,r,p))/\(inB p (0:Int) ((↑(nL m (0:Nat)).length:Int)-(1:Int))=false->false=fvB m (kd,r,p)))/\(inB r (0:Int) ((↑m.length:Int)-(1:Int))=false->false=fvB m (kd,r,p)))/\((kd==(3:Int))=false->false=fvB m (kd,r,p)))))) (by kernel_rfl) ?_
 try simp only[z0,z1,z2,z3,z4,z5,z6,z7,z8,z9,z10,Int.reduceEq,z11,z12,z13,z14,z15,z16,z17,z18,z19,z20,z21,z22,z23,z24,z25,z26,z27,z28,z29,z30,Int.reduceLE,Int.reduceLT,z31,z32,z33,z34,qa1]
 try simp only[qa7,qa8,qb8,z31,z32,z2,z1]
 have hM:=Mk.of hv
 have m1:=hM.rows1
 have m6:=hM.rows6
 have p1:=hM.pix1
 have p10:=hM.pix10
 refine⟨qb5 (by omega) (by omega),by omega,qb5 (by omega) (by omega),λh0=>?_,λh0=>⟨λh1=>?_,λh1=>⟨λh2=>?_,λh2=>⟨λh3=>?_,λh3=>?_⟩⟩⟩⟩
 ·subst h0; simp[fvB,wg7]
 ·subst h1; exact⟨λc=>by simp[fvB,wy9,c,wg7],λc=>by simp[fvB,wy9,c]⟩
 ·subst h2; exact⟨λc=>by simp[fvB,wz3,c,wg7],λc=>by simp[fvB,wz3,c]⟩
 ·subst h3
  refine⟨λc=>⟨λd=>?_,λd=>by simp[fvB,wz3,d]⟩,λc=>by simp[fvB,wy9,c]⟩
  have c1:=qh5.1 c
  have d1:=qh5.1 d
  refine⟨by omega,⟨d1.1,by rw[hM.each _ (by omega)]; omega⟩,?_⟩
  simp[fvB,wy9,wz3,c,d,xm4,wg7]; exact x0t _
 ·simp[fvB,h0,h1,h2,h3]
abbrev sFV:qb7:=qf1 true none [qg0,qo3] [.bool] (λ_=>True) (λx=>(qa9 x.1 && fvB x.1 x.2.1,()))
theorem xm5:Meets Tryz.prog 54 sFV:=by
 refine meets (snd (SpecsOk.cons qp4 (SpecsOk.cons w2h (SpecsOk.nil _)))) Tryz.func54 rfl rfl (λ_ _=>none) (λ_=>by kernel_rfl) (by decide) ?_
 rintro⟨m,⟨kd,r,p⟩,⟨⟩⟩ -
 revert m kd r p
 intro(m:List (List Int)) (kd:Int) (r:Int) (p:Int)
 refine @qd1 _ (let Q0:=(qa9 m && fvB m (kd,r,p)); True/\(qa9 m=true->qa9 m=true/\fvB m (kd,r,p)=Q0)/\(qa9 m=false->false=Q0)) (by kernel_rfl) ?_
 try simp only[z0,z1,z2,z3,z4,z5,z6,z7,z8,z9,z10,Int.reduceEq,z11,z12,z13,z14,z15,z16,z17,z18,z19,z20,z21,z22,z23,z24,z25,z26,z27,z28,z29,z30,Int.reduceLE,Int.reduceLT,z31,z32,z33,z34,qa1]
 try simp only[qa7,qa8,qb8,z31,z32,z2,z1]
 exact⟨λh=>⟨h,by rw[h,Bool.true_and]⟩,λh=>by rw[h,Bool.false_and]⟩
def qq8 (l:List Int):List Int:=List.replicate l.length 0
def qf4 (rows:List (List Int)) (p:Nat) (k:Nat):List (List Int):=(List.range rows.length).map λi=>if i<k then(nL rows i).set p 0 else nL rows i
def qi2 (rows:List (List Int)) (f:Flt):List (List Int):=
 if f.1=1 then rows.set f.2.1.toNat (qq8 (nL rows f.2.1.toNat)) else if f.1=2 then qf4 rows f.2.2.toNat rows.length
 else if f.1=3 then rows.set f.2.1.toNat ((nL rows f.2.1.toNat).set f.2.2.toNat (-(xm4 rows f.2.1 f.2.2))) else rows
structure DeedPre (rows:List (List Int)) (f:Flt) (k:Int):Prop where
 kind:f.1=k
 valid:qa9 rows=true
 ok:fvB rows f=true
theorem DeedPre.row {rows:List (List Int)} {kd r p k:Int} (h:DeedPre rows (kd,r,p) k) (hk:kd=1\/kd=3):0<=r/\r<=(rows.length:Int)-1:=by
 have h1:=h.ok
 unfold fvB wy9 at h1
 rcases hk with rfl | rfl <;> simp at h1
 ·exact qh5.1 h1.1
 ·exact qh5.1 h1.1.1
theorem DeedPre.pix {rows:List (List Int)} {kd r p k:Int} (h:DeedPre rows (kd,r,p) k) (hk:kd=2\/kd=3):0<=p/\p<=((nL rows 0).length:Int)-1:=by
 have h1:=h.ok
 unfold fvB wz3 at h1
 rcases hk with rfl | rfl <;> simp at h1
 ·exact qh5.1 h1.1
 ·exact qh5.1 h1.1.2
abbrev x4l:qm0:=q5q (q02 [qo3]) true false 34 3 (.int .i64) (λrows x=>DeedPre rows x.1 0) (λ_ _=>.tup .nil) (λrows x=>qi2 rows x.1)
abbrev x4m:qm0:=q5q (q02 [qo3]) true false 34 3 (.int .i64) (λrows x=>DeedPre rows x.1 1) (λ_ _=>.tup .nil) (λrows x=>qi2 rows x.1)
abbrev x4n:qm0:=q5q (q02 [qo3]) true false 34 3 (.int .i64) (λrows x=>DeedPre rows x.1 2) (λ_ _=>.tup .nil) (λrows x=>qi2 rows x.1)
abbrev x4o:qm0:=q5q (q02 [qo3]) true false 34 3 (.int .i64) (λrows x=>DeedPre rows x.1 3) (λ_ _=>.tup .nil) (λrows x=>qi2 rows x.1)
theorem wz4:qo0 Tryz.prog 167 x4l:=by
 refine q04 (snd (SpecsOk.nil _)) Tryz.func167 rfl rfl (qm4 [qo3]) (λT rows x=>λ_=>none) (λ_ _ _=>by kernel_rfl) (by decide) ?_ rfl
 rintro T rows ⟨⟨kd,r,p⟩,⟨⟩⟩ h -
 revert rows kd r p
 intro(rows:List (List Int)) (kd:Int) (r:Int) (p:Int) (h:DeedPre rows (kd,r,p) 0)
 refine @qd1 _ (rows=qi2 rows (kd,r,p)/\T=T/\True/\True) (by kernel_rfl) ?_
 try simp only[z0,z1,z2,z3,z4,z5,z6,z7,z8,z9,z10,Int.reduceEq,z11,z12,z13,z14,z15,z16,z17,z18,z19,z20,z21,z22,z23,z24,z25,z26,z27,z28,z29,z30,Int.reduceLE,Int.reduceLT,z31,z32,z33,z34,qa1]
 try simp only[qa7,qa8,qb8,z31,z32,z2,z1]
 obtain rfl:kd=0:=h.kind
 simp[qi2]
theorem wz5:qo0 Tryz.prog 168 x4m:=by
 refine q04 (snd (SpecsOk.nil _)) Tryz.func168 rfl rfl (qm4 [qo3]) (λT rows x=>λ_=>none) (λ_ _ _=>by kernel_rfl) (by decide) ?_ rfl
 rintro T rows ⟨⟨kd,r,p⟩,⟨⟩⟩ h -
 revert rows kd r p
 intro(rows:List (List Int)) (kd:Int) (r:Int) (p:Int) (h:DeedPre rows (kd,r,p) 1)
 refine @qd1 _ (let Q0:=qe7 (qn1 true) r.toNat; ((0:Int)<=r/\r<(↑(qe3 rows.length (qn1 true)):Int))/\r.toNat<qe3 rows.length (qn1 true)/\List.set rows Q0 (List.replicate (nL rows Q0).length (0:Int))=qi2 rows (kd,r,p)/\T=T/\True/\True) (by kernel_rfl) ?_
 try simp only[z0,z1,z2,z3,z4,z5,z6,z7,z8,z9,z10,Int.reduceEq,z11,z12,z13,z14,z15,z16,z17,z18,z19,z20,z21,z22,z23,z24,z25,z26,z27,z28,z29,z30,Int.reduceLE,Int.reduceLT,z31,z32,z33,z34,qa1]
 try simp only[qa7,qa8,qb8,z31,z32,z2,z1]
 obtain rfl:kd=1:=h.kind
 have hr:0<=r/\r<=(rows.length:Int)-1:=h.row (.inl rfl)
 simp only[qn1,qe3,qe7]
 exact⟨⟨hr.1,by omega⟩,by omega,by simp[qi2,qq8]⟩
abbrev xt7 (f:Flt):AObj:=.box 25 (.cons (.lit (.int .i64 f.1)) (.cons (.lit (.int .i64 f.2.1)) (.cons (.lit (.int .i64 f.2.2)) .nil)))
def x4p (T:q5k) (rows:List (List Int)) (f:Flt):Nat->Option Inv
 | 0=>some (Inv.of [6,8] 2 (λk:Nat=>[(6,.msl 0 .none),(8,.lit (.int .i64 k))]) (λk=>[.mat 34 3 (.int .i64) (qf4 rows f.2.2.toNat k) .none (some T),xt7 f]) (λk=>k<=rows.length) (λk=>rows.length-k))
 | _=>none
theorem qp7 (rows:List (List Int)) (p k:Nat):(qf4 rows p k).length=rows.length:=by simp[qf4]
theorem wg8 {rows:List (List Int)} {p k i:Nat} (h:i<rows.length):nL (qf4 rows p k) i=if i<k then(nL rows i).set p 0 else nL rows i:=by
 rw[qj8 _ i (by rw[qp7]; exact h)]; simp[qf4]
theorem w9m (rows:List (List Int)) (p:Nat):qf4 rows p 0=rows:=by
 apply List.ext_getElem (qp7 rows p 0)
 intro i h1 h2
 simp[qf4,qj8 rows i h2]
theorem xm6 {rows:List (List Int)} {p k:Nat} (hk:k<rows.length):(qf4 rows p k).set k ((nL (qf4 rows p k) k).set p 0)=qf4 rows p (k+1):=by
 rw[wg8 hk,if_neg (Nat.lt_irrefl k)]
 apply List.ext_getElem (by rw[List.length_set,qp7,qp7])
 intro i h1 h2
 rw[List.getElem_set]
 simp only[qf4,List.getElem_map,List.getElem_range]
 split
 ·rename_i e; subst e; rw[if_pos (Nat.lt_succ_self _)]
 ·rename_i e
  by_cases h:i<k
  ·rw[if_pos h,if_pos (by omega)]
  ·rw[if_neg h,if_neg (by omega)]
theorem wz6:qo0 Tryz.prog 169 x4n:=by
 refine q04 (snd (SpecsOk.nil _)) Tryz.func169 rfl rfl (qm4 [qo3]) (λT rows x=>x4p T rows x.1) (λ_ _ _=>by kernel_rfl) (by decide) ?_ rfl
 rintro T rows ⟨⟨kd,r,p⟩,⟨⟩⟩ h -
 revert rows kd r p
 intro(rows:List (List Int)) (kd:Int) (r:Int) (p:Int) (h:DeedPre rows (kd,r,p) 2)
 refine @qd1 _ (let Q0:=qe3 rows.length (qn1 true); ∃(v0:Unit),∃(v1:Nat),Nat.le v1 rows.length/\((True/\(0:Int)=(↑v1:Int)/\True)/\(rows=qf4 rows p.toNat v1/\True/\T=T)/\(kd=kd/\r=r/\p=p/\True)/\True)/\∀(v2:Nat),Nat.le v2 rows.length->(decide ((↑v2:Int)<(↑Q0:Int))=true->((0:Int)<=(↑v2:Int)/\(↑v2:Int)<(↑(qe3 (qf4 rows p.toNat v2).length none):Int))/\v2<qe3 (qf4 rows p.toNat v2).length none/\((0:Int)<=p/\p<(↑(nL (qf4 rows p.toNat v2) (qe7 none v2)).length:Int))/\p.toNat<(nL (qf4 rows p.toNat v2) (qe7 none v2)).length/\fits .i64 ((↑v2:Int)+(1:Int))/\∃(v5:Nat),Nat.le v5 rows.length/\rows.length-v5<rows.length-v2/\(True/\(↑v2:Int)+(1:Int)=(↑v5:Int)/\True)/\(List.set (qf4 rows p.toNat v2) (qe7 none v2) (List.set (nL (qf4 rows p.toNat v2) (qe7 none v2)) p.toNat (0:Int))=qf4 rows p.toNat v5/\True/\T=T)/\(kd=kd/\r=r/\p=p/\True)/\True)/\(decide ((↑v2:Int)<(↑Q0:Int))=false->qf4 rows p.toNat v2=qi2 rows (kd,r,p)/\T=T/\True/\True)) (by kernel_rfl) ?_
 try simp only[z0,z1,z2,z3,z4,z5,z6,z7,z8,z9,z10,Int.reduceEq,z11,z12,z13,z14,z15,z16,z17,z18,z19,z20,z21,z22,z23,z24,z25,z26,z27,z28,z29,z30,Int.reduceLE,Int.reduceLT,z31,z32,z33,z34,qa1]
 try simp only[qa7,qa8,qb8,z31,z32,z2,z1]
 obtain rfl:kd=2:=h.kind
 have hM:=Mk.of h.valid
 have m6:=hM.rows6
 have hp:0<=p/\p<=((nL rows 0).length:Int)-1:=h.pix (.inl rfl)
 simp only[qn1,qe3,qe7,qp7]
 refine⟨(),0,Nat.zero_le _,⟨rfl,(w9m _ _).symm⟩,λk hk=>⟨λhlt=>?_,λhge=>?_⟩⟩
 ·have hl:=hM.each k hlt
  have e:nL (qf4 rows p.toNat k) k=nL rows k:=by rw[wg8 hlt,if_neg (Nat.lt_irrefl k)]
  exact⟨hlt,hlt,⟨hp.1,by rw[e]; omega⟩,by rw[e]; omega,qb5 (by omega) (by omega),k+1,hlt,by omega,by push_cast; rfl,xm6 hlt⟩
 ·obtain rfl:k=rows.length:=by omega
  simp[qi2]
theorem wz7:qo0 Tryz.prog 170 x4o:=by
 refine q04 (snd (SpecsOk.nil _)) Tryz.func170 rfl rfl (qm4 [qo3]) (λT rows x=>λ_=>none) (λ_ _ _=>by kernel_rfl) (by decide) ?_ rfl
 rintro T rows ⟨⟨kd,r,p⟩,⟨⟩⟩ h -
 revert rows kd r p
 intro(rows:List (List Int)) (kd:Int) (r:Int) (p:Int) (h:DeedPre rows (kd,r,p) 3)
 refine @qd1 _ (let Q0:=nL rows (qe7 (qn1 true) r.toNat); let Q1:=qn1 true; ((0:Int)<=r/\r<(↑(qe3 rows.length Q1):Int))/\r.toNat<qe3 rows.length Q1/\((0:Int)<=p/\p<(↑Q0.length:Int))/\p.toNat<Q0.length/\fits .i64 (nI Q0 p.toNat*(-1:Int))/\((0:Int)<=p/\p<(↑Q0.length:Int))/\p.toNat<Q0.length/\List.set rows (qe7 Q1 r.toNat) (List.set Q0 p.toNat (nI Q0 p.toNat*(-1:Int)))=qi2 rows (kd,r,p)/\T=T/\True/\True) (by kernel_rfl) ?_
 try simp only[z0,z1,z2,z3,z4,z5,z6,z7,z8,z9,z10,Int.reduceEq,z11,z12,z13,z14,z15,z16,z17,z18,z19,z20,z21,z22,z23,z24,z25,z26,z27,z28,z29,z30,Int.reduceLE,Int.reduceLT,z31,z32,z33,z34,qa1]
 try simp only[qa7,qa8,qb8,z31,z32,z2,z1]
 obtain rfl:kd=3:=h.kind
 have hM:=Mk.of h.valid
 have hr:0<=r/\r<=(rows.length:Int)-1:=h.row (.inr rfl)
 have hp:0<=p/\p<=((nL rows 0).length:Int)-1:=h.pix (.inr rfl)
 have hl:=hM.each r.toNat (by omega)
 have hs:=hM.small r.toNat (by omega) p.toNat (by omega)
 simp only[qn1,qe3,qe7]
 have hq:nI (nL rows r.toNat) p.toNat * -1=-(nI (nL rows r.toNat) p.toNat):=by omega
 refine⟨⟨hr.1,by omega⟩,by omega,⟨hp.1,by omega⟩,by omega,qb5 (by omega) (by omega),⟨hp.1,by omega⟩,by omega,by simp[qi2,xm4,hq]⟩
abbrev x4q:qb7:=we6 false none [] (λ_=>True) (λ_=>.agg (.cons (.clo 167 .nil) (.cons (.clo 168 .nil) (.cons (.clo 169 .nil) (.cons (.clo 170 .nil) .nil)))))
theorem wz8:Meets Tryz.prog 106 x4q:=by
 refine q3k (snd (SpecsOk.nil _)) Tryz.func106 rfl rfl (λ_ _=>none) (λ_=>by kernel_rfl) (by decide) ?_
 rintro⟨⟩ -
 refine @qd1 _ (True/\True/\True/\True/\True) (by kernel_rfl) ?_
 try simp only[z0,z1,z2,z3,z4,z5,z6,z7,z8,z9,z10,Int.reduceEq,z11,z12,z13,z14,z15,z16,z17,z18,z19,z20,z21,z22,z23,z24,z25,z26,z27,z28,z29,z30,Int.reduceLE,Int.reduceLT,z31,z32,z33,z34,qa1]
 try simp only[qa7,qa8,qb8,z31,z32,z2,z1]
structure FltPre (m:List (List Int)) (f:Flt):Prop where
 valid:qa9 m=true
 ok:fvB m f=true
abbrev yk8:qb7:=q8r (q02 [qg0,qo3]) true (some 34) (some 3) (λx=>FltPre x.1 x.2.1) (λx=>.dat (.list (.int .i64)) (qi2 x.1 x.2.1))
def x8s (m:List (List Int)) (f:Flt):Nat->Option Inv
 | 0=>some (Inv.of [5,10] 2 (λk:Nat=>[(5,.msl 1 .none),(10,.lit (.int .i64 k))]) (λk=>[xt7 f,.mat 34 3 (.int .i64) (m.take k) .none .none]) (λk=>k<=m.length) (λk=>m.length-k))
 | _=>none
theorem kd3 {kd:Int} (h0:¬kd=↑0) (h1:¬kd=↑1) (h2:¬kd=↑2) (h:kd=0\/kd=1\/kd=2\/kd=3):kd=↑3:=by
 rcases h with e | e | e | e
 ·exact absurd e h0
 ·exact absurd e h1
 ·exact absurd e h2
 ·exact e
theorem wp9:Meets Tryz.prog 55 yk8:=by
 refine q9k (x8r [17] (SpecsOk.cons q7c (SpecsOk.cons wz8 (SpecsOk.nil _))) (MutsOk.cons wz4 (MutsOk.cons wz5 (MutsOk.cons wz6 (MutsOk.cons wz7 MutsOk.nil))))) Tryz.func55 rfl rfl (qm4 _) (λx=>x8s x.1 x.2.1) (λ_=>by kernel_rfl) (by decide) ?_
 rintro⟨m,⟨kd,r,p⟩,⟨⟩⟩ h
 revert m kd r p
 intro(m:List (List Int)) (kd:Int) (r:Int) (p:Int) (h:FltPre m (kd,r,p))
 refine @qd1 _ (∃(v0:Unit),∃(v1:Nat),Nat.le v1 m.length/\((True/\(0:Int)=(↑v1:Int)/\True)/\(kd=kd/\r=r/\p=p/\True)/\List.take v1 m=[]/\True)/\∀(v2:Nat),Nat.le v2 m.length->(decide ((↑v2:Int)<(↑m.length:Int))=true->((0:Int)<=(↑v2:Int)/\(↑v2:Int)<(↑m.length:Int))/\(nL m v2).length<=(100000:Nat)/\((0:Nat)<(0:Nat)+(1:Nat)/\(List.take v2 m).length+((0:Nat)+(1:Nat))<=(1000000:Nat))/\fits .i64 ((↑v2:Int)+(1:Int))/\∃(v5:Nat),Nat.le v5 m.length/\m.length-v5<m.length-v2/\(True/\(↑v2:Int)+(1:Int)=(↑v5:Int)/\True)/\(kd=kd/\r=r/\p=p/\True)/\(List.take v2 m++[nL m v2]=List.take v5 m/\True/\True)/\True)/\(decide ((↑v2:Int)<(↑m.length:Int))=false->True/\(decide (kd=(↑(0:Nat):Int))=true->DeedPre (List.take v2 m) (kd,r,p) (0:Int)/\qi2 (List.take v2 m) (kd,r,p)=qi2 m (kd,r,p))/\(decide (kd=(↑(0:Nat):Int))=false->(decide (kd=(↑(1:Nat):Int))=true->DeedPre (List.take v2 m) (kd,r,p) (1:Int)/\qi2 (List.take v2 m) (kd,r,p)=qi2 m (kd,r,p))/\(decide (kd=(↑(1:Nat):Int))=false->(decide (kd=(↑(2:Nat):Int))=true->DeedPre (List.take v2 m) (kd,r,p) (2:Int)/\qi2 (List.take v2 m) (kd,r,p)=qi2 m (kd,r,p))/\(decide (kd=(↑(2:Nat):Int))=false->kd=(↑(3:Nat):Int)/\DeedPre (List.take v2 m) (kd,r,p) (3:Int)/\qi2 (List.take v2 m) (kd,r,p)=qi2 m (kd,r,p)))))) (by kernel_rfl) ?_
 try simp only[z0,z1,z2,z3,z4,z5,z6,z7,z8,z9,z10,Int.reduceEq,z11,z12,z13,z14,z15,z16,z17,z18,z19,z20,z21,z22,z23,z24,z25,z26,z27,z28,z29,z30,Int.reduceLE,Int.reduceLT,z31,z32,z33,z34,qa1]
 try simp only[qa7,qa8,qb8,z31,z32,z2,z1]
 have hM:=Mk.of h.valid
 have m6:=hM.rows6
 have p10:=hM.pix10
 refine⟨(),0,Nat.zero_le _,⟨rfl,rfl⟩,λk hk=>⟨λhlt=>?_,λhge=>?_⟩⟩
 ·have hl:=hM.each k hlt
  exact⟨hlt,by omega,by rw[List.length_take]; omega,qb5 (by omega) (by omega),k+1,hlt,by omega,by push_cast; rfl,(takeL_snoc m k hlt).symm⟩
 ·rw[List.take_of_length_le (by omega)]
  have hkd:kd=0\/kd=1\/kd=2\/kd=3:=by
   have h1:=h.ok
   unfold fvB at h1
   simp only at h1
   split at h1; · exact .inl ‹_›
   split at h1; · exact .inr (.inl ‹_›)
   split at h1; · exact .inr (.inr (.inl ‹_›))
   split at h1; · exact .inr (.inr (.inr ‹_›))
   cases h1
  exact⟨λe=>⟨⟨e,h.valid,h.ok⟩,rfl⟩,λn0=>⟨λe=>⟨⟨e,h.valid,h.ok⟩,rfl⟩,λn1=>⟨λe=>⟨⟨e,h.valid,h.ok⟩,rfl⟩,λn2=>⟨kd3 n0 n1 n2 hkd,⟨kd3 n0 n1 n2 hkd,h.valid,h.ok⟩,rfl⟩⟩⟩⟩
end Go.Proofs.YtmijnbjlhnpokaaGreat
