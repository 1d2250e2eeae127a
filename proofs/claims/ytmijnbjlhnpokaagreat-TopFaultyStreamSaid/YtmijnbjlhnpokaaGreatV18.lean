/- The reference's kernel vectors: contract by the engine. No condition. -/
import Derived.Test.YtmijnbjlhnpokaaGreatV12
import Derived.Test.YtmijnbjlhnpokaaGreatV7
set_option linter.unusedVariables false
set_option linter.unusedSimpArgs false
namespace Go.Proofs.YtmijnbjlhnpokaaGreat
open Go Go.RowKit Eng
theorem xj6 (t:Ty) (a b:List t.den) (hl:a.length=b.length) (h:∀i,i<a.length->qe6 t a i=qe6 t b i):a=b:=by
 apply List.ext_getElem hl
 intro i h1 h2
 have:=h i h1
 rwa [qo1 a i h1,qo1 b i h2] at this
def x8j (a b:List (Ty.den (.int .i64))):Nat->Option Inv
 | 0=>some (Inv.of [13] 0 (λk:Nat=>[(13,.lit (.int .i64 k))]) (λ_=>[]) (λk=>k<=a.length/\∀i,i<k->qe6 (.int .i64) a i=qe6 (.int .i64) b i) (λk=>a.length-k))
 | _=>none
abbrev yk3:qb4:=qf2 true none [.list (.int .i64),.list (.int .i64)] [.bool] (λx=>x.1.length<=1000000) (λx=>(decide (x.1=x.2.1),()))
theorem wn0:Meets Tryz.prog 116 yk3:=by
 refine meets (snd (SpecsOk.nil _)) Tryz.func116 rfl rfl (λx=>x8j x.1 x.2.1) (λ_=>by kernel_rfl) (by decide) ?_
 rintro⟨a,b,⟨⟩⟩ h
 revert a b
 intro(a:List (Ty.den (.int .i64))) (b:List (Ty.den (.int .i64))) (h:a.length<=1000000)
 refine @qd1 _ ((((↑a.length:Int) != (↑b.length:Int))=true->false=decide (a=b))/\(((↑a.length:Int) != (↑b.length:Int))=false->∃(v1:Unit),∃(v2:Nat),(v2<=a.length/\∀(v3:Nat),Nat.le (Nat.succ v3) v2->nI a v3=nI b v3)/\(((0:Int)=(↑v2:Int)/\True)/\True)/\∀(v3:Nat),(v3<=a.length/\∀(v5:Nat),Nat.le (Nat.succ v5) v3->nI a v5=nI b v5)->(decide ((↑v3:Int)<(↑a.length:Int))=true->((0:Int)<=(↑v3:Int)/\(↑v3:Int)<(↑a.length:Int))/\((0:Int)<=(↑v3:Int)/\(↑v3:Int)<(↑b.length:Int))/\((nI a v3 != nI b v3)=true->false=decide (a=b))/\((nI a v3 != nI b v3)=false->fits .i64 ((↑v3:Int)+(1:Int))/\∃(v7:Nat),(v7<=a.length/\∀(v8:Nat),Nat.le (Nat.succ v8) v7->nI a v8=nI b v8)/\a.length-v7<a.length-v3/\((↑v3:Int)+(1:Int)=(↑v7:Int)/\True)/\True))/\(decide ((↑v3:Int)<(↑a.length:Int))=false->true=decide (a=b)))) (by kernel_rfl) ?_
 try simp only[z0,z1,z2,z3,z4,z5,z6,z7,z8,z9,z10,Int.reduceEq,z11,z12,z13,z14,z15,z16,z17,z18,z19,z20,z21,z22,z23,z24,z25,z26,z27,z28,z29,z30,Int.reduceLE,Int.reduceLT,z31,z32,z33,z34,qa1]
 try simp only[qa7,qa8,qb5,z31,z32,z2,z1]
 refine⟨λhl=>?_,λhl=>?_⟩
 ·rw[decide_eq_false]; intro e; subst e; exact hl rfl
 ·refine⟨(),0,⟨Nat.zero_le _,λi hi=>absurd hi (by omega)⟩,rfl,λk ⟨hk,hall⟩=>⟨λhlt=>⟨hlt,by omega,λhne=>?_,λhe=>⟨qb8 (by omega) (by omega),k+1,⟨by omega,λi hi=>?_⟩,by omega,by omega⟩⟩,λhge=>?_⟩⟩
  ·rw[decide_eq_false]; intro e; subst e; first | exact hne rfl | (revert hne; simp)
  ·by_cases e:i=k
   ·subst e; first | exact he | (refine Prod.ext ?_ ?_ <;> simp_all)
   ·exact hall i (by omega)
  ·exact(decide_eq_true (xj6 _ a b (by omega) λi hi=>hall i (by omega))).symm
abbrev tQ:Ty:=.prod (.list (.list (.int .i64))) (.list (.int .i64))
abbrev x3x:qb4:=qf2 true none [q0a] [.bool] (λ_=>True) (λx=>(x.1.1==0,()))
theorem w4n:Meets Tryz.prog 240 x3x:=by
 refine meets (snd (SpecsOk.nil _)) Tryz.func240 rfl rfl (λ_ _=>none) (λ_=>by kernel_rfl) (by decide) ?_
 rintro⟨r,⟨⟩⟩ -
 revert r
 intro(r:Int × Int)
 refine @qd1 _ ((r.1==(0:Int))=(r.1==(0:Ty.den (Ty.int .i64)))) (by kernel_rfl) ?_
 try simp only[z0,z1,z2,z3,z4,z5,z6,z7,z8,z9,z10,Int.reduceEq,z11,z12,z13,z14,z15,z16,z17,z18,z19,z20,z21,z22,z23,z24,z25,z26,z27,z28,z29,z30,Int.reduceLE,Int.reduceLT,z31,z32,z33,z34,qa1]
 try simp only[qa7,qa8,qb5,z31,z32,z2,z1]
 done
abbrev x8k:qb4:=qf2 true none [tQ] [qd0] (λx=>0<x.1.1.length) (λx=>((nL x.1.1 0).length,()))
theorem w4o:Meets Tryz.prog 144 x8k:=by
 refine meets (snd (SpecsOk.nil _)) Tryz.func144 rfl rfl (λ_ _=>none) (λ_=>by kernel_rfl) (by decide) ?_
 rintro⟨q,⟨⟩⟩ h
 revert q
 intro(q:List (List Int) × List Int) (h:0<q.1.length)
 refine @qd1 _ (((0:Int)<=(0:Int)/\(0:Int)<(↑q.1.length:Int))/\(↑(nL q.1 (0:Nat)).length:Int)=(↑(nL q.1 (0:Nat)).length:Int)) (by kernel_rfl) ?_
 try simp only[z0,z1,z2,z3,z4,z5,z6,z7,z8,z9,z10,Int.reduceEq,z11,z12,z13,z14,z15,z16,z17,z18,z19,z20,z21,z22,z23,z24,z25,z26,z27,z28,z29,z30,Int.reduceLE,Int.reduceLT,z31,z32,z33,z34,qa1]
 try simp only[qa7,qa8,qb5,z31,z32,z2,z1]
 omega
def q3r (m:List (List Int)) (y pix:List Int):(List Int × List (Int × Int)) × Bool:=if(q8f m pix y).2≠0\/((q8f m pix y).1.any λr=>r.1==0)=true then(([],[]),false) else((pix,(q8f m pix y).1),true)
abbrev x8l:qb4:=qf2 true none [tQ,qe8] [xy4,.bool] (λx=>q3q x.1.1 x.2.1 x.1.2/\x.2.1.length<=100000) (λx=>((q3r x.1.1 x.1.2 x.2.1).1,(q3r x.1.1 x.1.2 x.2.1).2,()))
theorem xj7 {m:List (List Int)} {pix y:List Int} (h:q3q m pix y):(q8f m pix y).1.length<=1000000:=by
 unfold q8f
 split
 ·rename_i he
  have hA:=Asked.of he
  have hO:=h.ok he
  unfold w8n
  split
  ·simp
  ·split
   ·simp
   ·have hsh:=(q1o hO.red pix.length).piv
    rw[show(qf8 m pix y).length=m.length from qp5 _ _ _] at hsh
    have:=hA.msk.rows6
    have e:(ww7 m pix y).2.length=(qc7 (qf8 m pix y) pix.length).2.length:=rfl
    simp
    omega
 ·simp
theorem w8q:Meets Tryz.prog 215 x8l:=by
 refine meets (snd (SpecsOk.cons w8p (SpecsOk.cons q62 (SpecsOk.cons (w71 (fs:=[(240,x3x)]) (SpecsOk.cons w4n (SpecsOk.nil _))) (SpecsOk.nil _))))) Tryz.func215 rfl rfl (λ_ _=>none) (λ_=>by kernel_rfl) (by decide) ?_
 rintro⟨q,pix,⟨⟩⟩ h
 revert q pix
 intro(q:List (List Int) × List Int) (pix:List Int) (h:q3q q.1 pix q.2/\pix.length<=100000)
 refine @qd1 _ (let Q0:=q3r q.1 q.2 pix; let Q1:=q8f q.1 pix q.2; q3q q.1 pix q.2/\((Q1.2 != (0:Int))=true->(Q0.1.1=[]/\Q0.1.2=[]/\True)/\false=Q0.2/\True)/\((Q1.2 != (0:Int))=false->∃(v1:qa4 [Ty.prod (Ty.int .i64) (Ty.int .i64)]->Prop),∃(v2:qa4 [Ty.prod (Ty.int .i64) (Ty.int .i64)]->Bool),(∀(v3:(Int × Int) × qa4._f [] PUnit.unit),v1 v3->True/\(v3.1.1==(0:Ty.den (Ty.int .i64)))=v2 v3)/\(Q1.1.length<=(1000000:Nat)/\∀(v3:Nat),v3<Q1.1.length->v1 (qe6 (Ty.prod (Ty.int .i64) (Ty.int .i64)) Q1.1 v3,()))/\((List.any Q1.1 λ(v4:Int × Int)=>v2 (v4,()))=true->(Q0.1.1=[]/\Q0.1.2=[]/\True)/\false=Q0.2/\True)/\((List.any Q1.1 λ(v4:Int × Int)=>v2 (v4,()))=false->pix.length<=(100000:Nat)/\(pix=Q0.1.1/\Q1.1=Q0.1.2/\True)/\true=Q0.2/\True))) (by kernel_rfl) ?_
 try simp only[z0,z1,z2,z3,z4,z5,z6,z7,z8,z9,z10,Int.reduceEq,z11,z12,z13,z14,z15,z16,z17,z18,z19,z20,z21,z22,z23,z24,z25,z26,z27,z28,z29,z30,Int.reduceLE,Int.reduceLT,z31,z32,z33,z34,qa1]
 try simp only[qa7,qa8,qb5,z31,z32,z2,z1]
 obtain⟨hp,hl⟩:=h
 refine⟨hp,λh1=>by simp[q3r,h1],λh1=>⟨λ_=>True,λx=>x.1.1==0,λ_ _=>rfl,⟨?_,λ_ _=>trivial⟩,λh2=>?_,λh2=>⟨hl,?_⟩⟩⟩
 ·exact xj7 hp
 ·have h2:((q8f q.1 pix q.2).1.any λr=>r.1==0)=true:=h2
  unfold q3r; rw[if_pos (.inr h2)]; exact⟨⟨rfl,rfl⟩,rfl⟩
 ·have h2:((q8f q.1 pix q.2).1.any λr=>r.1==0)=false:=h2
  unfold q3r; rw[if_neg (by rw[h1,h2]; simp)]; exact⟨⟨rfl,rfl⟩,rfl⟩
def q8l (m:List (List Int)) (y:List Int) (k:Int):Int:=if q17 m y []=0 then(if inB k 0 10 then 0 else 7) else q17 m y []
abbrev yk4:qb4:=qf2 true none [qf3,qe8,qd0] [qd0] (λ_=>True) (λx=>(q8l x.1 x.2.1 x.2.2.1,()))
theorem w8r:Meets Tryz.prog 254 yk4:=by
 refine meets (snd (SpecsOk.cons wm3 (SpecsOk.cons qs2 (SpecsOk.nil _)))) Tryz.func254 rfl rfl (λ_ _=>none) (λ_=>by kernel_rfl) (by decide) ?_
 rintro⟨m,y,k,⟨⟩⟩ -
 revert m y k
 intro(m:List (List Int)) (y:List Int) (k:Int)
 refine @qd1 _ (Value.slice none (0:Nat) (0:Nat)=Value.slice none (0:Nat) (0:Nat)/\(0:Nat)<=(1000000:Nat)/\((q17 m y [] != (0:Int))=true->q17 m y []=q8l m y k)/\((q17 m y [] != (0:Int))=false->True/\((!inB k (0:Int) (10:Int))=true->(7:Int)=q8l m y k)/\((!inB k (0:Int) (10:Int))=false->(0:Int)=q8l m y k))) (by kernel_rfl) ?_
 try simp only[z0,z1,z2,z3,z4,z5,z6,z7,z8,z9,z10,Int.reduceEq,z11,z12,z13,z14,z15,z16,z17,z18,z19,z20,z21,z22,z23,z24,z25,z26,z27,z28,z29,z30,Int.reduceLE,Int.reduceLT,z31,z32,z33,z34,qa1]
 try simp only[qa7,qa8,qb5,z31,z32,z2,z1]
 exact⟨by decide,λhe=>by simp[q8l,he],λhe=>⟨λhk=>by simp[q8l,he,hk],λhk=>by simp[q8l,he,hk]⟩⟩
def qr3 (l:List Int):List Int:=l.map λn=>n.tdiv (max (gcdL l) 1)
def q7c (l:List Int) (n:Int):List Int:=l.map λk=>k*n
structure x8m (l:List Int) (n:Int):Prop where
 len:l.length<=1000
 big:∀i,i<l.length->qf0 BIG (nI l i*n)
def wn1 (r p:List Int) (j:Nat):List Int:=(List.range r.length).map λk=>nI r k*nI p j-nI p k*nI r j
def qi1 (r p:List Int) (j:Nat):List Int:=qr3 (wn1 r p j)
structure x8o (r p:List Int) (j:Nat):Prop where
 len:r.length<=1000
 eq:p.length=r.length
 lt:j<r.length
 b1:∀k,k<r.length->qf0 BIG (nI r k*nI p j)
 b2:∀k,k<r.length->qf0 BIG (nI p k*nI r j)
 b3:∀k,k<r.length->qf0 BIG (nI r k*nI p j-nI p k*nI r j)
def xz7 (n d:Int):Int × Int:=(n.tdiv (gcdI n d),d.tdiv (gcdI n d))
def qq5 (m:List (List Int)) (pix:List Int):List (List Int):=(List.range m.length).map λi=>qy9 (nL m i) pix
theorem wn3 (m:List (List Int)) (pix:List Int):(qq5 m pix).length=m.length:=by simp[qq5]
theorem qz0 (m:List (List Int)) (pix:List Int) (i:Nat) (hi:i<m.length):nL (qq5 m pix) i=qy9 (nL m i) pix:=by
 rw[qm1 _ _ (by rw[wn3]; exact hi)]; simp[qq5]
structure x8p (m:List (List Int)) (pix:List Int):Prop where
 rows:m.length<=10000
 cols:pix.length<=10000
 at_:∀i,i<m.length->∀j,j<pix.length->0<=nI pix j/\nI pix j<(nL m i).length
def lastTo (left:List (List Int)) (j:Nat):Nat->Int
 | 0=>-1
 | i+1=>if nI (nL left i) j≠0 then(i:Int) else lastTo left j i
def q3y (left:List (List Int)) (j:Nat) (at_:Int):List Int:=if nI (nL left at_.toNat) j<0 then q7c (nL left at_.toNat) (-1) else nL left at_.toNat
def qq6 (left:List (List Int)) (p:List Int) (j:Nat) (at_:Int):Nat->List (List Int)
 | 0=>[]
 | i+1=>if(i:Int)≠at_ then qq6 left p j at_ i++[qi1 (nL left i) p j] else qq6 left p j at_ i
structure RS where
 left:List (List Int)
 done_:List (List Int)
 piv:List Int
def wn4 (s:RS) (j:Nat):RS:=
 if lastTo s.left j s.left.length<0 then s
 else⟨qq6 s.left (q3y s.left j (lastTo s.left j s.left.length)) j (lastTo s.left j s.left.length) s.left.length,(s.done_.map λr=>qi1 r (q3y s.left j (lastTo s.left j s.left.length)) j)++[q3y s.left j (lastTo s.left j s.left.length)],s.piv++[(j:Int)]⟩
def qg9 (rows:List (List Int)):Nat->RS
 | 0=>⟨rows.map qr3,[],[]⟩
 | j+1=>wn4 (qg9 rows j) j
def rdW (rows:List (List Int)):Nat:=(nL rows 0).length
def qs4 (rows:List (List Int)):List (List Int) × List Int:=((qg9 rows (rdW rows)).done_,(qg9 rows (rdW rows)).piv)
structure x3y (s:RS) (j:Nat):Prop where
 sca:nI (nL s.left (lastTo s.left j s.left.length).toNat) j<0->x8m (nL s.left (lastTo s.left j s.left.length).toNat) (-1)
 wo:∀i,i<s.left.length->(i:Int)≠lastTo s.left j s.left.length->x8o (nL s.left i) (q3y s.left j (lastTo s.left j s.left.length)) j
 woD:∀i,i<s.done_.length->x8o (nL s.done_ i) (q3y s.left j (lastTo s.left j s.left.length)) j
structure x8q (rows:List (List Int)):Prop where
 n:rows.length<=1000
 w:rdW rows<=1000
 each:∀i,i<rows.length->(nL rows i).length=rdW rows
 big:∀i,i<rows.length->wc6 (nL rows i)
 step:∀j,j<rdW rows->0<=lastTo (qg9 rows j).left j (qg9 rows j).left.length->x3y (qg9 rows j) j
theorem qt8 (l:List Int):(qr3 l).length=l.length:=by simp[qr3]
theorem qu8 (r p:List Int) (j:Nat):(qi1 r p j).length=r.length:=by unfold qi1; rw[qt8]; simp[wn1]
theorem qs8 (l:List Int) (n:Int):(q7c l n).length=l.length:=by simp[q7c]
theorem q3s (left:List (List Int)) (j:Nat):∀k:Nat,lastTo left j k<k/\-1<=lastTo left j k
 | 0=>⟨by show(-1:Int)<0; omega,by show(-1:Int)<=-1; omega⟩
 | k+1=>by
  have:=q3s left j k
  rw[lastTo]
  split <;> omega
theorem q1p (left:List (List Int)) (p:List Int) (j:Nat) (a:Int):∀k,∀x∈qq6 left p j a k,∃i,i<k/\(i:Int)≠a/\x=qi1 (nL left i) p j
 | 0,x,hx=>by cases hx
 | k+1,x,hx=>by
  rw[qq6] at hx
  split at hx
  ·rename_i hne
   rcases List.mem_append.1 hx with hx | hx
   ·obtain⟨i,h1,h2,h3⟩:=q1p left p j a k x hx
    exact⟨i,by omega,h2,h3⟩
   ·exact⟨k,by omega,hne,by simpa using hx⟩
  ·obtain⟨i,h1,h2,h3⟩:=q1p left p j a k x hx
   exact⟨i,by omega,h2,h3⟩
theorem q9s (left:List (List Int)) (p:List Int) (j:Nat) (a:Int):∀k,(qq6 left p j a k).length<=k
 | 0=>Nat.le_refl _
 | k+1=>by
  have:=q9s left p j a k
  rw[qq6]
  split
  ·simp; omega
  ·omega
structure RdSh (n W j:Nat) (s:RS):Prop where
 ln:s.left.length<=n
 le:∀x∈s.left,x.length=W
 dn:s.done_.length<=j
 de:∀x∈s.done_,x.length=W
 pn:s.piv.length<=j
theorem qu9 (m:List (List Int)) (i:Nat) (h:i<m.length):nL m i∈m:=by rw[qm1 m i h]; exact List.getElem_mem h
theorem xj8 {n W j:Nat} {s:RS} (h:RdSh n W j s) (a:Int) (ha:0<=a) (hb:a<s.left.length):(q3y s.left j a).length=W:=by
 unfold q3y
 have:=h.le _ (qu9 s.left a.toNat (by omega))
 split
 ·rw[qs8]; exact this
 ·exact this
theorem RdSh.step {n W j:Nat} {s:RS} (h:RdSh n W j s):RdSh n W (j+1) (wn4 s j):=by
 unfold wn4
 have hl:=q3s s.left j s.left.length
 generalize lastTo s.left j s.left.length=a at *
 split
 ·exact⟨h.ln,h.le,by have:=h.dn; omega,h.de,by have:=h.pn; omega⟩
 ·have hp:=xj8 h a (by omega) hl.1
  refine⟨Nat.le_trans (q9s _ _ _ _ _) h.ln,λx hx=>?_,by have:=h.dn; simp; omega,λx hx=>?_,by have:=h.pn; simp; omega⟩
  ·obtain⟨i,h1,_,rfl⟩:=q1p _ _ _ _ _ x hx
   rw[qu8]; exact h.le _ (qu9 _ _ h1)
  ·rcases List.mem_append.1 hx with hx | hx
   ·obtain⟨y,hy,rfl⟩:=List.mem_map.1 hx
    rw[qu8]; exact h.de y hy
   ·rw[List.mem_singleton.1 hx]; exact hp
def nF (l:List (List Int × List (Int × Int))) (i:Nat):List Int × List (Int × Int):=qe6 (.prod (.list (.int .i64)) (.list (.prod (.int .i64) (.int .i64)))) l i
def x3z (s:List Int):Int:=if 0<s.length then nI s (s.length-1)+1 else 0
def x33 (n:Nat) (s:List Int):List (List Int):=(List.range ((n:Int)-x3z s).toNat).map λt:Nat=>s++[x3z s+t]
def qr6 (n:Nat):Nat->List (List Int)
 | 0=>[[]]
 | k+1=>if k<(qr6 n k).length then qr6 n k++x33 n (nL (qr6 n k) k) else qr6 n k
def w4p (n:Nat):List (List Int):=qr6 n 128
theorem q9t (n k:Nat):∀j,∃t,qr6 n (k+j)=qr6 n k++t
 | 0=>⟨[],by simp⟩
 | j+1=>by
  obtain⟨t,ht⟩:=q9t n k j
  rw[<- Nat.add_assoc,qr6]
  split
  ·exact⟨t++x33 n (nL (qr6 n (k+j)) (k+j)),by rw[<- List.append_assoc,<- ht]⟩
  ·exact⟨t,ht⟩
def w8s (n:Nat):Bool:=decide ((qr6 n 128).length<=128) && (qr6 n 128).all λs=>decide (s.length<=7) && s.all λx=>decide (0<=x) && decide (x<n)
theorem ww8:((List.range 8).all λn=>w8s n)=true:=by decide +kernel
theorem w4q {n:Nat} (h:n<=7):(qr6 n 128).length<=128/\∀s∈qr6 n 128,s.length<=7/\∀x∈s,0<=x/\x<n:=by
 have:=List.all_eq_true.1 ww8 n (List.mem_range.2 (by omega))
 unfold w8s at this
 rw[Bool.and_eq_true,decide_eq_true_eq,List.all_eq_true] at this
 refine⟨this.1,λs hs=>?_⟩
 have h2:=this.2 s hs
 rw[Bool.and_eq_true,decide_eq_true_eq,List.all_eq_true] at h2
 refine⟨h2.1,λx hx=>?_⟩
 have:=h2.2 x hx
 simpa using this
theorem wn5 {n k:Nat} (h:n<=7) (hk:k<=128):(qr6 n k).length<=128/\∀s∈qr6 n k,s.length<=7/\∀x∈s,0<=x/\x<n:=by
 obtain⟨t,ht⟩:=q9t n k (128-k)
 rw[show k+(128-k)=128 by omega] at ht
 have:=w4q h
 rw[ht] at this
 refine⟨by have:=this.1; simp at this; omega,λs hs=>this.2 s (by simp[hs])⟩
def q3t (piv:List Int) (f:Nat):Nat->Bool
 | 0=>true
 | k+1=>q3t piv f k && (nI piv k != (f:Int))
def w4r (d:List (List Int)) (piv:List Int) (k:Nat):Int:=nI (nL d k) (nI piv k).toNat
def q4l (d:List (List Int)) (piv:List Int):Nat->Int
 | 0=>1
 | k+1=>(q4l d piv k).tdiv (gcdI (q4l d piv k) (w4r d piv k))*w4r d piv k
def xz8 (d:List (List Int)) (piv:List Int) (n f:Nat):Nat->List Int
 | 0=>(List.replicate n 0).set f (q4l d piv piv.length)
 | k+1=>(xz8 d piv n f k).set (nI piv k).toNat ((0-nI (nL d k) f)*(q4l d piv piv.length).tdiv (w4r d piv k))
def q7d (d:List (List Int)) (piv:List Int) (n:Nat):Nat->List (List Int)
 | 0=>[]
 | f+1=>if q3t piv f piv.length then q7d d piv n f++[qr3 (xz8 d piv n f piv.length)] else q7d d piv n f
def qk3 (rows:List (List Int)):List (List Int):=q7d (qs4 rows).1 (qs4 rows).2 (rdW rows) (rdW rows)
end Go.Proofs.YtmijnbjlhnpokaaGreat
