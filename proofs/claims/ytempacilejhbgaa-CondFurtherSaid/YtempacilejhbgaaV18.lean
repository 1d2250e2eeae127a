/- The reference's kernel vectors: contract by the engine. No condition. -/
import Derived.Test.YtempacilejhbgaaProg
import Derived.Test.YtempacilejhbgaaApp
import Derived.Test.YtempacilejhbgaaEng3
import Derived.Test.YtempacilejhbgaaV12
set_option linter.unusedVariables false
namespace Go.Proofs.Ytempacilejhbgaa
open Go Go.RowKit Ls Eng
theorem rdL_ints (m:View):∀l:List Int,RdL m (.int .i64) l (ints l)
 | []=>rfl
 | x :: l=>⟨[.int .i64 x],ints l,rfl,rfl,rdL_ints m l⟩
end Go.Proofs.Ytempacilejhbgaa
set_option linter.unusedSimpArgs false
namespace Go.Proofs.Ytempacilejhbgaa
open Go Go.RowKit Eng
def qq7 (l:List Int):List Int:=l.map λn=>n.tdiv (max (gcdL l) 1)
def q5i (l:List Int) (n:Int):List Int:=l.map λk=>k*n
def wk8 (r p:List Int) (j:Nat):List Int:=(List.range r.length).map λk=>nI r k*nI p j-nI p k*nI r j
def qh4 (r p:List Int) (j:Nat):List Int:=qq7 (wk8 r p j)
def qn3 (m:List (List Int)) (pix:List Int):List (List Int):=(List.range m.length).map λi=>qy6 (nL m i) pix
theorem wd5 (m:List (List Int)) (pix:List Int):(qn3 m pix).length=m.length:=by simp[qn3]
theorem qw4 (m:List (List Int)) (pix:List Int) (i:Nat) (hi:i<m.length):nL (qn3 m pix) i=qy6 (nL m i) pix:=by
 rw[ql9 _ _ (by rw[wd5]; exact hi)]; simp[qn3]
def lastTo (left:List (List Int)) (j:Nat):Nat->Int
 | 0=>-1
 | i+1=>if nI (nL left i) j≠0 then(i:Int) else lastTo left j i
def w3y (left:List (List Int)) (j:Nat) (at_:Int):List Int:=if nI (nL left at_.toNat) j<0 then q5i (nL left at_.toNat) (-1) else nL left at_.toNat
def qo3 (left:List (List Int)) (p:List Int) (j:Nat) (at_:Int):Nat->List (List Int)
 | 0=>[]
 | i+1=>if(i:Int)≠at_ then qo3 left p j at_ i++[qh4 (nL left i) p j] else qo3 left p j at_ i
structure RS where
 left:List (List Int)
 done_:List (List Int)
 piv:List Int
def w3z (s:RS) (j:Nat):RS:=
 if lastTo s.left j s.left.length<0 then s
 else⟨qo3 s.left (w3y s.left j (lastTo s.left j s.left.length)) j (lastTo s.left j s.left.length) s.left.length,(s.done_.map λr=>qh4 r (w3y s.left j (lastTo s.left j s.left.length)) j)++[w3y s.left j (lastTo s.left j s.left.length)],s.piv++[(j:Int)]⟩
def qk3 (rows:List (List Int)):Nat->RS
 | 0=>⟨rows.map qq7,[],[]⟩
 | j+1=>w3z (qk3 rows j) j
def rdW (rows:List (List Int)):Nat:=(nL rows 0).length
def q33 (rows:List (List Int)):List (List Int) × List Int:=((qk3 rows (rdW rows)).done_,(qk3 rows (rdW rows)).piv)
theorem qu0 (l:List Int):(qq7 l).length=l.length:=by simp[qq7]
theorem qr8 (r p:List Int) (j:Nat):(qh4 r p j).length=r.length:=by unfold qh4; rw[qu0]; simp[wk8]
theorem qu1 (l:List Int) (n:Int):(q5i l n).length=l.length:=by simp[q5i]
theorem q5j (left:List (List Int)) (j:Nat):∀k:Nat,lastTo left j k<k/\-1<=lastTo left j k
 | 0=>⟨by show(-1:Int)<0; omega,by show(-1:Int)<=-1; omega⟩
 | k+1=>by
  have:=q5j left j k
  rw[lastTo]
  split <;> omega
theorem q0f (left:List (List Int)) (p:List Int) (j:Nat) (a:Int):∀k,∀x∈qo3 left p j a k,∃i,i<k/\(i:Int)≠a/\x=qh4 (nL left i) p j
 | 0,x,hx=>by cases hx
 | k+1,x,hx=>by
  rw[qo3] at hx
  split at hx
  ·rename_i hne
   rcases List.mem_append.1 hx with hx | hx
   ·obtain⟨i,h1,h2,h3⟩:=q0f left p j a k x hx
    exact⟨i,by omega,h2,h3⟩
   ·exact⟨k,by omega,hne,by simpa using hx⟩
  ·obtain⟨i,h1,h2,h3⟩:=q0f left p j a k x hx
   exact⟨i,by omega,h2,h3⟩
theorem q7j (left:List (List Int)) (p:List Int) (j:Nat) (a:Int):∀k,(qo3 left p j a k).length<=k
 | 0=>Nat.le_refl _
 | k+1=>by
  have:=q7j left p j a k
  rw[qo3]
  split
  ·simp; omega
  ·omega
structure RdSh (n W j:Nat) (s:RS):Prop where
 ln:s.left.length<=n
 le:∀x∈s.left,x.length=W
 dn:s.done_.length<=j
 de:∀x∈s.done_,x.length=W
 pn:s.piv.length<=j
theorem qr9 (m:List (List Int)) (i:Nat) (h:i<m.length):nL m i∈m:=by rw[ql9 m i h]; exact List.getElem_mem h
theorem w7k {n W j:Nat} {s:RS} (h:RdSh n W j s) (a:Int) (ha:0<=a) (hb:a<s.left.length):(w3y s.left j a).length=W:=by
 unfold w3y
 have:=h.le _ (qr9 s.left a.toNat (by omega))
 split
 ·rw[qu1]; exact this
 ·exact this
theorem RdSh.step {n W j:Nat} {s:RS} (h:RdSh n W j s):RdSh n W (j+1) (w3z s j):=by
 unfold w3z
 have hl:=q5j s.left j s.left.length
 generalize lastTo s.left j s.left.length=a at *
 split
 ·exact⟨h.ln,h.le,by have:=h.dn; omega,h.de,by have:=h.pn; omega⟩
 ·have hp:=w7k h a (by omega) hl.1
  refine⟨Nat.le_trans (q7j _ _ _ _ _) h.ln,λx hx=>?_,by have:=h.dn; simp; omega,λx hx=>?_,by have:=h.pn; simp; omega⟩
  ·obtain⟨i,h1,_,rfl⟩:=q0f _ _ _ _ _ x hx
   rw[qr8]; exact h.le _ (qr9 _ _ h1)
  ·rcases List.mem_append.1 hx with hx | hx
   ·obtain⟨y,hy,rfl⟩:=List.mem_map.1 hx
    rw[qr8]; exact h.de y hy
   ·rw[List.mem_singleton.1 hx]; exact hp
def nF (l:List (List Int × List (Int × Int))) (i:Nat):List Int × List (Int × Int):=qa3 (.prod (.list (.int .i64)) (.list (.prod (.int .i64) (.int .i64)))) l i
def q18 (piv:List Int) (f:Nat):Nat->Bool
 | 0=>true
 | k+1=>q18 piv f k && (nI piv k != (f:Int))
def w0l (d:List (List Int)) (piv:List Int) (k:Nat):Int:=nI (nL d k) (nI piv k).toNat
def q2u (d:List (List Int)) (piv:List Int):Nat->Int
 | 0=>1
 | k+1=>(q2u d piv k).tdiv (gcdI (q2u d piv k) (w0l d piv k))*w0l d piv k
def xb8 (d:List (List Int)) (piv:List Int) (n f:Nat):Nat->List Int
 | 0=>(List.replicate n 0).set f (q2u d piv piv.length)
 | k+1=>(xb8 d piv n f k).set (nI piv k).toNat ((0-nI (nL d k) f)*(q2u d piv piv.length).tdiv (w0l d piv k))
def q5k (d:List (List Int)) (piv:List Int) (n:Nat):Nat->List (List Int)
 | 0=>[]
 | f+1=>if q18 piv f piv.length then q5k d piv n f++[qq7 (xb8 d piv n f piv.length)] else q5k d piv n f
def qi1 (rows:List (List Int)):List (List Int):=q5k (q33 rows).1 (q33 rows).2 (rdW rows) (rdW rows)
end Go.Proofs.Ytempacilejhbgaa
