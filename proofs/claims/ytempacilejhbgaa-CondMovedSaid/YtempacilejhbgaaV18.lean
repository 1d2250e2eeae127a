/- The reference's kernel vectors: contract by the engine. No condition. -/
import Derived.Test.YtempacilejhbgaaProg
import Derived.Test.YtempacilejhbgaaApp
import Derived.Test.YtempacilejhbgaaEng3
import Derived.Test.YtempacilejhbgaaV12
set_option linter.unusedVariables false
namespace Go.Proofs.Ytempacilejhbgaa
open Go Go.RowKit Ls Eng
theorem rdL_ints (m:View):∀l:List Int,RdL m (.int .i64) l (ints l)
 | []=>rfl
 | x :: l=>⟨[.int .i64 x],ints l,rfl,rfl,rdL_ints m l⟩
end Go.Proofs.Ytempacilejhbgaa
set_option linter.unusedSimpArgs false
namespace Go.Proofs.Ytempacilejhbgaa
open Go Go.RowKit Eng
def qr5 (l:List Int):List Int:=l.map λn=>n.tdiv (max (gcdL l) 1)
def q5q (l:List Int) (n:Int):List Int:=l.map λk=>k*n
def wl5 (r p:List Int) (j:Nat):List Int:=(List.range r.length).map λk=>nI r k*nI p j-nI p k*nI r j
def qh4 (r p:List Int) (j:Nat):List Int:=qr5 (wl5 r p j)
def qn4 (m:List (List Int)) (pix:List Int):List (List Int):=(List.range m.length).map λi=>qo4 (nL m i) pix
theorem we7 (m:List (List Int)) (pix:List Int):(qn4 m pix).length=m.length:=by simp[qn4]
theorem qx0 (m:List (List Int)) (pix:List Int) (i:Nat) (hi:i<m.length):nL (qn4 m pix) i=qo4 (nL m i) pix:=by
 rw[qk3 _ _ (by rw[we7]; exact hi)]; simp[qn4]
def lastTo (left:List (List Int)) (j:Nat):Nat->Int
 | 0=>-1
 | i+1=>if nI (nL left i) j≠0 then(i:Int) else lastTo left j i
def w4a (left:List (List Int)) (j:Nat) (at_:Int):List Int:=if nI (nL left at_.toNat) j<0 then q5q (nL left at_.toNat) (-1) else nL left at_.toNat
def qo6 (left:List (List Int)) (p:List Int) (j:Nat) (at_:Int):Nat->List (List Int)
 | 0=>[]
 | i+1=>if(i:Int)≠at_ then qo6 left p j at_ i++[qh4 (nL left i) p j] else qo6 left p j at_ i
structure RS where
 left:List (List Int)
 done_:List (List Int)
 piv:List Int
def w4b (s:RS) (j:Nat):RS:=
 if lastTo s.left j s.left.length<0 then s
 else⟨qo6 s.left (w4a s.left j (lastTo s.left j s.left.length)) j (lastTo s.left j s.left.length) s.left.length,(s.done_.map λr=>qh4 r (w4a s.left j (lastTo s.left j s.left.length)) j)++[w4a s.left j (lastTo s.left j s.left.length)],s.piv++[(j:Int)]⟩
def qk4 (rows:List (List Int)):Nat->RS
 | 0=>⟨rows.map qr5,[],[]⟩
 | j+1=>w4b (qk4 rows j) j
def rdW (rows:List (List Int)):Nat:=(nL rows 0).length
def q4a (rows:List (List Int)):List (List Int) × List Int:=((qk4 rows (rdW rows)).done_,(qk4 rows (rdW rows)).piv)
theorem qu4 (l:List Int):(qr5 l).length=l.length:=by simp[qr5]
theorem qs6 (r p:List Int) (j:Nat):(qh4 r p j).length=r.length:=by unfold qh4; rw[qu4]; simp[wl5]
theorem qu5 (l:List Int) (n:Int):(q5q l n).length=l.length:=by simp[q5q]
theorem q5r (left:List (List Int)) (j:Nat):∀k:Nat,lastTo left j k<k/\-1<=lastTo left j k
 | 0=>⟨by show(-1:Int)<0; omega,by show(-1:Int)<=-1; omega⟩
 | k+1=>by
  have:=q5r left j k
  rw[lastTo]
  split <;> omega
theorem q0p (left:List (List Int)) (p:List Int) (j:Nat) (a:Int):∀k,∀x∈qo6 left p j a k,∃i,i<k/\(i:Int)≠a/\x=qh4 (nL left i) p j
 | 0,x,hx=>by cases hx
 | k+1,x,hx=>by
  rw[qo6] at hx
  split at hx
  ·rename_i hne
   rcases List.mem_append.1 hx with hx | hx
   ·obtain⟨i,h1,h2,h3⟩:=q0p left p j a k x hx
    exact⟨i,by omega,h2,h3⟩
   ·exact⟨k,by omega,hne,by simpa using hx⟩
  ·obtain⟨i,h1,h2,h3⟩:=q0p left p j a k x hx
   exact⟨i,by omega,h2,h3⟩
theorem q7r (left:List (List Int)) (p:List Int) (j:Nat) (a:Int):∀k,(qo6 left p j a k).length<=k
 | 0=>Nat.le_refl _
 | k+1=>by
  have:=q7r left p j a k
  rw[qo6]
  split
  ·simp; omega
  ·omega
structure RdSh (n W j:Nat) (s:RS):Prop where
 ln:s.left.length<=n
 le:∀x∈s.left,x.length=W
 dn:s.done_.length<=j
 de:∀x∈s.done_,x.length=W
 pn:s.piv.length<=j
theorem qs7 (m:List (List Int)) (i:Nat) (h:i<m.length):nL m i∈m:=by rw[qk3 m i h]; exact List.getElem_mem h
theorem w71 {n W j:Nat} {s:RS} (h:RdSh n W j s) (a:Int) (ha:0<=a) (hb:a<s.left.length):(w4a s.left j a).length=W:=by
 unfold w4a
 have:=h.le _ (qs7 s.left a.toNat (by omega))
 split
 ·rw[qu5]; exact this
 ·exact this
theorem RdSh.step {n W j:Nat} {s:RS} (h:RdSh n W j s):RdSh n W (j+1) (w4b s j):=by
 unfold w4b
 have hl:=q5r s.left j s.left.length
 generalize lastTo s.left j s.left.length=a at *
 split
 ·exact⟨h.ln,h.le,by have:=h.dn; omega,h.de,by have:=h.pn; omega⟩
 ·have hp:=w71 h a (by omega) hl.1
  refine⟨Nat.le_trans (q7r _ _ _ _ _) h.ln,λx hx=>?_,by have:=h.dn; simp; omega,λx hx=>?_,by have:=h.pn; simp; omega⟩
  ·obtain⟨i,h1,_,rfl⟩:=q0p _ _ _ _ _ x hx
   rw[qs6]; exact h.le _ (qs7 _ _ h1)
  ·rcases List.mem_append.1 hx with hx | hx
   ·obtain⟨y,hy,rfl⟩:=List.mem_map.1 hx
    rw[qs6]; exact h.de y hy
   ·rw[List.mem_singleton.1 hx]; exact hp
def nF (l:List (List Int × List (Int × Int))) (i:Nat):List Int × List (Int × Int):=qa3 (.prod (.list (.int .i64)) (.list (.prod (.int .i64) (.int .i64)))) l i
def q2h (piv:List Int) (f:Nat):Nat->Bool
 | 0=>true
 | k+1=>q2h piv f k && (nI piv k != (f:Int))
def w0w (d:List (List Int)) (piv:List Int) (k:Nat):Int:=nI (nL d k) (nI piv k).toNat
def q27 (d:List (List Int)) (piv:List Int):Nat->Int
 | 0=>1
 | k+1=>(q27 d piv k).tdiv (gcdI (q27 d piv k) (w0w d piv k))*w0w d piv k
def xe5 (d:List (List Int)) (piv:List Int) (n f:Nat):Nat->List Int
 | 0=>(List.replicate n 0).set f (q27 d piv piv.length)
 | k+1=>(xe5 d piv n f k).set (nI piv k).toNat ((0-nI (nL d k) f)*(q27 d piv piv.length).tdiv (w0w d piv k))
def q5s (d:List (List Int)) (piv:List Int) (n:Nat):Nat->List (List Int)
 | 0=>[]
 | f+1=>if q2h piv f piv.length then q5s d piv n f++[qr5 (xe5 d piv n f piv.length)] else q5s d piv n f
def qi2 (rows:List (List Int)):List (List Int):=q5s (q4a rows).1 (q4a rows).2 (rdW rows) (rdW rows)
end Go.Proofs.Ytempacilejhbgaa
