/- The reference's reduced rows: contracts by the engine. No condition. -/
import Derived.Test.YtdibdlelmkcccaaV14
set_option linter.unusedVariables false
set_option linter.unusedSimpArgs false
namespace Go.Proofs.Ytdibdlelmkcccaa
open Go Go.RowKit Eng
theorem w6a (a b:Int):qf2 b (a.tmod b)=qf2 a b:=by
 unfold qf2
 show((Nat.gcd b.natAbs (a.tmod b).natAbs:Nat):Int)=(Nat.gcd a.natAbs b.natAbs:Nat)
 rw[Int.natAbs_tmod,Nat.gcd_comm b.natAbs,<- Nat.gcd_rec,Nat.gcd_comm]
def x2p (a b:Int):Nat->Option Inv
 | 0=>some (Inv.of [0,1] 0 (λs:Int × Int=>[(0,.lit (.int .i64 s.1)),(1,.lit (.int .i64 s.2))]) (λ_=>[]) (λs=>qd2 BIG s.1/\qd2 BIG s.2/\qf2 s.1 s.2=qf2 a b) (λs=>s.2.natAbs))
 | _=>none
theorem w2k:qd8 Try.prog 136 wx9:=by
 refine meets (snd (SpecsOk.nil _)) Try.func136 rfl rfl (λx=>x2p x.1 x.2.1) (λ_=>by kernel_rfl) (by decide) ?_
 rintro⟨a,b,⟨⟩⟩ h
 revert a b
 intro(a:Int) (b:Int) (h:(-BIG<=a/\a<=BIG)/\-BIG<=b/\b<=BIG)
 refine @qe0 _ (∃(v0:Unit),∃(v1:Int × Int),(qd2 BIG (Prod.fst v1)/\qd2 BIG (Prod.snd v1)/\qf2 (Prod.fst v1) (Prod.snd v1)=qf2 a b)/\((a=Prod.fst v1/\b=Prod.snd v1/\True)/\True)/\∀(v2:Int × Int),qd2 BIG (Prod.fst v2)/\qd2 BIG (Prod.snd v2)/\qf2 (Prod.fst v2) (Prod.snd v2)=qf2 a b->((Prod.snd v2 != (0:Int))=true->Prod.snd v2≠(0:Int)/\∃(v5:Int × Int),(qd2 BIG (Prod.fst v5)/\qd2 BIG (Prod.snd v5)/\qf2 (Prod.fst v5) (Prod.snd v5)=qf2 a b)/\Int.natAbs (Prod.snd v5)<Int.natAbs (Prod.snd v2)/\(Prod.snd v2=Prod.fst v5/\Int.tmod (Prod.fst v2) (Prod.snd v2)=Prod.snd v5/\True)/\True)/\((Prod.snd v2 != (0:Int))=false->fits .i64 ((0:Int)-Prod.fst v2)/\max2 true (Prod.fst v2) ((0:Int)-Prod.fst v2)=qf2 a b)) (by kernel_rfl) ?_
 try simp only[z0,z1,z2,z3,z4,z5,z6,z7,z8,z9,z10,Int.reduceEq,z11,z12,z13,z14,z15,z16,z17,z18,z19,z20,z21,z22,z23,z24,z25,z26,z27,z28,z29,z30,Int.reduceLE,Int.reduceLT,z31,z32,z33,z34,qa3]
 try simp only[qb3,qb4,qc8,List.set_cons_zero,List.cons.injEq,and_true,true_and]
 refine⟨(),(a,b),⟨h.1,h.2,rfl⟩,⟨rfl,rfl⟩,?_⟩
 rintro⟨x,y⟩ ⟨h1,h2,h3⟩
 dsimp only at h1 h2 h3 ⊢
 have hB:BIG=4000000000000000000:=rfl
 refine⟨λhy=>⟨hy,(y,x.tmod y),⟨h2,?_,(w6a x y).trans h3⟩,?_,rfl,rfl⟩,λhy=>?_⟩
 ·have:(x.tmod y).natAbs<=x.natAbs:=by rw[Int.natAbs_tmod]; exact Nat.mod_le _ _
  unfold qd2 at h1 ⊢
  dsimp only
  omega
 ·dsimp only
  rw[Int.natAbs_tmod]
  exact Nat.mod_lt _ (by omega)
 ·subst hy
  unfold qd2 at h1
  refine⟨qb9 (by omega) (by omega),?_⟩
  rw[<- h3]
  show max x (0-x)=((Int.gcd x 0:Nat):Int)
  rw[Int.gcd_zero_right]
  omega
def qs8 (l:List Int):List Int:=l.map λn=>n.tdiv (max (gcdL l) 1)
def wi8 (l:List Int) (n:Int):List Int:=l.map λk=>k*n
structure x2q (l:List Int) (n:Int):Prop where
 len:l.length<=1000
 big:∀i,i<l.length->qd2 BIG (nI l i*n)
def wi9 (r p:List Int) (j:Nat):List Int:=(List.range r.length).map λk=>nI r k*nI p j-nI p k*nI r j
def qi2 (r p:List Int) (j:Nat):List Int:=qs8 (wi9 r p j)
structure x2r (r p:List Int) (j:Nat):Prop where
 len:r.length<=1000
 eq:p.length=r.length
 lt:j<r.length
 b1:∀k,k<r.length->qd2 BIG (nI r k*nI p j)
 b2:∀k,k<r.length->qd2 BIG (nI p k*nI r j)
 b3:∀k,k<r.length->qd2 BIG (nI r k*nI p j-nI p k*nI r j)
def wb9 (n d:Int):Int × Int:=(n.tdiv (qf2 n d),d.tdiv (qf2 n d))
end Go.Proofs.Ytdibdlelmkcccaa
set_option linter.unusedVariables false
set_option linter.unusedSimpArgs false
namespace Go.Proofs.Ytdibdlelmkcccaa
open Go Go.RowKit Eng
def w6b (m:List (List Int)) (pix:List Int):List (List Int):=(List.range m.length).map λi=>qu8 (nL m i) pix
theorem w6c (m:List (List Int)) (pix:List Int):(w6b m pix).length=m.length:=by simp[w6b]
theorem q4w (m:List (List Int)) (pix:List Int) (i:Nat) (hi:i<m.length):nL (w6b m pix) i=qu8 (nL m i) pix:=by
 rw[qq0 _ _ (by rw[w6c]; exact hi)]; simp[w6b]
structure x2s (m:List (List Int)) (pix:List Int):Prop where
 rows:m.length<=10000
 cols:pix.length<=10000
 at_:∀i,i<m.length->∀j,j<pix.length->0<=nI pix j/\nI pix j<(nL m i).length
def lastTo (left:List (List Int)) (j:Nat):Nat->Int
 | 0=>-1
 | i+1=>if nI (nL left i) j≠0 then(i:Int) else lastTo left j i
def q26 (left:List (List Int)) (j:Nat) (at_:Int):List Int:=if nI (nL left at_.toNat) j<0 then wi8 (nL left at_.toNat) (-1) else nL left at_.toNat
def qq1 (left:List (List Int)) (p:List Int) (j:Nat) (at_:Int):Nat->List (List Int)
 | 0=>[]
 | i+1=>if(i:Int)≠at_ then qq1 left p j at_ i++[qi2 (nL left i) p j] else qq1 left p j at_ i
structure RS where
 left:List (List Int)
 done_:List (List Int)
 piv:List Int
def wj0 (s:RS) (j:Nat):RS:=
 if lastTo s.left j s.left.length<0 then s
 else⟨qq1 s.left (q26 s.left j (lastTo s.left j s.left.length)) j (lastTo s.left j s.left.length) s.left.length,(s.done_.map λr=>qi2 r (q26 s.left j (lastTo s.left j s.left.length)) j)++[q26 s.left j (lastTo s.left j s.left.length)],s.piv++[(j:Int)]⟩
def qh9 (rows:List (List Int)):Nat->RS
 | 0=>⟨rows.map qs8,[],[]⟩
 | j+1=>wj0 (qh9 rows j) j
def rdW (rows:List (List Int)):Nat:=(nL rows 0).length
def qu1 (rows:List (List Int)):List (List Int) × List Int:=((qh9 rows (rdW rows)).done_,(qh9 rows (rdW rows)).piv)
structure xv4 (s:RS) (j:Nat):Prop where
 sca:nI (nL s.left (lastTo s.left j s.left.length).toNat) j<0->x2q (nL s.left (lastTo s.left j s.left.length).toNat) (-1)
 wo:∀i,i<s.left.length->(i:Int)≠lastTo s.left j s.left.length->x2r (nL s.left i) (q26 s.left j (lastTo s.left j s.left.length)) j
 woD:∀i,i<s.done_.length->x2r (nL s.done_ i) (q26 s.left j (lastTo s.left j s.left.length)) j
structure x4p (rows:List (List Int)):Prop where
 n:rows.length<=1000
 w:rdW rows<=1000
 each:∀i,i<rows.length->(nL rows i).length=rdW rows
 big:∀i,i<rows.length->q9z (nL rows i)
 step:∀j,j<rdW rows->0<=lastTo (qh9 rows j).left j (qh9 rows j).left.length->xv4 (qh9 rows j) j
theorem qs9 (l:List Int):(qs8 l).length=l.length:=by simp[qs8]
theorem qu2 (r p:List Int) (j:Nat):(qi2 r p j).length=r.length:=by unfold qi2; rw[qs9]; simp[wi9]
theorem q08 (l:List Int) (n:Int):(wi8 l n).length=l.length:=by simp[wi8]
theorem q20 (left:List (List Int)) (j:Nat):∀k:Nat,lastTo left j k<k/\-1<=lastTo left j k
 | 0=>⟨by show(-1:Int)<0; omega,by show(-1:Int)<=-1; omega⟩
 | k+1=>by
  have:=q20 left j k
  rw[lastTo]
  split <;> omega
theorem q09 (left:List (List Int)) (p:List Int) (j:Nat) (a:Int):∀k,∀x∈qq1 left p j a k,∃i,i<k/\(i:Int)≠a/\x=qi2 (nL left i) p j
 | 0,x,hx=>by cases hx
 | k+1,x,hx=>by
  rw[qq1] at hx
  split at hx
  ·rename_i hne
   rcases List.mem_append.1 hx with hx | hx
   ·obtain⟨i,h1,h2,h3⟩:=q09 left p j a k x hx
    exact⟨i,by omega,h2,h3⟩
   ·exact⟨k,by omega,hne,by simpa using hx⟩
  ·obtain⟨i,h1,h2,h3⟩:=q09 left p j a k x hx
   exact⟨i,by omega,h2,h3⟩
theorem q8h (left:List (List Int)) (p:List Int) (j:Nat) (a:Int):∀k,(qq1 left p j a k).length<=k
 | 0=>Nat.le_refl _
 | k+1=>by
  have:=q8h left p j a k
  rw[qq1]
  split
  ·simp; omega
  ·omega
structure RdSh (n W j:Nat) (s:RS):Prop where
 ln:s.left.length<=n
 le:∀x∈s.left,x.length=W
 dn:s.done_.length<=j
 de:∀x∈s.done_,x.length=W
 pn:s.piv.length<=j
theorem q1f (m:List (List Int)) (i:Nat) (h:i<m.length):nL m i∈m:=by rw[qq0 m i h]; exact List.getElem_mem h
theorem w9y {n W j:Nat} {s:RS} (h:RdSh n W j s) (a:Int) (ha:0<=a) (hb:a<s.left.length):(q26 s.left j a).length=W:=by
 unfold q26
 have:=h.le _ (q1f s.left a.toNat (by omega))
 split
 ·rw[q08]; exact this
 ·exact this
theorem RdSh.step {n W j:Nat} {s:RS} (h:RdSh n W j s):RdSh n W (j+1) (wj0 s j):=by
 unfold wj0
 have hl:=q20 s.left j s.left.length
 generalize lastTo s.left j s.left.length=a at *
 split
 ·exact⟨h.ln,h.le,by have:=h.dn; omega,h.de,by have:=h.pn; omega⟩
 ·have hp:=w9y h a (by omega) hl.1
  refine⟨Nat.le_trans (q8h _ _ _ _ _) h.ln,λx hx=>?_,by have:=h.dn; simp; omega,λx hx=>?_,by have:=h.pn; simp; omega⟩
  ·obtain⟨i,h1,_,rfl⟩:=q09 _ _ _ _ _ x hx
   rw[qu2]; exact h.le _ (q1f _ _ h1)
  ·rcases List.mem_append.1 hx with hx | hx
   ·obtain⟨y,hy,rfl⟩:=List.mem_map.1 hx
    rw[qu2]; exact h.de y hy
   ·rw[List.mem_singleton.1 hx]; exact hp
end Go.Proofs.Ytdibdlelmkcccaa
