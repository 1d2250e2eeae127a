/- slices.Repeat of one fraction, and what it asks of math/bits. No condition. -/
import Derived.Test.YtnchigbbjajiiaaGreatQ7
import Derived.Test.YtnchigbbjajiiaaGreatEngT2
import Derived.Test.YtnchigbbjajiiaaGreatN1
set_option linter.unusedVariables false
set_option linter.unusedSimpArgs false
namespace Go.Proofs.YtnchigbbjajiiaaGreat
open Go Go.RowKit Eng
structure wb9 (l:List (List Int)) (k:Int):Prop where
 len:l.length<=1000000
 lar:∀i,i<l.length->xl0 (nL l i) k
 shr:∀i,i<l.length->xv4 (nL l i) (qi7 (nL l i) k.toNat)
def w9d (l:List (List Int)) (k:Nat):List (List Int × (Int × Int)):=l.map λh=>(h,shR h (qi7 h k))
theorem xl2 {l:List (List Int)} {k i:Nat} (h:i<l.length):((w9d l k).map λq=>((q.1,q.2,()):qa3 [qe8,qv9]))[i]? = some (nL l i,shR (nL l i) (qi7 (nL l i) k),()):=by
 grind [w9d,List.map_map,List.getElem?_eq_getElem,qp2]
abbrev yy4:q1b:=w1o [qf9,qc0] [qe8,qv9] (λx=>wb9 x.1 x.2.1) (λx=>(w9d x.1 x.2.1.toNat).map λq=>(q.1,q.2,()))
def yy5 (l:List (List Int)):Nat->Option Inv
 | 0=>some (Inv.of [8] 1 (λi:Nat=>[(8,.lit (.int .i64 i))]) (λi=>[.cnt (some i)]) (λi=>i<=l.length) (λi=>l.length-i))
 | _=>none
theorem wy9:q02 Tryz.prog 131 yy4:=by
 refine yy3 (snd (SpecsOk.cons wy8 (SpecsOk.cons w79 (SpecsOk.nil _)))) rfl Tryz.func131 rfl rfl rfl [12] 6 (λx=>[(7,.lit (.int .i64 (x.1:List (List Int)).length)),(8,.lit (.int .i64 0))]) (λx=>yy5 x.1) kr kr (λ_=>by kernel_rfl) dc (λx l A cp=>⟨rfl,rfl,rfl,rfl,trivial⟩) ?_
 rintro⟨l,k,⟨⟩⟩ q h
 revert l k
 intro(l:List (List Int)) (k:Int) (h:wb9 l k)
 refine vcs (let Q0:=w9d l k.toNat; let Q1:=(l,k,PUnit.unit); ∃(v0:Unit),∃(v1:Nat),Nat.le v1 l.length/\(((0:Int)=(↑v1:Int)/\True)/\some (0:Nat)=some v1/\True)/\∀(v2:Nat),Nat.le v2 l.length->(decide ((↑v2:Int)<(↑l.length:Int))=true->((0:Int)<=(↑v2:Int)/\(↑v2:Int)<(↑l.length:Int))/\xl0 (nL l v2) k/\xv4 (nL l v2) (qi7 (nL l v2) k.toNat)/\Value.func (Fn.yield q) #[] #[]=Value.func (Fn.yield (qh4.l (q9w (Ty.list (Ty.int .i64)) [qc0] [qe8,qv9] [(12:Nat)] (6:Nat) Q1 (List.map (λ(v5:List Int × Int × Int)=>(v5.1,v5.2,())) Q0) q))) #[] #[]/\(qh4.L (q9w (Ty.list (Ty.int .i64)) [qc0] [qe8,qv9] [(12:Nat)] (6:Nat) Q1 (List.map (λ(v5:List Int × Int × Int)=>(v5.1,v5.2,())) Q0) q))[v2]?=some (nL l v2,((shR (nL l v2) (qi7 (nL l v2) k.toNat)).1,(shR (nL l v2) (qi7 (nL l v2) k.toNat)).2),())/\(fits .i64 ((↑v2:Int)+(1:Int))/\∃(v5:Nat),Nat.le v5 l.length/\l.length-v5<l.length-v2/\((↑v2:Int)+(1:Int)=(↑v5:Int)/\True)/\some (v2+(1:Nat))=some v5/\True)/\True)/\(decide ((↑v2:Int)<(↑l.length:Int))=false->v2=(qh4.L (q9w (Ty.list (Ty.int .i64)) [qc0] [qe8,qv9] [(12:Nat)] (6:Nat) Q1 (List.map (λ(v5:List Int × Int × Int)=>(v5.1,v5.2,())) Q0) q)).length)) ?_
 have hl:=h.len
 refine⟨(),0,zae _,⟨rfl,rfl⟩,λi hi=>⟨λhlt=>⟨hlt,h.lar i hlt,h.shr i hlt,rfl,xl2 hlt,qa6,i+1,hlt,ow,by rfl,rfl⟩,λhge=>?_⟩⟩
 obtain rfl:i=l.length:=ow
 show _=((w9d l k.toNat).map λq=>((q.1,q.2,()):qa3 [qe8,qv9])).length
 rw[zay]; exact(zay _).symm
abbrev y43:qa8:=wu3 false none [qf9,qc0] (λ_=>True) (λx=>.clo 131 (.cons (.imm (.cons (.dat (.list (.int .i64)) x.1) .nil) 0) (.cons (.imm (.cons (.lit (.int .i64 x.2.1)) .nil) 0) .nil)))
theorem wz3:Meets Tryz.prog 84 y43:=by
 refine q6j (snd (SpecsOk.nil _)) Tryz.func84 rfl rfl (λ_ _=>none) (λ_=>by kernel_rfl) dc ?_
 rintro⟨l,k,⟨⟩⟩ -
 revert l k
 intro(l:List (List Int)) (k:Int)
 refine vcr (((l=l/\True)/\(0:Nat)=(0:Nat))/\((k=k/\True)/\(0:Nat)=(0:Nat))/\True) ?_
 simp
def qj0 (l:List (List Int)) (k:Nat):Nat->Int × Int
 | 0=>(0,1)
 | i+1=>w2e (qj0 l k i) (shR (nL l i) (qi7 (nL l i) k))
theorem qt1 {l:List (List Int)} {k:Int} (h:wb9 l k):∀i,i<=l.length->q4v (qj0 l k.toNat i)
 | 0,_=>yh2
 | i+1,hi=>x7e (qt1 h i ow) (w4z (h.shr i ow))
abbrev y44:AV:=.cons (.lit (.int .i64 0)) (.cons (.lit (.int .i64 0)) .nil)
def yy6 (l:List (List Int)) (k:Int):Nat->Option Inv
 | 0=>some (Inv.of [] 3 (λ_:Nat=>[]) (λi=>[.box 43 y44,.box 43 (.cons (.lit (.int .i64 (qj0 l k.toNat i).1)) (.cons (.lit (.int .i64 (qj0 l k.toNat i).2)) .nil)),.box 121 (.cons (.clo 193 (.cons (.box 1 0) .nil)) .nil)]) (λi=>i<=l.length) (λi=>i))
 | _=>none
abbrev y45:qa8:=qd9 true none [qf9,qc0] [qv9] (λx=>wb9 x.1 x.2.1) (λx=>(qj0 x.1 x.2.1.toNat x.1.length,()))
theorem xl3:Meets Tryz.prog 107 y45:=by
 refine meets (y4r (SpecsOk.cons xk6 (SpecsOk.cons wz3 (SpecsOk.cons w8b (SpecsOk.nil _)))) (ItsOk.cons wy9 ItsOk.nil) (BxsOk.cons w8a BxsOk.nil)) Tryz.func107 rfl rfl (λx=>yy6 x.1 x.2.1) (λ_=>by kernel_rfl) dc ?_
 rintro⟨l,k,⟨⟩⟩ h
 revert l k
 intro(l:List (List Int)) (k:Int) (h:wb9 l k)
 refine vcs (let Q0:=qj0 l k.toNat l.length; True/\True/\wb9 l k/\∃(v0:Unit),∃(v1:Nat),Nat.le v1 l.length/\v1=(0:Nat)/\(((0:Int)=(0:Int)/\(0:Int)=(0:Int)/\True)/\((0:Int)=(qj0 l k.toNat v1).1/\(1:Int)=(qj0 l k.toNat v1).2/\True)/\((True/\True)/\True)/\True)/\∀(v2:Nat),Nat.le v2 l.length->(∀(v4:List Int × qa3._f [qv9] ⟨qa3._f [] PUnit.unit,PUnit.unit⟩),(List.map (λ(v6:List Int × Int × Int)=>(v6.1,v6.2,())) (w9d l k.toNat))[v2]?=some v4->(q4v ((qj0 l k.toNat v2).1,(qj0 l k.toNat v2).2)/\q4v (v4.2.1.1,v4.2.1.2))/\∃(v6:Nat),Nat.le v6 l.length/\v6=v2+(1:Nat)/\((0:Int)=(0:Int)/\(0:Int)=(0:Int)/\True)/\((w2e ((qj0 l k.toNat v2).1,(qj0 l k.toNat v2).2) (v4.2.1.1,v4.2.1.2)).1=(qj0 l k.toNat v6).1/\(w2e ((qj0 l k.toNat v2).1,(qj0 l k.toNat v2).2) (v4.2.1.1,v4.2.1.2)).2=(qj0 l k.toNat v6).2/\True)/\((True/\True)/\True)/\True)/\(v2=(List.map (λ(v5:List Int × Int × Int)=>(v5.1,v5.2,())) (w9d l k.toNat)).length->True/\(qj0 l k.toNat v2).1=Q0.1/\(qj0 l k.toNat v2).2=Q0.2/\True)) ?_
 refine⟨h,(),0,zae _,rfl,⟨rfl,rfl⟩,λi hi=>⟨λd hd=>?_,λhe=>?_⟩⟩
 ·have hd:((w9d l k.toNat).map λq=>((q.1,q.2,()):qa3 [qe8,qv9]))[i]? = some d:=hd
  have hlt:i<l.length:=by
   have:=(zag.1 hd).1
   rw[zay] at this
   exact Nat.lt_of_lt_of_eq this (zay _)
  rw[xl2 hlt] at hd
  obtain rfl:=zaa hd
  exact⟨⟨qt1 h i hi,w4z (h.shr i hlt)⟩,i+1,hlt,rfl,rfl,rfl⟩
 ·have he:i=((w9d l k.toNat).map λq=>((q.1,q.2,()):qa3 [qe8,qv9])).length:=he
  rw[zay] at he
  obtain rfl:i=l.length:=he.trans (zay _)
  simp
def q9x (m:List (List Int)) (k least:Int):Int:=if qb7 m=false then 1 else if inB k least (nL m 0).length=false then 7 else 0
abbrev yy7:qa8:=qd9 true none [qf9,qc0,qc0] [qc0] (λ_=>True) (λx=>(q9x x.1 x.2.1 x.2.2.1,()))
theorem w8e:Meets Tryz.prog 83 yy7:=by
 refine mt0 (SpecsOk.cons qs7 (SpecsOk.cons qq4 (SpecsOk.nil _))) Tryz.func83 ?_
 rintro⟨m,k,q,⟨⟩⟩ -
 revert m k q
 intro(m:List (List Int)) (k:Int) (q:Int)
 refine vcs (True/\((!qb7 m)=true->(1:Int)=q9x m k q)/\((!qb7 m)=false->((0:Int)<=(0:Int)/\(0:Int)<(↑m.length:Int))/\True/\((!inB k q (↑(nL m (0:Nat)).length:Int))=true->(7:Int)=q9x m k q)/\((!inB k q (↑(nL m (0:Nat)).length:Int))=false->(0:Int)=q9x m k q))) ?_
 refine⟨λhv=>(zap hv).symm,λhv=>⟨by have:=(Mk.of hv).rows1; omega,λhb=>?_,λhb=>?_⟩⟩
 all_goals grind [q9x]
structure x1p (m:List (List Int)):Prop where
 cir:qb7 m=true->wb6 m
 shs:qb7 m=true->∀k:Nat,k<=(nL m 0).length->wb9 (qf1 m).1 k
theorem xl4 {m:List (List Int)} {k q:Int} (h:q9x m k q=0) (hq:0<=q:=by decide):qb7 m=true/\∃n:Nat,k=n/\n<=(nL m 0).length:=by
 unfold q9x at h
 split at h
 ·cases h
 ·rename_i hv
  split at h
  ·cases h
  ·rename_i hb
   have hb:=qh5.1 (by cases e:inB k q (nL m 0).length with | true=>rfl | false=>grind)
   exact⟨by grind,k.toNat,ow,ow⟩
def hlf (r:Int × Int):Bool:=decide (r.2<=2*r.1)
abbrev yy8:qa8:=qd9 true none [qv9] [.bool] (λx=>q4v x.1) (λx=>(hlf x.1,()))
theorem wi0:Meets Tryz.prog 85 yy8:=by
 refine mt0 (SpecsOk.nil _) Tryz.func85 ?_
 rintro⟨⟨a,b⟩,⟨⟩⟩ h
 revert a b
 intro(a:Int) (b:Int) (h:q4v (a,b))
 refine vcs (fits .i64 ((2:Int)*a)/\decide (b<=(2:Int)*a)=hlf (a,b)) ?_
 have h1:=h.n
 obtain⟨h1,h2⟩:=h1
 dsimp only at h1 h2
 exact⟨qa6,rfl⟩
def ordF (l:List (List Int)):Nat->Nat->Nat
 | 0,k=>k
 | f+1,k=>if hlf (qj0 l (k+1) l.length)=false then ordF l f (k+1) else k
def ordL (m:List (List Int)):Nat:=ordF (qf1 m).1 (nL m 0).length 0
theorem w41 {l:List (List Int)} {n k:Nat} (h:k<n):ordF l (n-k) k=if hlf (qj0 l (k+1) l.length)=false then ordF l (n-(k+1)) (k+1) else k:=by
 obtain⟨f,hf⟩:∃f,n-k=f+1:=⟨n-k-1,ow⟩
 grind [ordF]
structure x1q (l:List (List Int)) (n k:Nat):Prop where
 le:k<=n
 eq:ordF l n 0=ordF l (n-k) k
def yy9 (l:List (List Int)) (n:Nat):Nat->Option Inv
 | 0=>some (Inv.of [4] 0 (λk:Nat=>[(4,.lit (.int .i64 k))]) (λ_=>[]) (λk=>x1q l n k) (λk=>n-k))
 | _=>none
abbrev x1r:qa8:=qd9 true none [qf9] [qc0] (λx=>qb7 x.1=true/\x1p x.1) (λx=>((ordL x.1:Nat),()))
theorem wn8:Meets Tryz.prog 72 x1r:=by
 refine mts (SpecsOk.cons q5x (SpecsOk.cons xl3 (SpecsOk.cons wi0 (SpecsOk.nil _)))) Tryz.func72 (λx=>yy9 (qf1 x.1).1 (nL x.1 0).length) ?_
 rintro⟨m,⟨⟩⟩ h
 revert m
 intro(m:List (List Int)) (h:qb7 m=true/\x1p m)
 refine vcs ((qb7 m=true->wb6 m)/\∃(v0:Unit),∃(v1:Nat),x1q (qf1 m).1 (nL m (0:Nat)).length v1/\(((0:Int)=(↑v1:Int)/\True)/\True)/\∀(v2:Nat),x1q (qf1 m).1 (nL m (0:Nat)).length v2->((0:Int)<=(0:Int)/\(0:Int)<(↑m.length:Int))/\(decide ((↑v2:Int)<(↑(nL m (0:Nat)).length:Int))=true->fits .i64 ((↑v2:Int)+(1:Int))/\wb9 (qf1 m).1 ((↑v2:Int)+(1:Int))/\q4v ((qj0 (qf1 m).1 ((↑v2:Int)+(1:Int)).toNat (qf1 m).1.length).1,(qj0 (qf1 m).1 ((↑v2:Int)+(1:Int)).toNat (qf1 m).1.length).2)/\((!hlf ((qj0 (qf1 m).1 ((↑v2:Int)+(1:Int)).toNat (qf1 m).1.length).1,(qj0 (qf1 m).1 ((↑v2:Int)+(1:Int)).toNat (qf1 m).1.length).2))=true->fits .i64 ((↑v2:Int)+(1:Int))/\∃(v6:Nat),x1q (qf1 m).1 (nL m (0:Nat)).length v6/\(nL m (0:Nat)).length-v6<(nL m (0:Nat)).length-v2/\((↑v2:Int)+(1:Int)=(↑v6:Int)/\True)/\True)/\((!hlf ((qj0 (qf1 m).1 ((↑v2:Int)+(1:Int)).toNat (qf1 m).1.length).1,(qj0 (qf1 m).1 ((↑v2:Int)+(1:Int)).toNat (qf1 m).1.length).2))=false->(↑v2:Int)=(↑(ordL m):Int)))/\(decide ((↑v2:Int)<(↑(nL m (0:Nat)).length:Int))=false->(↑v2:Int)=(↑(ordL m):Int))) ?_
 have hM:=Mk.of h.1
 have m1:=hM.rows1
 have m10:=hM.pix10
 have hc:=h.2.shs h.1
 refine⟨h.2.cir,(),0,⟨zae _,rfl⟩,rfl,λk hk=>⟨ow,λhlt=>?_,λhge=>?_⟩⟩
 ·have e:((k:Int)+1).toNat=k+1:=ow
  have e2:((k:Int)+1)=((k+1:Nat):Int):=by rfl
  have hs:=hc (k+1) ow
  have hl:=qt1 hs (qf1 m).1.length (zac _)
  rw[zaq] at hl
  rw[e,e2]
  refine⟨qa6,hs,hl,λhf=>⟨qa6,k+1,⟨ow,?_⟩,ow,rfl⟩,λhf=>?_⟩
  ·rw[hk.eq,w41 hlt]
   grind
  ·have:ordL m=k:=by
    unfold ordL
    rw[hk.eq,w41 hlt,zaj (by grind)]
   omega
 ·have hle:=hk.le
  have e:k=(nL m 0).length:=ow
  have:ordL m=k:=by
   unfold ordL
   rw[hk.eq,e,Nat.sub_self]; rfl
  omega
def qs1 (m:List (List Int)):Int × Int:=if qb7 m=true then((ordL m:Nat),0) else(0,1)
abbrev yh4:qa8:=qd9 true none [qf9] [qc0,qc0] (λx=>x1p x.1) (λx=>((qs1 x.1).1,(qs1 x.1).2,()))
theorem q9y:Meets Tryz.prog 26 yh4:=by
 refine mt0 (SpecsOk.cons qs7 (SpecsOk.cons wn8 (SpecsOk.nil _))) Tryz.func26 ?_
 rintro⟨m,⟨⟩⟩ h
 revert m
 intro(m:List (List Int)) (h:x1p m)
 refine vcs (True/\((!qb7 m)=true->(0:Int)=(qs1 m).1/\(1:Int)=(qs1 m).2/\True)/\((!qb7 m)=false->(qb7 m=true/\x1p m)/\(↑(ordL m):Int)=(qs1 m).1/\(0:Int)=(qs1 m).2/\True)) ?_
 refine⟨λhv=>?_,λhv=>⟨⟨hv,h⟩,?_⟩⟩
 ·unfold qs1; grind
 ·unfold qs1; grind
def sgn (i:Nat):Int:=if i % 2=0 then 1 else -1
def skp (i a:Nat):Nat:=if a<i then a else a+1
def det:Nat->(Nat->Nat->Int)->Int
 | 0,_=>1
 | n+1,A=>sm (n+1) λi=>sgn i*A i 0*det n (λa b=>A (skp i a) (b+1))
theorem q9z {n i a:Nat} (ha:a<n):skp i a<n+1:=by grind [skp]
theorem x4n (i a:Nat):skp i a≠i:=by grind [skp]
theorem qj4:∀(n:Nat) {A B:Nat->Nat->Int},(∀i j,i<n->j<n->A i j=B i j)->det n A=det n B
 | 0,_,_,_=>rfl
 | n+1,A,B,h=>by
  rw[det,det]
  refine qe2 λi hi=>?_
  rw[h i 0 hi ow,qj4 n (A:=λa b=>A (skp i a) (b+1)) (B:=λa b=>B (skp i a) (b+1)) λa b ha hb=>h _ _ (q9z ha) ow]
def upd (A:Nat->Nat->Int) (r:Nat) (u:Nat->Int):Nat->Nat->Int:=λi j=>if i=r then u j else A i j
theorem q2v (A:Nat->Nat->Int) (r:Nat):upd A r (A r)=A:=by
 grind [upd]
theorem wn9 (A:Nat->Nat->Int) {r s:Nat} (h:r≠s) (u v:Nat->Int):upd (upd A r u) s v=upd (upd A s v) r u:=by
 funext i j; unfold upd
 omega
theorem q50 (A:Nat->Nat->Int) (r:Nat) (w:Nat->Int):(λa b=>upd A r w (skp r a) (b+1))=λa b=>A (skp r a) (b+1):=by
 simp_all [upd,if_neg,x4n]
theorem q90 {i r:Nat} (h:i≠r) (A:Nat->Nat->Int) (w:Nat->Int):(λa b=>upd A r w (skp i a) (b+1))=upd (λa b=>A (skp i a) (b+1)) (if r<i then r else r-1) (λb=>w (b+1)):=by
 funext a b
 have e:skp i a=r↔a=(if r<i then r else r-1):=by grind [skp]
 simp_all [upd,if_pos,if_neg]
theorem qs2:∀(n:Nat) (A:Nat->Nat->Int) (r:Nat),r<n->∀(x y:Int) (u v:Nat->Int),det n (upd A r (λj=>x*u j+y*v j))=x*det n (upd A r u)+y*det n (upd A r v)
 | n+1,A,r,hr,x,y,u,v=>by
  rw[det,det,det,<- qk1,<- qk1,<- q9h]
  refine qe2 λi hi=>?_
  by_cases e:i=r
  ·subst e
   rw[q50,q50,q50]
   have e1:∀w,upd A i w i 0=w 0:=λw=>zap rfl
   grind
  ·rw[q90 e,q90 e,q90 e]
   have e1:∀w,upd A r w i 0=A i 0:=λw=>zaj e
   rw[e1,e1,e1]
   have ih:=qs2 n (λa b=>A (skp i a) (b+1)) (if r<i then r else r-1) (by grind) x y (λb=>u (b+1)) (λb=>v (b+1))
   grind
theorem q1x {n:Nat} {A:Nat->Nat->Int} {r:Nat} (hr:r<n):det n (upd A r λ_=>0)=0:=by
 have:=qs2 n A r hr 0 0 (λ_=>0) (λ_=>0)
 grind
theorem x1s (r:Nat):sgn (r+1)=- sgn r:=by grind [sgn]
theorem wo0:∀(n:Nat) (A:Nat->Nat->Int) (r:Nat),r+1<n->(∀j,j<n->A r j=A (r+1) j)->det n A=0
 | n+1,A,r,hr,h=>by
  rw[det,q6q (k:=r) (l:=r+1) ow hr ow λi hi h1 h2=>?_]
  ·have em:det n (λa b=>A (skp r a) (b+1))=det n (λa b=>A (skp (r+1) a) (b+1)):=qj4 n λa b ha hb=>by
    by_cases e:a=r
    ·simp_all [skp,if_neg,Nat.lt_irrefl,if_pos,Nat.lt_succ_self]
    grind [skp]
   grind [x1s]
  ·try dsimp only
   have:det n (λa b=>A (skp i a) (b+1))=0:=by
    rcases zas i r with q | q
    ·refine wo0 n _ (r-1) ow λj hj=>?_
     have e1:skp i (r-1)=r:=by unfold skp; grind
     have e2:skp i (r-1+1)=r+1:=by unfold skp; grind
     grind
    ·refine wo0 n _ r ow λj hj=>?_
     have e1:skp i r=r:=by unfold skp; grind
     have e2:skp i (r+1)=r+1:=by unfold skp; grind
     grind
   grind
theorem wo1 {n:Nat} {A:Nat->Nat->Int} {r s:Nat} (hr:r<n) (hs:s<n) (hne:r≠s) (hz:∀w,det n (upd (upd A r w) s w)=0) (u v:Nat->Int):det n (upd (upd A r u) s v)=- det n (upd (upd A r v) s u):=by
 have h:=hz (λj=>1*u j+1*v j)
 have lin:∀w,det n (upd (upd A r (λj=>1*u j+1*v j)) s w)=det n (upd (upd A r u) s w)+det n (upd (upd A r v) s w):=λw=>by
  rw[wn9 A hne,qs2 n _ r hr,wn9 A hne,wn9 A hne]; omega
 rw[qs2 n _ s hs,lin,lin,hz u,hz v] at h
 omega
theorem xl5:∀(d n:Nat) (A:Nat->Nat->Int) (r s:Nat),s=r+d+1->s<n->(∀j,j<n->A r j=A s j)->det n A=0
 | 0,n,A,r,s,hd,hs,h=>wo0 n A r ow λj hj=>by grind
 | d+1,n,A,r,s,hd,hs,h=>by
  have e:upd (upd A (s-1) (A (s-1))) s (A s)=A:=by simp_all [q2v]
  have h2:=wo1 (n:=n) (A:=A) (r:=s-1) (s:=s) ow hs ow (λw=>wo0 n _ (s-1) ow λj hj=>by
   unfold upd
   omega) (A (s-1)) (A s)
  rw[e] at h2
  have h3:=xl5 d n (upd (upd A (s-1) (A s)) s (A (s-1))) r (s-1) ow ow λj hj=>by
   unfold upd
   grind
  omega
theorem q91 {n:Nat} {A:Nat->Nat->Int} {r s:Nat} (hr:r<n) (hs:s<n) (hne:r≠s) (h:∀j,j<n->A r j=A s j):det n A=0:=by
 rcases Nat.lt_or_gt_of_ne hne with q | q
 ·exact xl5 (s-r-1) n A r s ow hs h
 ·exact xl5 (r-s-1) n A s r ow hr λj hj=>(h j hj).symm
theorem wo2 {n:Nat} (A:Nat->Nat->Int) {r:Nat} (hr:r<n) (lam:Nat->Int):∀k,k<=n->det n (upd A r (λj=>sm k λi=>lam i*A i j))=if r<k then lam r*det n A else 0
 | 0,_=>by
  rw[zaj (zau _)]
  exact q1x hr
 | k+1,hk=>by
  have ih:=wo2 A hr lam k ow
  have e:(λj=>sm (k+1) λi=>lam i*A i j)=λj=>1*(sm k λi=>lam i*A i j)+lam k*A k j:=by grind [sm]
  rw[e,qs2 n A r hr 1 (lam k) (λj=>sm k λi=>lam i*A i j) (A k),ih]
  by_cases q:k=r
  ·simp_all [q2v,if_neg,Nat.lt_irrefl,if_pos,Nat.lt_succ_self]
  ·have:det n (upd A r (A k))=0:=q91 hr (show k<n by omega) (zdn q) λj hj=>by
    unfold upd
    simp
   grind
theorem w42 {n:Nat} {A:Nat->Nat->Int} (h0:det n A=0):∀(d s:Nat),s+d=n->∀σ:Nat->Nat,(∀i,i<n->σ i<n)->(∀i,i<s->σ i=i)->det n (λi j=>A (σ i) j)=0
 | 0,s,hs,σ,h1,h2=>by
  grind [qj4]
 | d+1,s,hs,σ,h1,h2=>by
  by_cases hx:∃t,s<=t/\t<n/\σ t=s
  ·obtain⟨t,t1,t2,t3⟩:=hx
   have hq:=w42 h0 d (s+1) ow (λi=>if i=s then s else if i=t then σ s else σ i) (λi hi=>by
    grind) (λi hi=>by
    grind)
   by_cases e:t=s
   ·grind
   ·have ha:=wo1 (n:=n) (A:=λi j=>A (σ i) j) (r:=s) (s:=t) ow t2 (zdn e) (λw=>q91 (r:=s) (s:=t) ow t2 (zdn e) λj hj=>by
     unfold upd
     simp) (A (σ s)) (A (σ t))
    have e1:upd (upd (λi j=>A (σ i) j) s (A (σ s))) t (A (σ t))=λi j=>A (σ i) j:=by
     funext i j; unfold upd
     grind
    have e2:upd (upd (λi j=>A (σ i) j) s (A (σ t))) t (A (σ s))=λi j=>A ((λi=>if i=s then s else if i=t then σ s else σ i) i) j:=by
     funext i j; unfold upd
     grind
    grind
  ·have hns:∀i,i<n->σ i≠s:=λi hi e=>by
    grind
   obtain⟨i,j,q1,q2,q3⟩:=q9i (n-1) n (λi=>if σ i<s then σ i else σ i-1) (λi hi=>by
    grind) ow
   have e:σ i=σ j:=by
    grind
   grind [q91]
theorem xl6 {n:Nat} {A:Nat->Nat->Int} (h0:det n A=0):∀(d k:Nat),k+d=n->∀B:Nat->Nat->Int,(∀i,i<k->∃a,a<n/\∀j,j<n->B i j=A a j)->(∀i,k<=i->i<n->∃lam:Nat->Int,∀j,j<n->B i j=sm n λa=>lam a*A a j)->det n B=0
 | 0,k,hk,B,h1,_=>by
  have hx:∀i,∃a,i<n->a<n/\∀j,j<n->B i j=A a j:=λi=>by
   by_cases hi:i<n
   all_goals grind
  obtain⟨σ,hσ⟩:=zbo hx
  rw[qj4 n (B:=λi j=>A (σ i) j) λi j hi hj=>(hσ i hi).2 j hj]
  exact w42 h0 n 0 ow σ (λi hi=>(hσ i hi).1) λi hi=>absurd hi (zau _)
 | d+1,k,hk,B,h1,h2=>by
  obtain⟨lam,hl⟩:=h2 k (zac _) ow
  have key:∀m,m<=n->det n (upd B k (λj=>sm m λa=>lam a*A a j))=0:=λm=>by
   induction m with
   | zero=>exact λ_=>q1x ow
   | succ m ih=>
    intro hm
    have e:(λj=>sm (m+1) λi=>lam i*A i j)=λj=>1*(sm m λi=>lam i*A i j)+lam m*A m j:=by grind [sm]
    rw[e,qs2 n B k ow 1 (lam m) (λj=>sm m λi=>lam i*A i j) (A m),ih ow]
    have:=xl6 h0 d (k+1) ow (upd B k (A m)) (λi hi=>by
     by_cases q:i=k
     ·exact⟨m,ow,λj hj=>by simp_all [upd,if_pos]⟩
     ·obtain⟨a,ha,hb⟩:=h1 i ow
      exact⟨a,ha,λj hj=>by simp_all [upd,if_neg]⟩) (λi h3 h4=>by
     obtain⟨lam',h5⟩:=h2 i ow h4
     exact⟨lam',λj hj=>by unfold upd; grind⟩)
    grind
  rw[<- key n (zac _)]
  refine qj4 n λi j hi hj=>?_
  simp_all [upd,if_pos,if_neg]
theorem w43:∀(n:Nat) (d:Nat->Int),(∀i,i<n->d i≠0)->det n (λi j=>if i=j then d i else 0)≠0
 | 0,_,_=>by show(1:Int)≠0; decide
 | n+1,d,h=>by
  rw[det,qq6 (k:=0) ow λi hi hne=>by
   grind]
  try dsimp only
  have e:det n (λa b=>if skp 0 a=b+1 then d (skp 0 a) else 0)=det n (λa b=>if a=b then d (a+1) else 0):=qj4 n λa b ha hb=>by
   simp_all [skp,if_neg,Nat.not_lt_zero,if_pos]
  rw[e,zap rfl]
  exact q05 (q05 dc (h 0 ow)) (w43 n (λa=>d (a+1)) λi hi=>h (i+1) ow)
theorem x4o {n:Nat} {A:Nat->Nat->Int} (h:∀k,k<n->∃(d:Int) (lam:Nat->Int),d≠0/\∀j,j<n->(sm n λi=>lam i*A i j)=if k=j then d else 0):det n A≠0:=λh0=>by
 have hx:∀k,∃d:Int,k<n->d≠0/\∃lam:Nat->Int,∀j,j<n->(sm n λi=>lam i*A i j)=if k=j then d else 0:=λk=>by
  by_cases hk:k<n
  ·simp_all
  ·exact⟨0,λq=>absurd q hk⟩
 obtain⟨d,hd⟩:=zbo hx
 refine w43 n d (λi hi=>(hd i hi).1) (xl6 h0 n 0 ow _ (λi hi=>absurd hi (zau _)) λi _ hi=>?_)
 obtain⟨_,lam,hl⟩:=hd i hi
 exact⟨lam,λj hj=>(hl j hj).symm⟩
theorem wo3 (i:Nat):(sgn i).natAbs=1:=by grind [sgn]
theorem w8f {n B:Nat} {A:Nat->Nat->Int} (h1:∀i,i<n+1->(A i 0).natAbs<=1) (h2:∀i,i<n+1->(det n (λa b=>A (skp i a) (b+1))).natAbs<=B):(det (n+1) A).natAbs<=(n+1)*B:=by
 rw[det]
 refine x1a λi hi=>?_
 rw[zbp,zbp,wo3,zdq]
 calc(A i 0).natAbs*_<=1*B:=zbh (h1 i hi) (h2 i hi)
  _=B:=zdq _
def yz0:Nat->Nat
 | 0=>1
 | n+1=>(n+1)*yz0 n
theorem xl7:∀(n:Nat) {A:Nat->Nat->Int},(∀i j,i<n->j<n->(A i j).natAbs<=1)->(det n A).natAbs<=yz0 n
 | 0,_,_=>zac _
 | n+1,A,h=>w8f (λi hi=>h i 0 hi ow) λi hi=>xl7 n λa b ha hb=>h _ _ (q9z ha) ow
def d3 (x y z:Nat):Int:=
 let b:=λ(c k:Nat)=>((c / 2 ^ k % 2:Nat):Int)
 b x 0*(b y 1*b z 2-b y 2*b z 1)-b y 0*(b x 1*b z 2-b x 2*b z 1)+b z 0*(b x 1*b y 2-b x 2*b y 1)
def q92 (x:Int):Int:=if 0<x then x else 0
def y2k (p q r s:Nat):Bool:=decide (q92 (d3 q r s)+q92 (- d3 p r s)+q92 (d3 p q s)+q92 (- d3 p q r)<=4) && decide (q92 (- d3 q r s)+q92 (d3 p r s)+q92 (- d3 p q s)+q92 (d3 p q r)<=4)
theorem x1t:((List.range 8).all λp=>(List.range 8).all λq=>(List.range 8).all λr=>(List.range 8).all λs=>y2k p q r s)=true:=by decide +kernel
theorem x1u (A:Nat->Nat->Int):det 3 A=A 0 0*(A 1 1*A 2 2-A 1 2*A 2 1)-A 1 0*(A 0 1*A 2 2-A 0 2*A 2 1)+A 2 0*(A 0 1*A 1 2-A 0 2*A 1 1):=by
 simp[det,sm,skp,sgn]
 grind
theorem ym5 (A:Nat->Nat->Int):det 4 A=A 0 0*det 3 (λa b=>A (skp 0 a) (b+1))-A 1 0*det 3 (λa b=>A (skp 1 a) (b+1))+A 2 0*det 3 (λa b=>A (skp 2 a) (b+1))-A 3 0*det 3 (λa b=>A (skp 3 a) (b+1)):=by
 rw[det]
 simp only[sm,show sgn 0=1 from rfl,show sgn 1=-1 from rfl,show sgn 2=1 from rfl,show sgn 3=-1 from rfl]
 grind
def qp4 (x y z:Int):Nat:=(x+2*y+4*z).toNat
def Bit (x:Int):Prop:=x=0\/x=1
theorem x7i {x y z:Int} (hx:Bit x) (hy:Bit y) (hz:Bit z):qp4 x y z<8:=by grind [qp4,Bit]
theorem xl8 {A:Nat->Nat->Int} (h:∀i j,i<3->j<3->Bit (A i j)):d3 (qp4 (A 0 0) (A 0 1) (A 0 2)) (qp4 (A 1 0) (A 1 1) (A 1 2)) (qp4 (A 2 0) (A 2 1) (A 2 2))=det 3 A:=by
 rw[x1u]
 have hb:∀i,i<3->((qp4 (A i 0) (A i 1) (A i 2) / 2 ^ 0 % 2:Nat):Int)=A i 0/\((qp4 (A i 0) (A i 1) (A i 2) / 2 ^ 1 % 2:Nat):Int)=A i 1/\((qp4 (A i 0) (A i 1) (A i 2) / 2 ^ 2 % 2:Nat):Int)=A i 2:=λi hi=>by
  grind [Bit,qp4]
 grind [d3]
theorem qx9 {x:Int}:x<=q92 x/\0<=q92 x:=by grind [q92]
theorem x1v {A:Nat->Nat->Int} (h:∀i j,i<4->j<4->Bit (A i j)):(det 4 A).natAbs<=4:=by
 have hc:∀i,i<4->qp4 (A i 1) (A i 2) (A i 3)<8:=λi hi=>x7i (h i 1 hi ow) (h i 2 hi ow) (h i 3 hi ow)
 have hk:=zan.1 (zan.1 (zan.1 (zan.1 x1t _ (za4.2 (hc 0 ow))) _ (za4.2 (hc 1 ow))) _ (za4.2 (hc 2 ow))) _ (za4.2 (hc 3 ow))
 unfold y2k at hk
 rw[zaz,zbd,zbd] at hk
 have e:∀i,i<4->det 3 (λa b=>A (skp i a) (b+1))=d3 (qp4 (A (skp i 0) 1) (A (skp i 0) 2) (A (skp i 0) 3)) (qp4 (A (skp i 1) 1) (A (skp i 1) 2) (A (skp i 1) 3)) (qp4 (A (skp i 2) 1) (A (skp i 2) 2) (A (skp i 2) 3)):=λi hi=>
  (xl8 (A:=λa b=>A (skp i a) (b+1)) λa b ha hb=>h _ _ (q9z ha) ow).symm
 rw[ym5,e 0 ow,e 1 ow,e 2 ow,e 3 ow]
 have s0:skp 0 0=1/\skp 0 1=2/\skp 0 2=3/\skp 1 0=0/\skp 1 1=2/\skp 1 2=3/\skp 2 0=0/\skp 2 1=1/\skp 2 2=3/\skp 3 0=0/\skp 3 1=1/\skp 3 2=2:=dc
 obtain⟨k0,k1,k2,k3,k4,k5,k6,k7,k8,k9,k10,k11⟩:=s0
 rw[k0,k1,k2,k3,k4,k5,k6,k7,k8,k9,k10,k11]
 generalize d3 (qp4 (A 1 1) (A 1 2) (A 1 3)) (qp4 (A 2 1) (A 2 2) (A 2 3)) (qp4 (A 3 1) (A 3 2) (A 3 3))=m0 at hk ⊢
 generalize d3 (qp4 (A 0 1) (A 0 2) (A 0 3)) (qp4 (A 2 1) (A 2 2) (A 2 3)) (qp4 (A 3 1) (A 3 2) (A 3 3))=m1 at hk ⊢
 generalize d3 (qp4 (A 0 1) (A 0 2) (A 0 3)) (qp4 (A 1 1) (A 1 2) (A 1 3)) (qp4 (A 3 1) (A 3 2) (A 3 3))=m2 at hk ⊢
 generalize d3 (qp4 (A 0 1) (A 0 2) (A 0 3)) (qp4 (A 1 1) (A 1 2) (A 1 3)) (qp4 (A 2 1) (A 2 2) (A 2 3))=m3 at hk ⊢
 have p0:=qx9 (x:=m0); have p1:=qx9 (x:=m1); have p2:=qx9 (x:=m2); have p3:=qx9 (x:=m3)
 have n0:=qx9 (x:=-m0); have n1:=qx9 (x:=-m1); have n2:=qx9 (x:=-m2); have n3:=qx9 (x:=-m3)
 grind [Bit]
def One (x:Int):Prop:=x=1\/x=-1
theorem w8g (e d:Nat->Int) (B:Nat->Nat->Int):det 4 (λi j=>-2*(e i*d j*B i j))=16*(e 0*e 1*e 2*e 3*(d 0*d 1*d 2*d 3))*det 4 B:=by
 rw[ym5,ym5,x1u,x1u,x1u,x1u,x1u,x1u,x1u,x1u]
 grind [skp]
theorem wo4 {n:Nat} (A:Nat->Nat->Int) (c:Nat->Int) (hn:0<n):∀k,k<=n->det n (λi j=>if 0<i/\i<k then A i j-c i*A 0 j else A i j)=det n A
 | 0,_=>qj4 n λi j _ _=>by simp
 | k+1,hk=>by
  rw[<- wo4 A c hn k ow]
  by_cases e:k=0
  ·grind
  ·have h1:(λi j=>if 0<i/\i<k+1 then A i j-c i*A 0 j else A i j)=upd (λi j=>if 0<i/\i<k then A i j-c i*A 0 j else A i j) k (λj=>1*A k j+(- c k)*A 0 j):=by
    funext i j; unfold upd
    grind
   have h2:upd (λi j=>if 0<i/\i<k then A i j-c i*A 0 j else A i j) k (A k)=λi j=>if 0<i/\i<k then A i j-c i*A 0 j else A i j:=by
    funext i j; simp_all [upd,if_pos,if_neg]
   have h3:det n (upd (λi j=>if 0<i/\i<k then A i j-c i*A 0 j else A i j) k (A 0))=0:=q91 (r:=k) (s:=0) ow hn e λj hj=>by
    unfold upd
    simp
   rw[h1,qs2 n _ k ow,h2,h3]; omega
theorem x4p {x:Int} (h:One x):x*x=1:=by rcases h with rfl | rfl <;> rfl
theorem wo5 {x:Int} (h:One x):x.natAbs=1:=by rcases h with rfl | rfl <;> rfl
theorem x1w {A:Nat->Nat->Int} (h:∀i j,i<5->j<5->One (A i j)):(det 5 A).natAbs<=64:=by
 obtain⟨B,hB⟩:∃B:Nat->Nat->Int,∀i j,B i j=if A (i+1) 0*A (i+1) (j+1)=A 0 0*A 0 (j+1) then 0 else 1:=⟨_,λ_ _=>rfl⟩
 have hbit:∀i j,i<4->j<4->Bit (B i j):=λi j _ _=>by
  rw[hB]; unfold Bit; omega
 rw[<- wo4 A (λi=>A i 0*A 0 0) ow 5 (zac _),det,qq6 (k:=0) ow λi hi hne=>?_]
 ·try dsimp only
  have e:det 4 (λa b=>if 0<skp 0 a/\skp 0 a<5 then A (skp 0 a) (b+1)-A (skp 0 a) 0*A 0 0*A 0 (b+1) else A (skp 0 a) (b+1))=det 4 (λi j=>-2*((λi=>A (i+1) 0) i*(λj=>A 0 0*A 0 (j+1)) j*B i j)):=qj4 4 λa b ha hb=>by
   have es:skp 0 a=a+1:=by rfl
   rw[es,zap ow,hB]
   grind [One]
  rw[e,w8g,zaj ow]
  have b4:=x1v hbit
  have o:=λi j (hi:i<5) (hj:j<5)=>wo5 (h i j hi hj)
  simp only[Int.natAbs_mul,wo3,o 0 0 ow ow,o 1 0 ow ow,o 2 0 ow ow,o 3 0 ow ow,o 4 0 ow ow,o 0 1 ow ow,o 0 2 ow ow,o 0 3 ow ow,o 0 4 ow ow,Nat.mul_one,Nat.one_mul,show(0+1)=1 from rfl,show(1+1)=2 from rfl,show(2+1)=3 from rfl,show(3+1)=4 from rfl,show(16:Int).natAbs=16 from rfl]
  omega
 ·try dsimp only
  rw[zap ow,ze1 (A i 0),x4p (h 0 0 ow ow)]
  simp
theorem wz4:∀k,k<=5->∀A:Nat->Nat->Int,(∀i j,i<5->j<5->(A i j).natAbs<=1)->(∀i j,i<5->k<=i->j<5->A i j≠0)->(det 5 A).natAbs<=64
 | 0,_,A,h1,h2=>x1w λi j hi hj=>by
  have:=h1 i j hi hj
  have:=h2 i j hi (zae _) hj
  grind [One]
 | k+1,hk,A,h1,h2=>by
  have key:∀t,t<=5->∀v:Nat->Int,(∀j,j<5->(v j).natAbs<=1)->(∀j,j<5->t<=j->v j≠0)->(det 5 (upd A k v)).natAbs<=64:=λt=>by
   induction t with
   | zero=>
    intro _ v hv1 hv2
    refine wz4 k ow _ (λi j hi hj=>?_) λi j hi hki hj=>?_
    ·grind [upd]
    ·unfold upd; grind
   | succ t ih=>
    intro ht v hv1 hv2
    by_cases e:v t=0
    ·have a1:=ih ow (λj=>if j=t then 1 else v j) (λj hj=>by
      grind) (λj hj htj=>by
      grind)
     have a2:=ih ow (λj=>if j=t then -1 else v j) (λj hj=>by
      grind) (λj hj htj=>by
      grind)
     have e1:=qs2 5 A k ow 1 1 (λj=>if j=t then 1 else v j) (λj=>if j=t then -1 else v j)
     have e2:=qs2 5 A k ow 2 0 v v
     have e3:(λj=>(1:Int)*(if j=t then 1 else v j)+1*(if j=t then -1 else v j))=λj=>2*v j+0*v j:=by
      funext j
      grind
     grind
    grind
  have:=key 5 (zac _) (A k) (λj hj=>h1 k j ow hj) λj hj h5=>by omega
  grind [q2v]
def prF:Nat->(Nat->Int)->Int
 | 0,_=>1
 | n+1,d=>d 0*prF n λj=>d (j+1)
def prL:Nat->(Nat->Int)->Int
 | 0,_=>1
 | n+1,d=>prL n d*d n
theorem xl9:∀(n:Nat) (d:Nat->Int) (c:Nat),(∀j,j<n->(d j).natAbs=c)->(prF n d).natAbs=c ^ n
 | 0,_,c,_=>by rfl
 | n+1,d,c,h=>by
  rw[prF,zbp,h 0 ow,xl9 n _ c λj hj=>h (j+1) ow,zdi,zeo]
theorem xm0:∀(n:Nat) (d:Nat->Int),(∀j,j<n->(d j).natAbs=1)->(prL n d).natAbs=1
 | 0,_,_=>rfl
 | n+1,d,h=>by
  rw[prL,zbp,h n ow,xm0 n d λj hj=>h j ow]
theorem w44:∀(n:Nat) (d:Nat->Int) (A:Nat->Nat->Int),det n (λi j=>d j*A i j)=prF n d*det n A
 | 0,_,_=>rfl
 | n+1,d,A=>by
  rw[det,det,prF,<- qk1]
  refine qe2 λi hi=>?_
  try dsimp only
  rw[w44 n (λj=>d (j+1)) (λa b=>A (skp i a) (b+1))]
  grind
theorem w45 {n:Nat} (e:Nat->Int) (A:Nat->Nat->Int):∀k,k<=n->det n (λi j=>(if i<k then e i else 1)*A i j)=prL k e*det n A
 | 0,_=>by
  simp_all [prL,Int.one_mul,qj4,if_neg,Nat.not_lt_zero]
 | k+1,hk=>by
  obtain⟨F,hF⟩:∃F:Nat->Nat->Int,F=λi j=>(if i<k then e i else 1)*A i j:=⟨_,rfl⟩
  have ih:=w45 (n:=n) e A k ow
  rw[<- hF] at ih
  have h1:=qs2 n F k ow (e k) 0 (F k) (λ_=>0)
  have h2:(0:Int)*det n (upd F k λ_=>0)=0:=zcb _
  rw[q2v,ih] at h1
  have h1:=h1.trans (show e k*(prL k e*det n A)+0*det n (upd F k λ_=>0)=e k*(prL k e*det n A) by omega)
  rw[prL,show prL k e*e k*det n A=e k*(prL k e*det n A) by grind,<- h1]
  refine qj4 n λi j hi hj=>?_
  unfold upd
  grind
theorem x1x {n:Nat} {A:Nat->Nat->Int} (h:∀i j,i<n+1->j<n+1->One (A i j)):∃B:Nat->Nat->Int,(∀i j,i<n->j<n->Bit (B i j))/\(det (n+1) A).natAbs=2 ^ n*(det n B).natAbs:=by
 obtain⟨B,hB⟩:∃B:Nat->Nat->Int,∀i j,B i j=if A (i+1) 0*A (i+1) (j+1)=A 0 0*A 0 (j+1) then 0 else 1:=⟨_,λ_ _=>rfl⟩
 have hbit:∀i j,i<n->j<n->Bit (B i j):=λi j _ _=>by
  rw[hB]; unfold Bit; omega
 refine⟨B,hbit,?_⟩
 rw[<- wo4 A (λi=>A i 0*A 0 0) ow (n+1) (zac _),det,qq6 (k:=0) ow λi hi hne=>?_]
 ·try dsimp only
  have e:det n (λa b=>if 0<skp 0 a/\skp 0 a<n+1 then A (skp 0 a) (b+1)-A (skp 0 a) 0*A 0 0*A 0 (b+1) else A (skp 0 a) (b+1))=det n (λi j=>(if i<n then(λi=>A (i+1) 0) i else 1)*(λi j=>(λj=>-2*(A 0 0*A 0 (j+1))) j*B i j) i j):=qj4 n λa b ha hb=>by
   have es:skp 0 a=a+1:=by rfl
   rw[es,zap ow,zap ha]
   grind [One]
  rw[e,w45 _ _ n (zac _),w44,zaj ow]
  have p1:=xm0 n (λi=>A (i+1) 0) λj hj=>wo5 (h (j+1) 0 ow ow)
  have p2:=xl9 n (λj=>-2*(A 0 0*A 0 (j+1))) 2 λj hj=>by
   grind [wo5,Int.natAbs_mul]
  simp_all [wo5,Int.natAbs_mul,wo3,Nat.one_mul]
 ·try dsimp only
  rw[zap ow,ze1 (A i 0),x4p (h 0 0 ow ow)]
  simp
def d4 (p q r s:Nat):Int:=((p % 2:Nat):Int)*d3 (q / 2) (r / 2) (s / 2)-((q % 2:Nat):Int)*d3 (p / 2) (r / 2) (s / 2)+((r % 2:Nat):Int)*d3 (p / 2) (q / 2) (s / 2)-((s % 2:Nat):Int)*d3 (p / 2) (q / 2) (r / 2)
def yz1 (p q r s t:Nat):Bool:=
 decide (q92 (d4 q r s t)+q92 (- d4 p r s t)+q92 (d4 p q s t)+q92 (- d4 p q r t)+q92 (d4 p q r s)<=5) && decide (q92 (- d4 q r s t)+q92 (d4 p r s t)+q92 (- d4 p q s t)+q92 (d4 p q r t)+q92 (- d4 p q r s)<=5)
theorem x1y:((List.range 16).all λp=>(List.range 16).all λq=>Nat.blt q p || (List.range 16).all λr=>Nat.blt r q || (List.range 16).all λs=>Nat.blt s r || (List.range 16).all λt=>Nat.blt t s || yz1 p q r s t)=true:=by decide +kernel
theorem x7j {p q r s t:Nat} (h1:p<=q) (h2:q<=r) (h3:r<=s) (h4:s<=t) (h5:t<16):yz1 p q r s t=true:=by
 have no:∀{a b:Nat},a<=b->Nat.blt b a=false:=λ{a b} h=>by
  cases e:Nat.blt b a with
  | false=>rfl
  | true=>have:=zbt e; omega
 have a1:=zan.1 (zan.1 x1y p (za4.2 ow)) q (za4.2 ow)
 grind
def code4 (x y z w:Int):Nat:=(x+2*y+4*z+8*w).toNat
theorem w46 {x y z w:Int} (hx:Bit x) (hy:Bit y) (hz:Bit z) (hw:Bit w):code4 x y z w<16/\code4 x y z w / 2=qp4 y z w/\((code4 x y z w % 2:Nat):Int)=x:=by
 grind [code4,qp4,Bit]
theorem x7k {A:Nat->Nat->Int} (h:∀i j,i<4->j<4->Bit (A i j)):d4 (code4 (A 0 0) (A 0 1) (A 0 2) (A 0 3)) (code4 (A 1 0) (A 1 1) (A 1 2) (A 1 3)) (code4 (A 2 0) (A 2 1) (A 2 2) (A 2 3)) (code4 (A 3 0) (A 3 1) (A 3 2) (A 3 3))=det 4 A:=by
 have hc:=λi (hi:i<4)=>w46 (h i 0 hi ow) (h i 1 hi ow) (h i 2 hi ow) (h i 3 hi ow)
 obtain⟨_,a1,a2⟩:=hc 0 ow
 obtain⟨_,b1,b2⟩:=hc 1 ow
 obtain⟨_,c1,c2⟩:=hc 2 ow
 obtain⟨_,e1,e2⟩:=hc 3 ow
 unfold d4
 rw[a1,a2,b1,b2,c1,c2,e1,e2,ym5]
 have m:∀i,i<4->det 3 (λa b=>A (skp i a) (b+1))=d3 (qp4 (A (skp i 0) 1) (A (skp i 0) 2) (A (skp i 0) 3)) (qp4 (A (skp i 1) 1) (A (skp i 1) 2) (A (skp i 1) 3)) (qp4 (A (skp i 2) 1) (A (skp i 2) 2) (A (skp i 2) 3)):=λi hi=>
  (xl8 (A:=λa b=>A (skp i a) (b+1)) λa b ha hb=>h _ _ (q9z ha) ow).symm
 rw[m 0 ow,m 1 ow,m 2 ow,m 3 ow]
 rfl
theorem y46 (A:Nat->Nat->Int):det 5 A=A 0 0*det 4 (λa b=>A (skp 0 a) (b+1))-A 1 0*det 4 (λa b=>A (skp 1 a) (b+1))+A 2 0*det 4 (λa b=>A (skp 2 a) (b+1))-A 3 0*det 4 (λa b=>A (skp 3 a) (b+1))+A 4 0*det 4 (λa b=>A (skp 4 a) (b+1)):=by
 rw[det]
 simp only[sm,show sgn 0=1 from rfl,show sgn 1=-1 from rfl,show sgn 2=1 from rfl,show sgn 3=-1 from rfl,show sgn 4=1 from rfl]
 grind
def cdR (A:Nat->Nat->Int) (i:Nat):Nat:=code4 (A i 1) (A i 2) (A i 3) (A i 4)
theorem q93 {x m:Int} (h:Bit x):x*m<=q92 m/\- (x*m)<=q92 (- m):=by
 have h1:=qx9 (x:=m)
 have h2:=qx9 (x:=-m)
 rcases h with rfl | rfl
 all_goals omega
theorem w2i {A:Nat->Nat->Int} (h:∀i j,i<5->j<5->Bit (A i j)) (hs:∀i,i<4->cdR A i<=cdR A (i+1)):(det 5 A).natAbs<=5:=by
 have hk:=x7j (hs 0 ow) (hs 1 ow) (hs 2 ow) (hs 3 ow) (w46 (h 4 1 ow ow) (h 4 2 ow ow) (h 4 3 ow ow) (h 4 4 ow ow)).1
 unfold yz1 at hk
 rw[zaz,zbd,zbd] at hk
 have m:∀i,i<5->det 4 (λa b=>A (skp i a) (b+1))=d4 (cdR A (skp i 0)) (cdR A (skp i 1)) (cdR A (skp i 2)) (cdR A (skp i 3)):=λi hi=>
  (x7k (A:=λa b=>A (skp i a) (b+1)) λa b ha hb=>h _ _ (q9z ha) ow).symm
 rw[y46,m 0 ow,m 1 ow,m 2 ow,m 3 ow,m 4 ow]
 change _/\_ at hk
 have e0:d4 (cdR A (skp 0 0)) (cdR A (skp 0 1)) (cdR A (skp 0 2)) (cdR A (skp 0 3))=d4 (cdR A 1) (cdR A 2) (cdR A 3) (cdR A 4):=rfl
 have e1:d4 (cdR A (skp 1 0)) (cdR A (skp 1 1)) (cdR A (skp 1 2)) (cdR A (skp 1 3))=d4 (cdR A 0) (cdR A 2) (cdR A 3) (cdR A 4):=rfl
 have e2:d4 (cdR A (skp 2 0)) (cdR A (skp 2 1)) (cdR A (skp 2 2)) (cdR A (skp 2 3))=d4 (cdR A 0) (cdR A 1) (cdR A 3) (cdR A 4):=rfl
 have e3:d4 (cdR A (skp 3 0)) (cdR A (skp 3 1)) (cdR A (skp 3 2)) (cdR A (skp 3 3))=d4 (cdR A 0) (cdR A 1) (cdR A 2) (cdR A 4):=rfl
 have e4:d4 (cdR A (skp 4 0)) (cdR A (skp 4 1)) (cdR A (skp 4 2)) (cdR A (skp 4 3))=d4 (cdR A 0) (cdR A 1) (cdR A 2) (cdR A 3):=rfl
 rw[e0,e1,e2,e3,e4]
 generalize d4 (cdR A 1) (cdR A 2) (cdR A 3) (cdR A 4)=m0 at hk ⊢
 generalize d4 (cdR A 0) (cdR A 2) (cdR A 3) (cdR A 4)=m1 at hk ⊢
 generalize d4 (cdR A 0) (cdR A 1) (cdR A 3) (cdR A 4)=m2 at hk ⊢
 generalize d4 (cdR A 0) (cdR A 1) (cdR A 2) (cdR A 4)=m3 at hk ⊢
 generalize d4 (cdR A 0) (cdR A 1) (cdR A 2) (cdR A 3)=m4 at hk ⊢
 have b0:=q93 (m:=m0) (h 0 0 ow ow)
 have b1:=q93 (m:=m1) (h 1 0 ow ow)
 have b2:=q93 (m:=m2) (h 2 0 ow ow)
 have b3:=q93 (m:=m3) (h 3 0 ow ow)
 have b4:=q93 (m:=m4) (h 4 0 ow ow)
 omega
theorem x4q (g:Nat->Nat) (n:Nat):∀d s,s+d+1=n->∃t,s<=t/\t<n/\∀j,s<=j->j<n->g t<=g j
 | 0,s,h=>⟨s,zac _,ow,λj h1 h2=>by grind⟩
 | d+1,s,h=>by
  obtain⟨t,t1,t2,t3⟩:=x4q g n d (s+1) ow
  by_cases q:g s<=g t
  ·refine⟨s,zac _,ow,λj h1 h2=>?_⟩
   grind
  ·refine⟨t,ow,t2,λj h1 h2=>?_⟩
   grind
theorem x1z {n:Nat} (A:Nat->Nat->Int) {s t:Nat} (hs:s<n) (ht:t<n) (hne:s≠t):(det n (upd (upd A s (A t)) t (A s))).natAbs=(det n A).natAbs:=by
 have h:=wo1 (n:=n) (A:=A) (r:=s) (s:=t) hs ht hne (λw=>q91 (r:=s) (s:=t) hs ht hne λj hj=>by
  unfold upd
  simp) (A s) (A t)
 simp_all [upd,q2v,Int.natAbs_neg]
theorem q51 {n:Nat} (Q:(Nat->Int)->Prop) (cd:(Nat->Int)->Nat) {B:Nat} (hB:∀A:Nat->Nat->Int,(∀i,i<n->Q (A i))->(∀i j,i<j->j<n->cd (A i)<=cd (A j))->(det n A).natAbs<=B) :
  ∀d s,s+d=n->∀A:Nat->Nat->Int,(∀i,i<n->Q (A i))->(∀i j,i<s->i<j->j<n->cd (A i)<=cd (A j))->(det n A).natAbs<=B
 | 0,s,hs,A,h1,h2=>hB A h1 λi j hi hj=>h2 i j ow hi hj
 | d+1,s,hs,A,h1,h2=>by
  obtain⟨t,t1,t2,t3⟩:=x4q (λi=>cd (A i)) n d s ow
  try dsimp only at t3
  by_cases e:s=t
  ·exact q51 Q cd hB d (s+1) ow A h1 λi j hi hij hj=>by
    grind
  ·rw[<- x1z A (show s<n by omega) t2 e]
   have at_:∀i,upd (upd A s (A t)) t (A s) i=A (if i=t then s else if i=s then t else i):=λi=>by
    funext j
    unfold upd
    grind
   refine q51 Q cd hB d (s+1) ow _ (λi hi=>?_) λi j hi hij hj=>?_
   all_goals grind
theorem x13 {A:Nat->Nat->Int} (h:∀i j,i<5->j<5->Bit (A i j)):(det 5 A).natAbs<=5:=
 q51 (n:=5) (λr=>∀j,j<5->Bit (r j)) (λr=>code4 (r 1) (r 2) (r 3) (r 4)) (B:=5) (λA h1 h2=>w2i (λi j hi hj=>h1 i hi j hj) λi hi=>h2 i (i+1) ow ow) 5 0 rfl A (λi hi j hj=>h i j hi hj) λi j hi=>absurd hi (zau _)
theorem wz5 {n B:Nat} (hB:∀A:Nat->Nat->Int,(∀i j,i<n->j<n->One (A i j))->(det n A).natAbs<=B):∀k,k<=n->∀A:Nat->Nat->Int,(∀i j,i<n->j<n->(A i j).natAbs<=1)->(∀i j,i<n->k<=i->j<n->A i j≠0)->(det n A).natAbs<=B
 | 0,_,A,h1,h2=>hB A λi j hi hj=>by
  have:=h1 i j hi hj
  have:=h2 i j hi (zae _) hj
  grind [One]
 | k+1,hk,A,h1,h2=>by
  have key:∀t,t<=n->∀v:Nat->Int,(∀j,j<n->(v j).natAbs<=1)->(∀j,j<n->t<=j->v j≠0)->(det n (upd A k v)).natAbs<=B:=λt=>by
   induction t with
   | zero=>
    intro _ v hv1 hv2
    refine wz5 hB k ow _ (λi j hi hj=>?_) λi j hi hki hj=>?_
    ·grind [upd]
    ·unfold upd; grind
   | succ t ih=>
    intro ht v hv1 hv2
    by_cases e:v t=0
    ·have a1:=ih ow (λj=>if j=t then 1 else v j) (λj hj=>by
      grind) (λj hj htj=>by
      grind)
     have a2:=ih ow (λj=>if j=t then -1 else v j) (λj hj=>by
      grind) (λj hj htj=>by
      grind)
     have e1:=qs2 n A k ow 1 1 (λj=>if j=t then 1 else v j) (λj=>if j=t then -1 else v j)
     have e2:=qs2 n A k ow 2 0 v v
     have e3:(λj=>(1:Int)*(if j=t then 1 else v j)+1*(if j=t then -1 else v j))=λj=>2*v j+0*v j:=by
      funext j
      grind
     rw[e3,e2] at e1
     omega
    grind
  have:=key n (zac _) (A k) (λj hj=>h1 k j ow hj) λj hj h5=>by omega
  grind [q2v]
theorem wo6 {n:Nat} (hn:n<=6) {A:Nat->Nat->Int} (h:∀i j,i<n->j<n->(A i j).natAbs<=1):(det n A).natAbs<=160:=by
 rcases zas n 5 with q | q
 ·have:=xl7 n h
  have hf:∀k:Fin 5,yz0 k.val<=160:=dc
  exact zam this (hf ⟨n,q⟩)
 ·rcases zas n 6 with q2 | q2
  ·obtain rfl:n=5:=ow
   exact zam (wz4 5 (zac _) A h λi j hi h5=>by omega) dc
  ·obtain rfl:n=6:=ow
   refine wz5 (n:=6) (B:=160) (λA hA=>?_) 6 (zac _) A h λi j hi h5=>by omega
   obtain⟨B,hB,e⟩:=x1x (n:=5) hA
   grind [x13]
open Go Go.RowKit Eng
theorem qx3:∀(N:Nat) {n:Nat} {f:Nat->Int} {τ:Nat->Nat},(∀q,q<N->τ q<n)->(∀q k,q<N->k<N->τ q=τ k->q=k)->(∀b,b<n->(∀q,q<N->τ q≠b)->f b=0)->sm n f=sm N λq=>f (τ q)
 | 0,n,f,τ,_,_,h=>qm0 λb hb=>h b hb λq hq=>absurd hq (zau _)
 | N+1,n,f,τ,h1,h2,h3=>by
  have e:sm n f=sm n (λb=>if b=τ N then 0 else f b)+sm n (λb=>if b=τ N then f b else 0):=by
   rw[<- q9h]
   refine qe2 λb _=>?_
   omega
  have ih:=qx3 N (n:=n) (f:=λb=>if b=τ N then 0 else f b) (τ:=τ) (λq hq=>h1 q ow) (λq k hq hk=>h2 q k ow ow) λb hb hq=>by
   grind
  rw[e,ih,qq6 (k:=τ N) (h1 N ow) λb _ hne=>zaj hne,zap rfl,sm]
  congr 1
  refine qe2 λq hq=>?_
  grind
theorem yh5 {n N j:Nat} {R:Nat->Nat->Int} {rows:List (List Int)} {P:List Int} (h:St n (N+1) R j rows P) (hP:P.length=N) (hid:∀q,q<N->nI P q=q) (hN:N<=6) (h1:∀a c,a<n->c<N->(R a c).natAbs<=1) (hy:∀a,a<n->(R a N).natAbs<=1000000) :
  ∃D:Int,D≠0/\D.natAbs<=160/\∀k,k<N->∃X:Int,X.natAbs<=960000000/\nI (nL rows k) N*D=X*nI (nL rows k) k:=by
 obtain⟨ρ,pv,τ,hE,t1,t2,t3,t4,t5,t6⟩:=h.tag
 have hpl:=h.pl
 have hcomb:∀k,k<N->∃(c:Int) (lam:Nat->Int),c≠0/\∀col,col<N+1->(sm N λq=>lam q*R (τ q) col)=c*nI (nL rows k) col:=λk hk=>by
  obtain⟨c,l,hc,hl,hs,_⟩:=hE.comb (τ k) (t1 k ow)
  refine⟨c,λq=>l (τ q),hc,λcol hcol=>?_⟩
  rw[<- t4 k ow col hcol,hl col hcol]
  refine(qx3 N (f:=λb=>l b*R b col) (λq hq=>t1 q ow) (λq k hq hk=>t2 q k ow ow) λb hb hq=>?_).symm
  try dsimp only
  obtain⟨i,hi,rfl⟩:=t3 b hb
  grind
 have hrow:∀k,k<N->∀col,col<N->nI (nL rows k) col=if k=col then nI (nL rows k) k else 0:=λk hk col hcol=>by
  by_cases q:k=col
  ·grind
  ·rw[zaj q]
   have:=(h.pos col ow).2.2.2.2 k ow q
   simp_all
 have hpp:∀k,k<N->0<nI (nL rows k) k:=λk hk=>by
  have:=(h.pos k ow).2.2.1
  grind [Int.toNat_natCast]
 obtain⟨A,hA⟩:∃A:Nat->Nat->Int,A=λi c=>R (τ i) c:=⟨_,rfl⟩
 have hD:det N A≠0:=x4o λk hk=>by
  obtain⟨c,lam,hc,hl⟩:=hcomb k hk
  refine⟨c*nI (nL rows k) k,lam,q05 hc (by grind),λcol hcol=>?_⟩
  rw[hA]
  try dsimp only
  rw[hl col ow,hrow k hk col hcol]
  by_cases q:k=col
  ·rw[zap q,zap q]
  ·rw[zaj q,zaj q,zbl]
 have hA1:∀i c,i<N->c<N->(A i c).natAbs<=1:=λi c hi hc=>by grind
 refine⟨det N A,hD,wo6 hN hA1,λk hk=>?_⟩
 obtain⟨c,lam,hc,hl⟩:=hcomb k hk
 obtain⟨E,hEd⟩:∃E:Nat->Int,∀r,E r=det N (upd A r λcol=>if k=col then 1 else 0):=⟨_,λ_=>rfl⟩
 have hEb:∀r,r<N->(E r).natAbs<=160:=λr hr=>by
  rw[hEd]
  refine wo6 hN λi col hi hcol=>?_
  unfold upd
  split
  ·show(if k=col then(1:Int) else 0).natAbs<=1
   split <;> decide
  ·exact hA1 i col hi hcol
 have hlam:∀r,r<N->lam r*det N A=(c*nI (nL rows k) k)*E r:=λr hr=>by
  have e1:=wo2 A hr lam N (zac _)
  rw[zap hr] at e1
  rw[<- e1,hEd]
  have e2:=qs2 N A r hr (c*nI (nL rows k) k) 0 (λcol=>if k=col then 1 else 0) (λ_=>0)
  have e3:=e2.trans (show(c*nI (nL rows k) k)*det N (upd A r λcol=>if k=col then 1 else 0)+0*det N (upd A r λ_=>0)=(c*nI (nL rows k) k)*det N (upd A r λcol=>if k=col then 1 else 0) by simp)
  rw[<- e3]
  refine qj4 N λi col hi hcol=>?_
  unfold upd
  by_cases q:i=r
  ·rw[zap q,zap q,hA]
   try dsimp only
   rw[hl col ow,hrow k hk col hcol]
   by_cases q2:k=col
   ·rw[zap q2,zap q2]; first | omega | simp | grind
   ·rw[zaj q2,zaj q2]; first | omega | simp | grind
  omega
 refine⟨sm N λr=>E r*R (τ r) N,?_,?_⟩
 ·refine zam (x1a (B:=160000000) λr hr=>?_) ow
  have:=q1v (hEb r hr) (hy _ (t1 r ow))
  omega
 ·have e1:=hl N ow
  have e2:c*(nI (nL rows k) N*det N A)=c*((sm N λr=>E r*R (τ r) N)*nI (nL rows k) k):=by
   have:det N A*(sm N λq=>lam q*R (τ q) N)=(c*nI (nL rows k) k)*sm N λr=>E r*R (τ r) N:=by
    rw[<- qk1,<- qk1]
    refine qe2 λr hr=>?_
    grind
   grind
  grind [Int.eq_of_mul_eq_mul_left]
theorem w8h {x p X D:Int} (hp:0<p) (hD:D≠0) (h:x*D=X*p):1<=(q5q x p).2/\(q5q x p).2.natAbs<=D.natAbs/\(q5q x p).1.natAbs<=X.natAbs/\gcdI (q5q x p).1 (q5q x p).2=1/\(q5q x p).1*D=X*(q5q x p).2:=by
 have hg:0<gcdI x p:=qn9 (.inr ow)
 have a1:gcdI x p*x.tdiv (gcdI x p)=x:=zbb (za9.1 (zby _ _))
 have b1:gcdI x p*p.tdiv (gcdI x p)=p:=zbb (za9.1 (zb0 _ _))
 have hco:Nat.Coprime (x.tdiv (gcdI x p)).natAbs (p.tdiv (gcdI x p)).natAbs:=by
  have e1:(x.tdiv (gcdI x p)).natAbs=x.natAbs / Nat.gcd x.natAbs p.natAbs:=zcm _ _
  have e2:(p.tdiv (gcdI x p)).natAbs=p.natAbs / Nat.gcd x.natAbs p.natAbs:=zcm _ _
  grind [Nat.coprime_div_gcd_div_gcd,Nat.gcd]
 unfold q5q
 try dsimp only
 generalize gcdI x p=g at *
 generalize x.tdiv g=a at *
 generalize p.tdiv g=d at *
 have hd:0<d:=q4t hg ow
 have e:a*D=X*d:=by
  have:g*(a*D-X*d)=0:=by grind
  have:=qc9 this ow
  omega
 have en:a.natAbs*D.natAbs=X.natAbs*d.natAbs:=by rw[<- zbp,<- zbp,e]
 refine⟨ow,?_,?_,?_,e⟩
 ·exact zc9 ow (hco.symm.dvd_of_dvd_mul_left ⟨X.natAbs,by grind⟩)
 ·rcases zbs X.natAbs with q | q
  ·simp_all [Nat.zero_mul,Nat.mul_eq_zero,q2]
  ·exact zc9 q (hco.dvd_of_dvd_mul_right ⟨D.natAbs,ow⟩)
 ·show((Nat.gcd a.natAbs d.natAbs:Nat):Int)=1
  omega
theorem x7l {r:Int × Int} (h1:1<=r.2) (h2:r.2.natAbs<=400) (h3:r.1.natAbs<=10000000000) (h4:gcdI r.1 r.2=1):q7j r=true:=by
 unfold q7j
 grind
def nR (x:List (Int × Int)) (i:Nat):Int × Int:=qf0 (.prod (.int .i64) (.int .i64)) x i
theorem q3t (x:List (Int × Int)) (i:Nat) (h:i<x.length):nR x i=x[i]:=qp5 (t:=.prod (.int .i64) (.int .i64)) x i h
theorem xm1 {m:List (List Int)} {y pix:List Int} (h:(qg9 m y pix).2=true):∃D:Int,0<D/\D<=160/\∀k,k<(qg9 m y pix).1.2.length->∃X:Int,X.natAbs<=960000000/\(nR (qg9 m y pix).1.2 k).1*D=X*(nR (qg9 m y pix).1.2 k).2/\q7j (nR (qg9 m y pix).1.2 k)=true/\(nR (qg9 m y pix).1.2 k).1≠0:=by
 have hI:=qu3 h
 have hA:=Asked.of hI.chk
 have hS:=qw5 hA
 have hst:=qs8 hS.toMat pix.length ow
 have hpl:=hst.pl
 have h6:=hA.msk.rows6
 unfold qg9 at h
 split at h
 ·cases h
 ·rename_i hno
  have ef:qg9 m y pix=((pix,(qy0 m pix y).1),true):=by simp_all [qg9,if_neg]
  have h0:(qy0 m pix y).2=0:=zaf λq=>hno (.inl q)
  have hz:((qy0 m pix y).1.any λr=>r.1==0)=false:=by
   grind
  have es:qy0 m pix y=w00 (qb5 (qb8 m pix y) pix.length).1 (qb5 (qb8 m pix y) pix.length).2 pix.length:=by unfold qy0; rw[zap hI.chk]; rfl
  have hasc:Asc pix.length (qb5 (qb8 m pix y) pix.length).2:=⟨λq hq=>⟨(hst.pos q hq).1,(hst.pos q hq).2.1⟩,hst.asc⟩
  have hle:=hasc.le
  rw[ef]
  have hr1:∀k,k<(qy0 m pix y).1.length->(nR (qy0 m pix y).1 k).1≠0:=λk hk=>by
   grind [q3t,List.any_eq_false,List.getElem_mem]
  show ∃D:Int,0<D/\D<=160/\∀k,k<(qy0 m pix y).1.length->∃X:Int,X.natAbs<=960000000/\(nR (qy0 m pix y).1 k).1*D=X*(nR (qy0 m pix y).1 k).2/\q7j (nR (qy0 m pix y).1 k)=true/\(nR (qy0 m pix y).1 k).1≠0
  rw[es] at hr1 h0 ⊢
  unfold w00 at hr1 h0 ⊢
  split at h0
  ·omega
  ·rename_i hn
   rw[zaj hn] at hr1 ⊢
   split at h0
   ·omega
   ·rename_i hl
    rw[zaj hl] at hr1 ⊢
    have hlen:(qb5 (qb8 m pix y) pix.length).2.length=pix.length:=ow
    have hid:=λq (hq:q<pix.length)=>hasc.id hlen hq
    obtain⟨D,d1,d2,hX⟩:=yh5 hst hlen hid ow (λa c ha hc=>hS.one a c ha hc) (λa ha=>hS.read a pix.length ha ow)
    obtain⟨s,hs,hsD⟩:∃s:Int,(s=1\/s=-1)/\0<s*D:=by
     rcases Int.lt_or_lt_of_ne d1 with q | q
     all_goals simp_all
    refine⟨s*D,hsD,by grind,λk hk=>?_⟩
    have hr1:=hr1 k hk
    dsimp only at hk hr1 ⊢
    rw[zay,List.length_range] at hk
    have eV:nR ((List.range (qb5 (qb8 m pix y) pix.length).2.length).map λk=>q81 (qb5 (qb8 m pix y) pix.length).1 (qb5 (qb8 m pix y) pix.length).2 pix.length k) k=q81 (qb5 (qb8 m pix y) pix.length).1 (qb5 (qb8 m pix y) pix.length).2 pix.length k:=by
     grind [q3t]
    have eV2:q81 (qb5 (qb8 m pix y) pix.length).1 (qb5 (qb8 m pix y) pix.length).2 pix.length k=q5q (nI (nL (qb5 (qb8 m pix y) pix.length).1 k) pix.length) (nI (nL (qb5 (qb8 m pix y) pix.length).1 k) k):=by
     have hp:=(hst.pos k hk).2.2.1
     grind [q81,Int.toNat_natCast,q9o]
    have hp:=(hst.pos k hk).2.2.1
    rw[hid k ow,zaq] at hp
    obtain⟨X,d3,d4⟩:=hX k ow
    obtain⟨q1,q2,q3,q4,q5⟩:=w8h hp d1 d4
    rw[eV,eV2] at hr1 ⊢
    exact⟨s*X,by grind,by grind,x7l q1 ow ow q4,hr1⟩
theorem xm2 {m:List (List Int)} {y pix:List Int} (h:(qg9 m y pix).2=true):∀r∈(qg9 m y pix).1.2,q7j r=true/\r.1≠0:=λr hr=>by
 obtain⟨D,_,_,hD⟩:=xm1 h
 obtain⟨k,hk,rfl⟩:=za6.1 hr
 obtain⟨X,_,_,h3⟩:=hD k hk
 rwa [q3t _ _ hk] at h3
def mkM (n W:Nat) (A:Nat->Nat->Int):List (List Int):=(List.range n).map λa=>(List.range W).map λc=>A a c
theorem xm3 {n W:Nat} (A:Nat->Nat->Int) {a:Nat} (ha:a<n):nL (mkM n W A) a=(List.range W).map λc=>A a c:=by
 grind [qp2,mkM]
theorem yh6 {n W:Nat} (A:Nat->Nat->Int) {a c:Nat} (ha:a<n) (hc:c<W):nI (nL (mkM n W A) a) c=A a c:=by
 grind [xm3,qg5]
theorem x7m (n W:Nat) (A:Nat->Nat->Int):Mat n W (mkM n W A):=⟨by simp[mkM],λi hi=>by grind [xm3]⟩
theorem w2j {n W:Nat} (A:Nat->Nat->Int) (h:n<W):∃z,Sol n W A z/\∃f,f<W/\z f≠0:=by
 have hM:=x7m n W A
 have hst:=qs8 hM W (zac _)
 have hpl:=hst.pl
 obtain⟨f,hf,hq⟩:=Asc.free (N:=W) (P:=(qb5 (mkM n W A) W).2) ow
 obtain⟨z,z1,z2,_⟩:=hst.free (zac _) hf hq λi h1 h2=>hst.zero i h1 h2 f hf
 refine⟨z,λa ha=>?_,f,hf,z2⟩
 rw[<- z1 a ha]
 grind [qe2,rowOf,yh6]
theorem x7n {n:Nat} {B:Nat->Nat->Int} {lam:Nat->Int} (h:∀j,j<n->(sm n λi=>lam i*B i j)=0) {r:Nat} (hr:r<n) (hl:lam r≠0):det n B=0:=by
 have h1:=wo2 B hr lam n (zac _)
 rw[zap hr] at h1
 have h2:det n (upd B r λj=>sm n λi=>lam i*B i j)=det n (upd B r λ_=>0):=qj4 n λi j hi hj=>by
  grind [upd]
 grind [q1x,qc9]
theorem x7o {n:Nat} {B:Nat->Nat->Int} {k l:Nat} (hk:k<n) (hl:l<n) (hne:k≠l) (h:∀i,i<n->B i k=B i l):det n B=0:=by
 obtain⟨z,z1,f,hf,z2⟩:=w2j (n:=n-1) (W:=n) (λa c=>B c (skp l a)) ow
 have e:∀j,j<n->j≠l->(sm n λi=>z i*B i j)=0:=λj hj hne=>by
  have h1:=z1 (if j<l then j else j-1) (by grind)
  have h2:skp l (if j<l then j else j-1)=j:=by
   by_cases q:j<l
   ·simp_all [if_pos,skp]
   ·rw[zaj q]; unfold skp; grind
  grind
 refine x7n (lam:=z) (λj hj=>?_) hf z2
 grind [qe2]
theorem x7p {n:Nat} {A:Nat->Nat->Int} (h:∀lam:Nat->Int,(∀j,j<n->(sm n λi=>lam i*A i j)=0)->∀i,i<n->lam i=0):det n A≠0:=by
 refine x4o λk hk=>?_
 obtain⟨z,z1,f,hf,z2⟩:=w2j (n:=n) (W:=n+1) (λj c=>if c<n then A c j else if k=j then 1 else 0) ow
 have e:∀j,j<n->(sm n λi=>z i*A i j)+(if k=j then 1 else 0)*z n=0:=λj hj=>by
  have h1:=z1 j hj
  simp_all [sm,if_neg,Nat.lt_irrefl,qe2,if_pos,Int.mul_comm]
 have hn:z n≠0:=λhz=>by
  have h2:=h z λj hj=>by
   grind
  grind
 refine⟨- z n,z,ow,λj hj=>?_⟩
 grind
def isP (P:List Int) (c:Nat):Prop:=∃q,q<P.length/\nI P q=(c:Int)
theorem wo7 {P:List Int} {c:Nat}:¬isP P c↔∀q,q<P.length->nI P q≠(c:Int):=
 ⟨λh q hq e=>h ⟨q,hq,e⟩,λh ⟨q,hq,e⟩=>h q hq e⟩
theorem St.isP_at {n W j:Nat} {R:Nat->Nat->Int} {rows:List (List Int)} {P:List Int} (h:St n W R j rows P) {k:Nat} (hk:k<P.length):isP P (nI P k).toNat:=⟨k,hk,by have:=(h.pos k hk).1; omega⟩
theorem St.row_eq {n W:Nat} {R:Nat->Nat->Int} {rows:List (List Int)} {P:List Int} (h:St n W R W rows P) {z:Nat->Int} (hz:Sol n W R z) {f:Nat} (hf:f<W) (hnp:¬isP P f) (h0:∀c,c<W->c≠f->¬isP P c->z c=0) {k:Nat} (hk:k<P.length) :
  nI (nL rows k) (nI P k).toNat*z (nI P k).toNat+nI (nL rows k) f*z f=0:=by
 have hpl:=h.pl
 have hp:=h.pos k hk
 have e:=(h.sol z).1 hz k ow
 unfold dt at e
 have hne:(nI P k).toNat≠f:=λq=>hnp (by rw[<- q]; exact h.isP_at hk)
 rw[q6q (k:=(nI P k).toNat) (l:=f) ow hf hne λc hc h1 h2=>?_] at e
 ·exact e
 ·try dsimp only
  by_cases q:isP P c
  ·obtain⟨q2,hq2,e2⟩:=q
   have:=(h.pos q2 hq2).2.2.2.2 k ow λe3=>h1 (by grind)
   grind
  grind
theorem St.sol_mk {n W:Nat} {R:Nat->Nat->Int} {rows:List (List Int)} {P:List Int} (h:St n W R W rows P) {z:Nat->Int} {f:Nat} (hf:f<W) (hnp:¬isP P f) (h0:∀c,c<W->c≠f->¬isP P c->z c=0)
  (hr:∀k,k<P.length->nI (nL rows k) (nI P k).toNat*z (nI P k).toNat+nI (nL rows k) f*z f=0):Sol n W R z:=by
 refine(h.sol z).2 λi hi=>?_
 unfold dt
 rcases zas i P.length with q | q
 ·have hp:=h.pos i q
  have hne:(nI P i).toNat≠f:=λq2=>hnp (by rw[<- q2]; exact h.isP_at q)
  rw[q6q (k:=(nI P i).toNat) (l:=f) ow hf hne λc hc h1 h2=>?_]
  ·grind
  ·try dsimp only
   by_cases q1:isP P c
   ·obtain⟨q2,hq2,e2⟩:=q1
    have:=(h.pos q2 hq2).2.2.2.2 i hi λe3=>h1 (by grind)
    grind
   grind
 ·exact qm0 λc hc=>by
   try dsimp only
   rw[h.zero i q hi c hc,zcb]
theorem St.piv_same {n W:Nat} {R:Nat->Nat->Int} {rows rows':List (List Int)} {P P':List Int} (h:St n W R W rows P) (h':St n W R W rows' P') {f:Nat} (hp:isP P f):isP P' f:=zaf λhn=>by
 obtain⟨k,hk,e⟩:=hp
 have hpk:=h.pos k hk
 rw[e,zaq] at hpk
 have hf:f<W:=ow
 have hpl':=h'.pl
 obtain⟨z,z1,z2,z3⟩:=h'.free (zac _) hf (wo7.1 hn) λi h1 h2=>h'.zero i h1 h2 f hf
 have zl:∀c,c<W->f<c->z c=0:=λc hc hfc=>by
  by_cases q:isP P' c
  ·obtain⟨q2,hq2,e2⟩:=q
   have h1:=h'.row_eq z1 hf hn (λc hc h1 h2=>z3 c hc h1 (wo7.1 h2)) hq2
   have h2:=h'.pos q2 hq2
   rw[e2,zaq] at h1 h2
   rw[h2.2.2.2.1 f hfc,zcb,ze4] at h1
   grind [qc9]
  grind [wo7]
 have hpl:=h.pl
 have h1:=(h.sol z).1 z1 k ow
 unfold dt at h1
 rw[qq6 (k:=f) hf λc hc hne=>?_] at h1
 ·grind [absurd,qc9]
 grind
theorem St.basis {n W:Nat} {R:Nat->Nat->Int} {rows:List (List Int)} {P:List Int} (h:St n W R W rows P):∃τ:Nat->Nat,(∀i,i<P.length->τ i<n)/\∀k,k<P.length->∃(c:Int) (lam:Nat->Int),c≠0/\∀col,col<W->(sm P.length λq=>lam q*R (τ q) col)=c*nI (nL rows k) col:=by
 obtain⟨ρ,pv,τ,hE,t1,t2,t3,t4,t5,t6⟩:=h.tag
 have hpl:=h.pl
 refine⟨τ,λi hi=>t1 i ow,λk hk=>?_⟩
 obtain⟨c,l,hc,hl,hs,_⟩:=hE.comb (τ k) (t1 k ow)
 refine⟨c,λq=>l (τ q),hc,λcol hcol=>?_⟩
 rw[<- t4 k ow col hcol,hl col hcol]
 refine(qx3 P.length (f:=λb=>l b*R b col) (λq hq=>t1 q ow) (λq k hq hk=>t2 q k ow ow) λb hb hq=>?_).symm
 grind
theorem St.minors {n W:Nat} {R:Nat->Nat->Int} {rows:List (List Int)} {P:List Int} (h:St n W R W rows P) (hn:n<=6) (h1:∀a c,a<n->c<W->(R a c).natAbs<=1) :
  ∃D:Int,D≠0/\D.natAbs<=160/\∀f,f<W->¬isP P f->∃w:Nat->Int,(∀k,k<P.length->(w k).natAbs<=160)/\∀k,k<P.length->nI (nL rows k) (nI P k).toNat*w k+nI (nL rows k) f*D=0:=by
 obtain⟨τ,t1,hcomb⟩:=h.basis
 have hpl:=h.pl
 have hpW:∀k,k<P.length->(nI P k).toNat<W:=λk hk=>by have:=h.pos k hk; omega
 have hrow:∀k,k<P.length->∀c,c<P.length->nI (nL rows k) (nI P c).toNat=if k=c then nI (nL rows k) (nI P k).toNat else 0:=λk hk c hc=>by
  by_cases q:k=c
  ·grind
  ·rw[zaj q]
   exact(h.pos c hc).2.2.2.2 k ow q
 have hpp:∀k,k<P.length->0<nI (nL rows k) (nI P k).toNat:=λk hk=>(h.pos k hk).2.2.1
 -- what all the first rows say is said by the reduced ones
 have tell:∀(m:Nat) (s:Nat->Nat) (w:Nat->Int),(∀c,c<m->s c<W)->(∀b,b<P.length->(sm m λc=>R (τ b) (s c)*w c)=0)->∀k,k<P.length->(sm m λc=>nI (nL rows k) (s c)*w c)=0:=λm s w hs hw k hk=>by
  obtain⟨c0,lam,hc0,hl⟩:=hcomb k hk
  refine qc9 (a:=c0) ?_ hc0
  rw[<- qk1]
  have e:(sm m λc=>c0*(nI (nL rows k) (s c)*w c))=sm m λc=>sm P.length λq=>lam q*(R (τ q) (s c)*w c):=qe2 λc hc=>by
   grind [Int.mul_assoc,Int.mul_comm,qk1,qe2]
  rw[e,xi9]
  refine qm0 λq hq=>?_
  try dsimp only
  rw[qk1,hw q hq,zbl]
 refine⟨det P.length λa b=>R (τ b) (nI P a).toNat,x7p λlam hlam k hk=>?_,wo6 ow λa b ha hb=>h1 _ _ (t1 b hb) (hpW a ha),λf hf hnp=>?_⟩
 ·have e:=tell P.length (λa=>(nI P a).toNat) lam hpW (λb hb=>by
   grind) k hk
  rw[qq6 (k:=k) hk λi hi hne=>by
   grind] at e
  grind [qc9]
 ·obtain⟨s,hs0,hsk⟩:∃s:Nat->Nat,s 0=f/\∀c,s (c+1)=(nI P c).toNat:=⟨λc=>match c with | 0=>f | c+1=>(nI P c).toNat,rfl,λ_=>rfl⟩
  have hsW:∀c,c<P.length+1->s c<W:=λc hc=>by
   cases c with
   | zero=>omega
   | succ c=>grind
  obtain⟨w,hw⟩:∃w:Nat->Int,∀c,w c=sgn c*det P.length λa b=>R (τ b) (s (skp c a)):=⟨_,λ_=>rfl⟩
  have e0:w 0=det P.length λa b=>R (τ b) (nI P a).toNat:=by
   rw[hw,show sgn 0=1 from rfl,zex]
   refine qj4 _ λa b ha hb=>?_
   have:skp 0 a=a+1:=by rfl
   grind
  refine⟨λk=>w (k+1),λk hk=>?_,λk hk=>?_⟩
  ·try dsimp only
   rw[hw,zbp,wo3,zdq]
   grind [wo6,q9z]
  ·have e:=tell (P.length+1) s w hsW (λb hb=>by
    have hd:det (P.length+1) (λc j=>if j=0 then R (τ b) (s c) else R (τ (j-1)) (s c))=0:=x7o (k:=0) (l:=b+1) ow ow ow λi hi=>by
     rfl
    rw[det] at hd
    grind) k hk
   rw[q6q (k:=k+1) (l:=0) ow ow ow λc hc h2 h3=>?_] at e
   ·grind
   ·try dsimp only
    cases c with
    | zero=>omega
    | succ c=>grind
theorem St.piv_160 {n W:Nat} {R:Nat->Nat->Int} {rows:List (List Int)} {P:List Int} (h:St n W R W rows P) (hn:n<=6) (h1:∀a c,a<n->c<W->(R a c).natAbs<=1) {k:Nat} (hk:k<P.length):(nI (nL rows k) (nI P k).toNat).natAbs<=160:=by
 have hpl:=h.pl
 have hp:=h.pos k hk
 obtain⟨D,hD,hD2,hw⟩:=h.minors hn h1
 obtain⟨ρ,pv,τ,hE,t1,t2,t3,t4,t5,t6⟩:=h.tag
 rcases t6 k ow with⟨s,hs,e⟩ | e | e
 ·grind
 ·grind
 ·have hx:∀c,∃x:Int,c<W->D*nI (nL rows k) c=nI (nL rows k) (nI P k).toNat*x/\(c=(nI P k).toNat->x=D):=λc=>by
   by_cases q:c=(nI P k).toNat
   ·exact⟨D,λ_=>⟨by grind,λ_=>rfl⟩⟩
   ·by_cases q2:isP P c
    ·obtain⟨q3,hq3,e3⟩:=q2
     refine⟨0,λ_=>⟨?_,λq4=>absurd q4 q⟩⟩
     have:=(h.pos q3 hq3).2.2.2.2 k ow λq4=>q (by grind)
     rw[e3,zaq] at this
     grind
    ·by_cases q4:c<W
     ·obtain⟨w,_,w2⟩:=hw c q4 q2
      have:=w2 k hk
      exact⟨- w k,λ_=>⟨by grind,λq4=>absurd q4 q⟩⟩
     ·exact⟨0,λq5=>absurd q5 q4⟩
  obtain⟨x,hx⟩:=zbo hx
  have:=wx7 (W:=W) (r:=nI (nL rows k)) (s:=x) (α:=D) (β:=nI (nL rows k) (nI P k).toNat) hD (λc hc=>(hx c hc).1) e (nI P k).toNat ow
  grind
structure KV (n W:Nat) (R:Nat->Nat->Int) (P:List Int) (f:Nat) (v:List Int):Prop where
 len:v.length=W
 sol:Sol n W R (nI v)
 free:∀c,c<W->c≠f->¬isP P c->nI v c=0
 pos:0<nI v f
theorem KV.prim {n W:Nat} {R:Nat->Nat->Int} {P:List Int} {f:Nat} {v:List Int} (h:KV n W R P f v) (hf:f<W):KV n W R P f (qt9 v):=by
 have hl:=h.len
 have hg:0<max (gcdL v) 1:=ow
 have hm:∀c,c<W->max (gcdL v) 1*nI (qt9 v) c=nI v c:=λc hc=>qz2 v ow
 refine⟨by grind [qw3],λa ha=>?_,λc hc h1 h2=>?_,?_⟩
 ·have:=h.sol a ha
  refine qc9 (a:=max (gcdL v) 1) ?_ ow
  grind [qk1,qe2]
 ·have:=hm c hc
  rw[h.free c hc h1 h2] at this
  grind [qc9]
 ·have:=hm f hf
  have:=h.pos
  exact q4t hg ow
theorem KV.trans {n W:Nat} {R:Nat->Nat->Int} {P P':List Int} {f:Nat} {v:List Int} (h:KV n W R P f v) (hP:∀c,isP P c↔isP P' c):KV n W R P' f v:=
 ⟨h.len,h.sol,λc hc h1 h2=>h.free c hc h1 λq=>h2 ((hP c).1 q),h.pos⟩
theorem KV.cross {n W:Nat} {R:Nat->Nat->Int} {rows:List (List Int)} {P:List Int} (hs:St n W R W rows P) {f:Nat} (hf:f<W) (hnp:¬isP P f) {v u:List Int} (hv:KV n W R P f v) (hu:KV n W R P f u):∀c,c<W->nI u f*nI v c=nI v f*nI u c:=λc hc=>by
 by_cases q:c=f
 ·grind
 ·by_cases q2:isP P c
  ·obtain⟨k,hk,e⟩:=q2
   have a:=hs.row_eq hv.sol hf hnp hv.free hk
   have b:=hs.row_eq hu.sol hf hnp hu.free hk
   have hp:=(hs.pos k hk).2.2.1
   rw[e,zaq] at a b hp
   have:nI (nL rows k) c*(nI u f*nI v c-nI v f*nI u c)=0:=by grind
   grind [qc9]
  ·rw[hv.free c hc q q2,hu.free c hc q q2,zbl,zbl]
theorem Prim.gcd {v:List Int} {W f:Nat} (h:Prim v) (hl:v.length=W) (hf:f<W) (hp:0<nI v f):∀d:Nat,(∀c,c<W->d∣(nI v c).natAbs)->d=1:=by
 subst hl
 rcases h with h | h
 all_goals simp_all
theorem KV.uniq {n W:Nat} {R:Nat->Nat->Int} {rows:List (List Int)} {P:List Int} (hs:St n W R W rows P) {f:Nat} (hf:f<W) (hnp:¬isP P f) {v u:List Int} (hv:KV n W R P f v) (hu:KV n W R P f u) (pv:Prim v) (pu:Prim u):v=u:=by
 have hc:=hv.cross hs hf hnp hu
 have a:=wx7 (W:=W) (r:=nI v) (s:=nI u) (α:=nI u f) (β:=nI v f) (by have:=hu.pos; omega) hc (pv.gcd hv.len hf hv.pos)
 have b:=wx7 (W:=W) (r:=nI u) (s:=nI v) (α:=nI v f) (β:=nI u f) (by have:=hv.pos; omega) (λc h=>(hc c h).symm) (pu.gcd hu.len hf hu.pos)
 have hff:nI u f=nI v f:=by
  have:=a f hf; have:=b f hf; have:=hv.pos; have:=hu.pos; omega
 have h1:=hv.len
 have h2:=hu.len
 refine zbx ow λi hi hi2=>?_
 rw[<- qg5 v i hi,<- qg5 u i hi2]
 have:=hc i ow
 rw[hff] at this
 exact Int.eq_of_mul_eq_mul_left (by have:=hv.pos; omega) this
theorem KV.small {n W:Nat} {R:Nat->Nat->Int} {rows:List (List Int)} {P:List Int} (hs:St n W R W rows P) (hn:n<=6) (h1:∀a c,a<n->c<W->(R a c).natAbs<=1) {f:Nat} (hf:f<W) (hnp:¬isP P f) {v:List Int} (hv:KV n W R P f v) (pv:Prim v):∀x∈v,x.natAbs<=160:=by
 obtain⟨D,hD,hD2,hw⟩:=hs.minors hn h1
 obtain⟨w,w1,w2⟩:=hw f hf hnp
 have hx:∀c,∃x:Int,c<W->D*nI v c=nI v f*x/\x.natAbs<=160:=λc=>by
  by_cases q:c=f
  ·grind
  ·by_cases q2:isP P c
   ·obtain⟨k,hk,e⟩:=q2
    refine⟨w k,λ_=>⟨?_,w1 k hk⟩⟩
    have a:=hs.row_eq hv.sol hf hnp hv.free hk
    have b:=w2 k hk
    have hp:=(hs.pos k hk).2.2.1
    rw[e,zaq] at a b hp
    have:nI (nL rows k) c*(D*nI v c-nI v f*w k)=0:=by grind
    grind [qc9]
   ·exact⟨0,λhc=>⟨by rw[hv.free c hc q q2,zbl,zbl],dc⟩⟩
 obtain⟨x,hx⟩:=zbo hx
 have:=wx7 (W:=W) (r:=nI v) (s:=x) (α:=D) (β:=nI v f) hD (λc hc=>(hx c hc).1) (pv.gcd hv.len hf hv.pos)
 intro y hy
 obtain⟨c,hc,rfl⟩:=q9k hy
 have hl:=hv.len
 grind
theorem xm4 {P:List Int} {f:Nat}:(P.any λe=>(f:Int)==e)=true↔isP P f:=by
 rw[zbu]
 constructor
 ·rintro⟨x,hx,e⟩
  obtain⟨q,hq,rfl⟩:=q9k hx
  exact⟨q,hq,(beq_iff_eq.1 e).symm⟩
 ·rintro⟨q,hq,e⟩
  exact⟨nI P q,q9j hq,beq_iff_eq.2 e.symm⟩
theorem wz6 (P:List Int) (f:Nat):∀k,q85 P f k=true↔∀q,q<k->nI P q≠(f:Int)
 | 0=>⟨λ_ q hq=>absurd hq (zau _),λ_=>rfl⟩
 | k+1=>by
  rw[q85,zaz,wz6 P f k,bne_iff_ne]
  grind
theorem q52 {P:List Int} {f:Nat}:q85 P f P.length=true↔¬isP P f:=by rw[wz6,wo7]
def q09 (n f:Nat) (t:Int) (P:List Int) (val:Nat->Int):Nat->List Int
 | 0=>(List.replicate n 0).set f t
 | k+1=>(q09 n f t P val k).set (nI P k).toNat (val k)
theorem qz4 (n f:Nat) (t:Int) (P:List Int) (val:Nat->Int):∀k,(q09 n f t P val k).length=n
 | 0=>by simp[q09]
 | k+1=>by rw[q09,zba]; exact qz4 n f t P val k
theorem x4r (n c:Nat):nI (List.replicate n (0:Int)) c=0:=by
 grind [Nat.lt_or_ge,qg5,wn4]
theorem q94 {n f:Nat} {t:Int} {P:List Int} {val:Nat->Int} (hf:f<n) (hP:∀k,k<P.length->0<=nI P k/\nI P k<n) (hnp:¬isP P f):∀k,k<=P.length->nI (q09 n f t P val k) f=t
 | 0,_=>by rw[q09,q6s _ (by grind),zap rfl]
 | k+1,hk=>by
  have:=hP k ow
  rw[q09,q6s _ (by grind [qz4]),zaj λe=>hnp ⟨k,ow,ow⟩]
  exact q94 hf hP hnp k ow
theorem w2k {n f:Nat} {t:Int} {P:List Int} {val:Nat->Int} (hf:f<n) (hP:∀k,k<P.length->0<=nI P k/\nI P k<n) {c:Nat} (hc:c≠f) (hnp:¬isP P c):∀k,k<=P.length->nI (q09 n f t P val k) c=0
 | 0,_=>by simp_all [q09,q6s,if_neg,x4r]
 | k+1,hk=>by
  have:=hP k ow
  rw[q09,q6s _ (by grind [qz4]),zaj λe=>hnp ⟨k,ow,ow⟩]
  exact w2k hf hP hc hnp k ow
theorem w2l {n f:Nat} {t:Int} {P:List Int} {val:Nat->Int} (hP:∀k,k<P.length->0<=nI P k/\nI P k<n) (hinj:∀q k,q<P.length->k<P.length->nI P q=nI P k->q=k):∀k,k<=P.length->∀q,q<k->nI (q09 n f t P val k) (nI P q).toNat=val q
 | 0,_,q,hq=>absurd hq (zau _)
 | k+1,hk,q,hq=>by
  have h1:=hP k ow
  have h2:=hP q ow
  rw[q09,q6s _ (by grind [qz4])]
  rcases zaw.1 hq with e | e
  ·rw[zaj λe2=>by grind]
   exact w2l hP hinj k ow q e
  grind
theorem xm5 (r:List (List Int)) (P:List Int) (n f:Nat):∀k,hTo r P n f k=q09 n f (qf4 r P f P.length) P (λk=>((0-nI (nL r k) f)*qf4 r P f P.length).tdiv (nI (nL r k) (nI P k).toNat)) k
 | 0=>rfl
 | k+1=>by rw[hTo,q09,xm5 r P n f k]
theorem w47 (r:List (List Int)) (P:List Int) (n f:Nat):∀k,x6y r P n f k=q09 n f (q5s r P P.length) P (λk=>(0-nI (nL r k) f)*(q5s r P P.length).tdiv (w7z r P k)) k
 | 0=>rfl
 | k+1=>by rw[x6y,q09,w47 r P n f k]
theorem w2m (a b:Int):∃x,a=gcdI a b*x:=by
 have h:gcdI a b∣a:=za9.1 (zby _ _)
 exact h
theorem w2n (a b:Int):∃x,b=gcdI a b*x:=by
 have h:gcdI a b∣b:=za9.1 (zb0 _ _)
 exact h
theorem x4s {a d:Int} (ha:0<a) (hd:0<d):0<a*d.tdiv (gcdI a d)/\a∣a*d.tdiv (gcdI a d)/\d∣a*d.tdiv (gcdI a d)/\(a*d.tdiv (gcdI a d)).natAbs<=a.natAbs*d.natAbs/\a.tdiv (gcdI a d)*d=a*d.tdiv (gcdI a d):=by
 have hg:=qn9 (a:=a) (b:=d) (.inl ow)
 obtain⟨x,hx⟩:=w2m a d
 obtain⟨y,hy⟩:=w2n a d
 generalize gcdI a d=g at hg hx hy ⊢
 have e1:d.tdiv g=y:=by grind [Int.mul_tdiv_cancel_left]
 have e2:a.tdiv g=x:=by grind [Int.mul_tdiv_cancel_left]
 have hy0:0<y:=q4t hg ow
 rw[e1,e2]
 refine⟨zcc ha hy0,⟨y,rfl⟩,⟨x,by grind⟩,?_,by grind⟩
 rw[zbp]
 refine Nat.mul_le_mul_left _ ?_
 rw[<- e1]
 exact q2t _ _
theorem w48 {p r:Int} (hp:0<p):0<p.tdiv (gcdI p r)/\(p.tdiv (gcdI p r)).natAbs<=p.natAbs/\∀t,p.tdiv (gcdI p r)∣t->p∣(0-r)*t:=by
 have hg:=qn9 (a:=p) (b:=r) (.inl ow)
 obtain⟨x,hx⟩:=w2m p r
 obtain⟨y,hy⟩:=w2n p r
 refine⟨?_,q2t _ _,λt ht=>?_⟩
 ·generalize gcdI p r=g at hg hx hy ⊢
  rw[hx,zd8 _ ow]
  exact q4t hg ow
 ·generalize gcdI p r=g at hg hx hy ht
  rw[hx,zd8 _ ow] at ht
  obtain⟨u,hu⟩:=ht
  exact⟨- (y*u),by grind⟩
theorem q53 {r:List (List Int)} {P:List Int} {f:Nat} (hp:∀k,k<P.length->0<nI (nL r k) (nI P k).toNat/\(nI (nL r k) (nI P k).toNat).natAbs<=160):∀k,k<=P.length->0<qf4 r P f k/\(qf4 r P f k).natAbs<=160 ^ k/\∀q,q<k->q63 r P f q∣qf4 r P f k
 | 0,_=>⟨by show(0:Int)<1; decide,by show(1:Int).natAbs<=160 ^ 0; decide,λq hq=>absurd hq (zau _)⟩
 | k+1,hk=>by
  obtain⟨a1,a2,a3⟩:=q53 hp k ow
  obtain⟨b1,b2⟩:=hp k ow
  obtain⟨c1,c2,_⟩:=w48 (r:=nI (nL r k) f) b1
  change 0<q63 r P f k at c1
  change(q63 r P f k).natAbs<=_ at c2
  obtain⟨d1,d2,d3,d4,_⟩:=x4s a1 c1
  rw[qf4]
  refine⟨d1,?_,λq hq=>?_⟩
  ·rw[zdi]
   exact zam d4 (zbh a2 ow)
  grind [Nat.lt_succ_iff_lt_or_eq,Int.dvd_trans,d3]
theorem w49 {r:List (List Int)} {P:List Int} (hp:∀k,k<P.length->0<w7z r P k/\(w7z r P k).natAbs<=160):∀k,k<=P.length->0<q5s r P k/\(q5s r P k).natAbs<=160 ^ k/\∀q,q<k->w7z r P q∣q5s r P k
 | 0,_=>⟨by show(0:Int)<1; decide,by show(1:Int).natAbs<=160 ^ 0; decide,λq hq=>absurd hq (zau _)⟩
 | k+1,hk=>by
  obtain⟨a1,a2,a3⟩:=w49 hp k ow
  obtain⟨b1,b2⟩:=hp k ow
  obtain⟨d1,d2,d3,d4,d5⟩:=x4s a1 b1
  rw[q5s,d5]
  refine⟨d1,?_,λq hq=>?_⟩
  ·rw[zdi]
   exact zam d4 (zbh a2 b2)
  grind [Nat.lt_succ_iff_lt_or_eq,Int.dvd_trans,d3]
theorem x4t {k:Nat} (h:k<=6):160 ^ k<=16777216000000:=zam (zev dc h) dc
structure Ones (n W:Nat) (M:List (List Int)):Prop extends Mat n W M where
 n1:0<n
 n6:n<=6
 w1:0<W
 w:W<=1000
 one:∀a c,a<n->c<W->(nI (nL M a) c).natAbs<=1
theorem Ones.small {n W:Nat} {M:List (List Int)} (h:Ones n W M):Small n W W M:=⟨h.toMat,h.n6,zac _,h.w,h.one,λa c ha hc=>by have:=h.one a c ha hc; omega⟩
theorem Ones.rdW {n W:Nat} {M:List (List Int)} (h:Ones n W M):rdW M=W:=h.each 0 h.n1
theorem Ones.stP {n W:Nat} {M:List (List Int)} (h:Ones n W M):St n W (rowOf M) W (qb5 M W).1 (qb5 M W).2:=qs8 h.toMat W (zac _)
theorem Ones.stR {n W:Nat} {M:List (List Int)} (h:Ones n W M):St n W (rowOf M) W ((qh1 M W).done_++(qh1 M W).left) (qh1 M W).piv:=(q0v h.toMat W (zac _)).st
theorem Ones.at_ {n W:Nat} {M:List (List Int)} (h:Ones n W M) {k:Nat} (hk:k<(qh1 M W).piv.length):nL ((qh1 M W).done_++(qh1 M W).left) k=nL (qh1 M W).done_ k:=qn4 _ _ (by rw[(q0v h.toMat W (zac _)).cnt]; omega)
theorem Ones.redOk {n W:Nat} {M:List (List Int)} (h:Ones n W M):q5l M W W:=wx9 h.small
theorem Ones.pP {n W:Nat} {M:List (List Int)} (h:Ones n W M):∀k,k<(qb5 M W).2.length->0<nI (nL (qb5 M W).1 k) (nI (qb5 M W).2 k).toNat/\(nI (nL (qb5 M W).1 k) (nI (qb5 M W).2 k).toNat).natAbs<=160:=λk hk=>
 ⟨(h.stP.pos k hk).2.2.1,h.stP.piv_160 h.n6 h.one hk⟩
theorem Ones.pR {n W:Nat} {M:List (List Int)} (h:Ones n W M):∀k,k<(qh1 M W).piv.length->0<w7z (qh1 M W).done_ (qh1 M W).piv k/\(w7z (qh1 M W).done_ (qh1 M W).piv k).natAbs<=160:=λk hk=>by
 have h1:=(h.stR.pos k hk).2.2.1
 have h2:=h.stR.piv_160 h.n6 h.one hk
 rw[h.at_ hk] at h1 h2
 exact⟨h1,h2⟩
theorem Ones.kvP {n W:Nat} {M:List (List Int)} (h:Ones n W M) {f:Nat} (hf:f<W) (hnp:¬isP (qb5 M W).2 f):KV n W (rowOf M) (qb5 M W).2 f (hTo (qb5 M W).1 (qb5 M W).2 W f (qb5 M W).2.length):=by
 have hst:=h.stP
 have hP:∀k,k<(qb5 M W).2.length->0<=nI (qb5 M W).2 k/\nI (qb5 M W).2 k<W:=λk hk=>by have:=hst.pos k hk; omega
 have hT:=q53 (f:=f) h.pP _ (zac _)
 rw[xm5]
 have h0:∀c,c<W->c≠f->¬isP (qb5 M W).2 c->nI (q09 W f (qf4 (qb5 M W).1 (qb5 M W).2 f (qb5 M W).2.length) (qb5 M W).2 (λk=>((0-nI (nL (qb5 M W).1 k) f)*qf4 (qb5 M W).1 (qb5 M W).2 f (qb5 M W).2.length).tdiv (nI (nL (qb5 M W).1 k) (nI (qb5 M W).2 k).toNat)) (qb5 M W).2.length) c=0:=λc hc h1 h2=>w2k hf hP h1 h2 _ (zac _)
 refine⟨qz4 _ _ _ _ _ _,hst.sol_mk hf hnp h0 λk hk=>?_,h0,?_⟩
 ·rw[w2l hP (λq k hq hk=>hst.inj hq hk) _ (zac _) k hk,q94 hf hP hnp _ (zac _)]
  have hp:=(h.pP k hk).1
  have hd:=(w48 (r:=nI (nL (qb5 M W).1 k) f) hp).2.2 _ (hT.2.2 k hk)
  grind [Int.mul_tdiv_cancel']
 simp_all [q94,Nat.le_refl]
theorem Ones.kvR {n W:Nat} {M:List (List Int)} (h:Ones n W M) {f:Nat} (hf:f<W) (hnp:¬isP (qh1 M W).piv f):KV n W (rowOf M) (qh1 M W).piv f (x6y (qh1 M W).done_ (qh1 M W).piv W f (qh1 M W).piv.length):=by
 have hst:=h.stR
 have hP:∀k,k<(qh1 M W).piv.length->0<=nI (qh1 M W).piv k/\nI (qh1 M W).piv k<W:=λk hk=>by have:=hst.pos k hk; omega
 have hT:=w49 h.pR _ (zac _)
 rw[w47]
 have h0:∀c,c<W->c≠f->¬isP (qh1 M W).piv c->nI (q09 W f (q5s (qh1 M W).done_ (qh1 M W).piv (qh1 M W).piv.length) (qh1 M W).piv (λk=>(0-nI (nL (qh1 M W).done_ k) f)*(q5s (qh1 M W).done_ (qh1 M W).piv (qh1 M W).piv.length).tdiv (w7z (qh1 M W).done_ (qh1 M W).piv k)) (qh1 M W).piv.length) c=0:=λc hc h1 h2=>w2k hf hP h1 h2 _ (zac _)
 refine⟨qz4 _ _ _ _ _ _,hst.sol_mk hf hnp h0 λk hk=>?_,h0,?_⟩
 ·rw[w2l hP (λq k hq hk=>hst.inj hq hk) _ (zac _) k hk,q94 hf hP hnp _ (zac _),h.at_ hk]
  have hd:w7z (qh1 M W).done_ (qh1 M W).piv k*(q5s (qh1 M W).done_ (qh1 M W).piv (qh1 M W).piv.length).tdiv (w7z (qh1 M W).done_ (qh1 M W).piv k)=_:=zbb (hT.2.2 k hk)
  have e:nI (nL (qh1 M W).done_ k) (nI (qh1 M W).piv k).toNat=w7z (qh1 M W).done_ (qh1 M W).piv k:=rfl
  grind
 simp_all [q94,Nat.le_refl]
theorem Ones.piv {n W:Nat} {M:List (List Int)} (h:Ones n W M) (c:Nat):isP (qb5 M W).2 c↔isP (qh1 M W).piv c:=⟨h.stP.piv_same h.stR,h.stR.piv_same h.stP⟩
theorem Ones.ker {n W:Nat} {M:List (List Int)} (h:Ones n W M):∀f,f<=W->qp3 (qb5 M W).1 (qb5 M W).2 W f=q86 (qh1 M W).done_ (qh1 M W).piv W f
 | 0,_=>rfl
 | f+1,hf=>by
  have ih:=h.ker f ow
  rw[qp3,q86,ih]
  by_cases q:isP (qb5 M W).2 f
  ·rw[zap (xm4.2 q),zaj λq2=>q52.1 q2 ((h.piv f).1 q)]
  ·have q2:¬isP (qh1 M W).piv f:=λq3=>q ((h.piv f).2 q3)
   rw[zaj λq3=>q (xm4.1 q3),zap (q52.2 q2),q6r]
   have a:=(h.kvP ow q).prim ow
   have b:=((h.kvR ow q2).prim ow).trans λc=>(h.piv c).symm
   rw[a.uniq h.stP ow q b (qp0 _) (qp0 _)]
theorem Ones.kernel {n W:Nat} {M:List (List Int)} (h:Ones n W M):qp3 (qb5 M W).1 (qb5 M W).2 W W=qj8 M:=by
 rw[h.ker W (zac _)]
 unfold qj8 qu9
 rw[h.rdW]
theorem Ones.kerAr {n W:Nat} {M:List (List Int)} (h:Ones n W M):x0z (qb5 M W).1 (qb5 M W).2 W:=by
 have hB:BIG=4000000000000000000:=rfl
 have hst:=h.stP
 have hpl:=hst.pl
 have hn:=h.n6
 have hsm:=λ{k} (hk:k<(qb5 M W).2.length)=>(hst.small h.small (zac _) (i:=k) ow).1
 have hT:=λf=>q53 (f:=f) h.pP
 refine⟨λk hk=>?_,λk hk i hi=>?_,λf hf _ k hk=>?_,λf hf _ k hk=>?_⟩
 ·have:=(h.pP k hk).1; omega
 ·grind
 ·grind [x4t]
 ·obtain⟨a,b,_⟩:=hT f _ (zac _)
  have:=x4t (k:=(qb5 M W).2.length) ow
  have h1:=hsm hk f hf
  have:=q1v (a:=0-nI (nL (qb5 M W).1 k) f) (A:=46656) ow (zam b this)
  omega
def q95 (M:List (List Int)) (W:Nat):List Nat:=(List.range W).filter λc=>q85 (qh1 M W).piv c (qh1 M W).piv.length
theorem wi1 (d:List (List Int)) (P:List Int) (n:Nat):∀f,q86 d P n f=((List.range f).filter λc=>q85 P c P.length).map λc=>qt9 (x6y d P n c P.length)
 | 0=>rfl
 | f+1=>by
  rw[q86,wi1 d P n f,zdb,List.filter_append,List.map_append]
  grind
theorem Ones.kernel_map {n W:Nat} {M:List (List Int)} (h:Ones n W M):qj8 M=(q95 M W).map λc=>qt9 (x6y (qh1 M W).done_ (qh1 M W).piv W c (qh1 M W).piv.length):=by
 unfold qj8 qu9
 rw[h.rdW,wi1]
 rfl
theorem qz5 {M:List (List Int)} {W c:Nat}:c∈q95 M W↔c<W/\¬isP (qh1 M W).piv c:=by
 grind [q95,q52]
theorem Ones.one_free {n W:Nat} {M:List (List Int)} (h:Ones n W M) (h1:(qj8 M).length=1):∃f,f<W/\¬isP (qh1 M W).piv f/\(∀c,c<W->c≠f->isP (qh1 M W).piv c)/\KV n W (rowOf M) (qh1 M W).piv f (nL (qj8 M) 0)/\Prim (nL (qj8 M) 0):=by
 rw[h.kernel_map] at h1 ⊢
 rw[zay] at h1
 obtain⟨f,hf⟩:=zcr.1 h1
 have hm:f∈q95 M W:=by grind
 obtain⟨hfW,hnp⟩:=qz5.1 hm
 refine⟨f,hfW,hnp,λc hc hne=>zaf λq=>?_,?_,?_⟩
 ·have:c∈q95 M W:=qz5.2 ⟨hc,q⟩
  grind
 ·rw[hf]
  exact(h.kvR hfW hnp).prim hfW
 ·rw[hf]
  exact qp0 _
theorem Ones.ker_small {n W:Nat} {M:List (List Int)} (h:Ones n W M) {v:List Int} (hv:v∈qj8 M):v.length=W/\∀x∈v,x.natAbs<=160:=by
 rw[h.kernel_map] at hv
 obtain⟨f,hf,rfl⟩:=zbk.1 hv
 obtain⟨hfW,hnp⟩:=qz5.1 hf
 have hk:=(h.kvR hfW hnp).prim hfW
 exact⟨hk.len,hk.small h.stR h.n6 h.one hfW hnp (qp0 _)⟩
theorem Ones.one_mk {n W:Nat} {M:List (List Int)} (h:Ones n W M) {u:Nat->Int} (hu:Sol n W (rowOf M) u) (hu0:∀c,c<W->u c≠0) (hmin:∀z,Sol n W (rowOf M) z->(∃c,c<W/\z c=0)->∀c,c<W->z c=0):(qj8 M).length=1/\∀c,c<W->nI (nL (qj8 M) 0) c≠0:=by
 have hw:=h.w1
 have two:∀f g,f∈q95 M W->g∈q95 M W->f=g:=λf g hf hg=>zaf λhne=>by
  obtain⟨hfW,hfn⟩:=qz5.1 hf
  obtain⟨hgW,hgn⟩:=qz5.1 hg
  have hk:=h.kvR hfW hfn
  have:=hmin _ hk.sol ⟨g,hgW,hk.free g hgW (zdn hne) hgn⟩ f hfW
  have:=hk.pos
  omega
 have ex:∃f,f∈q95 M W:=zaf λhno=>by
  have hall:∀c,c<W->isP (qh1 M W).piv c:=λc hc=>zaf λq=>hno ⟨c,qz5.2 ⟨hc,q⟩⟩
  obtain⟨k,hk,e⟩:=hall 0 hw
  have hst:=h.stR
  have hpl:=hst.pl
  have hp:=hst.pos k hk
  have h1:=(hst.sol u).1 hu k ow
  unfold dt at h1
  rw[e,zaq] at hp
  rw[qq6 (k:=0) hw λc hc hne=>?_] at h1
  ·grind [qc9]
  ·try dsimp only
   obtain⟨q,hq,e2⟩:=hall c hc
   have:=(hst.pos q hq).2.2.2.2 k ow λe3=>hne (by grind)
   grind
 obtain⟨f,hf⟩:=ex
 have hnd:(q95 M W).Nodup:=List.nodup_range.filter _
 have h1:(q95 M W).length=1:=by
  match hl:q95 M W,hnd with
  | [],_=>grind
  | [a],_=>rfl
  | a :: b :: t,hnd=>
   have:=two a b (by grind) (by grind)
   grind
 have hk1:(qj8 M).length=1:=by rw[h.kernel_map,zay]; omega
 refine⟨hk1,λc hc q=>?_⟩
 obtain⟨f,hfW,hfn,_,hv,_⟩:=h.one_free hk1
 have:=hmin _ hv.sol ⟨c,hc,q⟩ f hfW
 have:=hv.pos
 omega
theorem qk8 {m:List (List Int)} {s:List Int} (hM:Mk m) (hs:Named (nL m 0).length s) (h1:0<s.length):Ones m.length s.length (qq9 m s):=by
 have hl:=hs.len
 have h10:=hM.pix10
 refine⟨⟨ww5 m s,λi hi=>by grind [qo0,ql6]⟩,hM.rows1,hM.rows6,h1,ow,λa c ha hc=>?_⟩
 rw[qo0 m s a ha,qu7 _ _ _ hc]
 have:=hs.at_ c hc
 have:=hM.small a ha (nI s c).toNat ow
 omega
theorem qv2 (m:List (List Int)) (s:List Int):q3p m s=qq9 m s:=by
 grind [q3p,qb3,qq9]
theorem xm6 {m:List (List Int)} {s:List Int} (hM:Mk m) (hs:Named (nL m 0).length s) (h1:0<s.length):qm9 m s=q0u m s:=by
 unfold qm9 qj9 q0u
 rw[qv2]
 exact(qk8 hM hs h1).kernel
theorem q7n {n k:Nat} {s:List Int} (h:s∈qf2 (n:Nat) (k:Nat)):Named n s/\s.length=k:=by
 have hl:=(q4u h).1
 unfold qf2 at h
 split at h
 ·have hc:=w4m h
  have he:=hc.len
  simp only[Int.toNat_natCast] at hc he
  have step:∀d i,i+d+1<k->nI s i<nI s (i+d+1):=λd=>by
   induction d with
   | zero=>intro i hi; have:=hc.asc (i+1) ow ow; grind
   | succ d ih=>
    intro i hi
    have h1:=ih i ow
    have h2:=hc.asc (i+(d+1)+1) ow ow
    grind
  refine⟨⟨λj hj=>?_,λi j hij hj=>?_⟩,hl⟩
  ·have h1:=hc.lo j ow
   have h2:=hc.hi j ow
   omega
  ·have:=step (j-i-1) i ow
   grind
 grind
theorem q96:∀(m k:Nat) (a:Int) (l:List Int),l.length=k->(∀i,i<k->a<=nI l i/\nI l i<a+m)->(∀i j,i<j->j<k->nI l i<nI l j)->l∈qq5 m k a
 | m,0,a,l,hl,_,_=>by
  grind [List.eq_nil_of_length_eq_zero,w7m]
 | 0,k+1,a,l,hl,hb,_=>by
  have:=hb 0 ow
  omega
 | m+1,k+1,a,l,hl,hb,ha=>by
  match l,hl with
  | x :: t,hl=>
  have hl:t.length=k:=by grind
  rw[qq5,zak,zbk]
  by_cases e:x=a
  ·refine .inl ⟨t,q96 m k (a+1) t hl (λi hi=>?_) (λi j hij hj=>ha (i+1) (j+1) ow ow),by rw[e]⟩
   have h1:=hb (i+1) ow
   have h2:=ha 0 (i+1) ow ow
   grind [qw1,q0r]
  ·refine .inr (q96 m (k+1) (a+1) (x :: t) ow (λi hi=>?_) ha)
   have h0:=hb 0 ow
   rw[q0r] at h0
   have h1:=hb i hi
   rcases zbs i with q | q
   all_goals grind [q0r]
theorem wz7 {n:Nat} {s:List Int} (h:Named n s):s∈qf2 (n:Nat) (s.length:Nat):=by
 have hl:=h.len
 unfold qf2
 rw[zap ow]
 refine q96 _ _ _ _ (by rfl) (λi hi=>?_) λi j hij hj=>h.asc i j hij ow
 rw[zaq] at hi
 have:=h.at_ i hi
 omega
theorem x7q {m:List (List Int)} (hv:qb7 m=true):wb6 m:=by
 have hM:=Mk.of hv
 have h1:=hM.pix1
 have h10:=hM.pix10
 refine⟨⟨?_⟩,λk hk set hset=>?_⟩
 ·have:=(qk8 hM (Named.idx _) (by grind [qg8])).redOk
  grind [qg8,qv2]
 ·obtain⟨hn,hl⟩:=q7n hset
  have hO:=qk8 hM hn ow
  refine⟨ChoOk.of hM hn λ_ _=>⟨trivial,zae _⟩,by rw[qv2]; exact hO.redOk,?_⟩
  unfold qj9
  rw[qv2]
  exact hO.kerAr
theorem q97 {n:Nat} {s v:List Int} (hs:Named n s):∀k,k<=s.length->∀j,j<k->nI (qg2 n s v k) (nI s j).toNat=nI v j
 | 0,_,j,hj=>absurd hj (zau _)
 | k+1,hk,j,hj=>by
  have h1:=hs.at_ k ow
  have h2:=hs.at_ j ow
  rw[qg2,q6s _ (by grind [ql8])]
  rcases zaw.1 hj with e | e
  ·have:=hs.asc j k e ow
   rw[zaj ow]
   exact q97 hs k ow j e
  grind
theorem wo8 {n:Nat} {s v:List Int} (hs:Named n s) {c:Nat} (hc:∀j,j<s.length->nI s j≠(c:Int)):∀k,k<=s.length->nI (qg2 n s v k) c=0
 | 0,_=>x4r n c
 | k+1,hk=>by
  have h1:=hs.at_ k ow
  have h2:=hc k ow
  rw[qg2,q6s _ (by grind [ql8]),zaj ow]
  exact wo8 hs hc k ow
theorem q98 {v:List Int}:∀k,k<=v.length->(wn3 v k=true↔∀c,c<k->nI v c≠0)
 | 0,_=>⟨λ_ c hc=>absurd hc (zau _),λ_=>rfl⟩
 | k+1,hk=>by
  rw[wn3,zaz,q98 k ow,bne_iff_ne]
  grind
theorem x2a {v:List Int}:(v.any λe=>(0:Int)==e)=false↔∀c,c<v.length->nI v c≠0:=by
 rw[zb1]
 constructor
 ·intro h c hc e
  have:=h _ (q9j hc)
  grind
 ·intro h x hx q
  obtain⟨c,hc,rfl⟩:=q9k hx
  grind
structure IsC (m:List (List Int)) (s:List Int):Prop where
 one:(q0u m s).length=1
 nz:∀c,c<s.length->nI (nL (q0u m s) 0) c≠0
theorem qz6 {m:List (List Int)} {s:List Int} (hM:Mk m) (hs:Named (nL m 0).length s) (hok:wb7 m s=true):wx3 m s=true↔IsC m s:=by
 have h1:0<s.length:=by
  unfold wb7 at hok
  grind
 have hO:=qk8 hM hs h1
 unfold wx3
 rw[hok,Bool.true_and,zaz,zbd]
 constructor
 ·rintro⟨a,b⟩
  have hl:=(hO.ker_small (qz0 (qj8 (qq9 m s)) 0 (by grind [q0u]))).1
  exact⟨a,(q98 _ (by show s.length<=(nL (qj8 (qq9 m s)) 0).length; omega)).1 b⟩
 ·intro h
  have hl:=(hO.ker_small (qz0 (qj8 (qq9 m s)) 0 (by have:=h.one; grind [q0u]))).1
  exact⟨h.one,(q98 _ (by show s.length<=(nL (qj8 (qq9 m s)) 0).length; omega)).2 h.nz⟩
theorem wz8 {m:List (List Int)} {s:List Int} (hM:Mk m) (hs:Named (nL m 0).length s) (h1:0<s.length):ww7 (qm9 m s)=true↔IsC m s:=by
 have hO:=qk8 hM hs h1
 rw[xm6 hM hs h1]
 unfold ww7
 rw[zaz,zbd,Bool.not_eq_true',x2a]
 constructor
 ·rintro⟨a,b⟩
  have hl:=(hO.ker_small (qz0 (qj8 (qq9 m s)) 0 (by grind [q0u]))).1
  exact⟨a,λc hc=>b c (by show c<(nL (qj8 (qq9 m s)) 0).length; omega)⟩
 ·intro h
  have hl:=(hO.ker_small (qz0 (qj8 (qq9 m s)) 0 (by have:=h.one; grind [q0u]))).1
  exact⟨h.one,λc hc=>h.nz c (by have:c<(nL (qj8 (qq9 m s)) 0).length:=hc; omega)⟩
theorem x7r {l:List Int} (h:∀d:Nat,(∀c,c<l.length->d∣(nI l c).natAbs)->d=1):qe6 l=l:=by
 have h1:(gcdL l).natAbs=1:=h _ λc hc=>(yg1 l 0).2.1 _ (q9j hc)
 unfold qe6
 grind
theorem xm7 (l:List Int):x0q l=q83 l (-1):=by
 refine zbx (by rw[wm5,qy9]) λi h1 h2=>?_
 rw[<- qg5 _ i h1,<- qg5 _ i h2,wx8,q7m]
 omega
theorem x7s {m:List (List Int)} {s:List Int} (hM:Mk m) (hs:Named (nL m 0).length s) (h1:0<s.length) (hc:IsC m s):ym2 m (nL m 0).length s=w74 m (nL m 0).length s:=by
 have hO:=qk8 hM hs h1
 obtain⟨f,hf,hnp,ho,hv,hp⟩:=hO.one_free hc.one
 have hnz:=hc.nz
 unfold ym2 w74 q9b
 rw[xm6 hM hs h1]
 change KV _ _ _ _ _ (nL (q0u m s) 0) at hv
 change Prim (nL (q0u m s) 0) at hp
 generalize nL (q0u m s) 0=v at *
 have hat:=λj (hj:j<s.length)=>q97 (v:=v) hs _ (zac _) j hj
 have ho2:∀c:Nat,(∀j,j<s.length->nI s j≠(c:Int))->nI (qg2 (nL m 0).length s v s.length) c=0:=λc hc=>wo8 hs hc _ (zac _)
 have hlen:=ql8 (nL m 0).length s v s.length
 generalize qg2 (nL m 0).length s v s.length=u at *
 have hsh:qe6 u=u:=x7r λd hd=>hp.gcd hv.len hf hv.pos d λc hc=>by
  have h2:=hs.at_ c hc
  grind
 have h0:=hs.at_ 0 h1
 have hfst:qx7 u=nI s 0:=by
  have:=wf6 (.int .i64) (λe=>e != 0) u (nI s 0).toNat ow (λi hi=>by
   have:nI u i=0:=ho2 i λj hj e=>by
    rcases zbs j with q | q
    ·grind
    ·have:=hs.asc 0 j q hj
     omega
   grind [nI]) (by
   simp_all [nI,bne_iff_ne])
  grind [qx7]
 simp_all [q8z,nI,if_pos,xm7,if_neg]
theorem q99 {N K:Nat} {A:Nat->Int} {σ:Nat->Nat} {w:Nat->Int} (hσ:∀q,q<K->σ q<N):(sm N λcol=>A col*sm K λq=>if σ q=col then w q else 0)=sm K λq=>A (σ q)*w q:=by
 have e:(sm N λcol=>A col*sm K λq=>if σ q=col then w q else 0)=sm N λcol=>sm K λq=>A col*if σ q=col then w q else 0:=qe2 λc hc=>by
  grind [qk1]
 rw[e,xi9]
 refine qe2 λq hq=>?_
 try dsimp only
 rw[qq6 (k:=σ q) (hσ q hq) λi hi hne=>by
  grind]
 simp
theorem x2b {m:List (List Int)} {s:List Int} (hM:Mk m) (hs:Named (nL m 0).length s) (h1:0<s.length):(qh1 (qq9 m s) s.length).piv.length<=(qj9 m (qq8 (nL m 0).length)).2.length:=zef λhgt=>by
 have hO:=qk8 hM hs h1
 have hF:=(qk8 hM (Named.idx (nL m 0).length) (by rw[qg8]; exact hM.pix1))
 have hstF:=hF.stP
 unfold qj9 at hgt
 rw[qv2] at hgt
 have hst:=hO.stR
 rw[qg8] at hstF hgt
 generalize qb5 (qq9 m (qq8 (nL m 0).length)) (nL m 0).length=F at hstF hgt
 obtain⟨rF,PF⟩:=F
 dsimp only at hstF hgt
 generalize(qh1 (qq9 m s) s.length).piv=P at hst hgt
 generalize(qh1 (qq9 m s) s.length).done_++(qh1 (qq9 m s) s.length).left=rows at hst
 have hpl:=hst.pl
 have hplF:=hstF.pl
 have hPs:∀q,q<P.length->(nI P q).toNat<s.length:=λq hq=>by have:=hst.pos q hq; omega
 have hσ:∀q,q<P.length->(nI s (nI P q).toNat).toNat<(nL m 0).length:=λq hq=>by have:=hs.at_ _ (hPs q hq); omega
 obtain⟨w,w1,q0,hq0,w2⟩:=w2j (n:=PF.length) (W:=P.length) (λk q=>nI (nL rF k) (nI s (nI P q).toNat).toNat) hgt
 have hF2:Sol m.length (nL m 0).length (rowOf (qq9 m (qq8 (nL m 0).length))) λcol=>sm P.length λq=>if(nI s (nI P q).toNat).toNat=col then w q else 0:=(hstF.sol _).2 λi hi=>by
  rcases zas i PF.length with q | q
  ·unfold dt
   rw[q99 hσ]
   exact w1 i q
  ·refine qm0 λc hc=>?_
   try dsimp only
   rw[hstF.zero i q hi c hc,zcb]
 have hsub:Sol m.length s.length (rowOf (qq9 m s)) λc=>sm P.length λq=>if(nI P q).toNat=c then w q else 0:=λa ha=>by
  rw[q99 hPs]
  have e1:=hF2 a ha
  rw[q99 hσ] at e1
  rw[<- e1]
  refine qe2 λq hq=>?_
  grind [rowOf,qo0,qu7,qg8,q5j,Int.toNat_natCast]
 have e:=(hst.sol _).1 hsub q0 ow
 unfold dt at e
 rw[q99 hPs,qq6 (k:=q0) hq0 λi hi hne=>by
  try dsimp only
  rw[(hst.pos i hi).2.2.2.2 q0 ow (zdn hne),zcb]] at e
 exact w2 (qc9 e (by have:=(hst.pos q0 hq0).2.2.1; omega))
theorem w5a {m:List (List Int)} {s:List Int} (hM:Mk m) (hs:Named (nL m 0).length s) (h1:0<s.length) (hc:IsC m s):s.length<=(qj9 m (qq8 (nL m 0).length)).2.length+1:=by
 have hO:=qk8 hM hs h1
 have hr:=x2b hM hs h1
 obtain⟨f,hf,hnp,ho,_,_⟩:=hO.one_free hc.one
 generalize(qh1 (qq9 m s) s.length).piv=P at *
 refine zef λhgt=>?_
 have hx:∀a,∃q,a<s.length-1->q<P.length/\nI P q=(skp f a:Int):=λa=>by
  by_cases ha:a<s.length-1
  ·obtain⟨q,hq,e⟩:=ho (skp f a) (by have:=q9z (n:=s.length-1) (i:=f) ha; omega) (x4n f a)
   grind
  ·exact⟨0,λq=>absurd q ha⟩
 obtain⟨g,hg⟩:=zbo hx
 obtain⟨i,j,k1,k2,k3⟩:=q9i P.length (s.length-1) g (λi hi=>(hg i hi).1) ow
 grind [skp]
def x9e (m:List (List Int)) (s:List Int):Option (List Int):=if ww7 (qm9 m s) then some (ym2 m (nL m 0).length s) else none
def w8i (m:List (List Int)) (s:List Int):Option (List Int):=if wx3 m s then some (w74 m (nL m 0).length s) else none
theorem wz9 (m:List (List Int)) (L:List (List Int)):∀c,c<=L.length->qt0 m (nL m 0).length L c=(L.take c).filterMap (x9e m)
 | 0,_=>rfl
 | c+1,hc=>by
  rw[qt0,q5k L c ow,zep,wz9 m L c ow]
  unfold x9e
  grind
def xm8 (m:List (List Int)) (k:Nat):List (List Int):=(qf2 (nL m 0).length (k:Nat)).filterMap (w8i m)
theorem w5b (m:List (List Int)):∀K,q3w m (nL m 0).length K=(List.range K).flatMap λ(k:Nat)=>(qf2 (nL m 0).length (k+1:Nat)).filterMap (x9e m)
 | 0=>rfl
 | K+1=>by
  rw[q3w,w5b m K,zdb,zcp,wz9 m _ _ (zac _),zeg]
  simp
theorem x7t {m:List (List Int)} {s:List Int} (hM:Mk m) (hs:Named (nL m 0).length s) (h1:0<s.length) (hr:s.length<=m.length+1):x9e m s=w8i m s:=by
 have hok:wb7 m s=true:=by
  unfold wb7
  rw[zaz,zbd,zbd]
  omega
 unfold x9e w8i
 by_cases q:IsC m s
 ·rw[zap ((wz8 hM hs h1).2 q),zap ((qz6 hM hs hok).2 q),x7s hM hs h1 q]
 ·rw[zaj λk=>q ((wz8 hM hs h1).1 k),zaj λk=>q ((qz6 hM hs hok).1 k)]
theorem xm9 {m:List (List Int)} (hM:Mk m):(qj9 m (qq8 (nL m 0).length)).2.length<=m.length:=by
 have hF:=(qk8 hM (Named.idx (nL m 0).length) (by rw[qg8]; exact hM.pix1))
 have:=hF.stP.pl
 unfold qj9
 rw[qv2]
 exact this
theorem xn0 {m:List (List Int)} (hM:Mk m) {k:Nat} (hk:q7k m<=k) (hn:k<(nL m 0).length):xm8 m (k+1)=[]:=by
 unfold xm8
 rw[List.filterMap_eq_nil_iff]
 intro s hs
 obtain⟨hN,hl⟩:=q7n hs
 unfold w8i
 rw[zaj]
 intro q
 have hok:wb7 m s=true:=by
  unfold wx3 at q
  rw[zaz,zaz] at q
  exact q.1.1
 have:=w5a hM hN ow ((qz6 hM hN hok).1 q)
 unfold q7k at hk
 omega
theorem w0a {f:Nat->List (List Int)} {K:Nat}:∀d,(∀k,K<=k->k<K+d->f k=[])->(List.range (K+d)).flatMap f=(List.range K).flatMap f
 | 0,_=>rfl
 | d+1,h=>by
  rw[<- zcn,zdb,zcp,w0a d λk h1 h2=>h k h1 ow]
  simp[h (K+d) ow ow]
theorem w5c {f g:List Int->Option (List Int)}:∀l:List (List Int),(∀x∈l,f x=g x)->l.filterMap f=l.filterMap g
 | [],_=>rfl
 | x :: l,h=>by rw[zdr,zdr,h x (by simp),w5c l λy hy=>h y (by simp[hy])]
theorem x2c {m:List (List Int)} (hv:qb7 m=true) (h7:(nL m 0).length<=7):q3w m (nL m 0).length (q7k m)=(List.range (nL m 0).length).flatMap λk=>xm8 m (k+1):=by
 have hM:=Mk.of hv
 have hcn:q7k m<=(nL m 0).length:=by unfold q7k; omega
 have e:=w0a (f:=λk=>xm8 m (k+1)) (K:=q7k m) ((nL m 0).length-q7k m) λk h1 h2=>xn0 hM h1 ow
 rw[show q7k m+((nL m 0).length-q7k m)=(nL m 0).length by omega] at e
 rw[e,w5b]
 have hr:=xm9 hM
 have key:∀K,K<=q7k m->((List.range K).flatMap λ(k:Nat)=>(qf2 (nL m 0).length (k+1:Nat)).filterMap (x9e m))=(List.range K).flatMap λk=>xm8 m (k+1):=λK=>by
  induction K with
  | zero=>exact λ_=>rfl
  | succ K ih=>
   intro hK
   rw[zdb,zcp,zcp,ih ow]
   congr 1
   simp only[List.flatMap_cons,List.flatMap_nil,List.append_nil]
   unfold xm8
   refine w5c _ λs hs=>?_
   obtain⟨hN,hl⟩:=q7n hs
   exact x7t hM hN ow (by unfold q7k at hK; omega)
 exact key _ (zac _)
def wa0:Nat->(Nat->Int)->Nat
 | 0,_=>0
 | k+1,d=>if d k≠0 then wa0 k d+1 else wa0 k d
theorem w5d (l:List Int):∀k,nzTo l k=wa0 k (nI l)
 | 0=>rfl
 | k+1=>by rw[nzTo,wa0,w5d l k]
theorem cnt_le {d e:Nat->Int}:∀k,(∀c,c<k->d c≠0->e c≠0)->wa0 k d<=wa0 k e
 | 0,_=>zac _
 | k+1,h=>by
  have ih:=cnt_le k λc hc=>h c ow
  rw[wa0,wa0]
  grind
theorem cnt_lt {d e:Nat->Int} {c0:Nat} (h1:d c0=0) (h2:e c0≠0):∀k,c0<k->(∀c,c<k->d c≠0->e c≠0)->wa0 k d<wa0 k e
 | k+1,hk,h=>by
  rw[wa0,wa0]
  by_cases q:c0=k
  ·have ih:=cnt_le (d:=d) (e:=e) k λc hc=>h c ow
   grind
  ·have ih:=cnt_lt h1 h2 k ow λc hc=>h c ow
   grind
def qt5:Nat->(Nat->Int)->List Int
 | 0,_=>[]
 | k+1,d=>if d k≠0 then qt5 k d++[(k:Int)] else qt5 k d
theorem q4w (d:Nat->Int):∀k,(qt5 k d).length=wa0 k d
 | 0=>rfl
 | k+1=>by
  rw[qt5,wa0]
  split
  ·rw[zav,q4w d k]; rfl
  ·exact q4w d k
theorem qh6 (d:Nat->Int):∀k,Named k (qt5 k d)/\∀j,j<(qt5 k d).length->d (nI (qt5 k d) j).toNat≠0
 | 0=>⟨⟨λj hj=>absurd hj (zau _),λi j _ hj=>absurd hj (zau _)⟩,λj hj=>absurd hj (zau _)⟩
 | k+1=>by
  obtain⟨h1,h2⟩:=qh6 d k
  rw[qt5]
  by_cases q:d k≠0
  ·rw[zap q]
   have hl:(qt5 k d++[(k:Int)]).length=(qt5 k d).length+1:=by simp
   refine⟨⟨λj hj=>?_,λi j hij hj=>?_⟩,λj hj=>?_⟩
   ·rw[hl] at hj
    rcases zaw.1 hj with e | e
    ·rw[qk2 _ _ e]; have:=h1.at_ j e; omega
    grind [qn3]
   ·rw[hl] at hj
    rw[qk2 _ _ (show i<(qt5 k d).length by omega)]
    rcases zaw.1 hj with e | e
    ·rw[qk2 _ _ e]; exact h1.asc i j hij e
    ·rw[e,qn3]; exact(h1.at_ i ow).2
   ·rw[hl] at hj
    rcases zaw.1 hj with e | e
    all_goals grind [qk2,qn3,Int.toNat_natCast]
  ·rw[zaj q]
   exact⟨⟨λj hj=>by have:=h1.at_ j hj; omega,h1.asc⟩,h2⟩
theorem qv0 (d:Nat->Int):∀k c,c<k->d c≠0->∃j,j<(qt5 k d).length/\nI (qt5 k d) j=(c:Int)
 | k+1,c,hc,hd=>by
  rw[qt5]
  by_cases q:c=k
  ·rw[zap (by grind)]
   grind [qt5,qn3]
  ·obtain⟨j,h1,h2⟩:=qv0 d k c ow hd
   split
   ·exact⟨j,by grind,by grind [qk2]⟩
   grind
theorem Named.inj {n:Nat} {s:List Int} (h:Named n s) {i j:Nat} (hi:i<s.length) (hj:j<s.length) (e:(nI s i).toNat=(nI s j).toNat):i=j:=by
 have h1:=h.at_ i hi
 have h2:=h.at_ j hj
 rcases zcv i j with q | q | q
 ·have:=h.asc i j q hj; omega
 ·exact q
 ·have:=h.asc j i q hi; omega
structure xv5 (m:List (List Int)) (s h:List Int):Prop where
 nam:Named (nL m 0).length s
 pos:0<s.length
 isc:IsC m s
 len:h.length=(nL m 0).length
 nz:wa0 (nL m 0).length (nI h)=s.length
 sol:Sol m.length (nL m 0).length (rowOf m) (nI h)
 on:∀j,j<s.length->nI h (nI s j).toNat≠0
 off:∀c,c<(nL m 0).length->(∀j,j<s.length->nI s j≠(c:Int))->nI h c=0
 small:∀c,(nI h c).natAbs<=160
theorem yh7 {N:Nat} {s:List Int} (hs:Named N s) {d:Nat->Int} (hon:∀j,j<s.length->d (nI s j).toNat≠0) (hoff:∀c,c<N->(∀j,j<s.length->nI s j≠(c:Int))->d c=0):wa0 N d=s.length:=by
 have h1:=(qh6 d N).1
 have h2:=(qh6 d N).2
 have h3:=qv0 d N
 rw[<- q4w]
 have sub:∀(s t:List Int),Named N s->Named N t->(∀j,j<s.length->∃i,i<t.length/\nI t i=nI s j)->s.length<=t.length:=λs t hs ht h=>zef λhgt=>by
  have hx:∀j,∃i,j<s.length->i<t.length/\nI t i=nI s j:=λj=>by
   grind
  obtain⟨g,hg⟩:=zbo hx
  obtain⟨i,j,k1,k2,k3⟩:=q9i t.length s.length g (λi hi=>(hg i hi).1) hgt
  have e1:=(hg i ow).2
  have e2:=(hg j k2).2
  rw[k3] at e1
  have:=hs.asc i j k1 k2
  omega
 refine Nat.le_antisymm (sub _ _ h1 hs λj hj=>?_) (sub _ _ hs h1 λj hj=>?_)
 ·have hb:=h1.at_ j hj
  grind
 ·have hb:=hs.at_ j hj
  grind
theorem xn1 {m:List (List Int)} {s:List Int} (hM:Mk m) (hs:Named (nL m 0).length s) (h1:0<s.length) (hc:IsC m s):xv5 m s (w74 m (nL m 0).length s):=by
 have hO:=qk8 hM hs h1
 obtain⟨f,hf,hnp,ho,hv,hp⟩:=hO.one_free hc.one
 have hsm:=(hO.ker_small (qz0 (qj8 (qq9 m s)) 0 (by have:=hc.one; grind [q0u]))).2
 have hnz:=hc.nz
 unfold w74 q9b
 change KV _ _ _ _ _ (nL (q0u m s) 0) at hv
 change Prim (nL (q0u m s) 0) at hp
 change ∀x∈nL (q0u m s) 0,_ at hsm
 generalize nL (q0u m s) 0=v at *
 have hat:=λj (hj:j<s.length)=>q97 (v:=v) hs _ (zac _) j hj
 have ho2:∀c:Nat,(∀j,j<s.length->nI s j≠(c:Int))->nI (qg2 (nL m 0).length s v s.length) c=0:=λc hc=>wo8 hs hc _ (zac _)
 have hlen:=ql8 (nL m 0).length s v s.length
 generalize qg2 (nL m 0).length s v s.length=u at *
 have hsW:∀c,c<s.length->(nI s c).toNat<(nL m 0).length:=λc hc=>by have:=hs.at_ c hc; omega
 have hsol:Sol m.length (nL m 0).length (rowOf m) (nI u):=λa ha=>by
  rw[qx3 s.length (f:=λc=>rowOf m a c*nI u c) (τ:=λc=>(nI s c).toNat) hsW (λq k hq hk e=>hs.inj hq hk e) λb hb hq=>by
   grind]
  rw[<- hv.sol a ha]
  grind [qe2,rowOf,qo0,qu7]
 have hsmall:∀c,(nI u c).natAbs<=160:=λc=>by
  by_cases q:∃j,j<s.length/\nI s j=(c:Int)
  ·obtain⟨j,hj,e⟩:=q
   have:=hat j hj
   rw[e,zaq] at this
   rw[this]
   exact hsm _ (q9j (by rw[hv.len]; omega))
  grind
 have both:∀h:List Int,h.length=u.length->∀sg:Int,(sg=1\/sg=-1)->(∀c,nI h c=nI u c*sg)->xv5 m s h:=λh hl sg hsg he=>by
  have hsg0:sg≠0:=ow
  have hon:∀j,j<s.length->nI h (nI s j).toNat≠0:=λj hj=>by
   grind
  have hoff:∀c,c<(nL m 0).length->(∀j,j<s.length->nI s j≠(c:Int))->nI h c=0:=λc hc hj=>by
   grind
  refine⟨hs,h1,hc,ow,yh7 hs hon hoff,λa ha=>?_,hon,hoff,λc=>?_⟩
  ·have e:=hsol a ha
   have e2:(sm (nL m 0).length λc=>rowOf m a c*nI h c)=sg*sm (nL m 0).length λc=>rowOf m a c*nI u c:=by
    grind [qk1,qe2]
   grind
  grind
 split
 ·exact both _ (qy9 _ _) (-1) (.inr rfl) λc=>q7m u (-1) c
 simp_all
theorem x2d {m:List (List Int)} (hM:Mk m) {k:Nat} {h:List Int} (hh:h∈xm8 m k):∃s,xv5 m s h/\s.length=k:=by
 unfold xm8 at hh
 rw[zcu] at hh
 obtain⟨s,hs,e⟩:=hh
 obtain⟨hN,hl⟩:=q7n hs
 unfold w8i at e
 split at e
 ·rename_i q
  obtain rfl:=zaa e
  have hok:wb7 m s=true:=by
   simp_all [wx3,Bool.and_eq_true]
  have h1:0<s.length:=by
   unfold wb7 at hok
   grind
  grind [xn1,qz6]
 grind
theorem x2e {m:List (List Int)} (hM:Mk m) {s:List Int} (hs:Named (nL m 0).length s) (h1:0<s.length) (hc:IsC m s):w74 m (nL m 0).length s∈xm8 m s.length:=by
 have hr:=w5a hM hs h1 hc
 have hr2:=xm9 hM
 have hok:wb7 m s=true:=by
  unfold wb7
  grind
 unfold xm8
 rw[zcu]
 refine⟨s,wz7 hs,?_⟩
 simp_all [w8i,if_pos,qz6]
theorem xn2 (a b:List Int):∀k,qs0 a b k=sm k λi=>nI a i*nI b i
 | 0=>rfl
 | k+1=>by rw[qs0,sm,xn2 a b k]
theorem w5e {m:List (List Int)} (hv:qb7 m=true) (h7:(nL m 0).length<=7):(qf1 m).1=(List.range (nL m 0).length).flatMap λk=>xm8 m (k+1):=by
 grind [qf1,q3w,nL,q7k,x2c]
theorem yh8 {m:List (List Int)} (hv:qb7 m=true) (h7:(nL m 0).length<=7) {h:List Int} (hh:h∈(qf1 m).1):∃s,xv5 m s h:=by
 rw[w5e hv h7,List.mem_flatMap] at hh
 obtain⟨k,_,hk⟩:=hh
 obtain⟨s,hs,_⟩:=x2d (Mk.of hv) hk
 grind
theorem x7u {m:List (List Int)} (hv:qb7 m=true) (h7:(nL m 0).length<=7) {s:List Int} (hs:Named (nL m 0).length s) (h1:0<s.length) (hc:IsC m s):∃h∈(qf1 m).1,xv5 m s h:=by
 refine⟨_,?_,xn1 (Mk.of hv) hs h1 hc⟩
 rw[w5e hv h7,List.mem_flatMap]
 have:=hs.len
 refine⟨s.length-1,za4.2 ow,?_⟩
 grind [x2e,Mk.of]
theorem wo9 {m:List (List Int)} (hv:qb7 m=true) {s h:List Int} (hc:xv5 m s h):HOk h:=by
 have:=(Mk.of hv).pix10
 refine⟨by rw[hc.len]; omega,λi=>?_⟩
 have:=hc.small i
 omega
theorem xn3 (h:List Int):∀k,wb1 h k=sm k λi=>qd6 (nI h i)
 | 0=>rfl
 | k+1=>by rw[wb1,xn3 h k]; rfl
theorem wa1 {n:Nat} {f:Nat->Int} (h:∀i,i<n->0<=f i):0<=sm n f:=by
 induction n with
 | zero=>exact zbr _
 | succ n ih=>
  grind [sm]
theorem xn4 {n:Nat} {f:Nat->Int} (h:∀i,i<n->0<=f i) {k:Nat} (hk:k<n) (hf:0<f k):0<sm n f:=by
 induction n with
 | zero=>omega
 | succ n ih=>
  have h2:=h n ow
  have h1:=wa1 (n:=n) λi hi=>h i ow
  grind [sm,Nat.lt_succ_iff_lt_or_eq]
theorem qo4 (x:Int):0<=qd6 x:=zb3 _
theorem yh9 {h:List Int} {i:Nat} (hi:i<h.length) (hx:nI h i≠0):0<szL h:=by
 unfold szL
 rw[xn3]
 refine xn4 (λi _=>qo4 _) hi ?_
 grind [qd6,nI]
theorem xn5 {m:List (List Int)} {s h:List Int} (hc:xv5 m s h):0<szL h:=by
 have h1:=hc.nam.at_ 0 hc.pos
 exact yh9 (i:=(nI s 0).toNat) (by rw[hc.len]; omega) (hc.on 0 hc.pos)
theorem x2f {l:List Int} {j:Nat} (h:j+1<l.length):(swp l j).Perm l:=by
 unfold swp
 rw[qg5 l j ow,qg5 l (j+1) h]
 grind
theorem w0b (f:Int->Int->Int):∀(j:Nat) (l:List Int),j<l.length->(q1w f j l).Perm l
 | 0,l,_=>List.Perm.refl l
 | j+1,l,h=>by
  rw[q1w]
  split
  ·exact(w0b f j (swp l j) (by grind [wn6])).trans (x2f h)
  rfl
theorem w5f (f:Int->Int->Int) (l:List Int):∀k,k<l.length\/k=0->(q0y f l k).Perm l
 | 0,_=>List.Perm.refl l
 | k+1,h=>by
  have h1:=(q2u f l k ow).1
  exact(w0b f (k+1) (q0y f l k) ow).trans (w5f f l k ow)
def q3u (f:Int->Int):List Int->Int
 | []=>0
 | x :: r=>f x+q3u f r
theorem w0c (f:Int->Int) {a b:List Int} (h:a.Perm b):q3u f a=q3u f b:=by
 induction h with
 | nil=>rfl
 | cons x _ ih=>grind [q3u]
 | swap x y l=>grind [q3u]
 | trans _ _ ih1 ih2=>omega
theorem wp0 (f:Int->Int):∀a b:List Int,q3u f (a++b)=q3u f a+q3u f b
 | [],b=>by simp[q3u]
 | x :: a,b=>by simp[q3u,wp0 f a b]; omega
def szV (h:List Int) (x:Int):Int:=qd6 (nI h x.toNat)
theorem xn6 (h:List Int) (p:List Int):inL h p=q3u (szV h) p:=by
 have:∀k,k<=p.length->qx8 h p k=q3u (szV h) (p.take k):=λk=>by
  induction k with
  | zero=>grind [qx8,q3u]
  | succ k ih=>
   intro hk
   have hs:p.take (k+1)=p.take k++[nI p k]:=by
    grind [List.take_add_one,List.getElem?_eq_getElem,qg5]
   rw[qx8,ih ow,hs,wp0]
   rfl
 simp_all [inL,Nat.le_refl,List.take_length]
theorem q7o {n:Nat} {p:List Int} (h:Named n p):p.Pairwise (· < ·):=by
 rw[zc1]
 intro i j hi hj hij
 have:=h.asc i j hij hj
 grind [qg5]
theorem w2o {n:Nat} {p:List Int} (h:p.Pairwise (· < ·)) (hb:∀x∈p,0<=x/\x<n):Named n p:=by
 refine⟨λj hj=>hb _ (q5y hj),λi j hij hj=>?_⟩
 grind [qg5,List.pairwise_iff_getElem]
theorem q4x {p:List Int} (h:p.Pairwise (· < ·)):p.Nodup:=h.imp λ{a b} q e=>by omega
theorem x4u (n:Nat):(qq8 n).Pairwise (· < ·):=q7o (Named.idx n)
theorem xn7 {n:Nat} {x:Int}:x∈qq8 n↔0<=x/\x<n:=by
 constructor
 ·intro hx
  obtain⟨i,hi,rfl⟩:=za6.1 hx
  rw[<- qg5 _ _ hi]
  grind [qg8,q5j]
 ·intro hx
  have:nI (qq8 n) x.toNat=x:=by grind [q5j]
  grind [q5y,qg8]
def x9g (h:List Int):List Int:=insL (q65 h) (qq8 h.length)
theorem w0d (h:List Int):(x9g h).Perm (qq8 h.length):=w5f _ _ _ ow
theorem w0e (h:List Int) (k:Nat):(qi7 h k).Perm ((x9g h).take k):=List.mergeSort_perm ..
theorem qz7 {h:List Int} {k:Nat}:Named h.length (qi7 h k):=by
 have hp:=w0e h k
 have hnd:(x9g h).Nodup:=(q4x (x4u _)).perm (w0d h).symm
 have hnd2:(qi7 h k).Nodup:=(hnd.sublist (List.take_sublist k _)).perm hp.symm
 have hsrt:(qi7 h k).Pairwise (·<=·):=by
  have:=zeb (le:=λx y:Int=>decide (x<=y)) (λa b c h1 h2=>by grind) (λa b=>by
   grind) ((x9g h).take k)
  exact this.imp λ{a b} q=>za3 q
 grind [w2o,xn7,w0d,List.mem_of_mem_take,List.Pairwise.imp₂]
theorem q7p (h:List Int) (k:Nat):inL h (qi7 h k)=q3u (szV h) ((x9g h).take k):=by grind [xn6,w0c,w0e]
theorem q29 {m:List (List Int)} (hM:Mk m):∀(K:Nat) (d:Nat->Int),wa0 (nL m 0).length d<=K->Sol m.length (nL m 0).length (rowOf m) d->(∃c,c<(nL m 0).length/\d c≠0)->∃s,Named (nL m 0).length s/\0<s.length/\IsC m s/\∀j,j<s.length->d (nI s j).toNat≠0
 | 0,d,hK,_,⟨c,hc,hd⟩=>by
  have:=cnt_lt (d:=λ_=>0) (e:=d) (c0:=c) rfl hd _ hc λc _ q=>absurd rfl q
  omega
 | K+1,d,hK,hs,⟨c1,hc1,hd1⟩=>by
  have hN:=(qh6 d (nL m 0).length).1
  have hnz:=(qh6 d (nL m 0).length).2
  have hin:=qv0 d (nL m 0).length
  have hl:=q4w d (nL m 0).length
  generalize qt5 (nL m 0).length d=s at hN hnz hin hl
  have h1:0<s.length:=by grind
  have hO:=qk8 hM hN h1
  by_cases hC:IsC m s
  ·grind
  ·have hsW:∀c,c<s.length->(nI s c).toNat<(nL m 0).length:=λc hc=>by have:=hN.at_ c hc; omega
   have hu:Sol m.length s.length (rowOf (qq9 m s)) λc=>d (nI s c).toNat:=λa ha=>by
    have e:=hs a ha
    rw[qx3 s.length (f:=λc=>rowOf m a c*d c) (τ:=λc=>(nI s c).toNat) hsW (λq k hq hk e=>hN.inj hq hk e) λb hb hq=>by
     grind] at e
    grind [qe2,rowOf,qo0,qu7]
   have hx:∃z,Sol m.length s.length (rowOf (qq9 m s)) z/\(∃c,c<s.length/\z c=0)/\∃c,c<s.length/\z c≠0:=zaf λhno=>by
    have:=hO.one_mk hu hnz λz hz h0 c hc=>zaf λq=>hno ⟨z,hz,h0,c,hc,q⟩
    exact hC ⟨this.1,this.2⟩
   obtain⟨z,hz,⟨c0,hc0,hz0⟩,c2,hc2,hz2⟩:=hx
   have hat:∀c,c<s.length->(sm s.length λq=>if(nI s q).toNat=(nI s c).toNat then z q else 0)=z c:=λc hc=>by
    rw[qq6 (k:=c) hc λi hi hne=>by
     try dsimp only
     rw[zaj λe=>hne (hN.inj hi hc e)]]
    simp
   have hoff:∀c,c<(nL m 0).length->(sm s.length λq=>if(nI s q).toNat=c then z q else 0)≠0->d c≠0:=λc hc hne q=>hne (qm0 λi hi=>by
    grind)
   have hlt:=cnt_lt (d:=λcol=>sm s.length λq=>if(nI s q).toNat=col then z q else 0) (e:=d) (c0:=(nI s c0).toNat) (by grind) (hnz c0 hc0) _ (hsW c0 hc0) hoff
   obtain⟨s',k1,k2,k3,k4⟩:=q29 hM K (λcol=>sm s.length λq=>if(nI s q).toNat=col then z q else 0) ow (λa ha=>by
    rw[q99 hsW]
    rw[<- hz a ha]
    grind [qe2,rowOf,qo0,qu7]) ⟨(nI s c2).toNat,hsW c2 hc2,by grind⟩
   exact⟨s',k1,k2,k3,λj hj=>hoff _ (by have:=k1.at_ j hj; omega) (k4 j hj)⟩
theorem xn8 {P:Nat->Prop} {x y:Nat->Int} (hx:∀i,P i->0<=x i) (hy:∀i,P i->0<y i):∀n,(∃i,i<n/\P i)->∃i,i<n/\P i/\∀k,k<n->P k->x i*y k<=x k*y i
 | 0,⟨i,hi,_⟩=>by omega
 | n+1,h=>by
  by_cases h0:∃i,i<n/\P i
  ·obtain⟨i,hi,hp,hm⟩:=xn8 hx hy n h0
   by_cases hn:P n/\x n*y i<x i*y n
   ·refine⟨n,ow,hn.1,λk hk hpk=>?_⟩
    rcases zaw.1 hk with e | e
    ·have h1:=hm k e hpk
     have h2:x n*y i*y k<=x i*y n*y k:=zai ow (by grind)
     have h3:x i*y k*y n<=x k*y i*y n:=zai h1 (by grind)
     have h4:y i*(x n*y k)<=y i*(x k*y n):=by
      grind
     simp_all
    grind
   grind
  grind
def sA (n:Nat) (d:Nat->Int):Int:=sm n λi=>qd6 (d i)
def sg (x:Int):Int:=if x<0 then -1 else 1
theorem x7v (x:Int):qd6 x=sg x*x:=by grind [qd6,sg]
theorem x7w {x:Int} {e:Int} (he:e=1\/e=-1) (h:0<=e*x):qd6 x=e*x:=by
 unfold qd6
 grind
theorem xn9 {x:Int} (h:qd6 x=0):x=0:=by grind [qd6]
theorem yi0 (x:Int):sg x=1\/sg x=-1:=by grind [sg]
theorem wa2 (n:Nat) (x y:Int) (f g:Nat->Int):sm n (λi=>x*f i+y*g i)=x*sm n f+y*sm n g:=by
 grind [q9h,qk1]
theorem w5g {m:List (List Int)} (hv:qb7 m=true):(qf1 m).1.length<=1000000:=by
 have hM:=Mk.of hv
 have h10:=hM.pix10
 grind [qf1,q3w,nL,q7k,wn0]
theorem q4y {m:List (List Int)} (hv:qb7 m=true) (h7:(nL m 0).length<=7) {i:Nat} (hi:i<(qf1 m).1.length):∃s,xv5 m s (nL (qf1 m).1 i):=yh8 hv h7 (qz0 _ _ hi)
theorem w8j {m:List (List Int)} (hv:qb7 m=true) {s h p:List Int} (hc:xv5 m s h) (hp:Named (nL m 0).length p):xv4 h p:=by
 have h10:=(Mk.of hv).pix10
 have hl:=hp.len
 exact⟨wo9 hv hc,ow,λj hj=>by rw[hc.len]; exact hp.at_ j hj,by have:=xn5 hc; omega⟩
theorem wi2 {m:List (List Int)} {s h:List Int} (hc:xv5 m s h) (k:Nat):Named (nL m 0).length (qi7 h k):=by
 have:=qz7 (h:=h) (k:=k)
 rwa [hc.len] at this
theorem x2g {m:List (List Int)} (h7:qb7 m=true->(nL m 0).length<=7):x1p m:=by
 refine⟨λhv=>x7q hv,λhv k hk=>⟨w5g hv,λi hi=>?_,λi hi=>?_⟩⟩
 ·obtain⟨s,hc⟩:=q4y hv (h7 hv) hi
  have hM:=Mk.of hv
  have m1:=hM.pix1
  have m10:=hM.pix10
  exact⟨wo9 hv hc,by rw[hc.len]; omega,by rw[hc.len]; omega,zb3 _,by rw[hc.len]; omega⟩
 grind [q4y,Int.toNat_natCast,w8j,wi2]
def leQ (a b:Int × Int):Prop:=a.1*b.2<=b.1*a.2
theorem w5h (a:Int × Int):leQ a a:=zbr _
theorem w0f {a b c:Int × Int} (ha:1<=a.2) (hb:1<=b.2) (hc:1<=c.2) (h1:leQ a b) (h2:leQ b c):leQ a c:=by
 unfold leQ at *
 have k1:a.1*b.2*c.2<=b.1*a.2*c.2:=zai h1 ow
 have k2:b.1*c.2*a.2<=c.1*b.2*a.2:=zai h2 ow
 refine zbw (a:=b.2) ?_ ow
 grind
theorem x2h {a:Int × Int} (h:q4v a):leQ (0,1) a:=by
 have:=h.n.1
 grind [leQ]
theorem w5i {a b:Int × Int}:0<w4y a b↔b.1*a.2<a.1*b.2:=by
 grind [w4y]
theorem top_le {a b:Int × Int}:leQ a (w2e a b)/\leQ b (w2e a b):=by
 unfold w2e
 split
 ·rename_i h
  exact⟨ze5 (w5i.1 h),w5h b⟩
 ·rename_i h
  refine⟨w5h a,zbj.1 λq=>h (w5i.2 q)⟩
theorem yz2 {h1 h2 p1 p2:List Int} (k1:xv4 h1 p1) (k2:xv4 h2 p2) (h:inL h1 p1*szL h2<=inL h2 p2*szL h1):leQ (shR h1 p1) (shR h2 p2):=by
 have l1:=q9u k1
 have l2:=q9u k2
 have s1:=q9t k1.ok k1.ne
 have s2:=q9t k2.ok k2.ne
 unfold leQ
 have q1:=l1.eq
 have q2:=l2.eq
 have b1:=l1.pos
 have b2:=l2.pos
 generalize shR h1 p1=a at *
 generalize shR h2 p2=b at *
 generalize inL h1 p1=x at *
 generalize inL h2 p2=y at *
 generalize szL h1=u at *
 generalize szL h2=v at *
 have hb:x*v*(a.2*b.2)<=y*u*(a.2*b.2):=zai h (by have:=zcc (a:=a.2) (b:=b.2) ow ow; omega)
 refine zbw (a:=u*v) ?_ (zcc s1 s2)
 have e1:u*v*(a.1*b.2)=x*v*(a.2*b.2):=by
  grind
 have e2:u*v*(b.1*a.2)=y*u*(a.2*b.2):=by
  grind
 omega
theorem q1y {l:List (List Int)} {n:Nat} (h:wb9 l n):∀k,k<=l.length->(∀i,i<k->leQ (shR (nL l i) (qi7 (nL l i) n)) (qj0 l n k))/\(qj0 l n k=(0,1)\/∃i,i<k/\qj0 l n k=shR (nL l i) (qi7 (nL l i) n))
 | 0,_=>⟨λi hi=>by omega,.inl rfl⟩
 | k+1,hk=>by
  obtain⟨h1,h2⟩:=q1y h k ow
  have t:=top_le (a:=qj0 l n k) (b:=shR (nL l k) (qi7 (nL l k) n))
  have hs:=λi hi=>h.shr i hi
  have hl:=λj (hj:j<=l.length)=>qt1 h j hj
  simp only[Int.toNat_natCast] at hs hl
  refine⟨λi hi=>?_,?_⟩
  ·rcases zaw.1 hi with e | e
   ·exact w0f (w4z (hs i ow)).pos (hl k ow).pos (hl (k+1) hk).pos (h1 i e) t.1
   ·subst e; exact t.2
  ·show w2e (qj0 l n k) (shR (nL l k) (qi7 (nL l k) n))=(0,1)\/∃i,i<k+1/\w2e (qj0 l n k) (shR (nL l k) (qi7 (nL l k) n))=shR (nL l i) (qi7 (nL l i) n)
   unfold w2e
   grind
theorem xo0 {x y:Int × Int} (hx:1<=x.2) (hy:1<=y.2) (h:leQ x y) (hf:hlf y=false):hlf x=false:=by
 unfold hlf at *
 rw[decide_eq_false_iff_not,zdm] at *
 unfold leQ at h
 have h1:2*y.1*x.2<y.2*x.2:=zds hf ow
 have h2:2*x.1*y.2<x.2*y.2:=by
  grind
 exact zdu h2 ow
def fT (x d:Int):Int:=if x=0 then qd6 d else if 0<x then d else -d
def fF (n:Nat) (x d:Nat->Int):Int:=sm n λi=>fT (x i) (d i)
def w8k (n:Nat) (d e:Nat->Int):Prop:=∀i,i<n->0<=d i*e i
theorem x2i {a b:Int} (h:0<=a*b):qd6 (a+b)=qd6 a+qd6 b:=by
 unfold qd6
 rcases zcw a 0 with ha | ha | ha
 ·have hb:b<=0:=zbj.1 λq=>by have:=zbq ha q; omega
  omega
 ·omega
 ·have hb:0<=b:=zbj.1 λq=>by have:=zbi ha q; omega
  omega
theorem yi1 {x a b:Int} (h:0<=a*b):fT x (a+b)=fT x a+fT x b:=by
 grind [fT,x2i]
theorem q40 {a:Int} (b:Int) (h:0<=a):qd6 (a*b)=a*qd6 b:=by
 grind [qd6,Int.natAbs_mul,Int.natCast_mul,Int.natAbs_of_nonneg]
theorem yi2 {x a b:Int} (h:0<=a):fT x (a*b)=a*fT x b:=by
 grind [fT,q40,Int.mul_neg]
theorem x4v {n:Nat} {x d e:Nat->Int} (h:w8k n d e):fF n x (λi=>d i+e i)=fF n x d+fF n x e:=by
 unfold fF
 rw[<- q9h]
 exact qe2 λi hi=>yi1 (h i hi)
theorem w0g {n:Nat} {x d:Nat->Int} {a:Int} (h:0<=a):fF n x (λi=>a*d i)=a*fF n x d:=by
 grind [fF,qk1,qe2,yi2]
theorem w2p {n:Nat} {x d:Nat->Int} (h:∀i,i<n->d i=0):fF n x d=0:=by
 grind [fF,qm0,fT,qd6]
theorem yi3 (z:Int):0<=z*z:=by
 rcases zd0 0 z with q | q
 all_goals simp_all [Int.mul_nonneg,Int.mul_nonneg_of_nonpos_of_nonpos]
theorem xo1 {n:Nat} {d c:Nat->Int} (hex:∃i,i<n/\0<d i*c i) :
  ∃k,k<n/\0<d k*c k/\w8k n (λi=>qd6 (c k)*d i-qd6 (d k)*c i) d/\qd6 (c k)*d k-qd6 (d k)*c k=0/\0<qd6 (c k)/\0<qd6 (d k):=by
 obtain⟨k,hk,hpk,hmin⟩:=xn8 (P:=λi=>i<n/\0<d i*c i) (x:=λi=>qd6 (d i)) (y:=λi=>qd6 (c i)) (λi _=>qo4 _) (λi hi=>by
  have:c i≠0:=λq=>by grind
  show 0<qd6 (c i)
  unfold qd6; omega) n (by grind)
 have hpk:=hpk.2
 have same:∀a b:Int,0<a*b->(0<a/\0<b)\/(a<0/\b<0):=λa b h=>by
  rcases zcw a 0 with q | q | q
  ·right; refine⟨q,zdm.1 λr=>?_⟩
   have:=Int.mul_nonpos_of_nonpos_of_nonneg (show a<=0 by omega) r; omega
  ·grind
  ·left; refine⟨q,zdm.1 λr=>?_⟩
   have:=za8 (show 0<=a by omega) r; omega
 refine⟨k,hk,hpk,λi hi=>?_,?_⟩
 ·show 0<=(qd6 (c k)*d i-qd6 (d k)*c i)*d i
  have e:(qd6 (c k)*d i-qd6 (d k)*c i)*d i=qd6 (c k)*(d i*d i)-qd6 (d k)*(d i*c i):=by grind
  rw[e]
  have h1:0<=qd6 (c k)*(d i*d i):=za5 (qo4 _) (yi3 _)
  rcases zc3 0 (d i*c i) with q | q
  ·have h2:qd6 (d k)*qd6 (c i)<=qd6 (d i)*qd6 (c k):=hmin i hi ⟨hi,q⟩
   have h3:0<=qd6 (d i):=qo4 _
   have h4:=zai h2 h3
   have e1:qd6 (d i)*qd6 (d i)=d i*d i:=by unfold qd6; rcases same _ _ q with r | r <;> rcases Int.natAbs_eq (d i) with w | w <;> grind
   have e2:qd6 (c i)*qd6 (d i)=d i*c i:=by
    rcases same _ _ q with r | r
    ·have a1:qd6 (d i)=d i:=by unfold qd6; omega
     have a2:qd6 (c i)=c i:=by unfold qd6; omega
     rw[a1,a2,ze3]
    ·have a1:qd6 (d i)=-d i:=by unfold qd6; omega
     have a2:qd6 (c i)=-c i:=by unfold qd6; omega
     rw[a1,a2]; grind
   have e3:qd6 (d k)*qd6 (c i)*qd6 (d i)=qd6 (d k)*(d i*c i):=by grind
   have e4:qd6 (d i)*qd6 (c k)*qd6 (d i)=qd6 (c k)*(d i*d i):=by rw[<- e1]; grind
   omega
  ·have h2:=za5 (qo4 (d k)) (show 0<=-(d i*c i) by omega)
   rw[Int.mul_neg] at h2
   omega
 grind [same,qd6]
theorem shrink {n:Nat} {d c:Nat->Int} (_:∀i,i<n->c i≠0->d i≠0) (hex:∃i,i<n/\0<d i*c i) :
  ∃k,k<n/\0<d k*c k/\w8k n (λi=>qd6 (c k)*d i-qd6 (d k)*c i) d/\qd6 (c k)*d k-qd6 (d k)*c k=0/\0<qd6 (c k)/\0<qd6 (d k):=xo1 hex
theorem w5j {m:List (List Int)} (hv:qb7 m=true) (h7:(nL m 0).length<=7) {x:Nat->Int} (hsafe:∀h∈(qf1 m).1,0<fF (nL m 0).length x (nI h)/\0<fF (nL m 0).length x (λi=>-(nI h i))) :
  ∀(K:Nat) (d:Nat->Int),wa0 (nL m 0).length d<=K->Sol m.length (nL m 0).length (rowOf m) d->(∃c,c<(nL m 0).length/\d c≠0)->0<fF (nL m 0).length x d
 | 0,d,hK,_,⟨c,hc,hd⟩=>by
  have:=cnt_lt (d:=λ_=>0) (e:=d) (c0:=c) rfl hd _ hc λc _ q=>absurd rfl q
  omega
 | K+1,d,hK,hs,hne=>by
  obtain⟨s,hsN,hs1,hsC,hsd⟩:=q29 (Mk.of hv) _ d (zac _) hs hne
  obtain⟨h,hh,hc⟩:=x7u hv h7 hsN hs1 hsC
  have hsf:=hsafe h hh
  have hsup:∀i,i<(nL m 0).length->nI h i≠0->d i≠0:=λi hi hne=>by
   refine zaf λq=>hne (hc.off i hi λj hj e=>hsd j hj ?_)
   grind
  have hcnz:∃c,c<(nL m 0).length/\nI h c≠0:=⟨(nI s 0).toNat,by have:=hsN.at_ 0 hs1; omega,hc.on 0 hs1⟩
  have hcs:=hc.sol
  generalize hcf:nI h=c at *
  have ih:=w5j hv h7 hsafe K
  generalize hn:(nL m 0).length=n at *
  -- what is left of d,one coordinate fewer
  have part:∀e:Nat->Int,(∀i,i<n->e i≠0->d i≠0)->Sol m.length n (rowOf m) e->(∃i,i<n/\0<d i*e i) ->
    ∃a b:Int,0<a/\0<b/\w8k n (λi=>a*d i-b*e i) d/\(0<fF n x (λi=>a*d i-b*e i)\/∀i,i<n->a*d i-b*e i=0):=λe hsup hes hex=>by
   obtain⟨k,hk,hpk,hcons,hz,hp1,hp2⟩:=shrink hsup hex
   refine⟨qd6 (e k),qd6 (d k),hp1,hp2,hcons,?_⟩
   by_cases hnz:∃i,i<n/\qd6 (e k)*d i-qd6 (d k)*e i≠0
   ·left
    refine ih _ ?_ (λa ha=>?_) hnz
    ·have hdk:d k≠0:=λq=>by grind
     have:=cnt_lt (d:=λi=>qd6 (e k)*d i-qd6 (d k)*e i) (e:=d) (c0:=k) hz hdk n hk λi hi q=>by
      grind
     omega
    ·have h1:=hs a ha
     have h2:=hes a ha
     have e1:sm n (λi=>rowOf m a i*(qd6 (e k)*d i-qd6 (d k)*e i))=qd6 (e k)*sm n (λi=>rowOf m a i*d i)+(-qd6 (d k))*sm n (λi=>rowOf m a i*e i):=by
      rw[<- wa2]
      grind
     grind
   grind
  have hneg:Sol m.length n (rowOf m) λi=>-(c i):=λa ha=>by
   have h2:=hcs a ha
   have e1:sm n (λi=>rowOf m a i * -(c i))=(-1)*sm n (λi=>rowOf m a i*c i):=by
    rw[<- qk1]; grind
   grind
  have sqn:∀z:Int,0<=z*z:=yi3
  have fin1:∀e:Nat->Int,w8k n e d->0<fF n x e->(∀i,i<n->e i≠0->d i≠0)->Sol m.length n (rowOf m) e->(∃i,i<n/\e i≠0)->0<fF n x d:=λe hcd hpos hsup hes ⟨i0,hi0,hne0⟩=>by
   have hd0:=hsup i0 hi0 hne0
   have hpos0:0<d i0*e i0:=by
    have h1:=hcd i0 hi0
    grind [Int.mul_comm,Int.mul_ne_zero]
   obtain⟨a,b,ha,hb,hcons,hor⟩:=part e hsup hes ⟨i0,hi0,hpos0⟩
   have hadd:fF n x (λi=>a*d i)=fF n x (λi=>a*d i-b*e i)+fF n x (λi=>b*e i):=by
    rw[<- x4v (x:=x) (d:=λi=>a*d i-b*e i) (e:=λi=>b*e i) λi hi=>by
     show 0<=(a*d i-b*e i)*(b*e i)
     have h1:=hcons i hi
     have h2:=hcd i hi
     have h1:0<=(a*d i-b*e i)*d i:=h1
     rcases zcw (d i) 0 with q | q | q
     ·have e1:a*d i-b*e i<=0:=zbj.1 λw=>by have:=zbi w q; omega
      have e2:e i<=0:=zbj.1 λw=>by have:=zbi w q; omega
      have e3:b*e i<=0:=za8 ow e2
      exact zc5 e1 e3
     ·grind
     ·have e1:0<=a*d i-b*e i:=zbj.1 λw=>by have:=zbq w q; omega
      have e2:0<=e i:=zbj.1 λw=>by have:=zbq w q; omega
      exact za5 e1 (za5 ow e2)]
    simp
   rw[w0g ow,w0g (a:=b) ow] at hadd
   have h1:0<b*fF n x e:=zcc hb hpos
   have h2:0<=fF n x (λi=>a*d i-b*e i):=by
    grind [w2p]
   have h3:0<a*fF n x d:=ow
   exact zdm.1 λw=>by have:=za8 (show 0<=a by omega) w; omega
  by_cases hp:∃i,i<n/\0<d i*c i
  ·by_cases hm:∃i,i<n/\0<d i * -(c i)
   ·obtain⟨a,b,ha,hb,hc1,ho1⟩:=part c hsup hcs hp
    obtain⟨a',b',ha',hb',hc2,ho2⟩:=part (λi=>-(c i)) (λi hi q=>hsup i hi λw=>q ow) hneg hm
    have hadd:fF n x (λi=>(a*b'+a' * b)*d i)=fF n x (λi=>b' * (a*d i-b*c i))+fF n x (λi=>b*(a' * d i-b' * -(c i))):=by
     rw[<- x4v (x:=x) (d:=λi=>b' * (a*d i-b*c i)) (e:=λi=>b*(a' * d i-b' * -(c i))) λi hi=>by
      show 0<=(b' * (a*d i-b*c i))*(b*(a' * d i-b' * -(c i)))
      have h1:0<=(a*d i-b*c i)*d i:=hc1 i hi
      have h2:0<=(a' * d i-b' * -(c i))*d i:=hc2 i hi
      rcases zcw (d i) 0 with q | q | q
      ·have e1:a*d i-b*c i<=0:=zbj.1 λw=>by have:=zbi w q; omega
       have e2:a' * d i-b' * -(c i)<=0:=zbj.1 λw=>by have:=zbi w q; omega
       exact zc5 (za8 ow e1) (za8 ow e2)
      ·grind
      ·have e1:0<=a*d i-b*c i:=zbj.1 λw=>by have:=zbq w q; omega
       have e2:0<=a' * d i-b' * -(c i):=zbj.1 λw=>by have:=zbq w q; omega
       exact za5 (za5 ow e1) (za5 ow e2)]
     grind
    have hT:0<a*b'+a' * b:=by have:=zcc ha hb'; have:=zcc ha' hb; omega
    rw[w0g ow,w0g (a:=b') ow,w0g (a:=b) ow] at hadd
    have n1:0<=fF n x (λi=>a*d i-b*c i):=by
     grind [w2p]
    have n2:0<=fF n x (λi=>a' * d i-b' * -(c i)):=by
     grind [w2p]
    have hsum:0<b' * fF n x (λi=>a*d i-b*c i)+b*fF n x (λi=>a' * d i-b' * -(c i)):=by
     have m1:=za5 (show 0<=b' by omega) n1
     have m2:=za5 (show 0<=b by omega) n2
     rcases ho1 with q | q
     ·have:=zcc hb' q; omega
     ·rcases ho2 with q2 | q2
      ·have:=zcc hb q2; omega
      ·obtain⟨i,hi,hdi⟩:=hne
       have e1:=q i hi
       have e2:=q2 i hi
       have e3:(a*b'+a' * b)*d i=b' * (a*d i-b*c i)+b*(a' * d i-b' * -(c i)):=by grind
       rw[e1,e2,zbl,zbl,ze4] at e3
       grind [absurd,Int.mul_ne_zero]
    rw[<- hadd] at hsum
    exact zdm.1 λw=>by have:=za8 (show 0<=a*b'+a' * b by omega) w; omega
   ·refine fin1 c (λi hi=>?_) hsf.1 hsup hcs hcnz
    grind
  ·refine fin1 (λi=>-(c i)) (λi hi=>?_) hsf.2 (λi hi q=>hsup i hi λw=>q ow) hneg ?_
   all_goals grind
def MkN (n W:Nat) (R:Nat->Nat->Int) (y:Nat->Int) (z:Nat->Int) (D:Int):Prop:=∀a,a<n->sm W (λc=>R a c*z c)=D*y a
def x7x (n W:Nat) (R:Nat->Nat->Int) (z:Nat->Int):Prop:=∀e:Nat->Int,Sol n W R e->(∀i,i<W->e i≠0->z i≠0)->∀i,i<W->e i=0
def sgS (W:Nat) (z e:Nat->Int):Int:=sm W λi=>sg (z i)*e i
theorem x7y (W:Nat) (z e:Nat->Int):sgS W z (λi=>-(e i))=-sgS W z e:=by
 unfold sgS
 have:sm W (λi=>sg (z i) * -(e i))=(-1)*sm W (λi=>sg (z i)*e i):=by
  rw[<- qk1]; grind
 grind
theorem yi4 {a b:Int} (ha:a≠0) (h:0<sg a*b):0<a*b:=by
 unfold sg at h
 split at h
 ·simp_all [Int.mul_pos_of_neg_of_neg]
 ·exact zcc ow ow
theorem w5k {n W:Nat} {R:Nat->Nat->Int} {y z e:Nat->Int} {D:Int} (hD:0<D) (hz:MkN n W R y z D) (he:Sol n W R e) (hsup:∀i,i<W->e i≠0->z i≠0) (hne:∃i,i<W/\e i≠0) (hs:0<=sgS W z e) :
  ∃(z':Nat->Int) (D':Int),0<D'/\MkN n W R y z' D'/\(∀i,i<W->z' i≠0->z i≠0)/\wa0 W z' < wa0 W z/\sA W z' * D<=sA W z*D':=by
 have hex:∃i,i<W/\0<z i*e i:=by
  refine zaf λq=>?_
  have hle:∀i,i<W->sg (z i)*e i<=0:=λi hi=>zbj.1 λw=>by
   by_cases h0:z i=0
   ·grind
   ·exact q ⟨i,hi,yi4 h0 w⟩
  obtain⟨i,hi,hei⟩:=hne
  have hlt:sg (z i)*e i<0:=by
   grind [sg,Int.mul_ne_zero,yi0]
  have h3:0<sm W λi=>-(sg (z i)*e i):=xn4 (λj hj=>by grind) hi ow
  grind [sm,sg,sgS,qk1,qe2]
 obtain⟨k,hk,hpk,hcons,hkz,hp1,hp2⟩:=shrink hsup hex
 refine⟨λi=>qd6 (e k)*z i-qd6 (z k)*e i,qd6 (e k)*D,zcc hp1 hD,λa ha=>?_,λi hi q w=>?_,?_,?_⟩
 ·have h1:=hz a ha
  have h2:=he a ha
  have e1:sm W (λi=>R a i*(qd6 (e k)*z i-qd6 (z k)*e i))=qd6 (e k)*sm W (λi=>R a i*z i)+(-qd6 (z k))*sm W (λi=>R a i*e i):=by
   rw[<- wa2]
   grind
  grind
 ·grind
 ·have hdk:z k≠0:=λq=>by grind
  exact cnt_lt (d:=λi=>qd6 (e k)*z i-qd6 (z k)*e i) (e:=z) (c0:=k) hkz hdk W hk λi hi q w=>by
   grind
 ·have h1:sA W (λi=>qd6 (e k)*z i-qd6 (z k)*e i)=qd6 (e k)*sA W z+(-qd6 (z k))*sgS W z e:=by
   unfold sA sgS
   rw[<- wa2]
   refine qe2 λi hi=>?_
   have hc:0<=(qd6 (e k)*z i-qd6 (z k)*e i)*z i:=hcons i hi
   show qd6 (qd6 (e k)*z i-qd6 (z k)*e i)=qd6 (e k)*qd6 (z i)+-qd6 (z k)*(sg (z i)*e i)
   by_cases h0:z i=0
   ·have:e i=0:=zaf λr=>hsup i hi r h0
    grind [qd6]
   ·have e2:qd6 (qd6 (e k)*z i-qd6 (z k)*e i)=sg (z i)*(qd6 (e k)*z i-qd6 (z k)*e i):=x7w (yi0 _) (by
     unfold sg
     split
     ·have:qd6 (e k)*z i-qd6 (z k)*e i<=0:=zbj.1 λw=>by have:=zbi w ‹z i<0›; omega
      omega
     ·have:0<=qd6 (e k)*z i-qd6 (z k)*e i:=zbj.1 λw=>by have:=zbq w (show 0<z i by omega); omega
      omega)
    grind [x7v]
  rw[h1]
  have h2:0<=qd6 (z k)*sgS W z e:=za5 ow hs
  have h3:qd6 (e k)*sA W z+-qd6 (z k)*sgS W z e<=qd6 (e k)*sA W z:=by grind
  have h4:=zai h3 (show 0<=D by omega)
  grind
theorem yi5 {n W:Nat} {R:Nat->Nat->Int} {y:Nat->Int}:∀(K:Nat) (z:Nat->Int) (D:Int),wa0 W z<=K->0<D->MkN n W R y z D ->
  ∃(b:Nat->Int) (E:Int),0<E/\MkN n W R y b E/\(∀i,i<W->b i≠0->z i≠0)/\x7x n W R b/\sA W b*D<=sA W z*E:=by
 intro K
 induction K with
 | zero=>
  intro z D hK hD hz
  refine⟨z,D,hD,hz,λ_ _ h=>h,λe _ hsup i hi=>zaf λq=>?_,zbr _⟩
  have:=cnt_lt (d:=λ_=>0) (e:=z) (c0:=i) rfl (hsup i hi q) W hi λc _ w=>absurd rfl w
  omega
 | succ K ih=>
  intro z D hK hD hz
  by_cases hI:x7x n W R z
  ·grind
  ·obtain⟨e,he,hsup,hne⟩:∃e:Nat->Int,Sol n W R e/\(∀i,i<W->e i≠0->z i≠0)/\∃i,i<W/\e i≠0:=by
    refine zaf λq=>hI λe h1 h2 i hi=>zaf λw=>q ⟨e,h1,h2,i,hi,w⟩
   obtain⟨z',D',h1,h2,h3,h4,h5⟩:∃(z':Nat->Int) (D':Int),0<D'/\MkN n W R y z' D'/\(∀i,i<W->z' i≠0->z i≠0)/\wa0 W z' < wa0 W z/\sA W z' * D<=sA W z*D':=by
    rcases zd0 0 (sgS W z e) with q | q
    ·grind [w5k]
    ·refine w5k (e:=λi=>-(e i)) hD hz (λa ha=>?_) (λi hi w=>hsup i hi λr=>w ow) ?_ (by grind [x7y])
     ·have h2:=he a ha
      have e1:sm W (λi=>R a i * -(e i))=(-1)*sm W (λi=>R a i*e i):=by
       rw[<- qk1]; grind
      grind
     grind
   obtain⟨b,E,b1,b2,b3,b4,b5⟩:=ih z' D' ow h1 h2
   refine⟨b,E,b1,b2,λi hi w=>h3 i hi (b3 i hi w),b4,?_⟩
   refine zbw (a:=D') ?_ h1
   have k1:=zai b5 (show 0<=D by omega)
   have k2:=zai h5 (show 0<=E by omega)
   grind
theorem yz3 {x d E:Int} (hE:0<E):E*qd6 x+fT x d<=qd6 (E*x+d):=by
 grind [fT,qd6,Int.mul_neg]
theorem xo2 {n W:Nat} {R:Nat->Nat->Int} {y x b:Nat->Int} {E:Int} (hgrow:∀d:Nat->Int,Sol n W R d->(∃i,i<W/\d i≠0)->0<fF W x d) (hx:MkN n W R y x 1) (hE:0<E) (hb:MkN n W R y b E) (hne:∃i,i<W/\b i≠E*x i):E*sA W x<sA W b:=by
 have hs:Sol n W R λi=>b i-E*x i:=λa ha=>by
  have h1:=hb a ha
  have h2:=hx a ha
  have e1:sm W (λi=>R a i*(b i-E*x i))=1*sm W (λi=>R a i*b i)+(-E)*sm W (λi=>R a i*x i):=by
   rw[<- wa2]; grind
  grind
 have hp:=hgrow _ hs (by grind)
 have hle:E*sA W x+fF W x (λi=>b i-E*x i)<=sA W b:=by
  unfold sA fF
  rw[<- qk1,<- q9h]
  have key:∀i,E*qd6 (x i)+fT (x i) (b i-E*x i)<=qd6 (b i):=λi=>by
   have h:=yz3 (x:=x i) (d:=b i-E*x i) hE
   grind
  have hnn:=wa1 (n:=W) (f:=λi=>qd6 (b i)-(E*qd6 (x i)+fT (x i) (b i-E*x i))) λi _=>by grind
  have e2:sm W (λi=>qd6 (b i)-(E*qd6 (x i)+fT (x i) (b i-E*x i)))=1*sm W (λi=>qd6 (b i))+(-1)*sm W (λi=>E*qd6 (x i)+fT (x i) (b i-E*x i)):=by
   rw[<- wa2]; grind
  grind
 omega
theorem x2j {n W:Nat} {R:Nat->Nat->Int} {x:Nat->Int} (hgrow:∀d:Nat->Int,Sol n W R d->(∃i,i<W/\d i≠0)->0<fF W x d):x7x n W R x:=λe he hsup i hi=>zaf λq=>by
 have h1:=hgrow e he ⟨i,hi,q⟩
 have h2:=hgrow (λi=>-(e i)) (λa ha=>by
  have h2:=he a ha
  have e1:sm W (λi=>R a i * -(e i))=(-1)*sm W (λi=>R a i*e i):=by
   rw[<- qk1]; grind
  grind) ⟨i,hi,λw=>q ow⟩
 have e3:fF W x (λi=>-(e i))=(-1)*fF W x e:=by
  unfold fF
  rw[<- qk1]
  refine qe2 λj hj=>?_
  by_cases h0:x j=0
  ·have:e j=0:=zaf λr=>hsup j hj r h0
   show fT (x j) (-(e j))=(-1)*fT (x j) (e j)
   rw[this]; unfold fT; rw[zap h0,zap h0]; rfl
  ·show fT (x j) (-(e j))=(-1)*fT (x j) (e j)
   unfold fT
   omega
 omega
theorem w2q {n W:Nat} {R:Nat->Nat->Int} {y x h:Nat->Int} (hx:MkN n W R y x 1) (hh:Sol n W R h) (hne:∃i,i<W/\h i≠0) (hf:fF W x h<=0) :
  ∃(b:Nat->Int) (E:Int),0<E/\MkN n W R y b E/\x7x n W R b/\(∃i,i<W/\b i≠E*x i)/\sA W b<=E*sA W x:=by
 have hex:∃i,i<W/\0<x i * -(h i):=by
  refine zaf λq=>?_
  have hnn:∀i,i<W->0<=fT (x i) (h i):=λi hi=>by
   have h1:¬0<x i * -(h i):=λw=>q ⟨i,hi,w⟩
   rw[Int.mul_neg] at h1
   unfold fT
   split
   ·exact qo4 _
   ·split
    ·exact zbj.1 λw=>by simp_all [Int.mul_neg_of_pos_of_neg]
    ·have hx0:x i<0:=ow
     have:h i<=0:=zbj.1 λw=>by simp_all [Int.mul_neg_of_neg_of_pos]
     omega
  obtain⟨i,hi,hhi⟩:=hne
  have hlt:0<fT (x i) (h i):=by
   grind [fT,xn9]
  have:=xn4 hnn hi hlt
  grind [fF]
 obtain⟨k,hk,hpk,hcons,hkz,hp1,hp2⟩:∃k,k<W/\0<x k * -(h k)/\w8k W (λi=>qd6 (-(h k))*x i-qd6 (x k) * -(h i)) x/\qd6 (-(h k))*x k-qd6 (x k) * -(h k)=0/\0<qd6 (-(h k))/\0<qd6 (x k):=xo1 hex
 obtain⟨z,hz⟩:∃z:Nat->Int,z=λi=>qd6 (-(h k))*x i-qd6 (x k) * -(h i):=⟨_,rfl⟩
 have hmk:MkN n W R y z (qd6 (-(h k))):=λa ha=>by
  have h1:=hx a ha
  have h2:=hh a ha
  have e1:sm W (λi=>R a i*z i)=qd6 (-(h k))*sm W (λi=>R a i*x i)+qd6 (x k)*sm W (λi=>R a i*h i):=by
   rw[<- wa2]
   grind
  grind
 have hnz:sA W z=qd6 (-(h k))*sA W x+qd6 (x k)*fF W x h:=by
  unfold sA fF
  rw[<- wa2]
  refine qe2 λi hi=>?_
  have hc:0<=(qd6 (-(h k))*x i-qd6 (x k) * -(h i))*x i:=hcons i hi
  rw[hz]
  show qd6 (qd6 (-(h k))*x i-qd6 (x k) * -(h i))=qd6 (-(h k))*qd6 (x i)+qd6 (x k)*fT (x i) (h i)
  unfold fT
  split
  ·rename_i h0
   have e:qd6 (-(h k))*x i-qd6 (x k) * -(h i)=qd6 (x k)*h i:=by grind
   rw[e,q40 _ ow,h0]
   simp[qd6]
  ·rename_i h0
   split
   ·rename_i hpos
    have h1:0<=qd6 (-(h k))*x i-qd6 (x k) * -(h i):=zbj.1 λw=>by have:=zbq w hpos; omega
    grind [qd6]
   ·have hneg:x i<0:=ow
    have h1:qd6 (-(h k))*x i-qd6 (x k) * -(h i)<=0:=zbj.1 λw=>by have:=zbi w hneg; omega
    grind [qd6]
 have hzle:sA W z<=qd6 (-(h k))*sA W x:=by
  have:=za5 (show 0<=qd6 (x k) by omega) (show 0<=-fF W x h by omega)
  grind
 obtain⟨b,E,b1,b2,b3,b4,b5⟩:=yi5 _ z _ (zac _) hp1 hmk
 refine⟨b,E,b1,b2,b4,⟨k,hk,λw=>?_⟩,?_⟩
 ·have hxk:x k≠0:=λq=>by grind
  grind [Int.mul_ne_zero]
 ·refine zbw (a:=qd6 (-(h k))) ?_ hp1
  have k1:=zai hzle (show 0<=E by omega)
  grind
def Ind (m:List (List Int)) (l:List Int):Prop:=∀z:Nat->Int,(∀i,i<m.length->(sm l.length λc=>nI (nL m i) (nI l c).toNat*z c)=0)->∀c,c<l.length->z c=0
theorem x2k {l:List Int} {x:Int}:x∈l↔∃q,q<l.length/\nI l q=x:=by
 refine⟨λh=>?_,λ⟨q,hq,e⟩=>by grind [qg5,List.getElem_mem]⟩
 obtain⟨q,hq,e⟩:=za6.1 h
 exact⟨q,hq,by grind [qg5]⟩
structure GrdOk (m:List (List Int)) (y S:List Int):Prop where
 chk:qw0 m y S=0
 nam:Named (nL m 0).length S
 pivs:(qt8 m S y).2.length=S.length
 id:∀k,k<S.length->nI (qt8 m S y).2 k=k
 no:q3q (qt8 m S y).1 (qt8 m S y).2 S.length=false
 sol:qy0 m S y=((List.range S.length).map (q81 (qt8 m S y).1 (qt8 m S y).2 S.length),0)
 ok:ye2 m S y
theorem xo3 {m:List (List Int)} {y S:List Int} (h:qw0 m y []=0) (hS:Named (nL m 0).length S):qw0 m y S=0:=by
 have hA:=Asked.of h
 have ha:x4f S=true:=q7h.2 λi h0 hi=>hS.asc (i-1) i ow hi
 have hb:(S.any λp=>!(inB p 0 ((nL m 0).length-1)))=false:=by
  rw[zb1]
  intro x hx
  obtain⟨q,hq,e⟩:=x2k.1 hx
  have:=hS.at_ q hq
  grind [inB,nL,qh5]
 grind [qw0,xv1,w9c]
theorem GrdOk.of {m:List (List Int)} {y S:List Int} (h0:qw0 m y []=0) (hN:Named (nL m 0).length S) (hI:Ind m S) (hz:∃z:Nat->Int,(∀a,a<m.length->(sm S.length λc=>nI (nL m a) (nI S c).toNat*z c)+nI y a*z S.length=0)/\z S.length≠0):GrdOk m y S/\∀z:Nat->Int,(∀a,a<m.length->(sm S.length λc=>nI (nL m a) (nI S c).toNat*z c)+nI y a*z S.length=0)->∀k,k<S.length->0<nI (nL (qt8 m S y).1 k) k/\nI (nL (qt8 m S y).1 k) k*z k+nI (nL (qt8 m S y).1 k) S.length*z S.length=0:=by
 have hc:=xo3 h0 hN
 have hA:=Asked.of hc
 have hSm:=qw5 hA
 have hst:=qs8 hSm.toMat S.length ow
 have hat:∀a,a<m.length->∀c,c<S.length->rowOf (qb8 m S y) a c=nI (nL m a) (nI S c).toNat:=λa ha c hc=>by
  grind [rowOf,qz1,qo0,qk2,ql6,qu7]
 have hlast:∀a,a<m.length->rowOf (qb8 m S y) a S.length=nI y a:=λa ha=>by
  unfold rowOf
  grind [qz1,qo0,qx5,nL,ql6,qn3]
 have hsl:∀z:Nat->Int,(∀a,a<m.length->(sm S.length λc=>nI (nL m a) (nI S c).toNat*z c)+nI y a*z S.length=0)->Sol m.length (S.length+1) (rowOf (qb8 m S y)) z:=λz h a ha=>by
  grind [sm,qe2]
 have hAs:Asc S.length (qb5 (qb8 m S y) S.length).2:=⟨λq hq=>⟨(hst.pos q hq).1,(hst.pos q hq).2.1⟩,hst.asc⟩
 have hP:(qb5 (qb8 m S y) S.length).2.length=S.length:=by
  rcases zas (qb5 (qb8 m S y) S.length).2.length S.length with q | q
  ·exfalso
   obtain⟨f,hf,hnp⟩:=Asc.free q
   obtain⟨z,z1,z2,z3⟩:=hst.free ow (f:=f) ow hnp λi h1 h2=>hst.zero i h1 h2 f hf
   have zN:z S.length=0:=z3 _ ow ow λq hq=>by have:=(hst.pos q hq).2.1; omega
   refine z2 (hI z (λi hi=>?_) f hf)
   have:=z1 i hi
   simp_all [sm,Int.mul_zero,Int.add_zero,qe2]
  ·have:=hAs.le; omega
 obtain⟨z,z1,z2⟩:=hz
 have hno:q3q (qb5 (qb8 m S y) S.length).1 (qb5 (qb8 m S y) S.length).2 S.length=false:=by
  unfold q3q
  rw[zb1]
  intro k hk
  have hk:k<m.length:=by have:=za4.1 hk; have:=hst.len; omega
  intro hb
  simp only[Bool.and_eq_true,decide_eq_true_eq,bne_iff_ne] at hb
  have:=(hst.sol z).1 (hsl z z1) k hk
  unfold dt at this
  rw[sm,qm0 λc hc=>by rw[hst.zero k hb.1 hk c hc,zcb],Int.zero_add] at this
  grind [Int.mul_eq_zero]
 have hsol:qy0 m S y=((List.range S.length).map (q81 (qt8 m S y).1 (qt8 m S y).2 S.length),0):=by
  rw[qy0,zap hc,w00]
  show(if q3q (qb5 (qb8 m S y) S.length).1 (qb5 (qb8 m S y) S.length).2 S.length=true then _ else _)=_
  rw[zaj (by grind)]
  show(if(qb5 (qb8 m S y) S.length).2.length<S.length then _ else _)=_
  rw[zaj ow]
  show((List.range (qb5 (qb8 m S y) S.length).2.length).map _,_)=_
  rw[hP]
 have h10:=hA.msk.pix10
 have hpl:=hA.nam.len
 refine⟨⟨hc,hN,hP,λk hk=>hAs.id hP hk,hno,hsol,(xk0 (y:=y) (m:=m) (pix:=S) ow).ok hc⟩,λz hz k hk=>?_⟩
 have hp:=hst.pos k ow
 rw[hAs.id hP hk,zaq] at hp
 refine⟨hp.2.2.1,?_⟩
 have hpl2:=hst.pl
 have h1:=(hst.sol z).1 (hsl z hz) k ow
 unfold dt at h1
 rw[q6q (k:=k) (l:=S.length) ow ow ow λc hc h1 h2=>by
  try dsimp only
  have hp2:=(hst.pos c ow).2.2.2.2 k ow ow
  rw[hAs.id hP ow,zaq] at hp2
  grind] at h1
 exact h1
def wc0 (n:Nat) (pix:List Int) (v:List (Int × Int)):Nat->List (Int × Int)
 | 0=>List.replicate n (0,1)
 | k+1=>(wc0 n pix v k).set (nI pix k).toNat (nR v k)
theorem q2w (n:Nat) (pix:List Int) (v:List (Int × Int)):∀k,(wc0 n pix v k).length=n
 | 0=>by simp[wc0]
 | k+1=>by rw[wc0,zba]; exact q2w n pix v k
theorem x4w (l:List (Int × Int)) {p:Nat} (hp:p<l.length) (x:Int × Int) (q:Nat):nR (l.set p x) q=if q=p then x else nR l q:=by
 by_cases h:q=p
 ·subst h
  rw[zap rfl,q3t _ _ (by grind),zeq]
 ·rw[zaj h]
  rcases zas q l.length with e | e
  ·simp_all [q3t,List.length_set,List.getElem_set_ne,Ne.symm]
  grind [nR,qf0,List.getElem?_eq_none,List.length_set]
theorem w2r {n:Nat} {pix:List Int} {v:List (Int × Int)} (hs:Named n pix):∀k,k<=pix.length->∀j,j<k->nR (wc0 n pix v k) (nI pix j).toNat=nR v j
 | 0,_,j,hj=>absurd hj (zau _)
 | k+1,hk,j,hj=>by
  have h1:=hs.at_ k ow
  have h2:=hs.at_ j ow
  rw[wc0,x4w _ (by grind [q2w])]
  rcases zaw.1 hj with e | e
  ·have:=hs.asc j k e ow
   rw[zaj ow]
   exact w2r hs k ow j e
  grind
theorem xo4 {n:Nat} {pix:List Int} {v:List (Int × Int)} (hs:Named n pix) {c:Nat} (hn:c<n) (hc:∀j,j<pix.length->nI pix j≠(c:Int)):∀k,k<=pix.length->nR (wc0 n pix v k) c=(0,1)
 | 0,_=>by grind [wc0,q3t]
 | k+1,hk=>by
  have h1:=hs.at_ k ow
  have h2:=hc k ow
  rw[wc0,x4w _ (by grind [q2w]),zaj ow]
  exact xo4 hs hn hc k ow
theorem x2l {m:List (List Int)} {y pix:List Int} (h:(qg9 m y pix).2=true):∃(L:Int) (u:Nat->Int),L≠0/\(∀j,j<pix.length->0<(nR (qg9 m y pix).1.2 j).2/\L=(nR (qg9 m y pix).1.2 j).2*u j) /\
  ∀a,a<m.length->(sm pix.length λj=>nI (nL m a) (nI pix j).toNat*((nR (qg9 m y pix).1.2 j).1*u j))=nI y a*L:=by
 have hI:=qu3 h
 have hA:=Asked.of hI.chk
 have hS:=qw5 hA
 have hst:=qs8 hS.toMat pix.length ow
 have hpl:=hst.pl
 have hvo:=xm2 h
 have hvl:=hI.len
 unfold qg9 at h hvo hvl ⊢
 split at h
 ·cases h
 ·rename_i hno
  rw[zaj hno] at hvo hvl ⊢
  have h0:(qy0 m pix y).2=0:=zaf λq=>hno (.inl q)
  have es:qy0 m pix y=w00 (qb5 (qb8 m pix y) pix.length).1 (qb5 (qb8 m pix y) pix.length).2 pix.length:=by unfold qy0; rw[zap hI.chk]; rfl
  have hasc:Asc pix.length (qb5 (qb8 m pix y) pix.length).2:=⟨λq hq=>⟨(hst.pos q hq).1,(hst.pos q hq).2.1⟩,hst.asc⟩
  have hle:=hasc.le
  dsimp only at hvo hvl ⊢
  rw[es] at h0 hvo hvl ⊢
  unfold w00 at h0 hvo hvl ⊢
  split at h0
  ·omega
  ·rename_i hn
   rw[zaj hn] at hvo hvl ⊢
   split at h0
   ·omega
   ·rename_i hl
    rw[zaj hl] at hvo hvl ⊢
    have hlen:(qb5 (qb8 m pix y) pix.length).2.length=pix.length:=ow
    dsimp only at hvo hvl ⊢
    have hid:=λq (hq:q<pix.length)=>hasc.id hlen hq
    have hat:∀j,j<pix.length->nR (List.map (q81 (qb5 (qb8 m pix y) pix.length).1 (qb5 (qb8 m pix y) pix.length).2 pix.length) (List.range (qb5 (qb8 m pix y) pix.length).2.length)) j=q5q (nI (nL (qb5 (qb8 m pix y) pix.length).1 j) pix.length) (nI (nL (qb5 (qb8 m pix y) pix.length).1 j) j)/\0<nI (nL (qb5 (qb8 m pix y) pix.length).1 j) j:=λj hj=>by
     have hp:=(hst.pos j ow).2.2.1
     grind [Int.toNat_natCast,q3t,q81,q9o]
    generalize(List.map (q81 (qb5 (qb8 m pix y) pix.length).1 (qb5 (qb8 m pix y) pix.length).2 pix.length) (List.range (qb5 (qb8 m pix y) pix.length).2.length))=V at *
    have hpos:∀j,j<pix.length->0<(nR V j).2:=λj hj=>by
     obtain⟨q1,_⟩:=hvo (nR V j) (by grind [q3t,List.getElem_mem])
     unfold q7j at q1
     grind
    obtain⟨L,u,hL,hu⟩:=exL pix.length (λj=>(nR V j).2) λj hj=>by grind
    refine⟨L,u,hL,λj hj=>⟨hpos j hj,hu j hj⟩,λa ha=>?_⟩
    obtain⟨z,hz1,hz2⟩:∃z:Nat->Int,(∀j,j<pix.length->z j=(nR V j).1*u j)/\z pix.length=- L:=⟨λj=>if j<pix.length then(nR V j).1*u j else-L,λj hj=>zap hj,zaj (zbg _)⟩
    have hsol:Sol m.length (pix.length+1) (rowOf (qb8 m pix y)) z:=(hst.sol z).2 λi hi=>by
     unfold dt
     rcases zas i pix.length with q | q
     ·rw[q6q (k:=i) (l:=pix.length) ow ow ow λc hc h1 h2=>by
       try dsimp only
       have:=(hst.pos c ow).2.2.2.2 i ow (zdn h1)
       grind]
      try dsimp only
      rw[hz1 i q,hz2]
      obtain⟨e1,e2⟩:=hat i q
      have huq:=hu i q
      try dsimp only at huq
      rw[huq,e1]
      generalize nI (nL (qb5 (qb8 m pix y) pix.length).1 i) pix.length=x at *
      generalize nI (nL (qb5 (qb8 m pix y) pix.length).1 i) i=p at *
      have g1:gcdI x p*(q5q x p).1=x:=zbb (za9.1 (zby _ _))
      have g2:gcdI x p*(q5q x p).2=p:=zbb (za9.1 (zb0 _ _))
      grind
     ·refine qm0 λc hc=>?_
      try dsimp only
      rcases zas c pix.length with q2 | q2
      ·rw[hst.zero i ow hi c q2,zcb]
      ·have hz0:nI (nL (qb5 (qb8 m pix y) pix.length).1 i) pix.length=0:=zaf λq3=>hn (by
        unfold q3q
        rw[zbu]
        exact⟨i,za4.2 (by have:=hst.len; omega),by grind⟩)
       grind
    have e:=hsol a ha
    rw[sm,hz2] at e
    have hrow:∀c,c<pix.length->rowOf (qb8 m pix y) a c=nI (nL m a) (nI pix c).toNat:=λc hc=>by
     grind [rowOf,qz1,qo0,qk2,ql6,qu7]
    have hlast:rowOf (qb8 m pix y) a pix.length=nI y a:=by
     unfold rowOf
     rw[qz1 m pix y a ha,qo0 m pix a ha]
     grind [qn3,qx5,nL,nI,ql6]
    rw[hlast] at e
    have e2:(sm pix.length λc=>rowOf (qb8 m pix y) a c*z c)=sm pix.length λj=>nI (nL m a) (nI pix j).toNat*((nR V j).1*u j):=qe2 λc hc=>by
     grind
    grind
theorem wa3 {m:List (List Int)} {y:List Int}:∀K,∀f∈qi4 m y K,∃pix,(qg9 m y pix).2=true/\f=(qg9 m y pix).1
 | 0,f,h=>by cases h
 | K+1,f,h=>by
  rcases zak.1 h with h | h
  ·exact wa3 K f h
  grind [qg0,Option.some.inj]
theorem wi3 {m:List (List Int)} {y pix:List Int} (h:(qg9 m y pix).2=true):∀K,pix.length<K->(qg9 m y pix).1∈qi4 m y K
 | 0,hk=>absurd hk (zau _)
 | K+1,hk=>by
  rw[qi4]
  by_cases e:pix.length=K
  ·refine zak.2 (.inr ?_)
   unfold qg0
   rw[zcu]
   have:=wz7 (Asked.of (qu3 h).chk).nam
   grind
  ·exact zak.2 (.inl (wi3 h K ow))
theorem xo5 {m:List (List Int)} {y pix:List Int} {k:Int} (h:(qg9 m y pix).2=true):pix.length<fitsN m k↔(pix.length:Int)<=k:=by
 have hI:=qu3 h
 have hA:=Asked.of hI.chk
 have h1:=hI.rows
 have h2:=hA.nam.len
 grind [fitsN]
theorem xo6 {n:Nat} {A B:List Int} (hA:Named n A) (hB:Named n B) (h:∀c:Nat,c<n->((∃q,q<A.length/\nI A q=(c:Int))↔∃q,q<B.length/\nI B q=(c:Int))):A=B:=by
 have pw:∀{l:List Int},Named n l->l.Pairwise λx y=>x<y:=λ{l} hl=>by
  rw[zc1]
  intro i j hi hj hij
  have:=hl.asc i j hij hj
  grind [qg5]
 refine zd9 (le:=λx y:Int=>x<=y) (λa b _ _ h1 h2=>by omega) ((pw hA).imp λq=>ze5 q) ((pw hB).imp λq=>ze5 q) ?_
 rw[zcy ((pw hA).imp λq=>Int.ne_of_lt q) ((pw hB).imp λq=>Int.ne_of_lt q)]
 intro a
 rw[x2k,x2k]
 constructor
 ·rintro⟨q,hq,e⟩
  have h1:=hA.at_ q hq
  have e2:((nI A q).toNat:Int)=a:=ow
  have:=(h (nI A q).toNat ow).1 ⟨q,hq,ow⟩
  grind
 ·rintro⟨q,hq,e⟩
  have h1:=hB.at_ q hq
  have e2:((nI B q).toNat:Int)=a:=ow
  have:=(h (nI B q).toNat ow).2 ⟨q,hq,ow⟩
  grind
theorem x7z {b x:Int} (hb:0<b):ofR (b*x) b=(x,1):=by
 rw[q9o hb]
 refine(xj9 hb (by decide:(0:Int)<1) (show b*x*1=x*b by grind)).trans ?_
 simp_all [q5q,gcdI,Int.gcd_one_right,Int.tdiv_one]
theorem w8l:((List.range 8).all λn=>decide ((List.range (n+1)).flatMap λ(k:Nat)=>qf2 (n:Nat) (k:Nat)).Nodup)=true:=by decide +kernel
theorem wa4 (m:List (List Int)) (y:List Int):∀s:List (List Int),(qg0 m y s).map (·.1)=s.filter λpix=>(qg9 m y pix).2
 | []=>rfl
 | p :: s=>by
  have ih:=wa4 m y s
  unfold qg0 at ih ⊢
  rw[zdr,List.filter_cons]
  by_cases h:(qg9 m y p).2=true
  ·rw[zap h,zap h,List.map_cons,ih,(qu3 h).fst]
  grind
theorem wi4 {m:List (List Int)} (y:List Int) (k:Int) (h7:(nL m 0).length<=7):((qe0 m y k).map (·.1)).Nodup:=by
 unfold qe0
 rw[q9p,wa4]
 refine List.Pairwise.filter _ ?_
 have hk:fitsN m k<=(nL m 0).length+1:=by grind [fitsN]
 have h1:((List.range ((nL m 0).length+1)).flatMap λ(k:Nat)=>qf2 (nL m 0).length (k:Nat)).Nodup:=za3 (zan.1 w8l _ (za4.2 ow))
 grind [nL,fitsN,Nat.add_sub_cancel',List.range_add,List.nodup_append]
theorem x70 (n:Int) {d:Int} (hd:0<d):0<(q5q n d).2/\(q5q n d).2<=d/\(q5q n d).1.natAbs<=n.natAbs/\∃u:Int,d=(q5q n d).2*u/\n=(q5q n d).1*u:=by
 have hg:=qn9 (a:=n) (b:=d) (.inr ow)
 obtain⟨x,hx⟩:=w2m n d
 obtain⟨z,hz⟩:=w2n n d
 unfold q5q
 have a1:=q2t n (gcdI n d)
 have a2:=q2t d (gcdI n d)
 generalize gcdI n d=g at hg hx hz a1 a2 ⊢
 have e1:n.tdiv g=x:=by grind [Int.mul_tdiv_cancel_left]
 have e2:d.tdiv g=z:=by grind [Int.mul_tdiv_cancel_left]
 dsimp only
 rw[e1] at a1 ⊢
 rw[e2] at a2 ⊢
 have hz0:0<z:=q4t hg ow
 grind [Int.mul_comm]
theorem w5l {m:List (List Int)} {b:Nat->Int} (hI:x7x m.length (nL m 0).length (rowOf m) b):Ind m (qt5 (nL m 0).length b):=by
 obtain⟨n1,n2⟩:=qh6 b (nL m 0).length
 generalize qt5 (nL m 0).length b=S at *
 intro z hz c hc
 obtain⟨d,hd⟩:∃d:Nat->Int,∀col,d col=sm S.length λq=>if(nI S q).toNat=col then z q else 0:=⟨_,λ_=>rfl⟩
 have hdz:∀q,q<S.length->d (nI S q).toNat=z q:=λq hq=>by
  rw[hd,qq6 hq λi hi hne=>zaj λe=>hne (n1.inj hi hq e),zap rfl]
 have hsol:Sol m.length (nL m 0).length (rowOf m) d:=λa ha=>by
  have e:=q99 (A:=rowOf m a) (σ:=λq=>(nI S q).toNat) (w:=z) (K:=S.length) (N:=(nL m 0).length) λq hq=>by have:=n1.at_ q hq; omega
  have e2:(sm (nL m 0).length λc=>rowOf m a c*d c)=sm (nL m 0).length λcol=>rowOf m a col*sm S.length λq=>if(nI S q).toNat=col then z q else 0:=qe2 λcol _=>by rw[hd]
  rw[e2,e]
  exact hz a ha
 have:=hI d hsol (λi hi hne hb=>hne (by
  rw[hd]
  refine qm0 λq hq=>zaj λe=>n2 q hq (by grind))) (nI S c).toNat (by have:=n1.at_ c hc; omega)
 grind
theorem xo7 {m:List (List Int)} {y:List Int} {b:Nat->Int} {E:Int} (h0:qw0 m y []=0) (hE:0<E) (hb:MkN m.length (nL m 0).length (rowOf m) (nI y) b E) (hI:x7x m.length (nL m 0).length (rowOf m) b) :
  (qg9 m y (qt5 (nL m 0).length b)).2=true/\∀k,k<(qt5 (nL m 0).length b).length->0<(nR (qg9 m y (qt5 (nL m 0).length b)).1.2 k).2/\(nR (qg9 m y (qt5 (nL m 0).length b)).1.2 k).1*E=b (nI (qt5 (nL m 0).length b) k).toNat*(nR (qg9 m y (qt5 (nL m 0).length b)).1.2 k).2:=by
 obtain⟨n1,n2⟩:=qh6 b (nL m 0).length
 have n4:=qv0 b (nL m 0).length
 have hInd:=w5l hI
 generalize qt5 (nL m 0).length b=S at *
 obtain⟨z,hz⟩:∃z:Nat->Int,∀c,z c=if c<S.length then b (nI S c).toNat else -E:=⟨_,λ_=>rfl⟩
 have hzN:z S.length=-E:=by grind
 have hs:∀a,a<m.length->(sm S.length λc=>nI (nL m a) (nI S c).toNat*z c)+nI y a*z S.length=0:=λa ha=>by
  have h1:=hb a ha
  have e0:(sm (nL m 0).length λc=>rowOf m a c*b c)=sm S.length λq=>rowOf m a (nI S q).toNat*b (nI S q).toNat:=by
   refine qx3 S.length (n:=(nL m 0).length) (f:=λc=>rowOf m a c*b c) (τ:=λq=>(nI S q).toNat) (λq hq=>by have:=n1.at_ q hq; omega) (λq k hq hk e=>n1.inj hq hk e) λc hc hq=>?_
   grind
  have e:(sm S.length λc=>nI (nL m a) (nI S c).toNat*z c)=sm S.length λq=>rowOf m a (nI S q).toNat*b (nI S q).toNat:=qe2 λq hq=>by rw[hz,zap hq]; rfl
  grind
 obtain⟨g,g2⟩:=GrdOk.of h0 n1 hInd ⟨z,hs,ow⟩
 have hv:∀k,k<S.length->0<(q81 (qt8 m S y).1 (qt8 m S y).2 S.length k).2/\(q81 (qt8 m S y).1 (qt8 m S y).2 S.length k).1*E=b (nI S k).toNat*(q81 (qt8 m S y).1 (qt8 m S y).2 S.length k).2:=λk hk=>by
  obtain⟨p1,p2⟩:=g2 z hs k hk
  rw[hzN,hz,zap hk] at p2
  unfold q81
  rw[g.id k hk,zaq,q9o p1]
  obtain⟨q1,q2,q3,u,q4,q5⟩:=x70 (nI (nL (qt8 m S y).1 k) S.length) p1
  refine⟨q1,?_⟩
  generalize q5q (nI (nL (qt8 m S y).1 k) S.length) (nI (nL (qt8 m S y).1 k) k)=v at *
  generalize nI (nL (qt8 m S y).1 k) k=d at *
  generalize nI (nL (qt8 m S y).1 k) S.length=t at *
  have hu:u≠0:=λe=>by grind
  rw[q4,q5] at p2
  have e:(v.1*E-b (nI S k).toNat*v.2)*u=0:=by grind
  grind [Int.mul_eq_zero,absurd]
 have hsolE:∀k,k<S.length->nR ((List.range S.length).map (q81 (qt8 m S y).1 (qt8 m S y).2 S.length)) k=q81 (qt8 m S y).1 (qt8 m S y).2 S.length k:=λk hk=>by
  grind [q3t]
 have hfit:qg9 m y S=((S,(List.range S.length).map (q81 (qt8 m S y).1 (qt8 m S y).2 S.length)),true):=by
  unfold qg9
  rw[g.sol,zaj]
  rintro(q | q)
  ·omega
  ·obtain⟨r,hr,hz⟩:=zbu.1 q
   obtain⟨j,hj,rfl⟩:=zbk.1 hr
   have hj:=za4.1 hj
   obtain⟨p1,p2⟩:=hv j hj
   have hz:(q81 (qt8 m S y).1 (qt8 m S y).2 S.length j).1=0:=by grind
   rw[hz,zcb] at p2
   grind [absurd,Int.mul_ne_zero]
 grind
theorem w5m {m:List (List Int)} {x:List Int} (hM:Mk m) {a:Nat} (ha:a<m.length):nI (qd3 m x) a=sm (nL m 0).length λc=>nI (nL m a) c*nI x c:=by
 rw[qg5 _ _ (by grind [qd3])]
 simp only[qd3,List.getElem_map,List.getElem_range]
 rw[xn2,hM.each a ha]
theorem wp1 {m:List (List Int)} {x:List Int} (hM:Mk m):MkN m.length (nL m 0).length (rowOf m) (nI (qd3 m x)) (nI x) 1:=λa ha=>by
 rw[w5m hM ha,zex]; rfl
def wp9 (m:List (List Int)) (x:List Int):Fit:=(qt5 (nL m 0).length (nI x),(qt5 (nL m 0).length (nI x)).map λj=>(nI x j.toNat,1))
theorem x71 {m:List (List Int)} {x:List Int} (hM:Mk m) (h0:qw0 m (qd3 m x) []=0) (hI:x7x m.length (nL m 0).length (rowOf m) (nI x)):qg9 m (qd3 m x) (qt5 (nL m 0).length (nI x))=(wp9 m x,true):=by
 obtain⟨n1,n2⟩:=qh6 (nI x) (nL m 0).length
 have n4:=qv0 (nI x) (nL m 0).length
 have hInd:=w5l hI
 have hmk:=wp1 (x:=x) hM
 unfold wp9
 generalize hS:qt5 (nL m 0).length (nI x)=S at *
 obtain⟨z,hz⟩:∃z:Nat->Int,∀c,z c=if c<S.length then nI x (nI S c).toNat else -1:=⟨_,λ_=>rfl⟩
 have hzN:z S.length=-1:=by grind
 have hs:∀a,a<m.length->(sm S.length λc=>nI (nL m a) (nI S c).toNat*z c)+nI (qd3 m x) a*z S.length=0:=λa ha=>by
  have h1:=hmk a ha
  have e0:(sm (nL m 0).length λc=>rowOf m a c*nI x c)=sm S.length λq=>rowOf m a (nI S q).toNat*nI x (nI S q).toNat:=by
   refine qx3 S.length (n:=(nL m 0).length) (f:=λc=>rowOf m a c*nI x c) (τ:=λq=>(nI S q).toNat) (λq hq=>by have:=n1.at_ q hq; omega) (λq k hq hk e=>n1.inj hq hk e) λc hc hq=>?_
   grind
  have e:(sm S.length λc=>nI (nL m a) (nI S c).toNat*z c)=sm S.length λq=>rowOf m a (nI S q).toNat*nI x (nI S q).toNat:=qe2 λq hq=>by rw[hz,zap hq]; rfl
  grind
 obtain⟨g,g2⟩:=GrdOk.of h0 n1 hInd ⟨z,hs,ow⟩
 have hv:∀k,k<S.length->ofR (nI (nL (qt8 m S (qd3 m x)).1 k) S.length) (nI (nL (qt8 m S (qd3 m x)).1 k) k)=(nI x (nI S k).toNat,1):=λk hk=>by
  obtain⟨p1,p2⟩:=g2 z hs k hk
  rw[hzN,hz,zap hk] at p2
  have e:nI (nL (qt8 m S (qd3 m x)).1 k) S.length=nI (nL (qt8 m S (qd3 m x)).1 k) k*nI x (nI S k).toNat:=ow
  grind [x7z]
 have e:(List.range S.length).map (q81 (qt8 m S (qd3 m x)).1 (qt8 m S (qd3 m x)).2 S.length)=S.map λj=>(nI x j.toNat,1):=by
  refine zbx (by simp) λi h1 h2=>?_
  have hi:i<S.length:=by grind
  rw[zee,List.getElem_range,zee]
  unfold q81
  rw[g.id i hi,zaq,hv i hi,qg5 _ _ hi]
 unfold qg9
 rw[g.sol,e,zaj]
 rintro(q | q)
 ·omega
 ·obtain⟨r,hr,hz⟩:=zbu.1 q
  obtain⟨j,hj,rfl⟩:=zbk.1 hr
  grind [x2k]
theorem wa5 {m:List (List Int)} {y pix:List Int} (h:(qg9 m y pix).2=true):∃(b:Nat->Int) (E:Int),0<E/\MkN m.length (nL m 0).length (rowOf m) (nI y) b E /\
  (∀j,j<pix.length->0<(nR (qg9 m y pix).1.2 j).2/\(nR (qg9 m y pix).1.2 j).1*E=b (nI pix j).toNat*(nR (qg9 m y pix).1.2 j).2) /\
  ∀c,c<(nL m 0).length->(∀j,j<pix.length->nI pix j≠(c:Int))->b c=0:=by
 have hI:=qu3 h
 have hN:=(Asked.of hI.chk).nam
 obtain⟨L,u,hL,hu,hr⟩:=x2l h
 generalize(qg9 m y pix).1.2=V at *
 obtain⟨s,hs,hsL⟩:∃s:Int,(s=1\/s=-1)/\0<s*L:=by
  rcases Int.lt_or_lt_of_ne hL with q | q
  all_goals simp_all
 obtain⟨b,hb⟩:∃b:Nat->Int,∀c,b c=sm pix.length λj=>if(nI pix j).toNat=c then s*((nR V j).1*u j) else 0:=⟨_,λ_=>rfl⟩
 have hbj:∀j,j<pix.length->b (nI pix j).toNat=s*((nR V j).1*u j):=λj hj=>by
  rw[hb,qq6 hj λi hi hne=>zaj λe=>hne (hN.inj hi hj e),zap rfl]
 refine⟨b,s*L,hsL,λa ha=>?_,λj hj=>⟨(hu j hj).1,?_⟩,λc hc hno=>?_⟩
 ·have e:=q99 (A:=rowOf m a) (σ:=λq=>(nI pix q).toNat) (w:=λj=>s*((nR V j).1*u j)) (K:=pix.length) (N:=(nL m 0).length) λq hq=>by have:=hN.at_ q hq; omega
  have e2:(sm (nL m 0).length λc=>rowOf m a c*b c)=sm (nL m 0).length λcol=>rowOf m a col*sm pix.length λq=>if(nI pix q).toNat=col then s*((nR V q).1*u q) else 0:=qe2 λcol _=>by rw[hb]
  rw[e2,e]
  have h1:=hr a ha
  have e3:(sm pix.length λk=>rowOf m a (nI pix k).toNat*(s*((nR V k).1*u k)))=s*sm pix.length λj=>nI (nL m a) (nI pix j).toNat*((nR V j).1*u j):=by
   rw[<- qk1]
   exact qe2 λq _=>by show nI (nL m a) (nI pix q).toNat*_=_; grind
  grind
 ·grind
 ·rw[hb]
  refine qm0 λj hj=>zaj λe=>hno j hj ?_
  have:=(hN.at_ j hj).1
  omega
def nmD (V:List (Int × Int)):Nat->Int
 | 0=>1
 | k+1=>nmD V k*(nR V k).2
def nmN (V:List (Int × Int)):Nat->Int
 | 0=>0
 | k+1=>nmN V k*(nR V k).2+qd6 (nR V k).1*nmD V k
theorem w8m {V:List (Int × Int)} {β:Nat->Int} {E:Int} (hE:0<E):∀k,(∀j,j<k->0<(nR V j).2/\(nR V j).1*E=β j*(nR V j).2)->0<nmD V k/\nmN V k*E=(sm k λj=>qd6 (β j))*nmD V k
 | 0,_=>⟨(show(0:Int)<1 by decide),by simp[nmN,sm]⟩
 | k+1,h=>by
  obtain⟨h1,h2⟩:=w8m hE k λj hj=>h j ow
  obtain⟨h3,h4⟩:=h k ow
  have e1:qd6 (nR V k).1*E=qd6 (β k)*(nR V k).2:=by
   have a1:=q40 (nR V k).1 (show 0<=E by omega)
   grind [q40,nR,Int.mul_comm]
  have es:(sm (k+1) λj=>qd6 (β j))=(sm k λj=>qd6 (β j))+qd6 (β k):=rfl
  refine⟨zcc h1 h3,?_⟩
  grind [nmN,nmD,nR,qd6]
theorem w2s {n:Nat} {pix:List Int} {b:Nat->Int} (hN:Named n pix) (h0:∀c,c<n->(∀j,j<pix.length->nI pix j≠(c:Int))->b c=0):(sm pix.length λj=>qd6 (b (nI pix j).toNat))=sA n b:=by
 symm
 unfold sA
 refine qx3 pix.length (n:=n) (f:=λc=>qd6 (b c)) (τ:=λq=>(nI pix q).toNat) (λq hq=>by have:=hN.at_ q hq; omega) (λq k hq hk e=>hN.inj hq hk e) λc hc hq=>?_
 try dsimp only
 rw[h0 c hc λj hj e=>hq j hj ow]
 rfl
theorem w2t {n:Nat} {x:Nat->Int}:∀c,c<n->(∀j,j<(qt5 n x).length->nI (qt5 n x) j≠(c:Int))->x c=0:=λc hc hno=>zaf λhx=>by
 obtain⟨q,h1,h2⟩:=qv0 x n c hc hx
 grind
theorem xo8 {m:List (List Int)} {x:List Int} (hM:Mk m) (hgrow:∀d:Nat->Int,Sol m.length (nL m 0).length (rowOf m) d->(∃i,i<(nL m 0).length/\d i≠0)->0<fF (nL m 0).length (nI x) d) {pix:List Int} (hf:(qg9 m (qd3 m x) pix).2=true) (hne:pix≠qt5 (nL m 0).length (nI x)) :
  sA (nL m 0).length (nI x)*nmD (qg9 m (qd3 m x) pix).1.2 pix.length<nmN (qg9 m (qd3 m x) pix).1.2 pix.length:=by
 obtain⟨b,E,hE,hb,hv,h0⟩:=wa5 hf
 have hI:=qu3 hf
 have hN:=(Asked.of hI.chk).nam
 have hnz:∀j,j<pix.length->b (nI pix j).toNat≠0:=λj hj hz=>by
  obtain⟨k1,k2⟩:=hv j hj
  rw[hz,zcb] at k2
  have k3:(nR (qg9 m (qd3 m x) pix).1.2 j).1=0:=by
   grind [Int.mul_eq_zero]
  unfold qg9 at hf k3
  split at hf
  ·grind
  ·rename_i hno
   rw[zaj hno] at k3
   refine hno (.inr (zbu.2 ⟨nR (qy0 m pix (qd3 m x)).1 j,?_,by grind⟩))
   have hlen:(qy0 m pix (qd3 m x)).1.length=pix.length:=by have:=hI.len; simp_all [qg9,if_neg]
   grind [q3t,List.getElem_mem]
 have hdiff:∃i,i<(nL m 0).length/\b i≠E*nI x i:=by
  refine zaf λq=>hne ?_
  have hall:∀i,i<(nL m 0).length->b i=E*nI x i:=λi hi=>zaf λw=>q ⟨i,hi,w⟩
  refine xo6 hN (qh6 (nI x) (nL m 0).length).1 λc hc=>⟨λ⟨j,hj,e⟩=>?_,λ⟨j,hj,e⟩=>?_⟩
  ·refine qv0 (nI x) _ c hc λhz=>hnz j hj ?_
   grind
  ·refine zaf λw=>?_
   grind [qh6,nI,nL,Int.toNat_natCast,Int.mul_ne_zero]
 have hless:=xo2 hgrow (wp1 hM) hE hb hdiff
 obtain⟨d1,d2⟩:=w8m (V:=(qg9 m (qd3 m x) pix).1.2) (β:=λj=>b (nI pix j).toNat) hE pix.length hv
 rw[w2s hN h0] at d2
 have k1:=zds hless d1
 rw[<- d2] at k1
 refine zdu (a:=E) ?_ ow
 grind
theorem w0h {m:List (List Int)} {x:List Int} (hM:Mk m) (h0:qw0 m (qd3 m x) []=0) {h:Nat->Int} (hh:Sol m.length (nL m 0).length (rowOf m) h) (hne:∃i,i<(nL m 0).length/\h i≠0) (hf:fF (nL m 0).length (nI x) h<=0) :
  ∃pix,(qg9 m (qd3 m x) pix).2=true/\nmN (qg9 m (qd3 m x) pix).1.2 pix.length<=sA (nL m 0).length (nI x)*nmD (qg9 m (qd3 m x) pix).1.2 pix.length /\
   ¬(pix=qt5 (nL m 0).length (nI x)/\∀j,j<pix.length->nR (qg9 m (qd3 m x) pix).1.2 j=(nI x (nI pix j).toNat,1)):=by
 obtain⟨b,E,hE,hb,hI,hdiff,hle⟩:=w2q (wp1 hM) hh hne hf
 obtain⟨f1,f2⟩:=xo7 h0 hE hb hI
 obtain⟨d1,d2⟩:=w8m (V:=(qg9 m (qd3 m x) (qt5 (nL m 0).length b)).1.2) (β:=λj=>b (nI (qt5 (nL m 0).length b) j).toNat) hE (qt5 (nL m 0).length b).length f2
 rw[w2s (qh6 b _).1 w2t] at d2
 refine⟨qt5 (nL m 0).length b,f1,?_,λ⟨e1,e2⟩=>?_⟩
 ·have k1:=zai hle (show 0<=nmD (qg9 m (qd3 m x) (qt5 (nL m 0).length b)).1.2 (qt5 (nL m 0).length b).length by omega)
  rw[<- d2] at k1
  refine zcz (a:=E) ?_ hE
  grind
 ·obtain⟨i,hi,hn⟩:=hdiff
  refine hn ?_
  by_cases hbi:b i=0
  ·have hx:nI x i=0:=w2t i hi λj hj e=>by
    grind
   grind
  ·obtain⟨j,hj,e⟩:=qv0 b _ i hi hbi
   grind
structure TmP (w:Int × Int) (n:Int):Prop where
 h0:0<=w.1
 h1:w.1<=100000000
 l0:0<=w.2
 l1:w.2<18446744073709551616
 n0:0<=n
 n1:n<=10000000000
abbrev y47:qa8:=qd9 true none [q3s,qc0] [q3s] (λx=>TmP x.1 x.2.1) (λx=>(spl (val x.1*x.2.1),()))
theorem w0i:Meets Tryz.prog 171 y47:=by
 refine mt0 (SpecsOk.cons wh7 (SpecsOk.cons wh8 (SpecsOk.nil _))) Tryz.func171 ?_
 rintro⟨w,n,⟨⟩⟩ h
 revert w n
 intro(w:Int × Int) (n:Int) (h:TmP w n)
 refine vcs (let Q0:=Int.natAbs n; (decide (w.1<(0:Int))=true->False)/\(decide (w.1<(0:Int))=false->qd8 BIG n/\(((0:Ty.den tU64)<=w.2/\w.2<(18446744073709551616:Ty.den tU64))/\(0:Ty.den tU64)<=(↑Q0:Int)/\(↑Q0:Int)<(18446744073709551616:Ty.den tU64))/\qd8 BIG n/\fits .i64 (↑Q0:Int)/\fits .i64 (w.1*(↑Q0:Int))/\fits .i64 (spl (w.2*(↑Q0:Int))).1/\fits .i64 (w.1*(↑Q0:Int)+(spl (w.2*(↑Q0:Int))).1)/\(decide (n<(0:Int))=true->False)/\(decide (n<(0:Int))=false->w.1*(↑Q0:Int)+(spl (w.2*(↑Q0:Int))).1=(spl (val w*n)).1/\(spl (w.2*(↑Q0:Int))).2=(spl (val w*n)).2/\True))) ?_
 obtain⟨h0,h1,l0,l1,n0,n1⟩:=h
 have hB:BIG=4000000000000000000:=rfl
 have en:((n.natAbs:Nat):Int)=n:=ow
 have hn:qd8 BIG n:=ow
 have b1:0<=w.1*n/\w.1*n<=1000000000000000000:=⟨za5 h0 n0,zc4 (zb2 h1 n1 n0 dc) dc⟩
 have b2:0<=w.2*n/\w.2*n<=184467440737095516160000000000:=⟨za5 l0 n0,zc4 (zb2 (show w.2<=18446744073709551616 by omega) n1 n0 dc) dc⟩
 have ev:val w*n=w.1*n*18446744073709551616+w.2*n:=by grind [val]
 grind [spl,hiU,loU,absurd,qa6]
abbrev y48:qa8:=qd9 true none [q3s] [qc0] (λ_=>True) (λx=>(q06 x.1 (0,0),()))
theorem xo9:Meets Tryz.prog 168 y48:=by
 refine mt0 (SpecsOk.cons q5u (SpecsOk.nil _)) Tryz.func168 ?_
 rintro⟨⟨a,b⟩,⟨⟩⟩ -
 revert a b
 intro(a:Int) (b:Int)
 refine vcr (True/\q06 (a,b) ((0:Int),(0:Int))=q06 (a,b) ((0:Int),(0:Int))) ?_
 simp
abbrev x72:Ty:=.prod (.prod (.int .i64) (.int .u64)) (.prod (.int .i64) (.int .u64))
abbrev y49:qa8:=qd9 true none [] [x72] (λ_=>True) (λ_=>(((0,0),(0,1)),()))
theorem xp0:Meets Tryz.prog 166 y49:=by
 refine mt0 (SpecsOk.nil _) Tryz.func166 ?_
 rintro⟨⟩ -
 refine vcr ((0:Int)=(0:Int)/\(0:Int)=(0:Int)/\(0:Int)=(0:Int)/\(1:Int)=(1:Int)/\True) ?_
 simp
theorem q6t {x:Int} (h0:0<=x) (h1:x<=42535295865117307932921825928971026432):Wd (spl x):=by
 unfold spl hiU loU
 exact⟨ow,ow,ow⟩
structure SmP (s:(Int × Int) × (Int × Int)) (r:Int × Int) (t:Int):Prop where
 n:0<=s.1.1/\s.1.1<=1000000/\0<=s.1.2/\s.1.2<18446744073709551616
 d:s.2.1=0/\0<=s.2.2/\s.2.2<18446744073709551616
 r:0<=r.1/\r.1<=10000000000/\0<=r.2/\r.2<=400
 t:t=1
def sumW (s:(Int × Int) × (Int × Int)) (r:Int × Int):(Int × Int) × (Int × Int):=(spl (val s.1*r.2+val s.2*r.1),spl (val s.2*r.2))
abbrev y5a:qa8:=qd9 true none [x72,qv9,qc0] [x72] (λx=>SmP x.1 x.2.1 x.2.2.1) (λx=>(sumW x.1 x.2.1,()))
set_option maxHeartbeats 8000000 in
theorem xp1:Meets Tryz.prog 167 y5a:=by
 refine mt0 (SpecsOk.cons w0i (SpecsOk.cons wy1 (SpecsOk.nil _))) Tryz.func167 ?_
 rintro⟨⟨⟨a,b⟩,⟨c,d⟩⟩,⟨n,q⟩,t,⟨⟩⟩ h
 revert a b c d n q t
 intro(a:Int) (b:Int) (c:Int) (d:Int) (n:Int) (q:Int) (t:Int) (h:SmP ((a,b),(c,d)) (n,q) t)
 refine vcs (let Q0:=(spl (val (spl (val (a,b)*q))+val (spl (val (c,d)*(n*t))))); let Q1:=(sumW ((a,b),c,d) (n,q)); TmP (a,b) q/\fits .i64 (n*t)/\TmP (c,d) (n*t)/\(Wd (spl (val (a,b)*q))/\Wd (spl (val (c,d)*(n*t))))/\TmP (c,d) q/\Q0.1=Q1.1.1/\Q0.2=Q1.1.2/\(spl (val (c,d)*q)).1=Q1.2.1/\(spl (val (c,d)*q)).2=Q1.2.2/\True) ?_
 obtain⟨⟨a0,a1,b0,b1⟩,⟨c0,d0,d1⟩,⟨n0,n1,q0,q1⟩,rfl⟩:=h
 dsimp only at a0 a1 b0 b1 c0 d0 d1 n0 n1 q0 q1
 subst c0
 rw[zey,q0w,q0w]
 have e1:0<=val (a,b)/\val (a,b)<=18446762520453625325551616:=by grind [val]
 have e2:0<=val (0,d)/\val (0,d)<=18446744073709551616:=by grind [val]
 exact⟨⟨a0,ow,b0,b1,q0,ow⟩,qa6,⟨zbr _,(show(0:Int)<=100000000 by decide),d0,d1,n0,n1⟩,⟨q6t (za5 e1.1 q0) (zc4 (zb2 e1.2 q1 q0 dc) dc),q6t (za5 e2.1 n0) (zc4 (zb2 e2.2 n1 n0 dc) dc)⟩,⟨zbr _,(show(0:Int)<=100000000 by decide),d0,d1,q0,ow⟩,rfl,rfl,rfl,rfl⟩
structure OvP (a b:Int × Int):Prop where
 wa:Wd a
 wb:Wd b
 a0:0<=val a/\val a<=1267650600228229401496703205376
 b0:0<val b/\val b<=1267650600228229401496703205376
theorem y2l {x:Int} (h0:0<=x) (h1:x<18446744073709551616):IntKind.u64.wrap ((BitVec.ofInt 64 x &&& BitVec.ofInt 64 1).toNat:Int)=x % 2:=by
 grind [BitVec.ofInt,BitVec.toNat_ofInt,BitVec.toNat_and,Nat.and_two_pow_sub_one_eq_mod,Go.IntWalk.u64_in]
theorem w2u (i:Nat):(0:Int)<2 ^ i:=Int.pow_pos dc
theorem yi6 {a:Int × Int} {i:Nat} (hi:i<64):a.2 / 2 ^ i % 2=val a / 2 ^ i % 2:=by
 obtain⟨j,hj⟩:∃j,64=i+(j+1):=⟨63-i,ow⟩
 have e:val a=a.2+2 ^ i*(a.1*2 ^ j*2):=by
  unfold val
  rw[show(18446744073709551616:Int)=2 ^ 64 from rfl,hj,Int.pow_add,Int.pow_succ]
  grind
 rw[e,Int.add_mul_ediv_left _ _ (by have:=w2u i; omega)]
 simp
theorem yi7 {a:Int × Int} (l0:0<=a.2) (l1:a.2<18446744073709551616) {i:Nat} (hi:64<=i):a.1 / 2 ^ (i-64)=val a / 2 ^ i:=by
 obtain⟨j,rfl⟩:∃j,i=64+j:=⟨i-64,ow⟩
 rw[show 64+j-64=j by omega,Int.pow_add,<- Int.ediv_ediv_of_nonneg dc]
 congr 1
 unfold val
 omega
theorem xp2 {x:Int} (h:0<=x) (i:Nat):0<=x / 2 ^ i/\x / 2 ^ i<=x:=by
 have:=w2u i
 exact⟨Int.ediv_nonneg h ow,Int.ediv_le_self _ h⟩
theorem x2m (x:Int) (i:Nat):x / 2 ^ i=2*(x / 2 ^ (i+1))+x / 2 ^ i % 2:=by
 grind [Int.pow_succ,Int.ediv_ediv_of_nonneg,w2u]
theorem xp3 (u v:Int):0<=q06 (spl u) (spl v)↔v<=u:=by
 grind [q06,spl,hiU,loU]
structure OvI (a b:Int × Int) (i:Int) (q r:Int):Prop where
 lo:-1<=i
 hi:i<=127
 eq:val a / 2 ^ (i+1).toNat=q*val b+r
 r0:0<=r
 r1:r<val b
 q0:0<=q
abbrev y5b:qa8:=qd9 true none [q3s,q3s] [q3s,q3s] (λx=>OvP x.1 x.2.1) (λx=>(spl (val x.1 / val x.2.1),spl (val x.1 % val x.2.1),()))
def yz4 (a b:Int × Int):Nat->Option Inv
 | 0=>some (Inv.of [6] 4 (λs:Int × Int × Int=>[(6,.lit (.int .i64 s.1))]) (λs=>[.box 149 (.cons (.lit (.int .i64 a.1)) (.cons (.lit (.int .u64 a.2)) .nil)),.box 149 (.cons (.lit (.int .i64 b.1)) (.cons (.lit (.int .u64 b.2)) .nil)),.box 149 (.cons (.lit (.int .i64 (spl s.2.1).1)) (.cons (.lit (.int .u64 (spl s.2.1).2)) .nil)),.box 149 (.cons (.lit (.int .i64 (spl s.2.2).1)) (.cons (.lit (.int .u64 (spl s.2.2).2)) .nil))]) (λs=>OvI a b s.1 s.2.1 s.2.2) (λs=>(s.1+1).toNat))
 | _=>none
set_option maxHeartbeats 4000000 in
theorem xp4:Meets Tryz.prog 170 y5b:=by
 refine mts (SpecsOk.cons wy1 (SpecsOk.cons wy2 (SpecsOk.cons q5u (SpecsOk.nil _)))) Tryz.func170 (λx=>yz4 x.1 x.2.1) ?_
 rintro⟨a,b,⟨⟩⟩ h
 revert a b
 intro(a:Int × Int) (b:Int × Int) (h:OvP a b)
 refine vcs (∃(v0:Unit),∃(v1:Int × Int × Int),OvI a b v1.1 v1.2.1 v1.2.2/\(((127:Int)=v1.1/\True)/\(a.1=a.1/\a.2=a.2/\True)/\(b.1=b.1/\b.2=b.2/\True)/\((0:Int)=(spl v1.2.1).1/\(0:Int)=(spl v1.2.1).2/\True)/\((0:Int)=(spl v1.2.2).1/\(0:Int)=(spl v1.2.2).2/\True)/\True)/\∀(v2:Int × Int × Int),OvI a b v2.1 v2.2.1 v2.2.2->(decide ((0:Int)<=v2.1)=true->fits IntKind.u64 a.1/\fits .i64 (v2.1-(64:Int))/\(0:Int)<=max2 true (v2.1-(64:Int)) (0:Int)/\(decide (v2.1<(64:Int))=true->(0:Int)<=v2.1/\(Wd (spl v2.2.2)/\Wd (spl v2.2.2))/\(Wd (spl (val (spl v2.2.2)+val (spl v2.2.2)))/\Wd ((0:Int),IntKind.wrap IntKind.u64 (↑(BitVec.toNat (BitVec.ofInt (64:Nat) (Int.fdiv a.2 ((2:Int) ^ Min.min v2.1.toNat (64:Nat))) &&& BitVec.ofInt (64:Nat) (1:Int))):Int)))/\(Wd (spl v2.2.1)/\Wd (spl v2.2.1))/\True/\(decide ((0:Int)<=q06 (spl (val (spl (val (spl v2.2.2)+val (spl v2.2.2)))+val ((0:Int),IntKind.wrap IntKind.u64 (↑(BitVec.toNat (BitVec.ofInt (64:Nat) (Int.fdiv a.2 ((2:Int) ^ Min.min v2.1.toNat (64:Nat))) &&& BitVec.ofInt (64:Nat) (1:Int))):Int)))) b)=true->Wd b/\(Wd (spl (val (spl (val (spl v2.2.2)+val (spl v2.2.2)))+val ((0:Int),IntKind.wrap IntKind.u64 (↑(BitVec.toNat (BitVec.ofInt (64:Nat) (Int.fdiv a.2 ((2:Int) ^ Min.min v2.1.toNat (64:Nat))) &&& BitVec.ofInt (64:Nat) (1:Int))):Int))))/\Wd (spl (-val b)))/\(Wd (spl (val (spl v2.2.1)+val (spl v2.2.1)))/\Wd ((0:Int),(1:Int)))/\fits .i64 (v2.1-(1:Int))/\∃(v7:Int × Int × Int),OvI a b v7.1 v7.2.1 v7.2.2/\(v7.1+(1:Int)).toNat<(v2.1+(1:Int)).toNat/\(v2.1-(1:Int)=v7.1/\True)/\(a.1=a.1/\a.2=a.2/\True)/\(b.1=b.1/\b.2=b.2/\True)/\((spl (val (spl (val (spl v2.2.1)+val (spl v2.2.1)))+val ((0:Int),(1:Int)))).1=(spl v7.2.1).1/\(spl (val (spl (val (spl v2.2.1)+val (spl v2.2.1)))+val ((0:Int),(1:Int)))).2=(spl v7.2.1).2/\True)/\((spl (val (spl (val (spl (val (spl v2.2.2)+val (spl v2.2.2)))+val ((0:Int),IntKind.wrap IntKind.u64 (↑(BitVec.toNat (BitVec.ofInt (64:Nat) (Int.fdiv a.2 ((2:Int) ^ Min.min v2.1.toNat (64:Nat))) &&& BitVec.ofInt (64:Nat) (1:Int))):Int))))+val (spl (-val b)))).1=(spl v7.2.2).1/\(spl (val (spl (val (spl (val (spl v2.2.2)+val (spl v2.2.2)))+val ((0:Int),IntKind.wrap IntKind.u64 (↑(BitVec.toNat (BitVec.ofInt (64:Nat) (Int.fdiv a.2 ((2:Int) ^ Min.min v2.1.toNat (64:Nat))) &&& BitVec.ofInt (64:Nat) (1:Int))):Int))))+val (spl (-val b)))).2=(spl v7.2.2).2/\True)/\True)/\(decide ((0:Int)<=q06 (spl (val (spl (val (spl v2.2.2)+val (spl v2.2.2)))+val ((0:Int),IntKind.wrap IntKind.u64 (↑(BitVec.toNat (BitVec.ofInt (64:Nat) (Int.fdiv a.2 ((2:Int) ^ Min.min v2.1.toNat (64:Nat))) &&& BitVec.ofInt (64:Nat) (1:Int))):Int)))) b)=false->fits .i64 (v2.1-(1:Int))/\∃(v7:Int × Int × Int),OvI a b v7.1 v7.2.1 v7.2.2/\(v7.1+(1:Int)).toNat<(v2.1+(1:Int)).toNat/\(v2.1-(1:Int)=v7.1/\True)/\(a.1=a.1/\a.2=a.2/\True)/\(b.1=b.1/\b.2=b.2/\True)/\((spl (val (spl v2.2.1)+val (spl v2.2.1))).1=(spl v7.2.1).1/\(spl (val (spl v2.2.1)+val (spl v2.2.1))).2=(spl v7.2.1).2/\True)/\((spl (val (spl (val (spl v2.2.2)+val (spl v2.2.2)))+val ((0:Int),IntKind.wrap IntKind.u64 (↑(BitVec.toNat (BitVec.ofInt (64:Nat) (Int.fdiv a.2 ((2:Int) ^ Min.min v2.1.toNat (64:Nat))) &&& BitVec.ofInt (64:Nat) (1:Int))):Int)))).1=(spl v7.2.2).1/\(spl (val (spl (val (spl v2.2.2)+val (spl v2.2.2)))+val ((0:Int),IntKind.wrap IntKind.u64 (↑(BitVec.toNat (BitVec.ofInt (64:Nat) (Int.fdiv a.2 ((2:Int) ^ Min.min v2.1.toNat (64:Nat))) &&& BitVec.ofInt (64:Nat) (1:Int))):Int)))).2=(spl v7.2.2).2/\True)/\True))/\(decide (v2.1<(64:Int))=false->(Wd (spl v2.2.2)/\Wd (spl v2.2.2))/\(Wd (spl (val (spl v2.2.2)+val (spl v2.2.2)))/\Wd ((0:Int),IntKind.wrap IntKind.u64 (↑(BitVec.toNat (BitVec.ofInt (64:Nat) (Int.fdiv a.1 ((2:Int) ^ Min.min (max2 true (v2.1-(64:Int)) (0:Int)).toNat (64:Nat))) &&& BitVec.ofInt (64:Nat) (1:Int))):Int)))/\(Wd (spl v2.2.1)/\Wd (spl v2.2.1))/\True/\(decide ((0:Int)<=q06 (spl (val (spl (val (spl v2.2.2)+val (spl v2.2.2)))+val ((0:Int),IntKind.wrap IntKind.u64 (↑(BitVec.toNat (BitVec.ofInt (64:Nat) (Int.fdiv a.1 ((2:Int) ^ Min.min (max2 true (v2.1-(64:Int)) (0:Int)).toNat (64:Nat))) &&& BitVec.ofInt (64:Nat) (1:Int))):Int)))) b)=true->Wd b/\(Wd (spl (val (spl (val (spl v2.2.2)+val (spl v2.2.2)))+val ((0:Int),IntKind.wrap IntKind.u64 (↑(BitVec.toNat (BitVec.ofInt (64:Nat) (Int.fdiv a.1 ((2:Int) ^ Min.min (max2 true (v2.1-(64:Int)) (0:Int)).toNat (64:Nat))) &&& BitVec.ofInt (64:Nat) (1:Int))):Int))))/\Wd (spl (-val b)))/\(Wd (spl (val (spl v2.2.1)+val (spl v2.2.1)))/\Wd ((0:Int),(1:Int)))/\fits .i64 (v2.1-(1:Int))/\∃(v7:Int × Int × Int),OvI a b v7.1 v7.2.1 v7.2.2/\(v7.1+(1:Int)).toNat<(v2.1+(1:Int)).toNat/\(v2.1-(1:Int)=v7.1/\True)/\(a.1=a.1/\a.2=a.2/\True)/\(b.1=b.1/\b.2=b.2/\True)/\((spl (val (spl (val (spl v2.2.1)+val (spl v2.2.1)))+val ((0:Int),(1:Int)))).1=(spl v7.2.1).1/\(spl (val (spl (val (spl v2.2.1)+val (spl v2.2.1)))+val ((0:Int),(1:Int)))).2=(spl v7.2.1).2/\True)/\((spl (val (spl (val (spl (val (spl v2.2.2)+val (spl v2.2.2)))+val ((0:Int),IntKind.wrap IntKind.u64 (↑(BitVec.toNat (BitVec.ofInt (64:Nat) (Int.fdiv a.1 ((2:Int) ^ Min.min (max2 true (v2.1-(64:Int)) (0:Int)).toNat (64:Nat))) &&& BitVec.ofInt (64:Nat) (1:Int))):Int))))+val (spl (-val b)))).1=(spl v7.2.2).1/\(spl (val (spl (val (spl (val (spl v2.2.2)+val (spl v2.2.2)))+val ((0:Int),IntKind.wrap IntKind.u64 (↑(BitVec.toNat (BitVec.ofInt (64:Nat) (Int.fdiv a.1 ((2:Int) ^ Min.min (max2 true (v2.1-(64:Int)) (0:Int)).toNat (64:Nat))) &&& BitVec.ofInt (64:Nat) (1:Int))):Int))))+val (spl (-val b)))).2=(spl v7.2.2).2/\True)/\True)/\(decide ((0:Int)<=q06 (spl (val (spl (val (spl v2.2.2)+val (spl v2.2.2)))+val ((0:Int),IntKind.wrap IntKind.u64 (↑(BitVec.toNat (BitVec.ofInt (64:Nat) (Int.fdiv a.1 ((2:Int) ^ Min.min (max2 true (v2.1-(64:Int)) (0:Int)).toNat (64:Nat))) &&& BitVec.ofInt (64:Nat) (1:Int))):Int)))) b)=false->fits .i64 (v2.1-(1:Int))/\∃(v7:Int × Int × Int),OvI a b v7.1 v7.2.1 v7.2.2/\(v7.1+(1:Int)).toNat<(v2.1+(1:Int)).toNat/\(v2.1-(1:Int)=v7.1/\True)/\(a.1=a.1/\a.2=a.2/\True)/\(b.1=b.1/\b.2=b.2/\True)/\((spl (val (spl v2.2.1)+val (spl v2.2.1))).1=(spl v7.2.1).1/\(spl (val (spl v2.2.1)+val (spl v2.2.1))).2=(spl v7.2.1).2/\True)/\((spl (val (spl (val (spl v2.2.2)+val (spl v2.2.2)))+val ((0:Int),IntKind.wrap IntKind.u64 (↑(BitVec.toNat (BitVec.ofInt (64:Nat) (Int.fdiv a.1 ((2:Int) ^ Min.min (max2 true (v2.1-(64:Int)) (0:Int)).toNat (64:Nat))) &&& BitVec.ofInt (64:Nat) (1:Int))):Int)))).1=(spl v7.2.2).1/\(spl (val (spl (val (spl v2.2.2)+val (spl v2.2.2)))+val ((0:Int),IntKind.wrap IntKind.u64 (↑(BitVec.toNat (BitVec.ofInt (64:Nat) (Int.fdiv a.1 ((2:Int) ^ Min.min (max2 true (v2.1-(64:Int)) (0:Int)).toNat (64:Nat))) &&& BitVec.ofInt (64:Nat) (1:Int))):Int)))).2=(spl v7.2.2).2/\True)/\True)))/\(decide ((0:Int)<=v2.1)=false->((spl v2.2.1).1=(spl (val a / val b)).1/\(spl v2.2.1).2=(spl (val a / val b)).2/\True)/\((spl v2.2.2).1=(spl (val a % val b)).1/\(spl v2.2.2).2=(spl (val a % val b)).2/\True)/\True)) ?_
 obtain⟨wa,wb,⟨a0,a9⟩,⟨b0,b9⟩⟩:=h
 have hb:b=spl (val b):=wb.spl.symm
 have ah:0<=a.1/\a.1<18446744073709551616:=by have:=wa.l0; have:=wa.l1; grind [val]
 have v0:∀t:Int,val (0,t)=t:=λt=>by grind [val]
 have z0:spl 0=(0,0):=rfl
 refine⟨(),(127,0,0),⟨dc,dc,?_,zbr _,b0,zbr _⟩,⟨rfl,⟨rfl,rfl⟩,rfl,rfl⟩,λ⟨i,q,r⟩ hI=>?_⟩
 ·grind
 obtain⟨i0,i1,he,r0,r1,q0⟩:=hI
 dsimp only at *
 have hd:=xp2 a0 (i+1).toNat
 have hq:q<=val a:=by
  have:=Int.mul_le_mul_of_nonneg_left (show 1<=val b by omega) q0
  omega
 have wq:∀t:Int,0<=t->t<=2*q+1->Wd (spl t):=λt h0 h1=>q6t h0 ow
 have wr:∀t:Int,0<=t->t<=2*r+1->Wd (spl t):=λt h0 h1=>q6t h0 ow
 refine⟨λhp=>?_,λhn=>?_⟩
 case refine_2=>
  obtain rfl:i=-1:=ow
  rw[show(-1+1:Int).toNat=0 from rfl,Int.pow_zero,Int.ediv_one] at he
  have e1:val a / val b=q:=by rw[he,Int.add_comm,Int.add_mul_ediv_right _ _ ow,Int.ediv_eq_zero_of_lt r0 r1,Int.zero_add]
  have e2:val a % val b=r:=by rw[he,Int.add_comm,Int.add_mul_emod_self_right,Int.emod_eq_of_lt r0 r1]
  grind
 obtain⟨n,rfl⟩:∃n:Nat,i=n:=⟨i.toNat,ow⟩
 rw[show((n:Int)+1).toNat=n+1 by omega] at he hd
 have hs:=x2m (val a) n
 rw[he] at hs
 have hlo:(n:Int)<64->IntKind.u64.wrap ((BitVec.ofInt 64 (a.2.fdiv (2 ^ min (n:Int).toNat 64)) &&& BitVec.ofInt 64 1).toNat:Int)=val a / 2 ^ n % 2:=λhl=>by
  have hd2:=xp2 wa.l0 n
  have:=wa.l1
  rw[zaq,zes ow,zch _ (by grind),y2l hd2.1 ow]
  grind [yi6]
 have hhi:64<=(n:Int)->IntKind.u64.wrap ((BitVec.ofInt 64 (a.1.fdiv (2 ^ min (max2 true ((n:Int)-64) 0).toNat 64)) &&& BitVec.ofInt 64 1).toNat:Int)=val a / 2 ^ n % 2:=λhl=>by
  have e:(max2 true ((n:Int)-64) 0).toNat=n-64:=by show(max ((n:Int)-64) 0).toNat=_; omega
  have hd2:=xp2 ah.1 (n-64)
  rw[e,zes ow,zch _ (by grind),y2l hd2.1 ow,yi7 wa.l0 wa.l1 ow]
 have main:∀t:Int,t=val a / 2 ^ n % 2->(Wd (spl r)/\Wd (spl r))/\(Wd (spl (r+r))/\Wd (0,t))/\(Wd (spl q)/\Wd (spl q))/\(0<=q06 (spl (r+r+t)) b->Wd b/\(Wd (spl (r+r+t))/\Wd (spl (-val b)))/\(Wd (spl (q+q))/\Wd (0,1))/\fits .i64 ((n:Int)-1) /\
   ∃v:Int × Int × Int,OvI a b v.1 v.2.1 v.2.2/\(v.1+1).toNat<((n:Int)+1).toNat/\(n:Int)-1=v.1/\((spl (q+q+1)).1=(spl v.2.1).1/\(spl (q+q+1)).2=(spl v.2.1).2)/\(spl (r+r+t+-val b)).1=(spl v.2.2).1/\(spl (r+r+t+-val b)).2=(spl v.2.2).2) /\
   (q06 (spl (r+r+t)) b<0->fits .i64 ((n:Int)-1)/\∃v:Int × Int × Int,OvI a b v.1 v.2.1 v.2.2/\(v.1+1).toNat<((n:Int)+1).toNat/\(n:Int)-1=v.1/\((spl (q+q)).1=(spl v.2.1).1/\(spl (q+q)).2=(spl v.2.1).2)/\(spl (r+r+t)).1=(spl v.2.2).1/\(spl (r+r+t)).2=(spl v.2.2).2):=λt ht=>by
  have ht1:t=0\/t=1:=ow
  have hc:=xp3 (r+r+t) (val b)
  rw[<- hb] at hc
  have en:((n:Int)-1+1).toNat=n:=ow
  refine⟨⟨wr _ r0 ow,wr _ r0 ow⟩,⟨wr _ ow ow,⟨ow,ow,ow⟩⟩,⟨wq _ q0 ow,wq _ q0 ow⟩,λh1=>⟨wb,⟨wr _ ow ow,?_⟩,⟨wq _ ow ow,ow,dc,dc⟩,qa6,((n:Int)-1,q+q+1,r+r+t+-val b),⟨ow,ow,?_,?_,?_,by grind⟩,by simp,rfl,⟨rfl,rfl⟩,rfl,rfl⟩,λh1=>⟨qa6,((n:Int)-1,q+q,r+r+t),⟨ow,ow,?_,by grind,?_,by grind⟩,by simp,rfl,⟨rfl,rfl⟩,rfl,rfl⟩⟩
  ·unfold spl hiU loU
   exact⟨ow,ow,ow⟩
  all_goals grind
 simp only[q0w,v0]
 refine⟨xk2 ah.1 ow,qa6,by show(0:Int)<=max ((n:Int)-64) 0; omega,λhl=>⟨ow,?_⟩,λhl=>?_⟩
 ·grind
 grind
structure yz5 (x:List (Int × Int)):Prop where
 len:x.length<=20
 val:∀j,j<x.length->qd8 BIG (nR x j).1/\qd8 BIG (nR x j).2
theorem wi5 {l:List Fit} {i:Nat} (h:i<l.length):nF l i∈l:=by grind [xi5,List.getElem_mem]
open Go Go.RowKit Eng Ls
abbrev tU:Ty:=.int .u64
theorem w2v {a:Int} (h0:0<=a) (h1:a<4294967296):IntKind.u64.wrap ((BitVec.ofInt 64 a &&& BitVec.ofInt 64 4294967295).toNat:Int)=a:=by
 have e1:(BitVec.ofInt 64 a).toNat=a.toNat:=by
  rw[BitVec.toNat_ofInt]
  omega
 have e2:(BitVec.ofInt 64 4294967295).toNat=2 ^ 32-1:=dc
 rw[BitVec.toNat_and,e1,e2,zdj]
 have e3:a.toNat % 2 ^ 32=a.toNat:=Nat.mod_eq_of_lt ow
 rw[e3]
 have e4:((a.toNat:Nat):Int)=a:=ow
 rw[e4]
 exact zd7 a ow
theorem wp2 {a:Int} (h0:0<=a) (h1:a<4294967296):a.fdiv 4294967296=0:=by
 rw[zch _ dc]
 omega
theorem yi8 {x:Int} (h0:0<=x) (h1:x<=18446744073709551615):fits IntKind.u64 x:=by
 first
  | exact⟨h0,h1⟩
  | (unfold fits; simp[IntKind.lo,IntKind.hi]; omega)
  | (unfold fits; exact zd7 x ⟨h0,h1⟩)
abbrev yi9:qa8:=qd9 true none [tU,tU] [tU,tU] (λx=>x.1=1/\0<=x.2.1/\x.2.1<=1000000) (λx=>(0,x.2.1,()))
theorem w2w:Meets Tryz.prog 220 yi9:=by
 refine mt0 (SpecsOk.nil _) Tryz.func220 ?_
 rintro⟨x,y,⟨⟩⟩ h
 revert x y
 intro(x:Int) (y:Int) (h:x=1/\0<=y/\y<=1000000)
 refine vcs ((0:Int)<=(32:Int)/\(0:Int)<=(32:Int)/\fits IntKind.u64 (IntKind.wrap IntKind.u64 (↑(BitVec.toNat (BitVec.ofInt (64:Nat) x &&& BitVec.ofInt (64:Nat) (4294967295:Int))):Int)*IntKind.wrap IntKind.u64 (↑(BitVec.toNat (BitVec.ofInt (64:Nat) y &&& BitVec.ofInt (64:Nat) (4294967295:Int))):Int))/\fits IntKind.u64 (Int.fdiv x (4294967296:Int)*IntKind.wrap IntKind.u64 (↑(BitVec.toNat (BitVec.ofInt (64:Nat) y &&& BitVec.ofInt (64:Nat) (4294967295:Int))):Int))/\(0:Int)<=(32:Int)/\fits IntKind.u64 (Int.fdiv x (4294967296:Int)*IntKind.wrap IntKind.u64 (↑(BitVec.toNat (BitVec.ofInt (64:Nat) y &&& BitVec.ofInt (64:Nat) (4294967295:Int))):Int)+Int.fdiv (IntKind.wrap IntKind.u64 (↑(BitVec.toNat (BitVec.ofInt (64:Nat) x &&& BitVec.ofInt (64:Nat) (4294967295:Int))):Int)*IntKind.wrap IntKind.u64 (↑(BitVec.toNat (BitVec.ofInt (64:Nat) y &&& BitVec.ofInt (64:Nat) (4294967295:Int))):Int)) (4294967296:Int))/\(0:Int)<=(32:Int)/\fits IntKind.u64 (IntKind.wrap IntKind.u64 (↑(BitVec.toNat (BitVec.ofInt (64:Nat) x &&& BitVec.ofInt (64:Nat) (4294967295:Int))):Int)*Int.fdiv y (4294967296:Int))/\fits IntKind.u64 (IntKind.wrap IntKind.u64 (↑(BitVec.toNat (BitVec.ofInt (64:Nat) (Int.fdiv x (4294967296:Int)*IntKind.wrap IntKind.u64 (↑(BitVec.toNat (BitVec.ofInt (64:Nat) y &&& BitVec.ofInt (64:Nat) (4294967295:Int))):Int)+Int.fdiv (IntKind.wrap IntKind.u64 (↑(BitVec.toNat (BitVec.ofInt (64:Nat) x &&& BitVec.ofInt (64:Nat) (4294967295:Int))):Int)*IntKind.wrap IntKind.u64 (↑(BitVec.toNat (BitVec.ofInt (64:Nat) y &&& BitVec.ofInt (64:Nat) (4294967295:Int))):Int)) (4294967296:Int)) &&& BitVec.ofInt (64:Nat) (4294967295:Int))):Int)+IntKind.wrap IntKind.u64 (↑(BitVec.toNat (BitVec.ofInt (64:Nat) x &&& BitVec.ofInt (64:Nat) (4294967295:Int))):Int)*Int.fdiv y (4294967296:Int))/\fits IntKind.u64 (Int.fdiv x (4294967296:Int)*Int.fdiv y (4294967296:Int))/\fits IntKind.u64 (Int.fdiv x (4294967296:Int)*Int.fdiv y (4294967296:Int)+Int.fdiv (Int.fdiv x (4294967296:Int)*IntKind.wrap IntKind.u64 (↑(BitVec.toNat (BitVec.ofInt (64:Nat) y &&& BitVec.ofInt (64:Nat) (4294967295:Int))):Int)+Int.fdiv (IntKind.wrap IntKind.u64 (↑(BitVec.toNat (BitVec.ofInt (64:Nat) x &&& BitVec.ofInt (64:Nat) (4294967295:Int))):Int)*IntKind.wrap IntKind.u64 (↑(BitVec.toNat (BitVec.ofInt (64:Nat) y &&& BitVec.ofInt (64:Nat) (4294967295:Int))):Int)) (4294967296:Int)) (4294967296:Int))/\(0:Int)<=(32:Int)/\fits IntKind.u64 (Int.fdiv x (4294967296:Int)*Int.fdiv y (4294967296:Int)+Int.fdiv (Int.fdiv x (4294967296:Int)*IntKind.wrap IntKind.u64 (↑(BitVec.toNat (BitVec.ofInt (64:Nat) y &&& BitVec.ofInt (64:Nat) (4294967295:Int))):Int)+Int.fdiv (IntKind.wrap IntKind.u64 (↑(BitVec.toNat (BitVec.ofInt (64:Nat) x &&& BitVec.ofInt (64:Nat) (4294967295:Int))):Int)*IntKind.wrap IntKind.u64 (↑(BitVec.toNat (BitVec.ofInt (64:Nat) y &&& BitVec.ofInt (64:Nat) (4294967295:Int))):Int)) (4294967296:Int)) (4294967296:Int)+Int.fdiv (IntKind.wrap IntKind.u64 (↑(BitVec.toNat (BitVec.ofInt (64:Nat) (Int.fdiv x (4294967296:Int)*IntKind.wrap IntKind.u64 (↑(BitVec.toNat (BitVec.ofInt (64:Nat) y &&& BitVec.ofInt (64:Nat) (4294967295:Int))):Int)+Int.fdiv (IntKind.wrap IntKind.u64 (↑(BitVec.toNat (BitVec.ofInt (64:Nat) x &&& BitVec.ofInt (64:Nat) (4294967295:Int))):Int)*IntKind.wrap IntKind.u64 (↑(BitVec.toNat (BitVec.ofInt (64:Nat) y &&& BitVec.ofInt (64:Nat) (4294967295:Int))):Int)) (4294967296:Int)) &&& BitVec.ofInt (64:Nat) (4294967295:Int))):Int)+IntKind.wrap IntKind.u64 (↑(BitVec.toNat (BitVec.ofInt (64:Nat) x &&& BitVec.ofInt (64:Nat) (4294967295:Int))):Int)*Int.fdiv y (4294967296:Int)) (4294967296:Int))/\fits IntKind.u64 (x*y)/\Int.fdiv x (4294967296:Int)*Int.fdiv y (4294967296:Int)+Int.fdiv (Int.fdiv x (4294967296:Int)*IntKind.wrap IntKind.u64 (↑(BitVec.toNat (BitVec.ofInt (64:Nat) y &&& BitVec.ofInt (64:Nat) (4294967295:Int))):Int)+Int.fdiv (IntKind.wrap IntKind.u64 (↑(BitVec.toNat (BitVec.ofInt (64:Nat) x &&& BitVec.ofInt (64:Nat) (4294967295:Int))):Int)*IntKind.wrap IntKind.u64 (↑(BitVec.toNat (BitVec.ofInt (64:Nat) y &&& BitVec.ofInt (64:Nat) (4294967295:Int))):Int)) (4294967296:Int)) (4294967296:Int)+Int.fdiv (IntKind.wrap IntKind.u64 (↑(BitVec.toNat (BitVec.ofInt (64:Nat) (Int.fdiv x (4294967296:Int)*IntKind.wrap IntKind.u64 (↑(BitVec.toNat (BitVec.ofInt (64:Nat) y &&& BitVec.ofInt (64:Nat) (4294967295:Int))):Int)+Int.fdiv (IntKind.wrap IntKind.u64 (↑(BitVec.toNat (BitVec.ofInt (64:Nat) x &&& BitVec.ofInt (64:Nat) (4294967295:Int))):Int)*IntKind.wrap IntKind.u64 (↑(BitVec.toNat (BitVec.ofInt (64:Nat) y &&& BitVec.ofInt (64:Nat) (4294967295:Int))):Int)) (4294967296:Int)) &&& BitVec.ofInt (64:Nat) (4294967295:Int))):Int)+IntKind.wrap IntKind.u64 (↑(BitVec.toNat (BitVec.ofInt (64:Nat) x &&& BitVec.ofInt (64:Nat) (4294967295:Int))):Int)*Int.fdiv y (4294967296:Int)) (4294967296:Int)=(0:Ty.den tU)/\x*y=y/\True) ?_
 obtain⟨rfl,h0,h1⟩:=h
 have e1:=w2v (a:=1) dc dc
 have e2:=w2v (a:=y) h0 ow
 have e0:=w2v (a:=0) dc dc
 have d1:=wp2 (a:=1) dc dc
 have d2:=wp2 (a:=y) h0 ow
 have d0:=wp2 (a:=0) dc dc
 simp only[e1,e2,d1,d2,Int.zero_mul,Int.mul_zero,Int.one_mul,Int.zero_add,Int.add_zero,e0,d0]
 have f0:fits IntKind.u64 0:=yi8 dc dc
 have f1:fits IntKind.u64 y:=yi8 h0 ow
 exact⟨f1,f0,f0,f0,f0,f0,f0,f0,f1,trivial,trivial⟩
theorem xp5:Meets Tryz.prog 263 yi9:=by
 refine mt0 (SpecsOk.cons w2w (SpecsOk.nil _)) Tryz.func263 ?_
 rintro⟨x,y,⟨⟩⟩ h
 revert x y
 intro(x:Int) (y:Int) (h:x=1/\0<=y/\y<=1000000)
 refine vcs ((x=(1:Ty.den tU)/\(0:Ty.den tU)<=y/\y<=(1000000:Ty.den tU))/\(0:Ty.den tU)=(0:Ty.den tU)/\y=y/\True) ?_
 exact h
theorem w2x {P:Program} (w:World) (dT sT ty elem:TypeId) (sz g o dLen dCap:Nat) (a:Addr) (sLen sCap:Nat) (cur:Array Value) (t:TypeId) (cs:List Value)
  (hu:P.underlying dT=some (.slice elem)) (hs:(P.info? elem).map (·.size)=some sz)
  (hg:w.heap[g]? = some (.cells cur t (0,0))) (hn:cs.length=Nat.min sLen dLen*sz)
  (hsrc:∀j v,cs[j]? = some v->w.cell? (a.add j)=some v) (hfit:o+cs.length<=cur.size) (h1:∀v∈cs,v.oneCell'=true) :
  (Builtin.copy_ #[dT,sT] ty #[.slice (some ⟨g,o,none⟩) dLen dCap,.slice (some a) sLen sCap]).run P w =
   .ok (goInt (Nat.min sLen dLen)) (w.setRow g (cur.toList.take o++cs++cur.toList.drop (o+cs.length)).toArray):=by
 have hl:=run_loadCells_list (P:=P) w a cs hsrc
 have hst:=run_storeCells_at P g o t cs 0 cur w hg (by simpa using hfit) h1
 cases hq:P.info? elem with
 | none=>simp[hq] at hs
 | some i=>
  have hi:i.size=sz:=by simpa[hq] using hs
  simp[Builtin.copy_,run_underlying hu,Builtin.lenOf,Builtin.firstCells,sizeOf,typeInfo,hq,hi,<- hn,hl,hst]
theorem xp6 (n:Nat) (hn:n<=1000000) (w:World):Calls Tryz.prog 263 #[.int .u64 1,.int .u64 n] w λe w'=>e=.returned (.tuple #[.int .u64 0,.int .u64 n])/\Below w.heap.size w w':=by
 have hx:qu1 (λb=>w.heap[b]?) [tU,tU] ((1:Int),(n:Int),()) [.int .u64 1,.int .u64 n]:=⟨_,_,rfl,rfl,_,_,rfl,rfl,rfl⟩
 refine(wm0 (x:=(((1:Int),(n:Int),()):qa3 [tU,tU])) xp5 (View.full_on w) ⟨rfl,zb3 _,zem.2 hn⟩ hx).mono λe w' ⟨v,m',e1,e2,_,_,e5⟩=>⟨?_,e2⟩
 obtain⟨cs,e6,e7⟩:=e5
 obtain⟨v1,r1,rfl,e8,e9⟩:=e7
 obtain⟨v2,r2,rfl,e10,e11⟩:=e9
 have e11:r2=[]:=e11
 have e8:[v1]=[.int .u64 0]:=e8
 have e10:[v2]=[.int .u64 n]:=e10
 rw[e1,(zad e6).1,(zad e8).1,(zad e10).1,e11]
def rp (n:Nat) (a b:Int):List Value:=(List.replicate n [Value.int .i64 a,.int .i64 b]).flatten
theorem y5c:Elt Tryz.prog 53 43 (.agg #[.int .i64 0,.int .i64 0]) 2 16:=⟨Tryz.underlying53,kr⟩
theorem x73 {P:Program} (w:World) {t e:TypeId} {z:Value} {sz bytes:Nat} (E:Elt P t e z sz bytes) (n:Nat) (hb:n<=1000000) (hby:bytes<=1000000) :
  ∃w' cur,(Instr.makeSlice t (.int .i64 (n:Int)) (.int .i64 (n:Int))).run P w=.ok (.slice (some ⟨w.heap.size,0,none⟩) n n) w'/\w'.heap[w.heap.size]? = some (.cells cur e (0,0))/\cur.size=n*sz/\Below w.heap.size w w':=by
 obtain⟨i,hi,hz0,hz1,hz2⟩:=info_parts E.info
 have hbb:bytes*n<=1000000*1000000:=zbh hby hb
 obtain⟨w',hrun,h1,h2⟩:=run_make_full (P:=P) w w.heap.size t e i z sz E.under hi hz0 hz1 .i64 .i64 n (by rw[hz2]; omega) (by unfold maxLen; omega) (zac _)
 rcases h1.2 with⟨e1,_⟩ | ⟨g,cap,cur,e1,_,hg,_,_,hs,_⟩
 ·cases e1
 ·injection e1 with e2 e3 e4
  injection e2 with e2
  injection e2 with e2
  refine⟨w',cur,hrun,by rw[e2]; exact hg,by rw[hs,<- e4],below_none h2⟩
theorem x4x (n:Nat) (a b:Int):(rp n a b).length=n*2:=by simp[rp]
theorem x4y (m n:Nat) (a b:Int):rp m a b++rp n a b=rp (m+n) a b:=by
 unfold rp
 rw[<- List.replicate_append_replicate,List.flatten_append]
theorem yj0 (n:Nat) (a b:Int):∀v∈rp n a b,v.oneCell'=true:=by
 intro v hv
 unfold rp at hv
 obtain⟨l,hl,hv⟩:=List.mem_flatten.1 hv
 obtain⟨_,rfl⟩:=zc8.1 hl
 simp at hv
 rcases hv with rfl | rfl <;> rfl
def x9h (w:World) (g n k:Nat) (a b:Int):Prop:=∃cur:Array Value,w.heap[g]? = some (.cells cur 43 (0,0))/\cur.size=n*2/\cur.toList.take (k*2)=rp k a b
theorem xp7 {w:World} {g n k m:Nat} {a b:Int} (h:x9h w g n k a b) (hk:k+m<=n) (a0:Addr) (sLen sCap dCap:Nat) (hmin:Nat.min sLen (n-k)=m) (hsrc:∀j v,(rp m a b)[j]? = some v->w.cell? (a0.add j)=some v) :
  ∃w',(Builtin.copy_ #[53,53] 3 #[.slice (some ⟨g,k*2,none⟩) (n-k) dCap,.slice (some a0) sLen sCap]).run Tryz.prog w=.ok (.int .i64 (m:Int)) w'/\x9h w' g n (k+m) a b/\∀B w0,B<=g->Below B w0 w->Below B w0 w':=by
 obtain⟨cur,hg,hs,ht⟩:=h
 have hl:=x4x m a b
 have hr:=w2x (P:=Tryz.prog) w 53 53 3 43 2 g (k*2) (n-k) dCap a0 sLen sCap cur 43 (rp m a b) Tryz.underlying53 kr hg (by rw[hl,hmin]) hsrc (by rw[hl,hs]; omega) (yj0 m a b)
 rw[hmin] at hr
 refine⟨_,hr,⟨_,setRow_heap w g cur _ _ _ hg,?_,?_⟩,λB w0 hB hb=>⟨hb.os,hb.tape,hb.output,by rw[setRow_size]; exact hb.size,λx hx=>(setRow_other w g x _ ow).trans (hb.block x hx)⟩⟩
 ·simp only[List.size_toArray,List.length_append,List.length_take,List.length_drop,Array.length_toList]
  omega
 ·have e1:(cur.toList.take (k*2)).length=k*2:=by simp; omega
  rw[<- x4y k m a b,<- ht]
  show List.take ((k+m)*2) (cur.toList.take (k*2)++rp m a b++cur.toList.drop (k*2+(rp m a b).length))=_
  rw[List.take_append_of_le_length (by rw[zav,e1,hl]; omega),zcs (by rw[zav,e1,hl]; omega)]
theorem x74 {w:World} {g n k m:Nat} {a b:Int} (h:x9h w g n k a b) (hm:m<=k):∀j v,(rp m a b)[j]? = some v->w.cell? ((⟨g,0,none⟩:Addr).add j)=some v:=by
 obtain⟨cur,hg,hs,ht⟩:=h
 intro j v hj
 have hj2:(rp k a b)[j]? = some v:=by
  have e:=x4y m (k-m) a b
  rw[show m+(k-m)=k by omega] at e
  rw[<- e,zb9 (zag.1 hj).1]
  exact hj
 rw[<- ht,zct] at hj2
 split at hj2
 ·have hadd:(⟨g,0,none⟩:Addr).add j=⟨g,j,none⟩:=by unfold Addr.add; split <;> simp_all
  rw[hadd]
  simp only[World.cell?,hg]
  simpa using hj2
 ·cases hj2
set_option maxRecDepth 100000 in
set_option maxHeartbeats 1000000 in
theorem w8n (ad:Addr) (d:Nat) (a b:Int) (n:Nat) (hn:1<=n) (hn2:n<=1000) (w:World) (h0:w.cell? ad=some (.int .i64 a)) (h1:w.cell? (ad.add 1)=some (.int .i64 b)) :
  Calls Tryz.prog 211 #[.slice (some ad) 1 d,.int .i64 n] w λe w'=>∃b' c',e=.returned (.slice (some ⟨b',0,none⟩) n c')/\w'.ownsRow w.heap.size 43 2 (.slice (some ⟨b',0,none⟩) n c') n (rp n a b)/\Below w.heap.size w w':=by
 have first:∀w1,Below w.heap.size w w1->∃w2 w3,(Instr.makeSlice 53 (.int .i64 (n:Int)) (.int .i64 (n:Int))).run Tryz.prog w1=.ok (.slice (some ⟨w1.heap.size,0,none⟩) n n) w2 /\
   (Builtin.copy_ #[53,53] 3 #[.slice (some ⟨w1.heap.size,0,none⟩) n n,.slice (some ad) 1 d]).run Tryz.prog w2=.ok (.int .i64 1) w3/\x9h w3 w1.heap.size n 1 a b/\Below w.heap.size w w3:=λw1 hb1=>by
  obtain⟨w2,cur,hmk,hg,hsz,hb2⟩:=x73 w1 y5c n ow dc
  have hB:Below w.heap.size w w2:=Ls.step_trans hb1 hb2
  have c0:=Below.cell_of hB h0
  have c1:=Below.cell_of hB h1
  have hadd:ad.add 0=ad:=by unfold Addr.add; split <;> simp_all
  obtain⟨w3,e1,e2,e3⟩:=xp7 (w:=w2) (g:=w1.heap.size) (n:=n) (k:=0) (m:=1) (a:=a) (b:=b) ⟨cur,hg,hsz,by simp[rp]⟩ ow ad 1 d n (by show Nat.min 1 (n-0)=1; exact zes ow) (λj v hj=>by
   match j,hj with
   | 0,hj=>
    rw[hadd]
    simp[rp] at hj
    rw[c0,hj]
   | 1,hj=>
    simp[rp] at hj
    rw[c1,hj]
   | j+2,hj=>simp[rp] at hj)
  exact⟨w2,w3,hmk,e1,e2,e3 _ _ hb1.size hB⟩
 go_enter Tryz.func211,Tryz.ntmps211
 go_wp2_with (first
  | (go_at_call 263; refine(xp6 n ow _).mono ?_; rintro e w1 ⟨rfl,hb1⟩; obtain⟨w2,w3,hmk,hcp,hR,hB⟩:=first w1 hb1)
  | (at_builtin; refine Hid.out ?_))
 go_loopw [8] (λs wr=>∃k:Nat,1<=k/\k<=n/\s=.int .i64 k/\x9h wr w1.heap.size n k a b/\Below w.heap.size w wr) (λs _=>n-(intOf s).toNat)
 case atStart=>exact⟨1,zac _,hn,rfl,hR,hB⟩
 case round=>
  obtain⟨k,hk1,hk,rfl,hr,hb⟩:=hrel
  by_cases hlt:k<n
  ·have k0:(0:Int)<=(k:Int):=zb3 k
   have k1:(k:Int)<=(n:Int):=zem.2 hk
   have k2:(k:Int)<(n:Int):=Int.ofNat_lt.2 hlt
   obtain⟨m,hm⟩:∃m,Nat.min k (n-k)=m:=⟨_,rfl⟩
   have hm1:1<=m:=by have:m=Nat.min k (n-k):=hm.symm; rw[this]; exact Nat.le_min.2 ⟨hk1,ow⟩
   have hm2:m<=k:=by rw[<- hm]; exact Nat.min_le_left _ _
   have hm4:m<=n-k:=by rw[<- hm]; exact Nat.min_le_right _ _
   have hm3:k+m<=n:=ow
   have hrd:x9h wr.drew w1.heap.size n k a b:=hr
   obtain⟨w5,hcp5,hR5,hB5⟩:=xp7 hrd hm3 ⟨w1.heap.size,0,none⟩ k n (n-k) hm (x74 hrd hm2)
   have hB5':=hB5 _ _ hb1.size hb.drew
   go_wp2_with fail
   have hbd:Below w.heap.size w wr.drew:=hb.drew
   have hwk:IntKind.i64.wrap ((k:Int)+(m:Int))=(k:Int)+(m:Int):=Go.IntWalk.i64_in _ ow
   go_region_held3 (λw'=>Below w.heap.size w w') (first | exact hbd | exact hB5' | exact hbd.drew | exact hB5'.drew) (first | (at_builtin; refine Hid.out ?_))
   go_roundw
   case rel=>
    repeat apply Exists.intro
    exact⟨⟨k+m,ow,hm3,za2 (Value.int .i64) (Int.natCast_add k m).symm,hR5,hB5'⟩,rfl⟩
   case measure=>simp[intOf]; omega
  ·have hkk:k=n:=ow
   subst hkk
   go_wp2
   go_ret
   obtain⟨cur,hg,hsz,hpre⟩:=hr
   exact⟨_,_,rfl,⟨x4x _ _ _,.inr ⟨_,_,cur,rfl,hb1.size,hg,zac _,by unfold maxLen; omega,hsz,hpre⟩⟩,hb⟩
abbrev y5d:qa8:=qd9 true (some 43) [.list (.prod (.int .i64) (.int .i64)),.int .i64] [.list (.prod (.int .i64) (.int .i64))] (λx=>x.1.length=1/\1<=x.2.1/\x.2.1<=1000) (λx=>(List.replicate x.2.1.toNat (qf0 (.prod (.int .i64) (.int .i64)) x.1 0),()))
theorem x4z (m:View) (a b:Int):∀n:Nat,RdL m (.prod (.int .i64) (.int .i64)) (List.replicate n ((a,b):Int × Int)) (rp n a b)
 | 0=>rfl
 | n+1=>⟨[.int .i64 a,.int .i64 b],rp n a b,rfl,⟨[.int .i64 a],[.int .i64 b],rfl,rfl,rfl⟩,x4z m a b n⟩
theorem w0j:Meets Tryz.prog 211 y5d:=by
 refine⟨⟨_,_,Tryz.func211,rfl,rfl⟩,λw m args vs k hm hargs hrun=>?_⟩
 obtain⟨⟨l,n,⟨⟩⟩,⟨hp,hk⟩,hx⟩:=qj6 hrun hargs
 revert l n
 intro(l:List (Int × Int)) (n:Int) hx hp hk
 have hp:l.length=1/\1<=n/\n<=1000:=hp
 obtain⟨u,us,rfl,h1,h2⟩:=hx
 obtain⟨u2,us2,rfl,h3,h4⟩:=h2
 obtain rfl:us2=[]:=h4
 obtain rfl:u2=.int .i64 n:=h3
 obtain⟨A,c,e,_,_,h5⟩:=h1
 obtain rfl:u=.slice A l.length c:=(zad e).1
 obtain⟨ad,rfl,h6⟩:=h5 (by rw[hp.1]; decide)
 obtain⟨cs,k1,k2⟩:=h6 0 (by rw[hp.1]; decide)
 obtain⟨p,q,rfl,k3,k4⟩:=k1
 obtain rfl:p=[.int .i64 (qf0 (.prod (.int .i64) (.int .i64)) l 0).1]:=k3
 obtain rfl:q=[.int .i64 (qf0 (.prod (.int .i64) (.int .i64)) l 0).2]:=k4
 have c0:=View.cell_on hm (k2 0 (.int .i64 (qf0 (.prod (.int .i64) (.int .i64)) l 0).1) rfl)
 have c1:=View.cell_on hm (k2 1 (.int .i64 (qf0 (.prod (.int .i64) (.int .i64)) l 0).2) rfl)
 have hadd:ad.add (0*Ty.size (.prod (.int .i64) (.int .i64))+0)=ad:=by
  rw[zdg,zce]
  unfold Addr.add; split <;> simp_all
 have hadd1:ad.add (0*Ty.size (.prod (.int .i64) (.int .i64))+1)=ad.add 1:=by rw[zdg,zce]
 rw[hadd] at c0
 rw[hadd1] at c1
 obtain⟨nn,rfl⟩:∃nn:Nat,n=(nn:Int):=⟨n.toNat,ow⟩
 rw[hp.1]
 refine(w8n ad c _ _ nn ow ow w c0 c1).mono λe w' ⟨b',c',e1,e2,e3⟩=>?_
 refine⟨_,λ_=>none,e1,e3,(λb o h=>by cases h),(λb o h=>by cases h),.inl ⟨.prod (.int .i64) (.int .i64),List.replicate nn (qf0 (.prod (.int .i64) (.int .i64)) l 0),_,hk,?_,x4z _ _ _ nn,λ_ _=>rfl⟩⟩
 rw[zcj]
 exact e2
end Go.Proofs.YtnchigbbjajiiaaGreat
