/- A shown picture as a fit, and how many of its numbers are not 0: contracts by the engine. No condition. -/
import Derived.Test.YtnchigbbjajiiaaGreatQ7
import Derived.Test.YtnchigbbjajiiaaGreatEngT2
import Derived.Test.YtnchigbbjajiiaaGreatN1
set_option linter.unusedVariables false
set_option linter.unusedSimpArgs false
namespace Go.Proofs.YtnchigbbjajiiaaGreat
open Go Go.RowKit Eng
structure wp5 (l:List (List Int)) (k:Int):Prop where
 len:l.length<=1000000
 lar:∀i,i<l.length->x2l (nL l i) k
 shr:∀i,i<l.length->xp7 (nL l i) (q19 (nL l i) k.toNat)
def x2p (l:List (List Int)) (k:Nat):List (List Int × (Int × Int)):=l.map λh=>(h,shR h (q19 h k))
theorem x5h {l:List (List Int)} {k i:Nat} (h:i<l.length):((x2p l k).map λq=>((q.1,q.2,()):qa3 [qf1,qx2]))[i]? = some (nL l i,shR (nL l i) (q19 (nL l i) k),()):=by
 grind [x2p,List.map_map,List.getElem?_eq_getElem,ql6]
abbrev y0y:q1e:=w2d [qg1,qc0] [qf1,qx2] (λx=>wp5 x.1 x.2.1) (λx=>(x2p x.1 x.2.1.toNat).map λq=>(q.1,q.2,()))
def y0z (l:List (List Int)):Nat->Option Inv
 | 0=>some (Inv.of [8] 1 (λi:Nat=>[(8,.lit (.int .i64 i))]) (λi=>[.cnt (some i)]) (λi=>i<=l.length) (λi=>l.length-i))
 | _=>none
theorem xq6:q02 Tryz.prog 131 y0y:=by
 refine y0x (snd (SpecsOk.cons xq5 (SpecsOk.cons w89 (SpecsOk.nil _)))) rfl Tryz.func131 rfl rfl rfl [12] 6 (λx=>[(7,.lit (.int .i64 (x.1:List (List Int)).length)),(8,.lit (.int .i64 0))]) (λx=>y0z x.1) kr kr (λ_=>by kernel_rfl) dc (λx l A cp=>⟨rfl,rfl,rfl,rfl,trivial⟩) ?_
 rintro⟨l,k,⟨⟩⟩ q h
 revert l k
 intro(l:List (List Int)) (k:Int) (h:wp5 l k)
 refine vcs (let Q0:=x2p l k.toNat; let Q1:=(l,k,PUnit.unit); ∃(v0:Unit),∃(v1:Nat),Nat.le v1 l.length/\(((0:Int)=(↑v1:Int)/\True)/\some (0:Nat)=some v1/\True)/\∀(v2:Nat),Nat.le v2 l.length->(decide ((↑v2:Int)<(↑l.length:Int))=true->((0:Int)<=(↑v2:Int)/\(↑v2:Int)<(↑l.length:Int))/\x2l (nL l v2) k/\xp7 (nL l v2) (q19 (nL l v2) k.toNat)/\Value.func (Fn.yield q) #[] #[]=Value.func (Fn.yield (qh5.l (q98 (Ty.list (Ty.int .i64)) [qc0] [qf1,qx2] [(12:Nat)] (6:Nat) Q1 (List.map (λ(v5:List Int × Int × Int)=>(v5.1,v5.2,())) Q0) q))) #[] #[]/\(qh5.L (q98 (Ty.list (Ty.int .i64)) [qc0] [qf1,qx2] [(12:Nat)] (6:Nat) Q1 (List.map (λ(v5:List Int × Int × Int)=>(v5.1,v5.2,())) Q0) q))[v2]?=some (nL l v2,((shR (nL l v2) (q19 (nL l v2) k.toNat)).1,(shR (nL l v2) (q19 (nL l v2) k.toNat)).2),())/\(fits .i64 ((↑v2:Int)+(1:Int))/\∃(v5:Nat),Nat.le v5 l.length/\l.length-v5<l.length-v2/\((↑v2:Int)+(1:Int)=(↑v5:Int)/\True)/\some (v2+(1:Nat))=some v5/\True)/\True)/\(decide ((↑v2:Int)<(↑l.length:Int))=false->v2=(qh5.L (q98 (Ty.list (Ty.int .i64)) [qc0] [qf1,qx2] [(12:Nat)] (6:Nat) Q1 (List.map (λ(v5:List Int × Int × Int)=>(v5.1,v5.2,())) Q0) q)).length)) ?_
 have hl:=h.len
 refine⟨(),0,zaf _,⟨rfl,rfl⟩,λi hi=>⟨λhlt=>⟨hlt,h.lar i hlt,h.shr i hlt,rfl,x5h hlt,qa7,i+1,hlt,ow,by rfl,rfl⟩,λhge=>?_⟩⟩
 obtain rfl:i=l.length:=ow
 show _=((x2p l k.toNat).map λq=>((q.1,q.2,()):qa3 [qf1,qx2])).length
 rw[za4]; exact(za4 _).symm
abbrev y50:qa8:=ww6 false none [qg1,qc0] (λ_=>True) (λx=>.clo 131 (.cons (.imm (.cons (.dat (.list (.int .i64)) x.1) .nil) 0) (.cons (.imm (.cons (.lit (.int .i64 x.2.1)) .nil) 0) .nil)))
theorem xq7:Meets Tryz.prog 84 y50:=by
 refine q6s (snd (SpecsOk.nil _)) Tryz.func84 rfl rfl (λ_ _=>none) (λ_=>by kernel_rfl) dc ?_
 rintro⟨l,k,⟨⟩⟩ -
 revert l k
 intro(l:List (List Int)) (k:Int)
 refine vcr (((l=l/\True)/\(0:Nat)=(0:Nat))/\((k=k/\True)/\(0:Nat)=(0:Nat))/\True) ?_
 simp
def qk1 (l:List (List Int)) (k:Nat):Nat->Int × Int
 | 0=>(0,1)
 | i+1=>wp3 (qk1 l k i) (shR (nL l i) (q19 (nL l i) k))
theorem qw6 {l:List (List Int)} {k:Int} (h:wp5 l k):∀i,i<=l.length->q25 (qk1 l k.toNat i)
 | 0,_=>x5g
 | i+1,hi=>xp9 (qw6 h i ow) (wj3 (h.shr i ow))
abbrev y51:AV:=.cons (.lit (.int .i64 0)) (.cons (.lit (.int .i64 0)) .nil)
def y00 (l:List (List Int)) (k:Int):Nat->Option Inv
 | 0=>some (Inv.of [] 3 (λ_:Nat=>[]) (λi=>[.box 43 y51,.box 43 (.cons (.lit (.int .i64 (qk1 l k.toNat i).1)) (.cons (.lit (.int .i64 (qk1 l k.toNat i).2)) .nil)),.box 121 (.cons (.clo 193 (.cons (.box 1 0) .nil)) .nil)]) (λi=>i<=l.length) (λi=>i))
 | _=>none
abbrev y52:qa8:=qd9 true none [qg1,qc0] [qx2] (λx=>wp5 x.1 x.2.1) (λx=>(qk1 x.1 x.2.1.toNat x.1.length,()))
theorem xq8:Meets Tryz.prog 107 y52:=by
 refine meets (y5o (SpecsOk.cons xp8 (SpecsOk.cons xq7 (SpecsOk.cons w9b (SpecsOk.nil _)))) (ItsOk.cons xq6 ItsOk.nil) (BxsOk.cons w9a BxsOk.nil)) Tryz.func107 rfl rfl (λx=>y00 x.1 x.2.1) (λ_=>by kernel_rfl) dc ?_
 rintro⟨l,k,⟨⟩⟩ h
 revert l k
 intro(l:List (List Int)) (k:Int) (h:wp5 l k)
 refine vcs (let Q0:=qk1 l k.toNat l.length; True/\True/\wp5 l k/\∃(v0:Unit),∃(v1:Nat),Nat.le v1 l.length/\v1=(0:Nat)/\(((0:Int)=(0:Int)/\(0:Int)=(0:Int)/\True)/\((0:Int)=(qk1 l k.toNat v1).1/\(1:Int)=(qk1 l k.toNat v1).2/\True)/\((True/\True)/\True)/\True)/\∀(v2:Nat),Nat.le v2 l.length->(∀(v4:List Int × qa3._f [qx2] ⟨qa3._f [] PUnit.unit,PUnit.unit⟩),(List.map (λ(v6:List Int × Int × Int)=>(v6.1,v6.2,())) (x2p l k.toNat))[v2]?=some v4->(q25 ((qk1 l k.toNat v2).1,(qk1 l k.toNat v2).2)/\q25 (v4.2.1.1,v4.2.1.2))/\∃(v6:Nat),Nat.le v6 l.length/\v6=v2+(1:Nat)/\((0:Int)=(0:Int)/\(0:Int)=(0:Int)/\True)/\((wp3 ((qk1 l k.toNat v2).1,(qk1 l k.toNat v2).2) (v4.2.1.1,v4.2.1.2)).1=(qk1 l k.toNat v6).1/\(wp3 ((qk1 l k.toNat v2).1,(qk1 l k.toNat v2).2) (v4.2.1.1,v4.2.1.2)).2=(qk1 l k.toNat v6).2/\True)/\((True/\True)/\True)/\True)/\(v2=(List.map (λ(v5:List Int × Int × Int)=>(v5.1,v5.2,())) (x2p l k.toNat)).length->True/\(qk1 l k.toNat v2).1=Q0.1/\(qk1 l k.toNat v2).2=Q0.2/\True)) ?_
 refine⟨h,(),0,zaf _,rfl,⟨rfl,rfl⟩,λi hi=>⟨λd hd=>?_,λhe=>?_⟩⟩
 ·have hd:((x2p l k.toNat).map λq=>((q.1,q.2,()):qa3 [qf1,qx2]))[i]? = some d:=hd
  have hlt:i<l.length:=by
   have:=(zag.1 hd).1
   rw[za4] at this
   exact Nat.lt_of_lt_of_eq this (za4 _)
  rw[x5h hlt] at hd
  obtain rfl:=zaa hd
  exact⟨⟨qw6 h i hi,wj3 (h.shr i hlt)⟩,i+1,hlt,rfl,rfl,rfl⟩
 ·have he:i=((x2p l k.toNat).map λq=>((q.1,q.2,()):qa3 [qf1,qx2])).length:=he
  rw[za4] at he
  obtain rfl:i=l.length:=he.trans (za4 _)
  simp
structure x2q (m:List (List Int)):Prop where
 cir:qb6 m=true->wz4 m
 shs:qb6 m=true->∀k:Nat,k<=(nL m 0).length->wp5 (qh9 m).1 k
def hlf (r:Int × Int):Bool:=decide (r.2<=2*r.1)
abbrev y01:qa8:=qd9 true none [qx2] [.bool] (λx=>q25 x.1) (λx=>(hlf x.1,()))
theorem w9f:Meets Tryz.prog 85 y01:=by
 refine mt0 (SpecsOk.nil _) Tryz.func85 ?_
 rintro⟨⟨a,b⟩,⟨⟩⟩ h
 revert a b
 intro(a:Int) (b:Int) (h:q25 (a,b))
 refine vcs (fits .i64 ((2:Int)*a)/\decide (b<=(2:Int)*a)=hlf (a,b)) ?_
 have h1:=h.n
 obtain⟨h1,h2⟩:=h1
 dsimp only at h1 h2
 exact⟨qa7,rfl⟩
def ordF (l:List (List Int)):Nat->Nat->Nat
 | 0,k=>k
 | f+1,k=>if hlf (qk1 l (k+1) l.length)=false then ordF l f (k+1) else k
def ordL (m:List (List Int)):Nat:=ordF (qh9 m).1 (nL m 0).length 0
theorem w5w {l:List (List Int)} {n k:Nat} (h:k<n):ordF l (n-k) k=if hlf (qk1 l (k+1) l.length)=false then ordF l (n-(k+1)) (k+1) else k:=by
 obtain⟨f,hf⟩:∃f,n-k=f+1:=⟨n-k-1,ow⟩
 grind [ordF]
structure x2r (l:List (List Int)) (n k:Nat):Prop where
 le:k<=n
 eq:ordF l n 0=ordF l (n-k) k
def y02 (l:List (List Int)) (n:Nat):Nat->Option Inv
 | 0=>some (Inv.of [4] 0 (λk:Nat=>[(4,.lit (.int .i64 k))]) (λ_=>[]) (λk=>x2r l n k) (λk=>n-k))
 | _=>none
abbrev x2s:qa8:=qd9 true none [qg1] [qc0] (λx=>qb6 x.1=true/\x2q x.1) (λx=>((ordL x.1:Nat),()))
theorem wp6:Meets Tryz.prog 72 x2s:=by
 refine mts (SpecsOk.cons w9c (SpecsOk.cons xq8 (SpecsOk.cons w9f (SpecsOk.nil _)))) Tryz.func72 (λx=>y02 (qh9 x.1).1 (nL x.1 0).length) ?_
 rintro⟨m,⟨⟩⟩ h
 revert m
 intro(m:List (List Int)) (h:qb6 m=true/\x2q m)
 refine vcs ((qb6 m=true->wz4 m)/\∃(v0:Unit),∃(v1:Nat),x2r (qh9 m).1 (nL m (0:Nat)).length v1/\(((0:Int)=(↑v1:Int)/\True)/\True)/\∀(v2:Nat),x2r (qh9 m).1 (nL m (0:Nat)).length v2->((0:Int)<=(0:Int)/\(0:Int)<(↑m.length:Int))/\(decide ((↑v2:Int)<(↑(nL m (0:Nat)).length:Int))=true->fits .i64 ((↑v2:Int)+(1:Int))/\wp5 (qh9 m).1 ((↑v2:Int)+(1:Int))/\q25 ((qk1 (qh9 m).1 ((↑v2:Int)+(1:Int)).toNat (qh9 m).1.length).1,(qk1 (qh9 m).1 ((↑v2:Int)+(1:Int)).toNat (qh9 m).1.length).2)/\((!hlf ((qk1 (qh9 m).1 ((↑v2:Int)+(1:Int)).toNat (qh9 m).1.length).1,(qk1 (qh9 m).1 ((↑v2:Int)+(1:Int)).toNat (qh9 m).1.length).2))=true->fits .i64 ((↑v2:Int)+(1:Int))/\∃(v6:Nat),x2r (qh9 m).1 (nL m (0:Nat)).length v6/\(nL m (0:Nat)).length-v6<(nL m (0:Nat)).length-v2/\((↑v2:Int)+(1:Int)=(↑v6:Int)/\True)/\True)/\((!hlf ((qk1 (qh9 m).1 ((↑v2:Int)+(1:Int)).toNat (qh9 m).1.length).1,(qk1 (qh9 m).1 ((↑v2:Int)+(1:Int)).toNat (qh9 m).1.length).2))=false->(↑v2:Int)=(↑(ordL m):Int)))/\(decide ((↑v2:Int)<(↑(nL m (0:Nat)).length:Int))=false->(↑v2:Int)=(↑(ordL m):Int))) ?_
 have hM:=Mk.of h.1
 have m1:=hM.rows1
 have m10:=hM.pix10
 have hc:=h.2.shs h.1
 refine⟨h.2.cir,(),0,⟨zaf _,rfl⟩,rfl,λk hk=>⟨ow,λhlt=>?_,λhge=>?_⟩⟩
 ·have e:((k:Int)+1).toNat=k+1:=ow
  have e2:((k:Int)+1)=((k+1:Nat):Int):=by rfl
  have hs:=hc (k+1) ow
  have hl:=qw6 hs (qh9 m).1.length (zac _)
  rw[zat] at hl
  rw[e,e2]
  refine⟨qa7,hs,hl,λhf=>⟨qa7,k+1,⟨ow,?_⟩,ow,rfl⟩,λhf=>?_⟩
  ·rw[hk.eq,w5w hlt]
   grind
  ·have:ordL m=k:=by
    unfold ordL
    rw[hk.eq,w5w hlt,zaj (by grind)]
   omega
 ·have hle:=hk.le
  have e:k=(nL m 0).length:=ow
  have:ordL m=k:=by
   unfold ordL
   rw[hk.eq,e,Nat.sub_self]; rfl
  omega
def q64 (m:List (List Int)):Int × Int:=if qb6 m=true then((ordL m:Nat),0) else(0,1)
abbrev yj9:qa8:=qd9 true none [qg1] [qc0,qc0] (λx=>x2q x.1) (λx=>((q64 x.1).1,(q64 x.1).2,()))
theorem q99:Meets Tryz.prog 26 yj9:=by
 refine mt0 (SpecsOk.cons qx3 (SpecsOk.cons wp6 (SpecsOk.nil _))) Tryz.func26 ?_
 rintro⟨m,⟨⟩⟩ h
 revert m
 intro(m:List (List Int)) (h:x2q m)
 refine vcs (True/\((!qb6 m)=true->(0:Int)=(q64 m).1/\(1:Int)=(q64 m).2/\True)/\((!qb6 m)=false->(qb6 m=true/\x2q m)/\(↑(ordL m):Int)=(q64 m).1/\(0:Int)=(q64 m).2/\True)) ?_
 refine⟨λhv=>?_,λhv=>⟨⟨hv,h⟩,?_⟩⟩
 ·unfold q64; grind
 ·unfold q64; grind
def sgn (i:Nat):Int:=if i % 2=0 then 1 else -1
def skp (i a:Nat):Nat:=if a<i then a else a+1
def det:Nat->(Nat->Nat->Int)->Int
 | 0,_=>1
 | n+1,A=>sm (n+1) λi=>sgn i*A i 0*det n (λa b=>A (skp i a) (b+1))
theorem wa0 {n i a:Nat} (ha:a<n):skp i a<n+1:=by grind [skp]
theorem x5i (i a:Nat):skp i a≠i:=by grind [skp]
theorem qj1:∀(n:Nat) {A B:Nat->Nat->Int},(∀i j,i<n->j<n->A i j=B i j)->det n A=det n B
 | 0,_,_,_=>rfl
 | n+1,A,B,h=>by
  rw[det,det]
  refine qd3 λi hi=>?_
  rw[h i 0 hi ow,qj1 n (A:=λa b=>A (skp i a) (b+1)) (B:=λa b=>B (skp i a) (b+1)) λa b ha hb=>h _ _ (wa0 ha) ow]
def upd (A:Nat->Nat->Int) (r:Nat) (u:Nat->Int):Nat->Nat->Int:=λi j=>if i=r then u j else A i j
theorem q26 (A:Nat->Nat->Int) (r:Nat):upd A r (A r)=A:=by
 grind [upd]
theorem wp7 (A:Nat->Nat->Int) {r s:Nat} (h:r≠s) (u v:Nat->Int):upd (upd A r u) s v=upd (upd A s v) r u:=by
 funext i j; unfold upd
 omega
theorem q59 (A:Nat->Nat->Int) (r:Nat) (w:Nat->Int):(λa b=>upd A r w (skp r a) (b+1))=λa b=>A (skp r a) (b+1):=by
 simp_all [upd,if_neg,x5i]
theorem wa1 {i r:Nat} (h:i≠r) (A:Nat->Nat->Int) (w:Nat->Int):(λa b=>upd A r w (skp i a) (b+1))=upd (λa b=>A (skp i a) (b+1)) (if r<i then r else r-1) (λb=>w (b+1)):=by
 funext a b
 have e:skp i a=r↔a=(if r<i then r else r-1):=by grind [skp]
 simp_all [upd,if_pos,if_neg]
theorem qs2:∀(n:Nat) (A:Nat->Nat->Int) (r:Nat),r<n->∀(x y:Int) (u v:Nat->Int),det n (upd A r (λj=>x*u j+y*v j))=x*det n (upd A r u)+y*det n (upd A r v)
 | n+1,A,r,hr,x,y,u,v=>by
  rw[det,det,det,<- qj6,<- qj6,<- q9t]
  refine qd3 λi hi=>?_
  by_cases e:i=r
  ·subst e
   rw[q59,q59,q59]
   have e1:∀w,upd A i w i 0=w 0:=λw=>zam rfl
   grind
  ·rw[wa1 e,wa1 e,wa1 e]
   have e1:∀w,upd A r w i 0=A i 0:=λw=>zaj e
   rw[e1,e1,e1]
   have ih:=qs2 n (λa b=>A (skp i a) (b+1)) (if r<i then r else r-1) (by grind) x y (λb=>u (b+1)) (λb=>v (b+1))
   grind
theorem q2a {n:Nat} {A:Nat->Nat->Int} {r:Nat} (hr:r<n):det n (upd A r λ_=>0)=0:=by
 have:=qs2 n A r hr 0 0 (λ_=>0) (λ_=>0)
 grind
theorem x2t (r:Nat):sgn (r+1)=- sgn r:=by grind [sgn]
theorem wp8:∀(n:Nat) (A:Nat->Nat->Int) (r:Nat),r+1<n->(∀j,j<n->A r j=A (r+1) j)->det n A=0
 | n+1,A,r,hr,h=>by
  rw[det,q61 (k:=r) (l:=r+1) ow hr ow λi hi h1 h2=>?_]
  ·have em:det n (λa b=>A (skp r a) (b+1))=det n (λa b=>A (skp (r+1) a) (b+1)):=qj1 n λa b ha hb=>by
    by_cases e:a=r
    ·simp_all [skp,if_neg,Nat.lt_irrefl,if_pos,Nat.lt_succ_self]
    grind [skp]
   grind [x2t]
  ·try dsimp only
   have:det n (λa b=>A (skp i a) (b+1))=0:=by
    rcases zap i r with q | q
    ·refine wp8 n _ (r-1) ow λj hj=>?_
     have e1:skp i (r-1)=r:=by unfold skp; grind
     have e2:skp i (r-1+1)=r+1:=by unfold skp; grind
     grind
    ·refine wp8 n _ r ow λj hj=>?_
     have e1:skp i r=r:=by unfold skp; grind
     have e2:skp i (r+1)=r+1:=by unfold skp; grind
     grind
   grind
theorem wp9 {n:Nat} {A:Nat->Nat->Int} {r s:Nat} (hr:r<n) (hs:s<n) (hne:r≠s) (hz:∀w,det n (upd (upd A r w) s w)=0) (u v:Nat->Int):det n (upd (upd A r u) s v)=- det n (upd (upd A r v) s u):=by
 have h:=hz (λj=>1*u j+1*v j)
 have lin:∀w,det n (upd (upd A r (λj=>1*u j+1*v j)) s w)=det n (upd (upd A r u) s w)+det n (upd (upd A r v) s w):=λw=>by
  rw[wp7 A hne,qs2 n _ r hr,wp7 A hne,wp7 A hne]; omega
 rw[qs2 n _ s hs,lin,lin,hz u,hz v] at h
 omega
theorem xq9:∀(d n:Nat) (A:Nat->Nat->Int) (r s:Nat),s=r+d+1->s<n->(∀j,j<n->A r j=A s j)->det n A=0
 | 0,n,A,r,s,hd,hs,h=>wp8 n A r ow λj hj=>by grind
 | d+1,n,A,r,s,hd,hs,h=>by
  have e:upd (upd A (s-1) (A (s-1))) s (A s)=A:=by simp_all [q26]
  have h2:=wp9 (n:=n) (A:=A) (r:=s-1) (s:=s) ow hs ow (λw=>wp8 n _ (s-1) ow λj hj=>by
   unfold upd
   omega) (A (s-1)) (A s)
  rw[e] at h2
  have h3:=xq9 d n (upd (upd A (s-1) (A s)) s (A (s-1))) r (s-1) ow ow λj hj=>by
   unfold upd
   grind
  omega
theorem wa2 {n:Nat} {A:Nat->Nat->Int} {r s:Nat} (hr:r<n) (hs:s<n) (hne:r≠s) (h:∀j,j<n->A r j=A s j):det n A=0:=by
 rcases Nat.lt_or_gt_of_ne hne with q | q
 ·exact xq9 (s-r-1) n A r s ow hs h
 ·exact xq9 (r-s-1) n A s r ow hr λj hj=>(h j hj).symm
theorem wq0 {n:Nat} (A:Nat->Nat->Int) {r:Nat} (hr:r<n) (lam:Nat->Int):∀k,k<=n->det n (upd A r (λj=>sm k λi=>lam i*A i j))=if r<k then lam r*det n A else 0
 | 0,_=>by
  rw[zaj (zar _)]
  exact q2a hr
 | k+1,hk=>by
  have ih:=wq0 A hr lam k ow
  have e:(λj=>sm (k+1) λi=>lam i*A i j)=λj=>1*(sm k λi=>lam i*A i j)+lam k*A k j:=by grind [sm]
  rw[e,qs2 n A r hr 1 (lam k) (λj=>sm k λi=>lam i*A i j) (A k),ih]
  by_cases q:k=r
  ·simp_all [q26,if_neg,Nat.lt_irrefl,if_pos,Nat.lt_succ_self]
  ·have:det n (upd A r (A k))=0:=wa2 hr (show k<n by omega) (zds q) λj hj=>by
    unfold upd
    simp
   grind
theorem w5x {n:Nat} {A:Nat->Nat->Int} (h0:det n A=0):∀(d s:Nat),s+d=n->∀σ:Nat->Nat,(∀i,i<n->σ i<n)->(∀i,i<s->σ i=i)->det n (λi j=>A (σ i) j)=0
 | 0,s,hs,σ,h1,h2=>by
  grind [qj1]
 | d+1,s,hs,σ,h1,h2=>by
  by_cases hx:∃t,s<=t/\t<n/\σ t=s
  ·obtain⟨t,t1,t2,t3⟩:=hx
   have hq:=w5x h0 d (s+1) ow (λi=>if i=s then s else if i=t then σ s else σ i) (λi hi=>by
    grind) (λi hi=>by
    grind)
   by_cases e:t=s
   ·grind
   ·have ha:=wp9 (n:=n) (A:=λi j=>A (σ i) j) (r:=s) (s:=t) ow t2 (zds e) (λw=>wa2 (r:=s) (s:=t) ow t2 (zds e) λj hj=>by
     unfold upd
     simp) (A (σ s)) (A (σ t))
    have e1:upd (upd (λi j=>A (σ i) j) s (A (σ s))) t (A (σ t))=λi j=>A (σ i) j:=by
     funext i j; unfold upd
     grind
    have e2:upd (upd (λi j=>A (σ i) j) s (A (σ t))) t (A (σ s))=λi j=>A ((λi=>if i=s then s else if i=t then σ s else σ i) i) j:=by
     funext i j; unfold upd
     grind
    grind
  ·have hns:∀i,i<n->σ i≠s:=λi hi e=>by
    grind
   obtain⟨i,j,q1,q2,q3⟩:=q9u (n-1) n (λi=>if σ i<s then σ i else σ i-1) (λi hi=>by
    grind) ow
   have e:σ i=σ j:=by
    grind
   grind [wa2]
theorem xr0 {n:Nat} {A:Nat->Nat->Int} (h0:det n A=0):∀(d k:Nat),k+d=n->∀B:Nat->Nat->Int,(∀i,i<k->∃a,a<n/\∀j,j<n->B i j=A a j)->(∀i,k<=i->i<n->∃lam:Nat->Int,∀j,j<n->B i j=sm n λa=>lam a*A a j)->det n B=0
 | 0,k,hk,B,h1,_=>by
  have hx:∀i,∃a,i<n->a<n/\∀j,j<n->B i j=A a j:=λi=>by
   by_cases hi:i<n
   all_goals grind
  obtain⟨σ,hσ⟩:=zbq hx
  rw[qj1 n (B:=λi j=>A (σ i) j) λi j hi hj=>(hσ i hi).2 j hj]
  exact w5x h0 n 0 ow σ (λi hi=>(hσ i hi).1) λi hi=>absurd hi (zar _)
 | d+1,k,hk,B,h1,h2=>by
  obtain⟨lam,hl⟩:=h2 k (zac _) ow
  have key:∀m,m<=n->det n (upd B k (λj=>sm m λa=>lam a*A a j))=0:=λm=>by
   induction m with
   | zero=>exact λ_=>q2a ow
   | succ m ih=>
    intro hm
    have e:(λj=>sm (m+1) λi=>lam i*A i j)=λj=>1*(sm m λi=>lam i*A i j)+lam m*A m j:=by grind [sm]
    rw[e,qs2 n B k ow 1 (lam m) (λj=>sm m λi=>lam i*A i j) (A m),ih ow]
    have:=xr0 h0 d (k+1) ow (upd B k (A m)) (λi hi=>by
     by_cases q:i=k
     ·exact⟨m,ow,λj hj=>by simp_all [upd,if_pos]⟩
     ·obtain⟨a,ha,hb⟩:=h1 i ow
      exact⟨a,ha,λj hj=>by simp_all [upd,if_neg]⟩) (λi h3 h4=>by
     obtain⟨lam',h5⟩:=h2 i ow h4
     exact⟨lam',λj hj=>by unfold upd; grind⟩)
    grind
  rw[<- key n (zac _)]
  refine qj1 n λi j hi hj=>?_
  simp_all [upd,if_pos,if_neg]
theorem w5y:∀(n:Nat) (d:Nat->Int),(∀i,i<n->d i≠0)->det n (λi j=>if i=j then d i else 0)≠0
 | 0,_,_=>by show(1:Int)≠0; decide
 | n+1,d,h=>by
  rw[det,qm8 (k:=0) ow λi hi hne=>by
   grind]
  try dsimp only
  have e:det n (λa b=>if skp 0 a=b+1 then d (skp 0 a) else 0)=det n (λa b=>if a=b then d (a+1) else 0):=qj1 n λa b ha hb=>by
   simp_all [skp,if_neg,Nat.not_lt_zero,if_pos]
  rw[e,zam rfl]
  exact q08 (q08 dc (h 0 ow)) (w5y n (λa=>d (a+1)) λi hi=>h (i+1) ow)
theorem x5j {n:Nat} {A:Nat->Nat->Int} (h:∀k,k<n->∃(d:Int) (lam:Nat->Int),d≠0/\∀j,j<n->(sm n λi=>lam i*A i j)=if k=j then d else 0):det n A≠0:=λh0=>by
 have hx:∀k,∃d:Int,k<n->d≠0/\∃lam:Nat->Int,∀j,j<n->(sm n λi=>lam i*A i j)=if k=j then d else 0:=λk=>by
  by_cases hk:k<n
  ·simp_all
  ·exact⟨0,λq=>absurd q hk⟩
 obtain⟨d,hd⟩:=zbq hx
 refine w5y n d (λi hi=>(hd i hi).1) (xr0 h0 n 0 ow _ (λi hi=>absurd hi (zar _)) λi _ hi=>?_)
 obtain⟨_,lam,hl⟩:=hd i hi
 exact⟨lam,λj hj=>(hl j hj).symm⟩
theorem wq1 (i:Nat):(sgn i).natAbs=1:=by grind [sgn]
theorem w9g {n B:Nat} {A:Nat->Nat->Int} (h1:∀i,i<n+1->(A i 0).natAbs<=1) (h2:∀i,i<n+1->(det n (λa b=>A (skp i a) (b+1))).natAbs<=B):(det (n+1) A).natAbs<=(n+1)*B:=by
 rw[det]
 refine xn7 λi hi=>?_
 rw[zbp,zbp,wq1,zdw]
 calc(A i 0).natAbs*_<=1*B:=zbg (h1 i hi) (h2 i hi)
  _=B:=zdw _
def y03:Nat->Nat
 | 0=>1
 | n+1=>(n+1)*y03 n
theorem xr1:∀(n:Nat) {A:Nat->Nat->Int},(∀i j,i<n->j<n->(A i j).natAbs<=1)->(det n A).natAbs<=y03 n
 | 0,_,_=>zac _
 | n+1,A,h=>w9g (λi hi=>h i 0 hi ow) λi hi=>xr1 n λa b ha hb=>h _ _ (wa0 ha) ow
def d3 (x y z:Nat):Int:=
 let b:=λ(c k:Nat)=>((c / 2 ^ k % 2:Nat):Int)
 b x 0*(b y 1*b z 2-b y 2*b z 1)-b y 0*(b x 1*b z 2-b x 2*b z 1)+b z 0*(b x 1*b y 2-b x 2*b y 1)
def wa3 (x:Int):Int:=if 0<x then x else 0
def y3p (p q r s:Nat):Bool:=decide (wa3 (d3 q r s)+wa3 (- d3 p r s)+wa3 (d3 p q s)+wa3 (- d3 p q r)<=4) && decide (wa3 (- d3 q r s)+wa3 (d3 p r s)+wa3 (- d3 p q s)+wa3 (d3 p q r)<=4)
theorem x2u:((List.range 8).all λp=>(List.range 8).all λq=>(List.range 8).all λr=>(List.range 8).all λs=>y3p p q r s)=true:=by decide +kernel
theorem x2v (A:Nat->Nat->Int):det 3 A=A 0 0*(A 1 1*A 2 2-A 1 2*A 2 1)-A 1 0*(A 0 1*A 2 2-A 0 2*A 2 1)+A 2 0*(A 0 1*A 1 2-A 0 2*A 1 1):=by
 simp[det,sm,skp,sgn]
 grind
theorem yo8 (A:Nat->Nat->Int):det 4 A=A 0 0*det 3 (λa b=>A (skp 0 a) (b+1))-A 1 0*det 3 (λa b=>A (skp 1 a) (b+1))+A 2 0*det 3 (λa b=>A (skp 2 a) (b+1))-A 3 0*det 3 (λa b=>A (skp 3 a) (b+1)):=by
 rw[det]
 simp only[sm,show sgn 0=1 from rfl,show sgn 1=-1 from rfl,show sgn 2=1 from rfl,show sgn 3=-1 from rfl]
 grind
def qp7 (x y z:Int):Nat:=(x+2*y+4*z).toNat
def Bit (x:Int):Prop:=x=0\/x=1
theorem x8h {x y z:Int} (hx:Bit x) (hy:Bit y) (hz:Bit z):qp7 x y z<8:=by grind [qp7,Bit]
theorem xr2 {A:Nat->Nat->Int} (h:∀i j,i<3->j<3->Bit (A i j)):d3 (qp7 (A 0 0) (A 0 1) (A 0 2)) (qp7 (A 1 0) (A 1 1) (A 1 2)) (qp7 (A 2 0) (A 2 1) (A 2 2))=det 3 A:=by
 rw[x2v]
 have hb:∀i,i<3->((qp7 (A i 0) (A i 1) (A i 2) / 2 ^ 0 % 2:Nat):Int)=A i 0/\((qp7 (A i 0) (A i 1) (A i 2) / 2 ^ 1 % 2:Nat):Int)=A i 1/\((qp7 (A i 0) (A i 1) (A i 2) / 2 ^ 2 % 2:Nat):Int)=A i 2:=λi hi=>by
  grind [Bit,qp7]
 grind [d3]
theorem qx9 {x:Int}:x<=wa3 x/\0<=wa3 x:=by grind [wa3]
theorem x2w {A:Nat->Nat->Int} (h:∀i j,i<4->j<4->Bit (A i j)):(det 4 A).natAbs<=4:=by
 have hc:∀i,i<4->qp7 (A i 1) (A i 2) (A i 3)<8:=λi hi=>x8h (h i 1 hi ow) (h i 2 hi ow) (h i 3 hi ow)
 have hk:=zaq.1 (zaq.1 (zaq.1 (zaq.1 x2u _ (za2.2 (hc 0 ow))) _ (za2.2 (hc 1 ow))) _ (za2.2 (hc 2 ow))) _ (za2.2 (hc 3 ow))
 unfold y3p at hk
 rw[zax,za5,za5] at hk
 have e:∀i,i<4->det 3 (λa b=>A (skp i a) (b+1))=d3 (qp7 (A (skp i 0) 1) (A (skp i 0) 2) (A (skp i 0) 3)) (qp7 (A (skp i 1) 1) (A (skp i 1) 2) (A (skp i 1) 3)) (qp7 (A (skp i 2) 1) (A (skp i 2) 2) (A (skp i 2) 3)):=λi hi=>
  (xr2 (A:=λa b=>A (skp i a) (b+1)) λa b ha hb=>h _ _ (wa0 ha) ow).symm
 rw[yo8,e 0 ow,e 1 ow,e 2 ow,e 3 ow]
 have s0:skp 0 0=1/\skp 0 1=2/\skp 0 2=3/\skp 1 0=0/\skp 1 1=2/\skp 1 2=3/\skp 2 0=0/\skp 2 1=1/\skp 2 2=3/\skp 3 0=0/\skp 3 1=1/\skp 3 2=2:=dc
 obtain⟨k0,k1,k2,k3,k4,k5,k6,k7,k8,k9,k10,k11⟩:=s0
 rw[k0,k1,k2,k3,k4,k5,k6,k7,k8,k9,k10,k11]
 generalize d3 (qp7 (A 1 1) (A 1 2) (A 1 3)) (qp7 (A 2 1) (A 2 2) (A 2 3)) (qp7 (A 3 1) (A 3 2) (A 3 3))=m0 at hk ⊢
 generalize d3 (qp7 (A 0 1) (A 0 2) (A 0 3)) (qp7 (A 2 1) (A 2 2) (A 2 3)) (qp7 (A 3 1) (A 3 2) (A 3 3))=m1 at hk ⊢
 generalize d3 (qp7 (A 0 1) (A 0 2) (A 0 3)) (qp7 (A 1 1) (A 1 2) (A 1 3)) (qp7 (A 3 1) (A 3 2) (A 3 3))=m2 at hk ⊢
 generalize d3 (qp7 (A 0 1) (A 0 2) (A 0 3)) (qp7 (A 1 1) (A 1 2) (A 1 3)) (qp7 (A 2 1) (A 2 2) (A 2 3))=m3 at hk ⊢
 have p0:=qx9 (x:=m0); have p1:=qx9 (x:=m1); have p2:=qx9 (x:=m2); have p3:=qx9 (x:=m3)
 have n0:=qx9 (x:=-m0); have n1:=qx9 (x:=-m1); have n2:=qx9 (x:=-m2); have n3:=qx9 (x:=-m3)
 grind [Bit]
def One (x:Int):Prop:=x=1\/x=-1
theorem w9h (e d:Nat->Int) (B:Nat->Nat->Int):det 4 (λi j=>-2*(e i*d j*B i j))=16*(e 0*e 1*e 2*e 3*(d 0*d 1*d 2*d 3))*det 4 B:=by
 rw[yo8,yo8,x2v,x2v,x2v,x2v,x2v,x2v,x2v,x2v]
 grind [skp]
theorem wq3 {n:Nat} (A:Nat->Nat->Int) (c:Nat->Int) (hn:0<n):∀k,k<=n->det n (λi j=>if 0<i/\i<k then A i j-c i*A 0 j else A i j)=det n A
 | 0,_=>qj1 n λi j _ _=>by simp
 | k+1,hk=>by
  rw[<- wq3 A c hn k ow]
  by_cases e:k=0
  ·grind
  ·have h1:(λi j=>if 0<i/\i<k+1 then A i j-c i*A 0 j else A i j)=upd (λi j=>if 0<i/\i<k then A i j-c i*A 0 j else A i j) k (λj=>1*A k j+(- c k)*A 0 j):=by
    funext i j; unfold upd
    grind
   have h2:upd (λi j=>if 0<i/\i<k then A i j-c i*A 0 j else A i j) k (A k)=λi j=>if 0<i/\i<k then A i j-c i*A 0 j else A i j:=by
    funext i j; simp_all [upd,if_pos,if_neg]
   have h3:det n (upd (λi j=>if 0<i/\i<k then A i j-c i*A 0 j else A i j) k (A 0))=0:=wa2 (r:=k) (s:=0) ow hn e λj hj=>by
    unfold upd
    simp
   rw[h1,qs2 n _ k ow,h2,h3]; omega
theorem x5k {x:Int} (h:One x):x*x=1:=by rcases h with rfl | rfl <;> rfl
theorem wq4 {x:Int} (h:One x):x.natAbs=1:=by rcases h with rfl | rfl <;> rfl
theorem x2x {A:Nat->Nat->Int} (h:∀i j,i<5->j<5->One (A i j)):(det 5 A).natAbs<=64:=by
 obtain⟨B,hB⟩:∃B:Nat->Nat->Int,∀i j,B i j=if A (i+1) 0*A (i+1) (j+1)=A 0 0*A 0 (j+1) then 0 else 1:=⟨_,λ_ _=>rfl⟩
 have hbit:∀i j,i<4->j<4->Bit (B i j):=λi j _ _=>by
  rw[hB]; unfold Bit; omega
 rw[<- wq3 A (λi=>A i 0*A 0 0) ow 5 (zac _),det,qm8 (k:=0) ow λi hi hne=>?_]
 ·try dsimp only
  have e:det 4 (λa b=>if 0<skp 0 a/\skp 0 a<5 then A (skp 0 a) (b+1)-A (skp 0 a) 0*A 0 0*A 0 (b+1) else A (skp 0 a) (b+1))=det 4 (λi j=>-2*((λi=>A (i+1) 0) i*(λj=>A 0 0*A 0 (j+1)) j*B i j)):=qj1 4 λa b ha hb=>by
   have es:skp 0 a=a+1:=by rfl
   rw[es,zam ow,hB]
   grind [One]
  rw[e,w9h,zaj ow]
  have b4:=x2w hbit
  have o:=λi j (hi:i<5) (hj:j<5)=>wq4 (h i j hi hj)
  simp only[Int.natAbs_mul,wq1,o 0 0 ow ow,o 1 0 ow ow,o 2 0 ow ow,o 3 0 ow ow,o 4 0 ow ow,o 0 1 ow ow,o 0 2 ow ow,o 0 3 ow ow,o 0 4 ow ow,Nat.mul_one,Nat.one_mul,show(0+1)=1 from rfl,show(1+1)=2 from rfl,show(2+1)=3 from rfl,show(3+1)=4 from rfl,show(16:Int).natAbs=16 from rfl]
  omega
 ·try dsimp only
  rw[zam ow,ze4 (A i 0),x5k (h 0 0 ow ow)]
  simp
theorem w0x:∀k,k<=5->∀A:Nat->Nat->Int,(∀i j,i<5->j<5->(A i j).natAbs<=1)->(∀i j,i<5->k<=i->j<5->A i j≠0)->(det 5 A).natAbs<=64
 | 0,_,A,h1,h2=>x2x λi j hi hj=>by
  have:=h1 i j hi hj
  have:=h2 i j hi (zaf _) hj
  grind [One]
 | k+1,hk,A,h1,h2=>by
  have key:∀t,t<=5->∀v:Nat->Int,(∀j,j<5->(v j).natAbs<=1)->(∀j,j<5->t<=j->v j≠0)->(det 5 (upd A k v)).natAbs<=64:=λt=>by
   induction t with
   | zero=>
    intro _ v hv1 hv2
    refine w0x k ow _ (λi j hi hj=>?_) λi j hi hki hj=>?_
    ·grind [upd]
    ·unfold upd; grind
   | succ t ih=>
    intro ht v hv1 hv2
    by_cases e:v t=0
    ·have a1:=ih ow (λj=>if j=t then 1 else v j) (λj hj=>by
      grind) (λj hj htj=>by
      grind)
     have a2:=ih ow (λj=>if j=t then -1 else v j) (λj hj=>by
      grind) (λj hj htj=>by
      grind)
     have e1:=qs2 5 A k ow 1 1 (λj=>if j=t then 1 else v j) (λj=>if j=t then -1 else v j)
     have e2:=qs2 5 A k ow 2 0 v v
     have e3:(λj=>(1:Int)*(if j=t then 1 else v j)+1*(if j=t then -1 else v j))=λj=>2*v j+0*v j:=by
      funext j
      grind
     grind
    grind
  have:=key 5 (zac _) (A k) (λj hj=>h1 k j ow hj) λj hj h5=>by omega
  grind [q26]
def prF:Nat->(Nat->Int)->Int
 | 0,_=>1
 | n+1,d=>d 0*prF n λj=>d (j+1)
def prL:Nat->(Nat->Int)->Int
 | 0,_=>1
 | n+1,d=>prL n d*d n
theorem xr3:∀(n:Nat) (d:Nat->Int) (c:Nat),(∀j,j<n->(d j).natAbs=c)->(prF n d).natAbs=c ^ n
 | 0,_,c,_=>by rfl
 | n+1,d,c,h=>by
  rw[prF,zbp,h 0 ow,xr3 n _ c λj hj=>h (j+1) ow,zdm,zeu]
theorem xr4:∀(n:Nat) (d:Nat->Int),(∀j,j<n->(d j).natAbs=1)->(prL n d).natAbs=1
 | 0,_,_=>rfl
 | n+1,d,h=>by
  rw[prL,zbp,h n ow,xr4 n d λj hj=>h j ow]
theorem w5z:∀(n:Nat) (d:Nat->Int) (A:Nat->Nat->Int),det n (λi j=>d j*A i j)=prF n d*det n A
 | 0,_,_=>rfl
 | n+1,d,A=>by
  rw[det,det,prF,<- qj6]
  refine qd3 λi hi=>?_
  try dsimp only
  rw[w5z n (λj=>d (j+1)) (λa b=>A (skp i a) (b+1))]
  grind
theorem w50 {n:Nat} (e:Nat->Int) (A:Nat->Nat->Int):∀k,k<=n->det n (λi j=>(if i<k then e i else 1)*A i j)=prL k e*det n A
 | 0,_=>by
  simp_all [prL,Int.one_mul,qj1,if_neg,Nat.not_lt_zero]
 | k+1,hk=>by
  obtain⟨F,hF⟩:∃F:Nat->Nat->Int,F=λi j=>(if i<k then e i else 1)*A i j:=⟨_,rfl⟩
  have ih:=w50 (n:=n) e A k ow
  rw[<- hF] at ih
  have h1:=qs2 n F k ow (e k) 0 (F k) (λ_=>0)
  have h2:(0:Int)*det n (upd F k λ_=>0)=0:=zb9 _
  rw[q26,ih] at h1
  have h1:=h1.trans (show e k*(prL k e*det n A)+0*det n (upd F k λ_=>0)=e k*(prL k e*det n A) by omega)
  rw[prL,show prL k e*e k*det n A=e k*(prL k e*det n A) by grind,<- h1]
  refine qj1 n λi j hi hj=>?_
  unfold upd
  grind
theorem x2y {n:Nat} {A:Nat->Nat->Int} (h:∀i j,i<n+1->j<n+1->One (A i j)):∃B:Nat->Nat->Int,(∀i j,i<n->j<n->Bit (B i j))/\(det (n+1) A).natAbs=2 ^ n*(det n B).natAbs:=by
 obtain⟨B,hB⟩:∃B:Nat->Nat->Int,∀i j,B i j=if A (i+1) 0*A (i+1) (j+1)=A 0 0*A 0 (j+1) then 0 else 1:=⟨_,λ_ _=>rfl⟩
 have hbit:∀i j,i<n->j<n->Bit (B i j):=λi j _ _=>by
  rw[hB]; unfold Bit; omega
 refine⟨B,hbit,?_⟩
 rw[<- wq3 A (λi=>A i 0*A 0 0) ow (n+1) (zac _),det,qm8 (k:=0) ow λi hi hne=>?_]
 ·try dsimp only
  have e:det n (λa b=>if 0<skp 0 a/\skp 0 a<n+1 then A (skp 0 a) (b+1)-A (skp 0 a) 0*A 0 0*A 0 (b+1) else A (skp 0 a) (b+1))=det n (λi j=>(if i<n then(λi=>A (i+1) 0) i else 1)*(λi j=>(λj=>-2*(A 0 0*A 0 (j+1))) j*B i j) i j):=qj1 n λa b ha hb=>by
   have es:skp 0 a=a+1:=by rfl
   rw[es,zam ow,zam ha]
   grind [One]
  rw[e,w50 _ _ n (zac _),w5z,zaj ow]
  have p1:=xr4 n (λi=>A (i+1) 0) λj hj=>wq4 (h (j+1) 0 ow ow)
  have p2:=xr3 n (λj=>-2*(A 0 0*A 0 (j+1))) 2 λj hj=>by
   grind [wq4,Int.natAbs_mul]
  simp_all [wq4,Int.natAbs_mul,wq1,Nat.one_mul]
 ·try dsimp only
  rw[zam ow,ze4 (A i 0),x5k (h 0 0 ow ow)]
  simp
def d4 (p q r s:Nat):Int:=((p % 2:Nat):Int)*d3 (q / 2) (r / 2) (s / 2)-((q % 2:Nat):Int)*d3 (p / 2) (r / 2) (s / 2)+((r % 2:Nat):Int)*d3 (p / 2) (q / 2) (s / 2)-((s % 2:Nat):Int)*d3 (p / 2) (q / 2) (r / 2)
def y04 (p q r s t:Nat):Bool:=
 decide (wa3 (d4 q r s t)+wa3 (- d4 p r s t)+wa3 (d4 p q s t)+wa3 (- d4 p q r t)+wa3 (d4 p q r s)<=5) && decide (wa3 (- d4 q r s t)+wa3 (d4 p r s t)+wa3 (- d4 p q s t)+wa3 (d4 p q r t)+wa3 (- d4 p q r s)<=5)
theorem x2z:((List.range 16).all λp=>(List.range 16).all λq=>Nat.blt q p || (List.range 16).all λr=>Nat.blt r q || (List.range 16).all λs=>Nat.blt s r || (List.range 16).all λt=>Nat.blt t s || y04 p q r s t)=true:=by decide +kernel
theorem x8i {p q r s t:Nat} (h1:p<=q) (h2:q<=r) (h3:r<=s) (h4:s<=t) (h5:t<16):y04 p q r s t=true:=by
 have no:∀{a b:Nat},a<=b->Nat.blt b a=false:=λ{a b} h=>by
  cases e:Nat.blt b a with
  | false=>rfl
  | true=>have:=zbv e; omega
 have a1:=zaq.1 (zaq.1 x2z p (za2.2 ow)) q (za2.2 ow)
 grind
def code4 (x y z w:Int):Nat:=(x+2*y+4*z+8*w).toNat
theorem w51 {x y z w:Int} (hx:Bit x) (hy:Bit y) (hz:Bit z) (hw:Bit w):code4 x y z w<16/\code4 x y z w / 2=qp7 y z w/\((code4 x y z w % 2:Nat):Int)=x:=by
 grind [code4,qp7,Bit]
theorem x8j {A:Nat->Nat->Int} (h:∀i j,i<4->j<4->Bit (A i j)):d4 (code4 (A 0 0) (A 0 1) (A 0 2) (A 0 3)) (code4 (A 1 0) (A 1 1) (A 1 2) (A 1 3)) (code4 (A 2 0) (A 2 1) (A 2 2) (A 2 3)) (code4 (A 3 0) (A 3 1) (A 3 2) (A 3 3))=det 4 A:=by
 have hc:=λi (hi:i<4)=>w51 (h i 0 hi ow) (h i 1 hi ow) (h i 2 hi ow) (h i 3 hi ow)
 obtain⟨_,a1,a2⟩:=hc 0 ow
 obtain⟨_,b1,b2⟩:=hc 1 ow
 obtain⟨_,c1,c2⟩:=hc 2 ow
 obtain⟨_,e1,e2⟩:=hc 3 ow
 unfold d4
 rw[a1,a2,b1,b2,c1,c2,e1,e2,yo8]
 have m:∀i,i<4->det 3 (λa b=>A (skp i a) (b+1))=d3 (qp7 (A (skp i 0) 1) (A (skp i 0) 2) (A (skp i 0) 3)) (qp7 (A (skp i 1) 1) (A (skp i 1) 2) (A (skp i 1) 3)) (qp7 (A (skp i 2) 1) (A (skp i 2) 2) (A (skp i 2) 3)):=λi hi=>
  (xr2 (A:=λa b=>A (skp i a) (b+1)) λa b ha hb=>h _ _ (wa0 ha) ow).symm
 rw[m 0 ow,m 1 ow,m 2 ow,m 3 ow]
 rfl
theorem y53 (A:Nat->Nat->Int):det 5 A=A 0 0*det 4 (λa b=>A (skp 0 a) (b+1))-A 1 0*det 4 (λa b=>A (skp 1 a) (b+1))+A 2 0*det 4 (λa b=>A (skp 2 a) (b+1))-A 3 0*det 4 (λa b=>A (skp 3 a) (b+1))+A 4 0*det 4 (λa b=>A (skp 4 a) (b+1)):=by
 rw[det]
 simp only[sm,show sgn 0=1 from rfl,show sgn 1=-1 from rfl,show sgn 2=1 from rfl,show sgn 3=-1 from rfl,show sgn 4=1 from rfl]
 grind
def cdR (A:Nat->Nat->Int) (i:Nat):Nat:=code4 (A i 1) (A i 2) (A i 3) (A i 4)
theorem wa4 {x m:Int} (h:Bit x):x*m<=wa3 m/\- (x*m)<=wa3 (- m):=by
 have h1:=qx9 (x:=m)
 have h2:=qx9 (x:=-m)
 rcases h with rfl | rfl
 all_goals omega
theorem w25 {A:Nat->Nat->Int} (h:∀i j,i<5->j<5->Bit (A i j)) (hs:∀i,i<4->cdR A i<=cdR A (i+1)):(det 5 A).natAbs<=5:=by
 have hk:=x8i (hs 0 ow) (hs 1 ow) (hs 2 ow) (hs 3 ow) (w51 (h 4 1 ow ow) (h 4 2 ow ow) (h 4 3 ow ow) (h 4 4 ow ow)).1
 unfold y04 at hk
 rw[zax,za5,za5] at hk
 have m:∀i,i<5->det 4 (λa b=>A (skp i a) (b+1))=d4 (cdR A (skp i 0)) (cdR A (skp i 1)) (cdR A (skp i 2)) (cdR A (skp i 3)):=λi hi=>
  (x8j (A:=λa b=>A (skp i a) (b+1)) λa b ha hb=>h _ _ (wa0 ha) ow).symm
 rw[y53,m 0 ow,m 1 ow,m 2 ow,m 3 ow,m 4 ow]
 change _/\_ at hk
 have e0:d4 (cdR A (skp 0 0)) (cdR A (skp 0 1)) (cdR A (skp 0 2)) (cdR A (skp 0 3))=d4 (cdR A 1) (cdR A 2) (cdR A 3) (cdR A 4):=rfl
 have e1:d4 (cdR A (skp 1 0)) (cdR A (skp 1 1)) (cdR A (skp 1 2)) (cdR A (skp 1 3))=d4 (cdR A 0) (cdR A 2) (cdR A 3) (cdR A 4):=rfl
 have e2:d4 (cdR A (skp 2 0)) (cdR A (skp 2 1)) (cdR A (skp 2 2)) (cdR A (skp 2 3))=d4 (cdR A 0) (cdR A 1) (cdR A 3) (cdR A 4):=rfl
 have e3:d4 (cdR A (skp 3 0)) (cdR A (skp 3 1)) (cdR A (skp 3 2)) (cdR A (skp 3 3))=d4 (cdR A 0) (cdR A 1) (cdR A 2) (cdR A 4):=rfl
 have e4:d4 (cdR A (skp 4 0)) (cdR A (skp 4 1)) (cdR A (skp 4 2)) (cdR A (skp 4 3))=d4 (cdR A 0) (cdR A 1) (cdR A 2) (cdR A 3):=rfl
 rw[e0,e1,e2,e3,e4]
 generalize d4 (cdR A 1) (cdR A 2) (cdR A 3) (cdR A 4)=m0 at hk ⊢
 generalize d4 (cdR A 0) (cdR A 2) (cdR A 3) (cdR A 4)=m1 at hk ⊢
 generalize d4 (cdR A 0) (cdR A 1) (cdR A 3) (cdR A 4)=m2 at hk ⊢
 generalize d4 (cdR A 0) (cdR A 1) (cdR A 2) (cdR A 4)=m3 at hk ⊢
 generalize d4 (cdR A 0) (cdR A 1) (cdR A 2) (cdR A 3)=m4 at hk ⊢
 have b0:=wa4 (m:=m0) (h 0 0 ow ow)
 have b1:=wa4 (m:=m1) (h 1 0 ow ow)
 have b2:=wa4 (m:=m2) (h 2 0 ow ow)
 have b3:=wa4 (m:=m3) (h 3 0 ow ow)
 have b4:=wa4 (m:=m4) (h 4 0 ow ow)
 omega
theorem x5l (g:Nat->Nat) (n:Nat):∀d s,s+d+1=n->∃t,s<=t/\t<n/\∀j,s<=j->j<n->g t<=g j
 | 0,s,h=>⟨s,zac _,ow,λj h1 h2=>by grind⟩
 | d+1,s,h=>by
  obtain⟨t,t1,t2,t3⟩:=x5l g n d (s+1) ow
  by_cases q:g s<=g t
  ·refine⟨s,zac _,ow,λj h1 h2=>?_⟩
   grind
  ·refine⟨t,ow,t2,λj h1 h2=>?_⟩
   grind
theorem x21 {n:Nat} (A:Nat->Nat->Int) {s t:Nat} (hs:s<n) (ht:t<n) (hne:s≠t):(det n (upd (upd A s (A t)) t (A s))).natAbs=(det n A).natAbs:=by
 have h:=wp9 (n:=n) (A:=A) (r:=s) (s:=t) hs ht hne (λw=>wa2 (r:=s) (s:=t) hs ht hne λj hj=>by
  unfold upd
  simp) (A s) (A t)
 simp_all [upd,q26,Int.natAbs_neg]
theorem q6a {n:Nat} (Q:(Nat->Int)->Prop) (cd:(Nat->Int)->Nat) {B:Nat} (hB:∀A:Nat->Nat->Int,(∀i,i<n->Q (A i))->(∀i j,i<j->j<n->cd (A i)<=cd (A j))->(det n A).natAbs<=B) :
  ∀d s,s+d=n->∀A:Nat->Nat->Int,(∀i,i<n->Q (A i))->(∀i j,i<s->i<j->j<n->cd (A i)<=cd (A j))->(det n A).natAbs<=B
 | 0,s,hs,A,h1,h2=>hB A h1 λi j hi hj=>h2 i j ow hi hj
 | d+1,s,hs,A,h1,h2=>by
  obtain⟨t,t1,t2,t3⟩:=x5l (λi=>cd (A i)) n d s ow
  try dsimp only at t3
  by_cases e:s=t
  ·exact q6a Q cd hB d (s+1) ow A h1 λi j hi hij hj=>by
    grind
  ·rw[<- x21 A (show s<n by omega) t2 e]
   have at_:∀i,upd (upd A s (A t)) t (A s) i=A (if i=t then s else if i=s then t else i):=λi=>by
    funext j
    unfold upd
    grind
   refine q6a Q cd hB d (s+1) ow _ (λi hi=>?_) λi j hi hij hj=>?_
   all_goals grind
theorem x22 {A:Nat->Nat->Int} (h:∀i j,i<5->j<5->Bit (A i j)):(det 5 A).natAbs<=5:=
 q6a (n:=5) (λr=>∀j,j<5->Bit (r j)) (λr=>code4 (r 1) (r 2) (r 3) (r 4)) (B:=5) (λA h1 h2=>w25 (λi j hi hj=>h1 i hi j hj) λi hi=>h2 i (i+1) ow ow) 5 0 rfl A (λi hi j hj=>h i j hi hj) λi j hi=>absurd hi (zar _)
theorem w0y {n B:Nat} (hB:∀A:Nat->Nat->Int,(∀i j,i<n->j<n->One (A i j))->(det n A).natAbs<=B):∀k,k<=n->∀A:Nat->Nat->Int,(∀i j,i<n->j<n->(A i j).natAbs<=1)->(∀i j,i<n->k<=i->j<n->A i j≠0)->(det n A).natAbs<=B
 | 0,_,A,h1,h2=>hB A λi j hi hj=>by
  have:=h1 i j hi hj
  have:=h2 i j hi (zaf _) hj
  grind [One]
 | k+1,hk,A,h1,h2=>by
  have key:∀t,t<=n->∀v:Nat->Int,(∀j,j<n->(v j).natAbs<=1)->(∀j,j<n->t<=j->v j≠0)->(det n (upd A k v)).natAbs<=B:=λt=>by
   induction t with
   | zero=>
    intro _ v hv1 hv2
    refine w0y hB k ow _ (λi j hi hj=>?_) λi j hi hki hj=>?_
    ·grind [upd]
    ·unfold upd; grind
   | succ t ih=>
    intro ht v hv1 hv2
    by_cases e:v t=0
    ·have a1:=ih ow (λj=>if j=t then 1 else v j) (λj hj=>by
      grind) (λj hj htj=>by
      grind)
     have a2:=ih ow (λj=>if j=t then -1 else v j) (λj hj=>by
      grind) (λj hj htj=>by
      grind)
     have e1:=qs2 n A k ow 1 1 (λj=>if j=t then 1 else v j) (λj=>if j=t then -1 else v j)
     have e2:=qs2 n A k ow 2 0 v v
     have e3:(λj=>(1:Int)*(if j=t then 1 else v j)+1*(if j=t then -1 else v j))=λj=>2*v j+0*v j:=by
      funext j
      grind
     rw[e3,e2] at e1
     omega
    grind
  have:=key n (zac _) (A k) (λj hj=>h1 k j ow hj) λj hj h5=>by omega
  grind [q26]
theorem wq5 {n:Nat} (hn:n<=6) {A:Nat->Nat->Int} (h:∀i j,i<n->j<n->(A i j).natAbs<=1):(det n A).natAbs<=160:=by
 rcases zap n 5 with q | q
 ·have:=xr1 n h
  have hf:∀k:Fin 5,y03 k.val<=160:=dc
  exact zal this (hf ⟨n,q⟩)
 ·rcases zap n 6 with q2 | q2
  ·obtain rfl:n=5:=ow
   exact zal (w0x 5 (zac _) A h λi j hi h5=>by omega) dc
  ·obtain rfl:n=6:=ow
   refine w0y (n:=6) (B:=160) (λA hA=>?_) 6 (zac _) A h λi j hi h5=>by omega
   obtain⟨B,hB,e⟩:=x2y (n:=5) hA
   grind [x22]
open Go Go.RowKit Eng
theorem qs9:∀(N:Nat) {n:Nat} {f:Nat->Int} {τ:Nat->Nat},(∀q,q<N->τ q<n)->(∀q k,q<N->k<N->τ q=τ k->q=k)->(∀b,b<n->(∀q,q<N->τ q≠b)->f b=0)->sm n f=sm N λq=>f (τ q)
 | 0,n,f,τ,_,_,h=>qj9 λb hb=>h b hb λq hq=>absurd hq (zar _)
 | N+1,n,f,τ,h1,h2,h3=>by
  have e:sm n f=sm n (λb=>if b=τ N then 0 else f b)+sm n (λb=>if b=τ N then f b else 0):=by
   rw[<- q9t]
   refine qd3 λb _=>?_
   omega
  have ih:=qs9 N (n:=n) (f:=λb=>if b=τ N then 0 else f b) (τ:=τ) (λq hq=>h1 q ow) (λq k hq hk=>h2 q k ow ow) λb hb hq=>by
   grind
  rw[e,ih,qm8 (k:=τ N) (h1 N ow) λb _ hne=>zaj hne,zam rfl,sm]
  congr 1
  refine qd3 λq hq=>?_
  grind
theorem yk0 {n N j:Nat} {R:Nat->Nat->Int} {rows:List (List Int)} {P:List Int} (h:St n (N+1) R j rows P) (hP:P.length=N) (hid:∀q,q<N->nI P q=q) (hN:N<=6) (h1:∀a c,a<n->c<N->(R a c).natAbs<=1) (hy:∀a,a<n->(R a N).natAbs<=1000000) :
  ∃D:Int,D≠0/\D.natAbs<=160/\∀k,k<N->∃X:Int,X.natAbs<=960000000/\nI (nL rows k) N*D=X*nI (nL rows k) k:=by
 obtain⟨ρ,pv,τ,hE,t1,t2,t3,t4,t5,t6⟩:=h.tag
 have hpl:=h.pl
 have hcomb:∀k,k<N->∃(c:Int) (lam:Nat->Int),c≠0/\∀col,col<N+1->(sm N λq=>lam q*R (τ q) col)=c*nI (nL rows k) col:=λk hk=>by
  obtain⟨c,l,hc,hl,hs,_⟩:=hE.comb (τ k) (t1 k ow)
  refine⟨c,λq=>l (τ q),hc,λcol hcol=>?_⟩
  rw[<- t4 k ow col hcol,hl col hcol]
  refine(qs9 N (f:=λb=>l b*R b col) (λq hq=>t1 q ow) (λq k hq hk=>t2 q k ow ow) λb hb hq=>?_).symm
  try dsimp only
  obtain⟨i,hi,rfl⟩:=t3 b hb
  grind
 have hrow:∀k,k<N->∀col,col<N->nI (nL rows k) col=if k=col then nI (nL rows k) k else 0:=λk hk col hcol=>by
  by_cases q:k=col
  ·grind
  ·rw[zaj q]
   have:=(h.pos col ow).2.2.2.2 k ow q
   simp_all
 have hpp:∀k,k<N->0<nI (nL rows k) k:=λk hk=>by
  have:=(h.pos k ow).2.2.1
  grind [Int.toNat_natCast]
 obtain⟨A,hA⟩:∃A:Nat->Nat->Int,A=λi c=>R (τ i) c:=⟨_,rfl⟩
 have hD:det N A≠0:=x5j λk hk=>by
  obtain⟨c,lam,hc,hl⟩:=hcomb k hk
  refine⟨c*nI (nL rows k) k,lam,q08 hc (by grind),λcol hcol=>?_⟩
  rw[hA]
  try dsimp only
  rw[hl col ow,hrow k hk col hcol]
  by_cases q:k=col
  ·rw[zam q,zam q]
  ·rw[zaj q,zaj q,zbk]
 have hA1:∀i c,i<N->c<N->(A i c).natAbs<=1:=λi c hi hc=>by grind
 refine⟨det N A,hD,wq5 hN hA1,λk hk=>?_⟩
 obtain⟨c,lam,hc,hl⟩:=hcomb k hk
 obtain⟨E,hEd⟩:∃E:Nat->Int,∀r,E r=det N (upd A r λcol=>if k=col then 1 else 0):=⟨_,λ_=>rfl⟩
 have hEb:∀r,r<N->(E r).natAbs<=160:=λr hr=>by
  rw[hEd]
  refine wq5 hN λi col hi hcol=>?_
  unfold upd
  split
  ·show(if k=col then(1:Int) else 0).natAbs<=1
   split <;> decide
  ·exact hA1 i col hi hcol
 have hlam:∀r,r<N->lam r*det N A=(c*nI (nL rows k) k)*E r:=λr hr=>by
  have e1:=wq0 A hr lam N (zac _)
  rw[zam hr] at e1
  rw[<- e1,hEd]
  have e2:=qs2 N A r hr (c*nI (nL rows k) k) 0 (λcol=>if k=col then 1 else 0) (λ_=>0)
  have e3:=e2.trans (show(c*nI (nL rows k) k)*det N (upd A r λcol=>if k=col then 1 else 0)+0*det N (upd A r λ_=>0)=(c*nI (nL rows k) k)*det N (upd A r λcol=>if k=col then 1 else 0) by simp)
  rw[<- e3]
  refine qj1 N λi col hi hcol=>?_
  unfold upd
  by_cases q:i=r
  ·rw[zam q,zam q,hA]
   try dsimp only
   rw[hl col ow,hrow k hk col hcol]
   by_cases q2:k=col
   ·rw[zam q2,zam q2]; first | omega | simp | grind
   ·rw[zaj q2,zaj q2]; first | omega | simp | grind
  omega
 refine⟨sm N λr=>E r*R (τ r) N,?_,?_⟩
 ·refine zal (xn7 (B:=160000000) λr hr=>?_) ow
  have:=q18 (hEb r hr) (hy _ (t1 r ow))
  omega
 ·have e1:=hl N ow
  have e2:c*(nI (nL rows k) N*det N A)=c*((sm N λr=>E r*R (τ r) N)*nI (nL rows k) k):=by
   have:det N A*(sm N λq=>lam q*R (τ q) N)=(c*nI (nL rows k) k)*sm N λr=>E r*R (τ r) N:=by
    rw[<- qj6,<- qj6]
    refine qd3 λr hr=>?_
    grind
   grind
  grind [Int.eq_of_mul_eq_mul_left]
theorem w9i {x p X D:Int} (hp:0<p) (hD:D≠0) (h:x*D=X*p):1<=(q51 x p).2/\(q51 x p).2.natAbs<=D.natAbs/\(q51 x p).1.natAbs<=X.natAbs/\gcdI (q51 x p).1 (q51 x p).2=1/\(q51 x p).1*D=X*(q51 x p).2:=by
 have hg:0<gcdI x p:=qo1 (.inr ow)
 have a1:gcdI x p*x.tdiv (gcdI x p)=x:=za9 (za8.1 (zb0 _ _))
 have b1:gcdI x p*p.tdiv (gcdI x p)=p:=za9 (za8.1 (zb2 _ _))
 have hco:Nat.Coprime (x.tdiv (gcdI x p)).natAbs (p.tdiv (gcdI x p)).natAbs:=by
  have e1:(x.tdiv (gcdI x p)).natAbs=x.natAbs / Nat.gcd x.natAbs p.natAbs:=zck _ _
  have e2:(p.tdiv (gcdI x p)).natAbs=p.natAbs / Nat.gcd x.natAbs p.natAbs:=zck _ _
  grind [Nat.coprime_div_gcd_div_gcd,Nat.gcd]
 unfold q51
 try dsimp only
 generalize gcdI x p=g at *
 generalize x.tdiv g=a at *
 generalize p.tdiv g=d at *
 have hd:0<d:=q49 hg ow
 have e:a*D=X*d:=by
  have:g*(a*D-X*d)=0:=by grind
  have:=qd0 this ow
  omega
 have en:a.natAbs*D.natAbs=X.natAbs*d.natAbs:=by rw[<- zbp,<- zbp,e]
 refine⟨ow,?_,?_,?_,e⟩
 ·exact zdc ow (hco.symm.dvd_of_dvd_mul_left ⟨X.natAbs,by grind⟩)
 ·rcases zbt X.natAbs with q | q
  ·simp_all [Nat.zero_mul,Nat.mul_eq_zero,q2]
  ·exact zdc q (hco.dvd_of_dvd_mul_right ⟨D.natAbs,ow⟩)
 ·show((Nat.gcd a.natAbs d.natAbs:Nat):Int)=1
  omega
theorem x8k {r:Int × Int} (h1:1<=r.2) (h2:r.2.natAbs<=400) (h3:r.1.natAbs<=10000000000) (h4:gcdI r.1 r.2=1):q7h r=true:=by
 unfold q7h
 grind
def nR (x:List (Int × Int)) (i:Nat):Int × Int:=qf0 (.prod (.int .i64) (.int .i64)) x i
theorem q2b (x:List (Int × Int)) (i:Nat) (h:i<x.length):nR x i=x[i]:=qo3 (t:=.prod (.int .i64) (.int .i64)) x i h
theorem xr5 {m:List (List Int)} {y pix:List Int} (h:(qg5 m y pix).2=true):∃D:Int,0<D/\D<=160/\∀k,k<(qg5 m y pix).1.2.length->∃X:Int,X.natAbs<=960000000/\(nR (qg5 m y pix).1.2 k).1*D=X*(nR (qg5 m y pix).1.2 k).2/\q7h (nR (qg5 m y pix).1.2 k)=true/\(nR (qg5 m y pix).1.2 k).1≠0:=by
 have hI:=qn7 h
 have hA:=Asked.of hI.chk
 have hS:=qw3 hA
 have hst:=qs8 hS.toMat pix.length ow
 have hpl:=hst.pl
 have h6:=hA.msk.rows6
 unfold qg5 at h
 split at h
 ·cases h
 ·rename_i hno
  have ef:qg5 m y pix=((pix,(qy0 m pix y).1),true):=by simp_all [qg5,if_neg]
  have h0:(qy0 m pix y).2=0:=zae λq=>hno (.inl q)
  have hz:((qy0 m pix y).1.any λr=>r.1==0)=false:=by
   grind
  have es:qy0 m pix y=w1m (qb5 (qb8 m pix y) pix.length).1 (qb5 (qb8 m pix y) pix.length).2 pix.length:=by unfold qy0; rw[zam hI.chk]; rfl
  have hasc:Asc pix.length (qb5 (qb8 m pix y) pix.length).2:=⟨λq hq=>⟨(hst.pos q hq).1,(hst.pos q hq).2.1⟩,hst.asc⟩
  have hle:=hasc.le
  rw[ef]
  have hr1:∀k,k<(qy0 m pix y).1.length->(nR (qy0 m pix y).1 k).1≠0:=λk hk=>by
   grind [q2b,List.any_eq_false,List.getElem_mem]
  show ∃D:Int,0<D/\D<=160/\∀k,k<(qy0 m pix y).1.length->∃X:Int,X.natAbs<=960000000/\(nR (qy0 m pix y).1 k).1*D=X*(nR (qy0 m pix y).1 k).2/\q7h (nR (qy0 m pix y).1 k)=true/\(nR (qy0 m pix y).1 k).1≠0
  rw[es] at hr1 h0 ⊢
  unfold w1m at hr1 h0 ⊢
  split at h0
  ·omega
  ·rename_i hn
   rw[zaj hn] at hr1 ⊢
   split at h0
   ·omega
   ·rename_i hl
    rw[zaj hl] at hr1 ⊢
    have hlen:(qb5 (qb8 m pix y) pix.length).2.length=pix.length:=ow
    have hid:=λq (hq:q<pix.length)=>hasc.id hlen hq
    obtain⟨D,d1,d2,hX⟩:=yk0 hst hlen hid ow (λa c ha hc=>hS.one a c ha hc) (λa ha=>hS.read a pix.length ha ow)
    obtain⟨s,hs,hsD⟩:∃s:Int,(s=1\/s=-1)/\0<s*D:=by
     rcases Int.lt_or_lt_of_ne d1 with q | q
     all_goals simp_all
    refine⟨s*D,hsD,by grind,λk hk=>?_⟩
    have hr1:=hr1 k hk
    dsimp only at hk hr1 ⊢
    rw[za4,List.length_range] at hk
    have eV:nR ((List.range (qb5 (qb8 m pix y) pix.length).2.length).map λk=>q7g (qb5 (qb8 m pix y) pix.length).1 (qb5 (qb8 m pix y) pix.length).2 pix.length k) k=q7g (qb5 (qb8 m pix y) pix.length).1 (qb5 (qb8 m pix y) pix.length).2 pix.length k:=by
     grind [q2b]
    have eV2:q7g (qb5 (qb8 m pix y) pix.length).1 (qb5 (qb8 m pix y) pix.length).2 pix.length k=q51 (nI (nL (qb5 (qb8 m pix y) pix.length).1 k) pix.length) (nI (nL (qb5 (qb8 m pix y) pix.length).1 k) k):=by
     have hp:=(hst.pos k hk).2.2.1
     grind [q7g,Int.toNat_natCast,q90]
    have hp:=(hst.pos k hk).2.2.1
    rw[hid k ow,zat] at hp
    obtain⟨X,d3,d4⟩:=hX k ow
    obtain⟨q1,q2,q3,q4,q5⟩:=w9i hp d1 d4
    rw[eV,eV2] at hr1 ⊢
    exact⟨s*X,by grind,by grind,x8k q1 ow ow q4,hr1⟩
theorem wq6 {m:List (List Int)} {y pix:List Int} (h:(qg5 m y pix).2=true):∀r∈(qg5 m y pix).1.2,q7h r=true/\r.1≠0:=λr hr=>by
 obtain⟨D,_,_,hD⟩:=xr5 h
 obtain⟨k,hk,rfl⟩:=zbh.1 hr
 obtain⟨X,_,_,h3⟩:=hD k hk
 rwa [q2b _ _ hk] at h3
theorem x23 (m:List (List Int)) (y:List Int) (f:Fit):wi1 m y f=xn3 m y f:=by
 rw[Bool.eq_iff_iff]
 unfold wi1 xn3 x7s
 rw[w2u]
 simp only[Bool.and_eq_true,decide_eq_true_eq]
 constructor
 ·rintro⟨⟨⟨hv,hc⟩,h2⟩,hval⟩
  exact⟨⟨hc,h2⟩,(qn7 h2).fst.symm,hval.symm⟩
 ·rintro⟨⟨hc,h2⟩,h3,h4⟩
  refine⟨⟨⟨?_,hc⟩,h2⟩,h4.symm⟩
  have hI:=qn7 h2
  have hA:=Asked.of hc
  unfold y3h
  simp only[Bool.and_eq_true,decide_eq_true_eq,Bool.not_eq_true']
  refine⟨⟨by rw[h4]; exact hI.len.symm,?_⟩,?_⟩
  ·grind [x48,List.any_eq_false,q1,q2,wq6]
  ·rw[q4x]
   exact λi hi hl=>hA.nam.asc (i-1) i ow hl
def mkM (n W:Nat) (A:Nat->Nat->Int):List (List Int):=(List.range n).map λa=>(List.range W).map λc=>A a c
theorem xr6 {n W:Nat} (A:Nat->Nat->Int) {a:Nat} (ha:a<n):nL (mkM n W A) a=(List.range W).map λc=>A a c:=by
 grind [ql6,mkM]
theorem yk1 {n W:Nat} (A:Nat->Nat->Int) {a c:Nat} (ha:a<n) (hc:c<W):nI (nL (mkM n W A) a) c=A a c:=by
 grind [xr6,qf3]
theorem x8l (n W:Nat) (A:Nat->Nat->Int):Mat n W (mkM n W A):=⟨by simp[mkM],λi hi=>by grind [xr6]⟩
theorem w26 {n W:Nat} (A:Nat->Nat->Int) (h:n<W):∃z,Sol n W A z/\∃f,f<W/\z f≠0:=by
 have hM:=x8l n W A
 have hst:=qs8 hM W (zac _)
 have hpl:=hst.pl
 obtain⟨f,hf,hq⟩:=Asc.free (N:=W) (P:=(qb5 (mkM n W A) W).2) ow
 obtain⟨z,z1,z2,_⟩:=hst.free (zac _) hf hq λi h1 h2=>hst.zero i h1 h2 f hf
 refine⟨z,λa ha=>?_,f,hf,z2⟩
 rw[<- z1 a ha]
 grind [qd3,rowOf,yk1]
theorem x8m {n:Nat} {B:Nat->Nat->Int} {lam:Nat->Int} (h:∀j,j<n->(sm n λi=>lam i*B i j)=0) {r:Nat} (hr:r<n) (hl:lam r≠0):det n B=0:=by
 have h1:=wq0 B hr lam n (zac _)
 rw[zam hr] at h1
 have h2:det n (upd B r λj=>sm n λi=>lam i*B i j)=det n (upd B r λ_=>0):=qj1 n λi j hi hj=>by
  grind [upd]
 grind [q2a,qd0]
theorem x8o {n:Nat} {B:Nat->Nat->Int} {k l:Nat} (hk:k<n) (hl:l<n) (hne:k≠l) (h:∀i,i<n->B i k=B i l):det n B=0:=by
 obtain⟨z,z1,f,hf,z2⟩:=w26 (n:=n-1) (W:=n) (λa c=>B c (skp l a)) ow
 have e:∀j,j<n->j≠l->(sm n λi=>z i*B i j)=0:=λj hj hne=>by
  have h1:=z1 (if j<l then j else j-1) (by grind)
  have h2:skp l (if j<l then j else j-1)=j:=by
   by_cases q:j<l
   ·simp_all [if_pos,skp]
   ·rw[zaj q]; unfold skp; grind
  grind
 refine x8m (lam:=z) (λj hj=>?_) hf z2
 grind [qd3]
theorem x8p {n:Nat} {A:Nat->Nat->Int} (h:∀lam:Nat->Int,(∀j,j<n->(sm n λi=>lam i*A i j)=0)->∀i,i<n->lam i=0):det n A≠0:=by
 refine x5j λk hk=>?_
 obtain⟨z,z1,f,hf,z2⟩:=w26 (n:=n) (W:=n+1) (λj c=>if c<n then A c j else if k=j then 1 else 0) ow
 have e:∀j,j<n->(sm n λi=>z i*A i j)+(if k=j then 1 else 0)*z n=0:=λj hj=>by
  have h1:=z1 j hj
  simp_all [sm,if_neg,Nat.lt_irrefl,qd3,if_pos,Int.mul_comm]
 have hn:z n≠0:=λhz=>by
  have h2:=h z λj hj=>by
   grind
  grind
 refine⟨- z n,z,ow,λj hj=>?_⟩
 grind
def isP (P:List Int) (c:Nat):Prop:=∃q,q<P.length/\nI P q=(c:Int)
theorem wq7 {P:List Int} {c:Nat}:¬isP P c↔∀q,q<P.length->nI P q≠(c:Int):=
 ⟨λh q hq e=>h ⟨q,hq,e⟩,λh ⟨q,hq,e⟩=>h q hq e⟩
theorem St.isP_at {n W j:Nat} {R:Nat->Nat->Int} {rows:List (List Int)} {P:List Int} (h:St n W R j rows P) {k:Nat} (hk:k<P.length):isP P (nI P k).toNat:=⟨k,hk,by have:=(h.pos k hk).1; omega⟩
theorem St.row_eq {n W:Nat} {R:Nat->Nat->Int} {rows:List (List Int)} {P:List Int} (h:St n W R W rows P) {z:Nat->Int} (hz:Sol n W R z) {f:Nat} (hf:f<W) (hnp:¬isP P f) (h0:∀c,c<W->c≠f->¬isP P c->z c=0) {k:Nat} (hk:k<P.length) :
  nI (nL rows k) (nI P k).toNat*z (nI P k).toNat+nI (nL rows k) f*z f=0:=by
 have hpl:=h.pl
 have hp:=h.pos k hk
 have e:=(h.sol z).1 hz k ow
 unfold dt at e
 have hne:(nI P k).toNat≠f:=λq=>hnp (by rw[<- q]; exact h.isP_at hk)
 rw[q61 (k:=(nI P k).toNat) (l:=f) ow hf hne λc hc h1 h2=>?_] at e
 ·exact e
 ·try dsimp only
  by_cases q:isP P c
  ·obtain⟨q2,hq2,e2⟩:=q
   have:=(h.pos q2 hq2).2.2.2.2 k ow λe3=>h1 (by grind)
   grind
  grind
theorem St.sol_mk {n W:Nat} {R:Nat->Nat->Int} {rows:List (List Int)} {P:List Int} (h:St n W R W rows P) {z:Nat->Int} {f:Nat} (hf:f<W) (hnp:¬isP P f) (h0:∀c,c<W->c≠f->¬isP P c->z c=0)
  (hr:∀k,k<P.length->nI (nL rows k) (nI P k).toNat*z (nI P k).toNat+nI (nL rows k) f*z f=0):Sol n W R z:=by
 refine(h.sol z).2 λi hi=>?_
 unfold dt
 rcases zap i P.length with q | q
 ·have hp:=h.pos i q
  have hne:(nI P i).toNat≠f:=λq2=>hnp (by rw[<- q2]; exact h.isP_at q)
  rw[q61 (k:=(nI P i).toNat) (l:=f) ow hf hne λc hc h1 h2=>?_]
  ·grind
  ·try dsimp only
   by_cases q1:isP P c
   ·obtain⟨q2,hq2,e2⟩:=q1
    have:=(h.pos q2 hq2).2.2.2.2 i hi λe3=>h1 (by grind)
    grind
   grind
 ·exact qj9 λc hc=>by
   try dsimp only
   rw[h.zero i q hi c hc,zb9]
theorem St.piv_same {n W:Nat} {R:Nat->Nat->Int} {rows rows':List (List Int)} {P P':List Int} (h:St n W R W rows P) (h':St n W R W rows' P') {f:Nat} (hp:isP P f):isP P' f:=zae λhn=>by
 obtain⟨k,hk,e⟩:=hp
 have hpk:=h.pos k hk
 rw[e,zat] at hpk
 have hf:f<W:=ow
 have hpl':=h'.pl
 obtain⟨z,z1,z2,z3⟩:=h'.free (zac _) hf (wq7.1 hn) λi h1 h2=>h'.zero i h1 h2 f hf
 have zl:∀c,c<W->f<c->z c=0:=λc hc hfc=>by
  by_cases q:isP P' c
  ·obtain⟨q2,hq2,e2⟩:=q
   have h1:=h'.row_eq z1 hf hn (λc hc h1 h2=>z3 c hc h1 (wq7.1 h2)) hq2
   have h2:=h'.pos q2 hq2
   rw[e2,zat] at h1 h2
   rw[h2.2.2.2.1 f hfc,zb9,ze7] at h1
   grind [qd0]
  grind [wq7]
 have hpl:=h.pl
 have h1:=(h.sol z).1 z1 k ow
 unfold dt at h1
 rw[qm8 (k:=f) hf λc hc hne=>?_] at h1
 ·grind [absurd,qd0]
 grind
theorem St.basis {n W:Nat} {R:Nat->Nat->Int} {rows:List (List Int)} {P:List Int} (h:St n W R W rows P):∃τ:Nat->Nat,(∀i,i<P.length->τ i<n)/\∀k,k<P.length->∃(c:Int) (lam:Nat->Int),c≠0/\∀col,col<W->(sm P.length λq=>lam q*R (τ q) col)=c*nI (nL rows k) col:=by
 obtain⟨ρ,pv,τ,hE,t1,t2,t3,t4,t5,t6⟩:=h.tag
 have hpl:=h.pl
 refine⟨τ,λi hi=>t1 i ow,λk hk=>?_⟩
 obtain⟨c,l,hc,hl,hs,_⟩:=hE.comb (τ k) (t1 k ow)
 refine⟨c,λq=>l (τ q),hc,λcol hcol=>?_⟩
 rw[<- t4 k ow col hcol,hl col hcol]
 refine(qs9 P.length (f:=λb=>l b*R b col) (λq hq=>t1 q ow) (λq k hq hk=>t2 q k ow ow) λb hb hq=>?_).symm
 grind
theorem St.minors {n W:Nat} {R:Nat->Nat->Int} {rows:List (List Int)} {P:List Int} (h:St n W R W rows P) (hn:n<=6) (h1:∀a c,a<n->c<W->(R a c).natAbs<=1) :
  ∃D:Int,D≠0/\D.natAbs<=160/\∀f,f<W->¬isP P f->∃w:Nat->Int,(∀k,k<P.length->(w k).natAbs<=160)/\∀k,k<P.length->nI (nL rows k) (nI P k).toNat*w k+nI (nL rows k) f*D=0:=by
 obtain⟨τ,t1,hcomb⟩:=h.basis
 have hpl:=h.pl
 have hpW:∀k,k<P.length->(nI P k).toNat<W:=λk hk=>by have:=h.pos k hk; omega
 have hrow:∀k,k<P.length->∀c,c<P.length->nI (nL rows k) (nI P c).toNat=if k=c then nI (nL rows k) (nI P k).toNat else 0:=λk hk c hc=>by
  by_cases q:k=c
  ·grind
  ·rw[zaj q]
   exact(h.pos c hc).2.2.2.2 k ow q
 have hpp:∀k,k<P.length->0<nI (nL rows k) (nI P k).toNat:=λk hk=>(h.pos k hk).2.2.1
 -- what all the first rows say is said by the reduced ones
 have tell:∀(m:Nat) (s:Nat->Nat) (w:Nat->Int),(∀c,c<m->s c<W)->(∀b,b<P.length->(sm m λc=>R (τ b) (s c)*w c)=0)->∀k,k<P.length->(sm m λc=>nI (nL rows k) (s c)*w c)=0:=λm s w hs hw k hk=>by
  obtain⟨c0,lam,hc0,hl⟩:=hcomb k hk
  refine qd0 (a:=c0) ?_ hc0
  rw[<- qj6]
  have e:(sm m λc=>c0*(nI (nL rows k) (s c)*w c))=sm m λc=>sm P.length λq=>lam q*(R (τ q) (s c)*w c):=qd3 λc hc=>by
   grind [Int.mul_assoc,Int.mul_comm,qj6,qd3]
  rw[e,xn8]
  refine qj9 λq hq=>?_
  try dsimp only
  rw[qj6,hw q hq,zbk]
 refine⟨det P.length λa b=>R (τ b) (nI P a).toNat,x8p λlam hlam k hk=>?_,wq5 ow λa b ha hb=>h1 _ _ (t1 b hb) (hpW a ha),λf hf hnp=>?_⟩
 ·have e:=tell P.length (λa=>(nI P a).toNat) lam hpW (λb hb=>by
   grind) k hk
  rw[qm8 (k:=k) hk λi hi hne=>by
   grind] at e
  grind [qd0]
 ·obtain⟨s,hs0,hsk⟩:∃s:Nat->Nat,s 0=f/\∀c,s (c+1)=(nI P c).toNat:=⟨λc=>match c with | 0=>f | c+1=>(nI P c).toNat,rfl,λ_=>rfl⟩
  have hsW:∀c,c<P.length+1->s c<W:=λc hc=>by
   cases c with
   | zero=>omega
   | succ c=>grind
  obtain⟨w,hw⟩:∃w:Nat->Int,∀c,w c=sgn c*det P.length λa b=>R (τ b) (s (skp c a)):=⟨_,λ_=>rfl⟩
  have e0:w 0=det P.length λa b=>R (τ b) (nI P a).toNat:=by
   rw[hw,show sgn 0=1 from rfl,ze0]
   refine qj1 _ λa b ha hb=>?_
   have:skp 0 a=a+1:=by rfl
   grind
  refine⟨λk=>w (k+1),λk hk=>?_,λk hk=>?_⟩
  ·try dsimp only
   rw[hw,zbp,wq1,zdw]
   grind [wq5,wa0]
  ·have e:=tell (P.length+1) s w hsW (λb hb=>by
    have hd:det (P.length+1) (λc j=>if j=0 then R (τ b) (s c) else R (τ (j-1)) (s c))=0:=x8o (k:=0) (l:=b+1) ow ow ow λi hi=>by
     rfl
    rw[det] at hd
    grind) k hk
   rw[q61 (k:=k+1) (l:=0) ow ow ow λc hc h2 h3=>?_] at e
   ·grind
   ·try dsimp only
    cases c with
    | zero=>omega
    | succ c=>grind
theorem St.piv_160 {n W:Nat} {R:Nat->Nat->Int} {rows:List (List Int)} {P:List Int} (h:St n W R W rows P) (hn:n<=6) (h1:∀a c,a<n->c<W->(R a c).natAbs<=1) {k:Nat} (hk:k<P.length):(nI (nL rows k) (nI P k).toNat).natAbs<=160:=by
 have hpl:=h.pl
 have hp:=h.pos k hk
 obtain⟨D,hD,hD2,hw⟩:=h.minors hn h1
 obtain⟨ρ,pv,τ,hE,t1,t2,t3,t4,t5,t6⟩:=h.tag
 rcases t6 k ow with⟨s,hs,e⟩ | e | e
 ·grind
 ·grind
 ·have hx:∀c,∃x:Int,c<W->D*nI (nL rows k) c=nI (nL rows k) (nI P k).toNat*x/\(c=(nI P k).toNat->x=D):=λc=>by
   by_cases q:c=(nI P k).toNat
   ·exact⟨D,λ_=>⟨by grind,λ_=>rfl⟩⟩
   ·by_cases q2:isP P c
    ·obtain⟨q3,hq3,e3⟩:=q2
     refine⟨0,λ_=>⟨?_,λq4=>absurd q4 q⟩⟩
     have:=(h.pos q3 hq3).2.2.2.2 k ow λq4=>q (by grind)
     rw[e3,zat] at this
     grind
    ·by_cases q4:c<W
     ·obtain⟨w,_,w2⟩:=hw c q4 q2
      have:=w2 k hk
      exact⟨- w k,λ_=>⟨by grind,λq4=>absurd q4 q⟩⟩
     ·exact⟨0,λq5=>absurd q5 q4⟩
  obtain⟨x,hx⟩:=zbq hx
  have:=w0l (W:=W) (r:=nI (nL rows k)) (s:=x) (α:=D) (β:=nI (nL rows k) (nI P k).toNat) hD (λc hc=>(hx c hc).1) e (nI P k).toNat ow
  grind
structure KV (n W:Nat) (R:Nat->Nat->Int) (P:List Int) (f:Nat) (v:List Int):Prop where
 len:v.length=W
 sol:Sol n W R (nI v)
 free:∀c,c<W->c≠f->¬isP P c->nI v c=0
 pos:0<nI v f
theorem KV.prim {n W:Nat} {R:Nat->Nat->Int} {P:List Int} {f:Nat} {v:List Int} (h:KV n W R P f v) (hf:f<W):KV n W R P f (qt7 v):=by
 have hl:=h.len
 have hg:0<max (gcdL v) 1:=ow
 have hm:∀c,c<W->max (gcdL v) 1*nI (qt7 v) c=nI v c:=λc hc=>qz2 v ow
 refine⟨by grind [qv9],λa ha=>?_,λc hc h1 h2=>?_,?_⟩
 ·have:=h.sol a ha
  refine qd0 (a:=max (gcdL v) 1) ?_ ow
  grind [qj6,qd3]
 ·have:=hm c hc
  rw[h.free c hc h1 h2] at this
  grind [qd0]
 ·have:=hm f hf
  have:=h.pos
  exact q49 hg ow
theorem KV.trans {n W:Nat} {R:Nat->Nat->Int} {P P':List Int} {f:Nat} {v:List Int} (h:KV n W R P f v) (hP:∀c,isP P c↔isP P' c):KV n W R P' f v:=
 ⟨h.len,h.sol,λc hc h1 h2=>h.free c hc h1 λq=>h2 ((hP c).1 q),h.pos⟩
theorem KV.cross {n W:Nat} {R:Nat->Nat->Int} {rows:List (List Int)} {P:List Int} (hs:St n W R W rows P) {f:Nat} (hf:f<W) (hnp:¬isP P f) {v u:List Int} (hv:KV n W R P f v) (hu:KV n W R P f u):∀c,c<W->nI u f*nI v c=nI v f*nI u c:=λc hc=>by
 by_cases q:c=f
 ·grind
 ·by_cases q2:isP P c
  ·obtain⟨k,hk,e⟩:=q2
   have a:=hs.row_eq hv.sol hf hnp hv.free hk
   have b:=hs.row_eq hu.sol hf hnp hu.free hk
   have hp:=(hs.pos k hk).2.2.1
   rw[e,zat] at a b hp
   have:nI (nL rows k) c*(nI u f*nI v c-nI v f*nI u c)=0:=by grind
   grind [qd0]
  ·rw[hv.free c hc q q2,hu.free c hc q q2,zbk,zbk]
theorem Prim.gcd {v:List Int} {W f:Nat} (h:Prim v) (hl:v.length=W) (hf:f<W) (hp:0<nI v f):∀d:Nat,(∀c,c<W->d∣(nI v c).natAbs)->d=1:=by
 subst hl
 rcases h with h | h
 all_goals simp_all
theorem KV.uniq {n W:Nat} {R:Nat->Nat->Int} {rows:List (List Int)} {P:List Int} (hs:St n W R W rows P) {f:Nat} (hf:f<W) (hnp:¬isP P f) {v u:List Int} (hv:KV n W R P f v) (hu:KV n W R P f u) (pv:Prim v) (pu:Prim u):v=u:=by
 have hc:=hv.cross hs hf hnp hu
 have a:=w0l (W:=W) (r:=nI v) (s:=nI u) (α:=nI u f) (β:=nI v f) (by have:=hu.pos; omega) hc (pv.gcd hv.len hf hv.pos)
 have b:=w0l (W:=W) (r:=nI u) (s:=nI v) (α:=nI v f) (β:=nI u f) (by have:=hv.pos; omega) (λc h=>(hc c h).symm) (pu.gcd hu.len hf hu.pos)
 have hff:nI u f=nI v f:=by
  have:=a f hf; have:=b f hf; have:=hv.pos; have:=hu.pos; omega
 have h1:=hv.len
 have h2:=hu.len
 refine zbl ow λi hi hi2=>?_
 rw[<- qf3 v i hi,<- qf3 u i hi2]
 have:=hc i ow
 rw[hff] at this
 exact Int.eq_of_mul_eq_mul_left (by have:=hv.pos; omega) this
theorem KV.small {n W:Nat} {R:Nat->Nat->Int} {rows:List (List Int)} {P:List Int} (hs:St n W R W rows P) (hn:n<=6) (h1:∀a c,a<n->c<W->(R a c).natAbs<=1) {f:Nat} (hf:f<W) (hnp:¬isP P f) {v:List Int} (hv:KV n W R P f v) (pv:Prim v):∀x∈v,x.natAbs<=160:=by
 obtain⟨D,hD,hD2,hw⟩:=hs.minors hn h1
 obtain⟨w,w1,w2⟩:=hw f hf hnp
 have hx:∀c,∃x:Int,c<W->D*nI v c=nI v f*x/\x.natAbs<=160:=λc=>by
  by_cases q:c=f
  ·grind
  ·by_cases q2:isP P c
   ·obtain⟨k,hk,e⟩:=q2
    refine⟨w k,λ_=>⟨?_,w1 k hk⟩⟩
    have a:=hs.row_eq hv.sol hf hnp hv.free hk
    have b:=w2 k hk
    have hp:=(hs.pos k hk).2.2.1
    rw[e,zat] at a b hp
    have:nI (nL rows k) c*(D*nI v c-nI v f*w k)=0:=by grind
    grind [qd0]
   ·exact⟨0,λhc=>⟨by rw[hv.free c hc q q2,zbk,zbk],dc⟩⟩
 obtain⟨x,hx⟩:=zbq hx
 have:=w0l (W:=W) (r:=nI v) (s:=x) (α:=D) (β:=nI v f) hD (λc hc=>(hx c hc).1) (pv.gcd hv.len hf hv.pos)
 intro y hy
 obtain⟨c,hc,rfl⟩:=q9w hy
 have hl:=hv.len
 grind
theorem xr7 {P:List Int} {f:Nat}:(P.any λe=>(f:Int)==e)=true↔isP P f:=by
 rw[zb1]
 constructor
 ·rintro⟨x,hx,e⟩
  obtain⟨q,hq,rfl⟩:=q9w hx
  exact⟨q,hq,(beq_iff_eq.1 e).symm⟩
 ·rintro⟨q,hq,e⟩
  exact⟨nI P q,q9v hq,beq_iff_eq.2 e.symm⟩
theorem w0z (P:List Int) (f:Nat):∀k,q9f P f k=true↔∀q,q<k->nI P q≠(f:Int)
 | 0=>⟨λ_ q hq=>absurd hq (zar _),λ_=>rfl⟩
 | k+1=>by
  rw[q9f,zax,w0z P f k,bne_iff_ne]
  grind
theorem q6b {P:List Int} {f:Nat}:q9f P f P.length=true↔¬isP P f:=by rw[w0z,wq7]
def q1c (n f:Nat) (t:Int) (P:List Int) (val:Nat->Int):Nat->List Int
 | 0=>(List.replicate n 0).set f t
 | k+1=>(q1c n f t P val k).set (nI P k).toNat (val k)
theorem qz4 (n f:Nat) (t:Int) (P:List Int) (val:Nat->Int):∀k,(q1c n f t P val k).length=n
 | 0=>by simp[q1c]
 | k+1=>by rw[q1c,zbd]; exact qz4 n f t P val k
theorem x5m (n c:Nat):nI (List.replicate n (0:Int)) c=0:=by
 grind [Nat.lt_or_ge,qf3,wp1]
theorem wa5 {n f:Nat} {t:Int} {P:List Int} {val:Nat->Int} (hf:f<n) (hP:∀k,k<P.length->0<=nI P k/\nI P k<n) (hnp:¬isP P f):∀k,k<=P.length->nI (q1c n f t P val k) f=t
 | 0,_=>by rw[q1c,q63 _ (by grind),zam rfl]
 | k+1,hk=>by
  have:=hP k ow
  rw[q1c,q63 _ (by grind [qz4]),zaj λe=>hnp ⟨k,ow,ow⟩]
  exact wa5 hf hP hnp k ow
theorem w27 {n f:Nat} {t:Int} {P:List Int} {val:Nat->Int} (hf:f<n) (hP:∀k,k<P.length->0<=nI P k/\nI P k<n) {c:Nat} (hc:c≠f) (hnp:¬isP P c):∀k,k<=P.length->nI (q1c n f t P val k) c=0
 | 0,_=>by simp_all [q1c,q63,if_neg,x5m]
 | k+1,hk=>by
  have:=hP k ow
  rw[q1c,q63 _ (by grind [qz4]),zaj λe=>hnp ⟨k,ow,ow⟩]
  exact w27 hf hP hc hnp k ow
theorem w28 {n f:Nat} {t:Int} {P:List Int} {val:Nat->Int} (hP:∀k,k<P.length->0<=nI P k/\nI P k<n) (hinj:∀q k,q<P.length->k<P.length->nI P q=nI P k->q=k):∀k,k<=P.length->∀q,q<k->nI (q1c n f t P val k) (nI P q).toNat=val q
 | 0,_,q,hq=>absurd hq (zar _)
 | k+1,hk,q,hq=>by
  have h1:=hP k ow
  have h2:=hP q ow
  rw[q1c,q63 _ (by grind [qz4])]
  rcases zau.1 hq with e | e
  ·rw[zaj λe2=>by grind]
   exact w28 hP hinj k ow q e
  grind
theorem xr8 (r:List (List Int)) (P:List Int) (n f:Nat):∀k,hTo r P n f k=q1c n f (qf4 r P f P.length) P (λk=>((0-nI (nL r k) f)*qf4 r P f P.length).tdiv (nI (nL r k) (nI P k).toNat)) k
 | 0=>rfl
 | k+1=>by rw[hTo,q1c,xr8 r P n f k]
theorem w52 (r:List (List Int)) (P:List Int) (n f:Nat):∀k,x7t r P n f k=q1c n f (q54 r P P.length) P (λk=>(0-nI (nL r k) f)*(q54 r P P.length).tdiv (w8u r P k)) k
 | 0=>rfl
 | k+1=>by rw[x7t,q1c,w52 r P n f k]
theorem w29 (a b:Int):∃x,a=gcdI a b*x:=by
 have h:gcdI a b∣a:=za8.1 (zb0 _ _)
 exact h
theorem w3a (a b:Int):∃x,b=gcdI a b*x:=by
 have h:gcdI a b∣b:=za8.1 (zb2 _ _)
 exact h
theorem x5n {a d:Int} (ha:0<a) (hd:0<d):0<a*d.tdiv (gcdI a d)/\a∣a*d.tdiv (gcdI a d)/\d∣a*d.tdiv (gcdI a d)/\(a*d.tdiv (gcdI a d)).natAbs<=a.natAbs*d.natAbs/\a.tdiv (gcdI a d)*d=a*d.tdiv (gcdI a d):=by
 have hg:=qo1 (a:=a) (b:=d) (.inl ow)
 obtain⟨x,hx⟩:=w29 a d
 obtain⟨y,hy⟩:=w3a a d
 generalize gcdI a d=g at hg hx hy ⊢
 have e1:d.tdiv g=y:=by grind [Int.mul_tdiv_cancel_left]
 have e2:a.tdiv g=x:=by grind [Int.mul_tdiv_cancel_left]
 have hy0:0<y:=q49 hg ow
 rw[e1,e2]
 refine⟨zca ha hy0,⟨y,rfl⟩,⟨x,by grind⟩,?_,by grind⟩
 rw[zbp]
 refine Nat.mul_le_mul_left _ ?_
 rw[<- e1]
 exact q20 _ _
theorem w53 {p r:Int} (hp:0<p):0<p.tdiv (gcdI p r)/\(p.tdiv (gcdI p r)).natAbs<=p.natAbs/\∀t,p.tdiv (gcdI p r)∣t->p∣(0-r)*t:=by
 have hg:=qo1 (a:=p) (b:=r) (.inl ow)
 obtain⟨x,hx⟩:=w29 p r
 obtain⟨y,hy⟩:=w3a p r
 refine⟨?_,q20 _ _,λt ht=>?_⟩
 ·generalize gcdI p r=g at hg hx hy ⊢
  rw[hx,zef _ ow]
  exact q49 hg ow
 ·generalize gcdI p r=g at hg hx hy ht
  rw[hx,zef _ ow] at ht
  obtain⟨u,hu⟩:=ht
  exact⟨- (y*u),by grind⟩
theorem q6c {r:List (List Int)} {P:List Int} {f:Nat} (hp:∀k,k<P.length->0<nI (nL r k) (nI P k).toNat/\(nI (nL r k) (nI P k).toNat).natAbs<=160):∀k,k<=P.length->0<qf4 r P f k/\(qf4 r P f k).natAbs<=160 ^ k/\∀q,q<k->q7f r P f q∣qf4 r P f k
 | 0,_=>⟨by show(0:Int)<1; decide,by show(1:Int).natAbs<=160 ^ 0; decide,λq hq=>absurd hq (zar _)⟩
 | k+1,hk=>by
  obtain⟨a1,a2,a3⟩:=q6c hp k ow
  obtain⟨b1,b2⟩:=hp k ow
  obtain⟨c1,c2,_⟩:=w53 (r:=nI (nL r k) f) b1
  change 0<q7f r P f k at c1
  change(q7f r P f k).natAbs<=_ at c2
  obtain⟨d1,d2,d3,d4,_⟩:=x5n a1 c1
  rw[qf4]
  refine⟨d1,?_,λq hq=>?_⟩
  ·rw[zdm]
   exact zal d4 (zbg a2 ow)
  grind [Nat.lt_succ_iff_lt_or_eq,Int.dvd_trans,d3]
theorem w54 {r:List (List Int)} {P:List Int} (hp:∀k,k<P.length->0<w8u r P k/\(w8u r P k).natAbs<=160):∀k,k<=P.length->0<q54 r P k/\(q54 r P k).natAbs<=160 ^ k/\∀q,q<k->w8u r P q∣q54 r P k
 | 0,_=>⟨by show(0:Int)<1; decide,by show(1:Int).natAbs<=160 ^ 0; decide,λq hq=>absurd hq (zar _)⟩
 | k+1,hk=>by
  obtain⟨a1,a2,a3⟩:=w54 hp k ow
  obtain⟨b1,b2⟩:=hp k ow
  obtain⟨d1,d2,d3,d4,d5⟩:=x5n a1 b1
  rw[q54,d5]
  refine⟨d1,?_,λq hq=>?_⟩
  ·rw[zdm]
   exact zal d4 (zbg a2 b2)
  grind [Nat.lt_succ_iff_lt_or_eq,Int.dvd_trans,d3]
theorem x5o {k:Nat} (h:k<=6):160 ^ k<=16777216000000:=zal (zey dc h) dc
structure Ones (n W:Nat) (M:List (List Int)):Prop extends Mat n W M where
 n1:0<n
 n6:n<=6
 w1:0<W
 w:W<=1000
 one:∀a c,a<n->c<W->(nI (nL M a) c).natAbs<=1
theorem Ones.small {n W:Nat} {M:List (List Int)} (h:Ones n W M):Small n W W M:=⟨h.toMat,h.n6,zac _,h.w,h.one,λa c ha hc=>by have:=h.one a c ha hc; omega⟩
theorem Ones.rdW {n W:Nat} {M:List (List Int)} (h:Ones n W M):rdW M=W:=h.each 0 h.n1
theorem Ones.stP {n W:Nat} {M:List (List Int)} (h:Ones n W M):St n W (rowOf M) W (qb5 M W).1 (qb5 M W).2:=qs8 h.toMat W (zac _)
theorem Ones.stR {n W:Nat} {M:List (List Int)} (h:Ones n W M):St n W (rowOf M) W ((qh2 M W).done_++(qh2 M W).left) (qh2 M W).piv:=(q0u h.toMat W (zac _)).st
theorem Ones.at_ {n W:Nat} {M:List (List Int)} (h:Ones n W M) {k:Nat} (hk:k<(qh2 M W).piv.length):nL ((qh2 M W).done_++(qh2 M W).left) k=nL (qh2 M W).done_ k:=qn6 _ _ (by rw[(q0u h.toMat W (zac _)).cnt]; omega)
theorem Ones.redOk {n W:Nat} {M:List (List Int)} (h:Ones n W M):q5v M W W:=w0n h.small
theorem Ones.pP {n W:Nat} {M:List (List Int)} (h:Ones n W M):∀k,k<(qb5 M W).2.length->0<nI (nL (qb5 M W).1 k) (nI (qb5 M W).2 k).toNat/\(nI (nL (qb5 M W).1 k) (nI (qb5 M W).2 k).toNat).natAbs<=160:=λk hk=>
 ⟨(h.stP.pos k hk).2.2.1,h.stP.piv_160 h.n6 h.one hk⟩
theorem Ones.pR {n W:Nat} {M:List (List Int)} (h:Ones n W M):∀k,k<(qh2 M W).piv.length->0<w8u (qh2 M W).done_ (qh2 M W).piv k/\(w8u (qh2 M W).done_ (qh2 M W).piv k).natAbs<=160:=λk hk=>by
 have h1:=(h.stR.pos k hk).2.2.1
 have h2:=h.stR.piv_160 h.n6 h.one hk
 rw[h.at_ hk] at h1 h2
 exact⟨h1,h2⟩
theorem Ones.kvP {n W:Nat} {M:List (List Int)} (h:Ones n W M) {f:Nat} (hf:f<W) (hnp:¬isP (qb5 M W).2 f):KV n W (rowOf M) (qb5 M W).2 f (hTo (qb5 M W).1 (qb5 M W).2 W f (qb5 M W).2.length):=by
 have hst:=h.stP
 have hP:∀k,k<(qb5 M W).2.length->0<=nI (qb5 M W).2 k/\nI (qb5 M W).2 k<W:=λk hk=>by have:=hst.pos k hk; omega
 have hT:=q6c (f:=f) h.pP _ (zac _)
 rw[xr8]
 have h0:∀c,c<W->c≠f->¬isP (qb5 M W).2 c->nI (q1c W f (qf4 (qb5 M W).1 (qb5 M W).2 f (qb5 M W).2.length) (qb5 M W).2 (λk=>((0-nI (nL (qb5 M W).1 k) f)*qf4 (qb5 M W).1 (qb5 M W).2 f (qb5 M W).2.length).tdiv (nI (nL (qb5 M W).1 k) (nI (qb5 M W).2 k).toNat)) (qb5 M W).2.length) c=0:=λc hc h1 h2=>w27 hf hP h1 h2 _ (zac _)
 refine⟨qz4 _ _ _ _ _ _,hst.sol_mk hf hnp h0 λk hk=>?_,h0,?_⟩
 ·rw[w28 hP (λq k hq hk=>hst.inj hq hk) _ (zac _) k hk,wa5 hf hP hnp _ (zac _)]
  have hp:=(h.pP k hk).1
  have hd:=(w53 (r:=nI (nL (qb5 M W).1 k) f) hp).2.2 _ (hT.2.2 k hk)
  grind [Int.mul_tdiv_cancel']
 simp_all [wa5,Nat.le_refl]
theorem Ones.kvR {n W:Nat} {M:List (List Int)} (h:Ones n W M) {f:Nat} (hf:f<W) (hnp:¬isP (qh2 M W).piv f):KV n W (rowOf M) (qh2 M W).piv f (x7t (qh2 M W).done_ (qh2 M W).piv W f (qh2 M W).piv.length):=by
 have hst:=h.stR
 have hP:∀k,k<(qh2 M W).piv.length->0<=nI (qh2 M W).piv k/\nI (qh2 M W).piv k<W:=λk hk=>by have:=hst.pos k hk; omega
 have hT:=w54 h.pR _ (zac _)
 rw[w52]
 have h0:∀c,c<W->c≠f->¬isP (qh2 M W).piv c->nI (q1c W f (q54 (qh2 M W).done_ (qh2 M W).piv (qh2 M W).piv.length) (qh2 M W).piv (λk=>(0-nI (nL (qh2 M W).done_ k) f)*(q54 (qh2 M W).done_ (qh2 M W).piv (qh2 M W).piv.length).tdiv (w8u (qh2 M W).done_ (qh2 M W).piv k)) (qh2 M W).piv.length) c=0:=λc hc h1 h2=>w27 hf hP h1 h2 _ (zac _)
 refine⟨qz4 _ _ _ _ _ _,hst.sol_mk hf hnp h0 λk hk=>?_,h0,?_⟩
 ·rw[w28 hP (λq k hq hk=>hst.inj hq hk) _ (zac _) k hk,wa5 hf hP hnp _ (zac _),h.at_ hk]
  have hd:w8u (qh2 M W).done_ (qh2 M W).piv k*(q54 (qh2 M W).done_ (qh2 M W).piv (qh2 M W).piv.length).tdiv (w8u (qh2 M W).done_ (qh2 M W).piv k)=_:=za9 (hT.2.2 k hk)
  have e:nI (nL (qh2 M W).done_ k) (nI (qh2 M W).piv k).toNat=w8u (qh2 M W).done_ (qh2 M W).piv k:=rfl
  grind
 simp_all [wa5,Nat.le_refl]
theorem Ones.piv {n W:Nat} {M:List (List Int)} (h:Ones n W M) (c:Nat):isP (qb5 M W).2 c↔isP (qh2 M W).piv c:=⟨h.stP.piv_same h.stR,h.stR.piv_same h.stP⟩
theorem Ones.ker {n W:Nat} {M:List (List Int)} (h:Ones n W M):∀f,f<=W->qp4 (qb5 M W).1 (qb5 M W).2 W f=q9g (qh2 M W).done_ (qh2 M W).piv W f
 | 0,_=>rfl
 | f+1,hf=>by
  have ih:=h.ker f ow
  rw[qp4,q9g,ih]
  by_cases q:isP (qb5 M W).2 f
  ·rw[zam (xr7.2 q),zaj λq2=>q6b.1 q2 ((h.piv f).1 q)]
  ·have q2:¬isP (qh2 M W).piv f:=λq3=>q ((h.piv f).2 q3)
   rw[zaj λq3=>q (xr7.1 q3),zam (q6b.2 q2),q62]
   have a:=(h.kvP ow q).prim ow
   have b:=((h.kvR ow q2).prim ow).trans λc=>(h.piv c).symm
   rw[a.uniq h.stP ow q b (qp2 _) (qp2 _)]
theorem Ones.kernel {n W:Nat} {M:List (List Int)} (h:Ones n W M):qp4 (qb5 M W).1 (qb5 M W).2 W W=qj5 M:=by
 rw[h.ker W (zac _)]
 unfold qj5 qu6
 rw[h.rdW]
theorem Ones.kerAr {n W:Nat} {M:List (List Int)} (h:Ones n W M):x1r (qb5 M W).1 (qb5 M W).2 W:=by
 have hB:BIG=4000000000000000000:=rfl
 have hst:=h.stP
 have hpl:=hst.pl
 have hn:=h.n6
 have hsm:=λ{k} (hk:k<(qb5 M W).2.length)=>(hst.small h.small (zac _) (i:=k) ow).1
 have hT:=λf=>q6c (f:=f) h.pP
 refine⟨λk hk=>?_,λk hk i hi=>?_,λf hf _ k hk=>?_,λf hf _ k hk=>?_⟩
 ·have:=(h.pP k hk).1; omega
 ·grind
 ·grind [x5o]
 ·obtain⟨a,b,_⟩:=hT f _ (zac _)
  have:=x5o (k:=(qb5 M W).2.length) ow
  have h1:=hsm hk f hf
  have:=q18 (a:=0-nI (nL (qb5 M W).1 k) f) (A:=46656) ow (zal b this)
  omega
def wa6 (M:List (List Int)) (W:Nat):List Nat:=(List.range W).filter λc=>q9f (qh2 M W).piv c (qh2 M W).piv.length
theorem wj4 (d:List (List Int)) (P:List Int) (n:Nat):∀f,q9g d P n f=((List.range f).filter λc=>q9f P c P.length).map λc=>qt7 (x7t d P n c P.length)
 | 0=>rfl
 | f+1=>by
  rw[q9g,wj4 d P n f,zcl,List.filter_append,List.map_append]
  grind
theorem Ones.kernel_map {n W:Nat} {M:List (List Int)} (h:Ones n W M):qj5 M=(wa6 M W).map λc=>qt7 (x7t (qh2 M W).done_ (qh2 M W).piv W c (qh2 M W).piv.length):=by
 unfold qj5 qu6
 rw[h.rdW,wj4]
 rfl
theorem qz5 {M:List (List Int)} {W c:Nat}:c∈wa6 M W↔c<W/\¬isP (qh2 M W).piv c:=by
 grind [wa6,q6b]
theorem Ones.one_free {n W:Nat} {M:List (List Int)} (h:Ones n W M) (h1:(qj5 M).length=1):∃f,f<W/\¬isP (qh2 M W).piv f/\(∀c,c<W->c≠f->isP (qh2 M W).piv c)/\KV n W (rowOf M) (qh2 M W).piv f (nL (qj5 M) 0)/\Prim (nL (qj5 M) 0):=by
 rw[h.kernel_map] at h1 ⊢
 rw[za4] at h1
 obtain⟨f,hf⟩:=zdg.1 h1
 have hm:f∈wa6 M W:=by grind
 obtain⟨hfW,hnp⟩:=qz5.1 hm
 refine⟨f,hfW,hnp,λc hc hne=>zae λq=>?_,?_,?_⟩
 ·have:c∈wa6 M W:=qz5.2 ⟨hc,q⟩
  grind
 ·rw[hf]
  exact(h.kvR hfW hnp).prim hfW
 ·rw[hf]
  exact qp2 _
theorem Ones.ker_small {n W:Nat} {M:List (List Int)} (h:Ones n W M) {v:List Int} (hv:v∈qj5 M):v.length=W/\∀x∈v,x.natAbs<=160:=by
 rw[h.kernel_map] at hv
 obtain⟨f,hf,rfl⟩:=zbf.1 hv
 obtain⟨hfW,hnp⟩:=qz5.1 hf
 have hk:=(h.kvR hfW hnp).prim hfW
 exact⟨hk.len,hk.small h.stR h.n6 h.one hfW hnp (qp2 _)⟩
theorem Ones.one_mk {n W:Nat} {M:List (List Int)} (h:Ones n W M) {u:Nat->Int} (hu:Sol n W (rowOf M) u) (hu0:∀c,c<W->u c≠0) (hmin:∀z,Sol n W (rowOf M) z->(∃c,c<W/\z c=0)->∀c,c<W->z c=0):(qj5 M).length=1/\∀c,c<W->nI (nL (qj5 M) 0) c≠0:=by
 have hw:=h.w1
 have two:∀f g,f∈wa6 M W->g∈wa6 M W->f=g:=λf g hf hg=>zae λhne=>by
  obtain⟨hfW,hfn⟩:=qz5.1 hf
  obtain⟨hgW,hgn⟩:=qz5.1 hg
  have hk:=h.kvR hfW hfn
  have:=hmin _ hk.sol ⟨g,hgW,hk.free g hgW (zds hne) hgn⟩ f hfW
  have:=hk.pos
  omega
 have ex:∃f,f∈wa6 M W:=zae λhno=>by
  have hall:∀c,c<W->isP (qh2 M W).piv c:=λc hc=>zae λq=>hno ⟨c,qz5.2 ⟨hc,q⟩⟩
  obtain⟨k,hk,e⟩:=hall 0 hw
  have hst:=h.stR
  have hpl:=hst.pl
  have hp:=hst.pos k hk
  have h1:=(hst.sol u).1 hu k ow
  unfold dt at h1
  rw[e,zat] at hp
  rw[qm8 (k:=0) hw λc hc hne=>?_] at h1
  ·grind [qd0]
  ·try dsimp only
   obtain⟨q,hq,e2⟩:=hall c hc
   have:=(hst.pos q hq).2.2.2.2 k ow λe3=>hne (by grind)
   grind
 obtain⟨f,hf⟩:=ex
 have hnd:(wa6 M W).Nodup:=List.nodup_range.filter _
 have h1:(wa6 M W).length=1:=by
  match hl:wa6 M W,hnd with
  | [],_=>grind
  | [a],_=>rfl
  | a :: b :: t,hnd=>
   have:=two a b (by grind) (by grind)
   grind
 have hk1:(qj5 M).length=1:=by rw[h.kernel_map,za4]; omega
 refine⟨hk1,λc hc q=>?_⟩
 obtain⟨f,hfW,hfn,_,hv,_⟩:=h.one_free hk1
 have:=hmin _ hv.sol ⟨c,hc,q⟩ f hfW
 have:=hv.pos
 omega
theorem qk2 {m:List (List Int)} {s:List Int} (hM:Mk m) (hs:Named (nL m 0).length s) (h1:0<s.length):Ones m.length s.length (qp5 m s):=by
 have hl:=hs.len
 have h10:=hM.pix10
 refine⟨⟨wy8 m s,λi hi=>by grind [ql3,ql7]⟩,hM.rows1,hM.rows6,h1,ow,λa c ha hc=>?_⟩
 rw[ql3 m s a ha,qq9 _ _ _ hc]
 have:=hs.at_ c hc
 have:=hM.small a ha (nI s c).toNat ow
 omega
theorem qv0 (m:List (List Int)) (s:List Int):q33 m s=qp5 m s:=by
 grind [q33,qb3,qp5]
theorem xr9 {m:List (List Int)} {s:List Int} (hM:Mk m) (hs:Named (nL m 0).length s) (h1:0<s.length):qn1 m s=q0s m s:=by
 unfold qn1 qj7 q0s
 rw[qv0]
 exact(qk2 hM hs h1).kernel
theorem q5b {n k:Nat} {s:List Int} (h:s∈qe9 (n:Nat) (k:Nat)):Named n s/\s.length=k:=by
 have hl:=(q5a h).1
 unfold qe9 at h
 split at h
 ·have hc:=w5d h
  have he:=hc.len
  simp only[Int.toNat_natCast] at hc he
  have step:∀d i,i+d+1<k->nI s i<nI s (i+d+1):=λd=>by
   induction d with
   | zero=>intro i hi; have:=hc.asc (i+1) ow ow; grind
   | succ d ih=>
    intro i hi
    have h1:=ih i ow
    have h2:=hc.asc (i+(d+1)+1) ow ow
    grind
  refine⟨⟨λj hj=>?_,λi j hij hj=>?_⟩,hl⟩
  ·have h1:=hc.lo j ow
   have h2:=hc.hi j ow
   omega
  ·have:=step (j-i-1) i ow
   grind
 grind
theorem wa7:∀(m k:Nat) (a:Int) (l:List Int),l.length=k->(∀i,i<k->a<=nI l i/\nI l i<a+m)->(∀i j,i<j->j<k->nI l i<nI l j)->l∈qr0 m k a
 | m,0,a,l,hl,_,_=>by
  grind [List.eq_nil_of_length_eq_zero,w8i]
 | 0,k+1,a,l,hl,hb,_=>by
  have:=hb 0 ow
  omega
 | m+1,k+1,a,l,hl,hb,ha=>by
  match l,hl with
  | x :: t,hl=>
  have hl:t.length=k:=by grind
  rw[qr0,zak,zbf]
  by_cases e:x=a
  ·refine .inl ⟨t,wa7 m k (a+1) t hl (λi hi=>?_) (λi j hij hj=>ha (i+1) (j+1) ow ow),by rw[e]⟩
   have h1:=hb (i+1) ow
   have h2:=ha 0 (i+1) ow ow
   grind [qv7,q0q]
  ·refine .inr (wa7 m (k+1) (a+1) (x :: t) ow (λi hi=>?_) ha)
   have h0:=hb 0 ow
   rw[q0q] at h0
   have h1:=hb i hi
   rcases zbt i with q | q
   all_goals grind [q0q]
theorem w00 {n:Nat} {s:List Int} (h:Named n s):s∈qe9 (n:Nat) (s.length:Nat):=by
 have hl:=h.len
 unfold qe9
 rw[zam ow]
 refine wa7 _ _ _ _ (by rfl) (λi hi=>?_) λi j hij hj=>h.asc i j hij ow
 rw[zat] at hi
 have:=h.at_ i hi
 omega
theorem y05 {m:List (List Int)} (hv:qb6 m=true):wz4 m:=by
 have hM:=Mk.of hv
 have h1:=hM.pix1
 have h10:=hM.pix10
 refine⟨⟨?_⟩,λk hk set hset=>?_⟩
 ·have:=(qk2 hM (Named.idx _) (by grind [qf6])).redOk
  grind [qf6,qv0]
 ·obtain⟨hn,hl⟩:=q5b hset
  have hO:=qk2 hM hn ow
  refine⟨ChoOk.of hM hn λ_ _=>⟨trivial,zaf _⟩,by rw[qv0]; exact hO.redOk,?_⟩
  unfold qj7
  rw[qv0]
  exact hO.kerAr
theorem wa8 {n:Nat} {s v:List Int} (hs:Named n s):∀k,k<=s.length->∀j,j<k->nI (qg4 n s v k) (nI s j).toNat=nI v j
 | 0,_,j,hj=>absurd hj (zar _)
 | k+1,hk,j,hj=>by
  have h1:=hs.at_ k ow
  have h2:=hs.at_ j ow
  rw[qg4,q63 _ (by grind [ql9])]
  rcases zau.1 hj with e | e
  ·have:=hs.asc j k e ow
   rw[zaj ow]
   exact wa8 hs k ow j e
  grind
theorem wq8 {n:Nat} {s v:List Int} (hs:Named n s) {c:Nat} (hc:∀j,j<s.length->nI s j≠(c:Int)):∀k,k<=s.length->nI (qg4 n s v k) c=0
 | 0,_=>x5m n c
 | k+1,hk=>by
  have h1:=hs.at_ k ow
  have h2:=hc k ow
  rw[qg4,q63 _ (by grind [ql9]),zaj ow]
  exact wq8 hs hc k ow
theorem wa9 {v:List Int}:∀k,k<=v.length->(wo7 v k=true↔∀c,c<k->nI v c≠0)
 | 0,_=>⟨λ_ c hc=>absurd hc (zar _),λ_=>rfl⟩
 | k+1,hk=>by
  rw[wo7,zax,wa9 k ow,bne_iff_ne]
  grind
theorem x26 {v:List Int}:(v.any λe=>(0:Int)==e)=false↔∀c,c<v.length->nI v c≠0:=by
 rw[zbx]
 constructor
 ·intro h c hc e
  have:=h _ (q9v hc)
  grind
 ·intro h x hx q
  obtain⟨c,hc,rfl⟩:=q9w hx
  grind
structure IsC (m:List (List Int)) (s:List Int):Prop where
 one:(q0s m s).length=1
 nz:∀c,c<s.length->nI (nL (q0s m s) 0) c≠0
theorem qz6 {m:List (List Int)} {s:List Int} (hM:Mk m) (hs:Named (nL m 0).length s) (hok:q9m m s=true):q45 m s=true↔IsC m s:=by
 have h1:0<s.length:=by
  unfold q9m at hok
  grind
 have hO:=qk2 hM hs h1
 unfold q45
 rw[hok,Bool.true_and,zax,za5]
 constructor
 ·rintro⟨a,b⟩
  have hl:=(hO.ker_small (q04 (qj5 (qp5 m s)) 0 (by grind [q0s]))).1
  exact⟨a,(wa9 _ (by show s.length<=(nL (qj5 (qp5 m s)) 0).length; omega)).1 b⟩
 ·intro h
  have hl:=(hO.ker_small (q04 (qj5 (qp5 m s)) 0 (by have:=h.one; grind [q0s]))).1
  exact⟨h.one,(wa9 _ (by show s.length<=(nL (qj5 (qp5 m s)) 0).length; omega)).2 h.nz⟩
theorem w01 {m:List (List Int)} {s:List Int} (hM:Mk m) (hs:Named (nL m 0).length s) (h1:0<s.length):wz3 (qn1 m s)=true↔IsC m s:=by
 have hO:=qk2 hM hs h1
 rw[xr9 hM hs h1]
 unfold wz3
 rw[zax,za5,zec,x26]
 constructor
 ·rintro⟨a,b⟩
  have hl:=(hO.ker_small (q04 (qj5 (qp5 m s)) 0 (by grind [q0s]))).1
  exact⟨a,λc hc=>b c (by show c<(nL (qj5 (qp5 m s)) 0).length; omega)⟩
 ·intro h
  have hl:=(hO.ker_small (q04 (qj5 (qp5 m s)) 0 (by have:=h.one; grind [q0s]))).1
  exact⟨h.one,λc hc=>h.nz c (by have:c<(nL (qj5 (qp5 m s)) 0).length:=hc; omega)⟩
theorem x8q {l:List Int} (h:∀d:Nat,(∀c,c<l.length->d∣(nI l c).natAbs)->d=1):qe4 l=l:=by
 have h1:(gcdL l).natAbs=1:=h _ λc hc=>(yi5 l 0).2.1 _ (q9v hc)
 unfold qe4
 grind
theorem xs0 (l:List Int):x1i l=q9d l (-1):=by
 refine zbl (by rw[wo1,qy9]) λi h1 h2=>?_
 rw[<- qf3 _ i h1,<- qf3 _ i h2,w0m,q70]
 omega
theorem x8r {m:List (List Int)} {s:List Int} (hM:Mk m) (hs:Named (nL m 0).length s) (h1:0<s.length) (hc:IsC m s):yo5 m (nL m 0).length s=wo8 m (nL m 0).length s:=by
 have hO:=qk2 hM hs h1
 obtain⟨f,hf,hnp,ho,hv,hp⟩:=hO.one_free hc.one
 have hnz:=hc.nz
 unfold yo5 wo8 q9n
 rw[xr9 hM hs h1]
 change KV _ _ _ _ _ (nL (q0s m s) 0) at hv
 change Prim (nL (q0s m s) 0) at hp
 generalize nL (q0s m s) 0=v at *
 have hat:=λj (hj:j<s.length)=>wa8 (v:=v) hs _ (zac _) j hj
 have ho2:∀c:Nat,(∀j,j<s.length->nI s j≠(c:Int))->nI (qg4 (nL m 0).length s v s.length) c=0:=λc hc=>wq8 hs hc _ (zac _)
 have hlen:=ql9 (nL m 0).length s v s.length
 generalize qg4 (nL m 0).length s v s.length=u at *
 have hsh:qe4 u=u:=x8q λd hd=>hp.gcd hv.len hf hv.pos d λc hc=>by
  have h2:=hs.at_ c hc
  grind
 have h0:=hs.at_ 0 h1
 have hfst:qx7 u=nI s 0:=by
  have:=wx4 (.int .i64) (λe=>e != 0) u (nI s 0).toNat ow (λi hi=>by
   have:nI u i=0:=ho2 i λj hj e=>by
    rcases zbt j with q | q
    ·grind
    ·have:=hs.asc 0 j q hj
     omega
   grind [nI]) (by
   simp_all [nI,bne_iff_ne])
  grind [qx7]
 simp_all [q9a,nI,if_pos,xs0,if_neg]
theorem q3h {N K:Nat} {A:Nat->Int} {σ:Nat->Nat} {w:Nat->Int} (hσ:∀q,q<K->σ q<N):(sm N λcol=>A col*sm K λq=>if σ q=col then w q else 0)=sm K λq=>A (σ q)*w q:=by
 have e:(sm N λcol=>A col*sm K λq=>if σ q=col then w q else 0)=sm N λcol=>sm K λq=>A col*if σ q=col then w q else 0:=qd3 λc hc=>by
  grind [qj6]
 rw[e,xn8]
 refine qd3 λq hq=>?_
 try dsimp only
 rw[qm8 (k:=σ q) (hσ q hq) λi hi hne=>by
  grind]
 simp
theorem x3a {m:List (List Int)} {s:List Int} (hM:Mk m) (hs:Named (nL m 0).length s) (h1:0<s.length):(qh2 (qp5 m s) s.length).piv.length<=(qj7 m (qp1 (nL m 0).length)).2.length:=zek λhgt=>by
 have hO:=qk2 hM hs h1
 have hF:=(qk2 hM (Named.idx (nL m 0).length) (by rw[qf6]; exact hM.pix1))
 have hstF:=hF.stP
 unfold qj7 at hgt
 rw[qv0] at hgt
 have hst:=hO.stR
 rw[qf6] at hstF hgt
 generalize qb5 (qp5 m (qp1 (nL m 0).length)) (nL m 0).length=F at hstF hgt
 obtain⟨rF,PF⟩:=F
 dsimp only at hstF hgt
 generalize(qh2 (qp5 m s) s.length).piv=P at hst hgt
 generalize(qh2 (qp5 m s) s.length).done_++(qh2 (qp5 m s) s.length).left=rows at hst
 have hpl:=hst.pl
 have hplF:=hstF.pl
 have hPs:∀q,q<P.length->(nI P q).toNat<s.length:=λq hq=>by have:=hst.pos q hq; omega
 have hσ:∀q,q<P.length->(nI s (nI P q).toNat).toNat<(nL m 0).length:=λq hq=>by have:=hs.at_ _ (hPs q hq); omega
 obtain⟨w,w1,q0,hq0,w2⟩:=w26 (n:=PF.length) (W:=P.length) (λk q=>nI (nL rF k) (nI s (nI P q).toNat).toNat) hgt
 have hF2:Sol m.length (nL m 0).length (rowOf (qp5 m (qp1 (nL m 0).length))) λcol=>sm P.length λq=>if(nI s (nI P q).toNat).toNat=col then w q else 0:=(hstF.sol _).2 λi hi=>by
  rcases zap i PF.length with q | q
  ·unfold dt
   rw[q3h hσ]
   exact w1 i q
  ·refine qj9 λc hc=>?_
   try dsimp only
   rw[hstF.zero i q hi c hc,zb9]
 have hsub:Sol m.length s.length (rowOf (qp5 m s)) λc=>sm P.length λq=>if(nI P q).toNat=c then w q else 0:=λa ha=>by
  rw[q3h hPs]
  have e1:=hF2 a ha
  rw[q3h hσ] at e1
  rw[<- e1]
  refine qd3 λq hq=>?_
  grind [rowOf,ql3,qq9,qf6,q31,Int.toNat_natCast]
 have e:=(hst.sol _).1 hsub q0 ow
 unfold dt at e
 rw[q3h hPs,qm8 (k:=q0) hq0 λi hi hne=>by
  try dsimp only
  rw[(hst.pos i hi).2.2.2.2 q0 ow (zds hne),zb9]] at e
 exact w2 (qd0 e (by have:=(hst.pos q0 hq0).2.2.1; omega))
theorem w55 {m:List (List Int)} {s:List Int} (hM:Mk m) (hs:Named (nL m 0).length s) (h1:0<s.length) (hc:IsC m s):s.length<=(qj7 m (qp1 (nL m 0).length)).2.length+1:=by
 have hO:=qk2 hM hs h1
 have hr:=x3a hM hs h1
 obtain⟨f,hf,hnp,ho,_,_⟩:=hO.one_free hc.one
 generalize(qh2 (qp5 m s) s.length).piv=P at *
 refine zek λhgt=>?_
 have hx:∀a,∃q,a<s.length-1->q<P.length/\nI P q=(skp f a:Int):=λa=>by
  by_cases ha:a<s.length-1
  ·obtain⟨q,hq,e⟩:=ho (skp f a) (by have:=wa0 (n:=s.length-1) (i:=f) ha; omega) (x5i f a)
   grind
  ·exact⟨0,λq=>absurd q ha⟩
 obtain⟨g,hg⟩:=zbq hx
 obtain⟨i,j,k1,k2,k3⟩:=q9u P.length (s.length-1) g (λi hi=>(hg i hi).1) ow
 grind [skp]
def ya3 (m:List (List Int)) (s:List Int):Option (List Int):=if wz3 (qn1 m s) then some (yo5 m (nL m 0).length s) else none
def wc7 (m:List (List Int)) (s:List Int):Option (List Int):=if q45 m s then some (wo8 m (nL m 0).length s) else none
theorem w02 (m:List (List Int)) (L:List (List Int)):∀c,c<=L.length->qt1 m (nL m 0).length L c=(L.take c).filterMap (ya3 m)
 | 0,_=>rfl
 | c+1,hc=>by
  rw[qt1,q2u L c ow,zdn,w02 m L c ow]
  unfold ya3
  grind
theorem wj5 (m:List (List Int)) (L:List (List Int)):∀c,c<=L.length->q6y m (nL m 0).length L c=(L.take c).filterMap (wc7 m)
 | 0,_=>rfl
 | c+1,hc=>by
  rw[q6y,q2u L c ow,zdn,wj5 m L c ow]
  unfold wc7
  by_cases q:q45 m (nL L c)=true
  ·rw[zam q]
   simp[List.filterMap,q]
  ·rw[zaj q]
   have q:q45 m (nL L c)=false:=by simpa using q
   simp[List.filterMap,q]
def ws6 (m:List (List Int)) (k:Nat):List (List Int):=(qe9 (nL m 0).length (k:Nat)).filterMap (wc7 m)
theorem w56 (m:List (List Int)):∀K,q3c m (nL m 0).length K=(List.range K).flatMap λ(k:Nat)=>(qe9 (nL m 0).length (k+1:Nat)).filterMap (ya3 m)
 | 0=>rfl
 | K+1=>by
  rw[q3c,w56 m K,zcl,zce,w02 m _ _ (zac _),zel]
  simp
theorem x8s {m:List (List Int)} {s:List Int} (hM:Mk m) (hs:Named (nL m 0).length s) (h1:0<s.length) (hr:s.length<=m.length+1):ya3 m s=wc7 m s:=by
 have hok:q9m m s=true:=by
  unfold q9m
  rw[zax,za5,za5]
  omega
 unfold ya3 wc7
 by_cases q:IsC m s
 ·rw[zam ((w01 hM hs h1).2 q),zam ((qz6 hM hs hok).2 q),x8r hM hs h1 q]
 ·rw[zaj λk=>q ((w01 hM hs h1).1 k),zaj λk=>q ((qz6 hM hs hok).1 k)]
theorem xs1 {m:List (List Int)} (hM:Mk m):(qj7 m (qp1 (nL m 0).length)).2.length<=m.length:=by
 have hF:=(qk2 hM (Named.idx (nL m 0).length) (by rw[qf6]; exact hM.pix1))
 have:=hF.stP.pl
 unfold qj7
 rw[qv0]
 exact this
theorem xs2 {m:List (List Int)} (hM:Mk m) {k:Nat} (hk:q55 m<=k) (hn:k<(nL m 0).length):ws6 m (k+1)=[]:=by
 unfold ws6
 rw[zd8]
 intro s hs
 obtain⟨hN,hl⟩:=q5b hs
 unfold wc7
 rw[zaj]
 intro q
 have hok:q9m m s=true:=by
  unfold q45 at q
  rw[zax,zax] at q
  exact q.1.1
 have:=w55 hM hN ow ((qz6 hM hN hok).1 q)
 unfold q55 at hk
 omega
theorem w57 {m:List (List Int)} (h7:(nL m 0).length<=7):q6y m (nL m 0).length (q53 (nL m 0).length) (q53 (nL m 0).length).length=(List.range (nL m 0).length).flatMap λk=>ws6 m (k+1):=by
 rw[wj5 m _ _ (zac _),zel,xp0 h7,List.filterMap_flatMap,List.range_succ_eq_map,List.flatMap_cons]
 have e0:(qe9 ((nL m 0).length:Nat) (0:Nat)).filterMap (wc7 m)=[]:=by
  rw[zd8]
  intro s hs
  have hl:=(q5b hs).2
  unfold wc7 q45 q9m
  rw[hl]
  rfl
 refine(za1 (λl=>l++_) e0).trans ?_
 rw[List.flatMap_map]
 rfl
theorem w03 {f:Nat->List (List Int)} {K:Nat}:∀d,(∀k,K<=k->k<K+d->f k=[])->(List.range (K+d)).flatMap f=(List.range K).flatMap f
 | 0,_=>rfl
 | d+1,h=>by
  rw[<- zcn,zcl,zce,w03 d λk h1 h2=>h k h1 ow]
  simp[h (K+d) ow ow]
theorem w58 {f g:List Int->Option (List Int)}:∀l:List (List Int),(∀x∈l,f x=g x)->l.filterMap f=l.filterMap g
 | [],_=>rfl
 | x :: l,h=>by rw[zdx,zdx,h x (by simp),w58 l λy hy=>h y (by simp[hy])]
theorem q72 {m:List (List Int)} (hv:qb6 m=true) (h7:(nL m 0).length<=7):q3c m (nL m 0).length (q55 m)=(List.range (nL m 0).length).flatMap λk=>ws6 m (k+1):=by
 have hM:=Mk.of hv
 have hcn:q55 m<=(nL m 0).length:=by unfold q55; omega
 have e:=w03 (f:=λk=>ws6 m (k+1)) (K:=q55 m) ((nL m 0).length-q55 m) λk h1 h2=>xs2 hM h1 ow
 rw[show q55 m+((nL m 0).length-q55 m)=(nL m 0).length by omega] at e
 rw[e,w56]
 have hr:=xs1 hM
 have key:∀K,K<=q55 m->((List.range K).flatMap λ(k:Nat)=>(qe9 (nL m 0).length (k+1:Nat)).filterMap (ya3 m))=(List.range K).flatMap λk=>ws6 m (k+1):=λK=>by
  induction K with
  | zero=>exact λ_=>rfl
  | succ K ih=>
   intro hK
   rw[zcl,zce,zce,ih ow]
   congr 1
   simp only[List.flatMap_cons,List.flatMap_nil,List.append_nil]
   unfold ws6
   refine w58 _ λs hs=>?_
   obtain⟨hN,hl⟩:=q5b hs
   exact x8s hM hN ow (by unfold q55 at hK; omega)
 exact key _ (zac _)
theorem yk2 {m:List (List Int)} (hl:q06 m=true):qh9 m=q7j m:=by
 by_cases hv:qb6 m=true
 ·have h7:=wo9 hl (Mk.of hv)
  have e1:qh9 m=(q3c m (nL m 0).length (q55 m),0):=by simp[qh9,hv]
  have e2:q7j m=(q6y m (nL m 0).length (q53 (nL m 0).length) (q53 (nL m 0).length).length,0):=by simp[q7j,hv]
  rw[e1,e2,q72 hv h7,w57 h7]
 ·have hv:qb6 m=false:=by simpa using hv
  have e1:qh9 m=([],1):=by simp[qh9,hv]
  have e2:q7j m=([],1):=by simp[q7j,hv]
  rw[e1,e2]
theorem x8t {m:List (List Int)} (hl:q06 m=true):q9k m=qw2 m:=by
 unfold q9k qw2
 rw[yk2 hl]
theorem x3b {m:List (List Int)} (hl:q06 m=true):q3g m=qs1 m:=by
 unfold q3g qs1
 rw[x8t hl]
 by_cases h:(qw2 m).2=0
 ·rw[zaj λq=>q h,h]
 ·rw[zam h]
  have:(qw2 m).1=[]:=by
   unfold qw2 at h ⊢
   split
   ·rfl
   ·split
    ·rfl
    ·rename_i h1 h2; rw[zaj h1,zaj h2] at h; exact absurd rfl h
  rw[this]
  rfl
def qs3:Nat->(Nat->Int)->Nat
 | 0,_=>0
 | k+1,d=>if d k≠0 then qs3 k d+1 else qs3 k d
theorem q5c (l:List Int):∀k,nzTo l k=qs3 k (nI l)
 | 0=>rfl
 | k+1=>by rw[nzTo,qs3,q5c l k]
theorem cnt_le {d e:Nat->Int}:∀k,(∀c,c<k->d c≠0->e c≠0)->qs3 k d<=qs3 k e
 | 0,_=>zac _
 | k+1,h=>by
  have ih:=cnt_le k λc hc=>h c ow
  rw[qs3,qs3]
  grind
theorem cnt_lt {d e:Nat->Int} {c0:Nat} (h1:d c0=0) (h2:e c0≠0):∀k,c0<k->(∀c,c<k->d c≠0->e c≠0)->qs3 k d<qs3 k e
 | k+1,hk,h=>by
  rw[qs3,qs3]
  by_cases q:c0=k
  ·have ih:=cnt_le (d:=d) (e:=e) k λc hc=>h c ow
   grind
  ·have ih:=cnt_lt h1 h2 k ow λc hc=>h c ow
   grind
theorem xs3 {d e f:Nat->Int}:∀k,(∀c,c<k->d c≠0->e c≠0\/f c≠0)->qs3 k d<=qs3 k e+qs3 k f
 | 0,_=>zac _
 | k+1,h=>by
  have ih:=xs3 k λc hc=>h c ow
  rw[qs3,qs3,qs3]
  grind
def qo7:Nat->(Nat->Int)->List Int
 | 0,_=>[]
 | k+1,d=>if d k≠0 then qo7 k d++[(k:Int)] else qo7 k d
theorem q0x (d:Nat->Int):∀k,(qo7 k d).length=qs3 k d
 | 0=>rfl
 | k+1=>by
  rw[qo7,qs3]
  split
  ·rw[zaw,q0x d k]; rfl
  ·exact q0x d k
theorem qf5 (d:Nat->Int):∀k,Named k (qo7 k d)/\∀j,j<(qo7 k d).length->d (nI (qo7 k d) j).toNat≠0
 | 0=>⟨⟨λj hj=>absurd hj (zar _),λi j _ hj=>absurd hj (zar _)⟩,λj hj=>absurd hj (zar _)⟩
 | k+1=>by
  obtain⟨h1,h2⟩:=qf5 d k
  rw[qo7]
  by_cases q:d k≠0
  ·rw[zam q]
   have hl:(qo7 k d++[(k:Int)]).length=(qo7 k d).length+1:=by simp
   refine⟨⟨λj hj=>?_,λi j hij hj=>?_⟩,λj hj=>?_⟩
   ·rw[hl] at hj
    rcases zau.1 hj with e | e
    ·rw[qk0 _ _ e]; have:=h1.at_ j e; omega
    grind [qn5]
   ·rw[hl] at hj
    rw[qk0 _ _ (show i<(qo7 k d).length by omega)]
    rcases zau.1 hj with e | e
    ·rw[qk0 _ _ e]; exact h1.asc i j hij e
    ·rw[e,qn5]; exact(h1.at_ i ow).2
   ·rw[hl] at hj
    rcases zau.1 hj with e | e
    all_goals grind [qk0,qn5,Int.toNat_natCast]
  ·rw[zaj q]
   exact⟨⟨λj hj=>by have:=h1.at_ j hj; omega,h1.asc⟩,h2⟩
theorem qo2 (d:Nat->Int):∀k c,c<k->d c≠0->∃j,j<(qo7 k d).length/\nI (qo7 k d) j=(c:Int)
 | k+1,c,hc,hd=>by
  rw[qo7]
  by_cases q:c=k
  ·rw[zam (by grind)]
   grind [qo7,qn5]
  ·obtain⟨j,h1,h2⟩:=qo2 d k c ow hd
   split
   ·exact⟨j,by grind,by grind [qk0]⟩
   grind
theorem Named.inj {n:Nat} {s:List Int} (h:Named n s) {i j:Nat} (hi:i<s.length) (hj:j<s.length) (e:(nI s i).toNat=(nI s j).toNat):i=j:=by
 have h1:=h.at_ i hi
 have h2:=h.at_ j hj
 rcases zcv i j with q | q | q
 ·have:=h.asc i j q hj; omega
 ·exact q
 ·have:=h.asc j i q hi; omega
theorem wb0 {m:List (List Int)} (hM:Mk m):∀(K:Nat) (d:Nat->Int),qs3 (nL m 0).length d<=K->Sol m.length (nL m 0).length (rowOf m) d->(∃c,c<(nL m 0).length/\d c≠0)->∃s,Named (nL m 0).length s/\0<s.length/\IsC m s/\s.length<=qs3 (nL m 0).length d
 | 0,d,hK,_,⟨c,hc,hd⟩=>by
  have:=cnt_lt (d:=λ_=>0) (e:=d) (c0:=c) rfl hd _ hc λc _ q=>absurd rfl q
  omega
 | K+1,d,hK,hs,⟨c1,hc1,hd1⟩=>by
  have hN:=(qf5 d (nL m 0).length).1
  have hnz:=(qf5 d (nL m 0).length).2
  have hin:=qo2 d (nL m 0).length
  have hl:=q0x d (nL m 0).length
  generalize qo7 (nL m 0).length d=s at hN hnz hin hl
  have h1:0<s.length:=by grind
  have hO:=qk2 hM hN h1
  by_cases hC:IsC m s
  ·grind
  ·have hsW:∀c,c<s.length->(nI s c).toNat<(nL m 0).length:=λc hc=>by have:=hN.at_ c hc; omega
   have hu:Sol m.length s.length (rowOf (qp5 m s)) λc=>d (nI s c).toNat:=λa ha=>by
    have e:=hs a ha
    rw[qs9 s.length (f:=λc=>rowOf m a c*d c) (τ:=λc=>(nI s c).toNat) hsW (λq k hq hk e=>hN.inj hq hk e) λb hb hq=>by
     grind] at e
    grind [qd3,rowOf,ql3,qq9]
   have hx:∃z,Sol m.length s.length (rowOf (qp5 m s)) z/\(∃c,c<s.length/\z c=0)/\∃c,c<s.length/\z c≠0:=zae λhno=>by
    have:=hO.one_mk hu hnz λz hz h0 c hc=>zae λq=>hno ⟨z,hz,h0,c,hc,q⟩
    exact hC ⟨this.1,this.2⟩
   obtain⟨z,hz,⟨c0,hc0,hz0⟩,c2,hc2,hz2⟩:=hx
   have hat:∀c,c<s.length->(sm s.length λq=>if(nI s q).toNat=(nI s c).toNat then z q else 0)=z c:=λc hc=>by
    rw[qm8 (k:=c) hc λi hi hne=>by
     try dsimp only
     rw[zaj λe=>hne (hN.inj hi hc e)]]
    simp
   have hoff:∀c,c<(nL m 0).length->(sm s.length λq=>if(nI s q).toNat=c then z q else 0)≠0->d c≠0:=λc hc hne q=>hne (qj9 λi hi=>by
    grind)
   have hlt:=cnt_lt (d:=λcol=>sm s.length λq=>if(nI s q).toNat=col then z q else 0) (e:=d) (c0:=(nI s c0).toNat) (by grind) (hnz c0 hc0) _ (hsW c0 hc0) hoff
   obtain⟨s',k1,k2,k3,k4⟩:=wb0 hM K (λcol=>sm s.length λq=>if(nI s q).toNat=col then z q else 0) ow (λa ha=>by
    rw[q3h hsW]
    rw[<- hz a ha]
    grind [qd3,rowOf,ql3,qq9]) ⟨(nI s c2).toNat,hsW c2 hc2,by grind⟩
   grind
structure w04 (m:List (List Int)) (s h:List Int):Prop where
 nam:Named (nL m 0).length s
 pos:0<s.length
 isc:IsC m s
 len:h.length=(nL m 0).length
 nz:qs3 (nL m 0).length (nI h)=s.length
 sol:Sol m.length (nL m 0).length (rowOf m) (nI h)
 on:∀j,j<s.length->nI h (nI s j).toNat≠0
 off:∀c,c<(nL m 0).length->(∀j,j<s.length->nI s j≠(c:Int))->nI h c=0
 small:∀c,(nI h c).natAbs<=160
theorem x5p {N:Nat} {s:List Int} (hs:Named N s) {d:Nat->Int} (hon:∀j,j<s.length->d (nI s j).toNat≠0) (hoff:∀c,c<N->(∀j,j<s.length->nI s j≠(c:Int))->d c=0):qs3 N d=s.length:=by
 have h1:=(qf5 d N).1
 have h2:=(qf5 d N).2
 have h3:=qo2 d N
 rw[<- q0x]
 have sub:∀(s t:List Int),Named N s->Named N t->(∀j,j<s.length->∃i,i<t.length/\nI t i=nI s j)->s.length<=t.length:=λs t hs ht h=>zek λhgt=>by
  have hx:∀j,∃i,j<s.length->i<t.length/\nI t i=nI s j:=λj=>by
   grind
  obtain⟨g,hg⟩:=zbq hx
  obtain⟨i,j,k1,k2,k3⟩:=q9u t.length s.length g (λi hi=>(hg i hi).1) hgt
  have e1:=(hg i ow).2
  have e2:=(hg j k2).2
  rw[k3] at e1
  have:=hs.asc i j k1 k2
  omega
 refine Nat.le_antisymm (sub _ _ h1 hs λj hj=>?_) (sub _ _ hs h1 λj hj=>?_)
 ·have hb:=h1.at_ j hj
  grind
 ·have hb:=hs.at_ j hj
  grind
theorem w3b {m:List (List Int)} {s:List Int} (hM:Mk m) (hs:Named (nL m 0).length s) (h1:0<s.length) (hc:IsC m s):w04 m s (wo8 m (nL m 0).length s):=by
 have hO:=qk2 hM hs h1
 obtain⟨f,hf,hnp,ho,hv,hp⟩:=hO.one_free hc.one
 have hsm:=(hO.ker_small (q04 (qj5 (qp5 m s)) 0 (by have:=hc.one; grind [q0s]))).2
 have hnz:=hc.nz
 unfold wo8 q9n
 change KV _ _ _ _ _ (nL (q0s m s) 0) at hv
 change Prim (nL (q0s m s) 0) at hp
 change ∀x∈nL (q0s m s) 0,_ at hsm
 generalize nL (q0s m s) 0=v at *
 have hat:=λj (hj:j<s.length)=>wa8 (v:=v) hs _ (zac _) j hj
 have ho2:∀c:Nat,(∀j,j<s.length->nI s j≠(c:Int))->nI (qg4 (nL m 0).length s v s.length) c=0:=λc hc=>wq8 hs hc _ (zac _)
 have hlen:=ql9 (nL m 0).length s v s.length
 generalize qg4 (nL m 0).length s v s.length=u at *
 have hsW:∀c,c<s.length->(nI s c).toNat<(nL m 0).length:=λc hc=>by have:=hs.at_ c hc; omega
 have hsol:Sol m.length (nL m 0).length (rowOf m) (nI u):=λa ha=>by
  rw[qs9 s.length (f:=λc=>rowOf m a c*nI u c) (τ:=λc=>(nI s c).toNat) hsW (λq k hq hk e=>hs.inj hq hk e) λb hb hq=>by
   grind]
  rw[<- hv.sol a ha]
  grind [qd3,rowOf,ql3,qq9]
 have hsmall:∀c,(nI u c).natAbs<=160:=λc=>by
  by_cases q:∃j,j<s.length/\nI s j=(c:Int)
  ·obtain⟨j,hj,e⟩:=q
   have:=hat j hj
   rw[e,zat] at this
   rw[this]
   exact hsm _ (q9v (by rw[hv.len]; omega))
  grind
 have both:∀h:List Int,h.length=u.length->∀sg:Int,(sg=1\/sg=-1)->(∀c,nI h c=nI u c*sg)->w04 m s h:=λh hl sg hsg he=>by
  have hsg0:sg≠0:=ow
  have hon:∀j,j<s.length->nI h (nI s j).toNat≠0:=λj hj=>by
   grind
  have hoff:∀c,c<(nL m 0).length->(∀j,j<s.length->nI s j≠(c:Int))->nI h c=0:=λc hc hj=>by
   grind
  refine⟨hs,h1,hc,ow,x5p hs hon hoff,λa ha=>?_,hon,hoff,λc=>?_⟩
  ·have e:=hsol a ha
   have e2:(sm (nL m 0).length λc=>rowOf m a c*nI h c)=sg*sm (nL m 0).length λc=>rowOf m a c*nI u c:=by
    grind [qj6,qd3]
   grind
  grind
 split
 ·exact both _ (qy9 _ _) (-1) (.inr rfl) λc=>q70 u (-1) c
 simp_all
theorem wq9 {m:List (List Int)} (hM:Mk m) {k:Nat} {h:List Int} (hh:h∈ws6 m k):∃s,w04 m s h/\s.length=k:=by
 unfold ws6 at hh
 rw[zcs] at hh
 obtain⟨s,hs,e⟩:=hh
 obtain⟨hN,hl⟩:=q5b hs
 unfold wc7 at e
 split at e
 ·rename_i q
  obtain rfl:=zaa e
  have hok:q9m m s=true:=by
   simp_all [q45,Bool.and_eq_true]
  have h1:0<s.length:=by
   unfold q9m at hok
   grind
  grind [w3b,qz6]
 grind
theorem w59 {m:List (List Int)} (hM:Mk m) {s:List Int} (hs:Named (nL m 0).length s) (h1:0<s.length) (hc:IsC m s):wo8 m (nL m 0).length s∈ws6 m s.length:=by
 have hr:=w55 hM hs h1 hc
 have hr2:=xs1 hM
 have hok:q9m m s=true:=by
  unfold q9m
  grind
 unfold ws6
 rw[zcs]
 refine⟨s,w00 hs,?_⟩
 simp_all [wc7,if_pos,qz6]
theorem w9j {m:List (List Int)} (hl:q06 m=true) (hv:qb6 m=true):((q9k m).2=0/\∃s,w04 m s (q9k m).1/\∀t,Named (nL m 0).length t->0<t.length->IsC m t->s.length<=t.length)\/((q9k m).2=8/\(q9k m).1=[]/\∀t,Named (nL m 0).length t->0<t.length->¬IsC m t):=by
 have hM:=Mk.of hv
 have h7:=wo9 hl hM
 have e1:qh9 m=(q3c m (nL m 0).length (q55 m),0):=by grind [qh9]
 rw[q72 hv h7] at e1
 have hmem:∀t,Named (nL m 0).length t->0<t.length->IsC m t->wo8 m (nL m 0).length t∈((List.range (nL m 0).length).flatMap λk=>ws6 m (k+1)):=λt ht h1 hc=>by
  rw[zem]
  have:=ht.len
  refine⟨t.length-1,za2.2 ow,?_⟩
  grind [w59]
 have hpw:∀K,((List.range K).flatMap λk=>ws6 m (k+1)).Pairwise (λa b=>qs3 (nL m 0).length (nI a)<=qs3 (nL m 0).length (nI b))/\∀h∈((List.range K).flatMap λk=>ws6 m (k+1)),qs3 (nL m 0).length (nI h)<=K:=λK=>by
  induction K with
  | zero=>simp
  | succ K ih=>
   rw[zcl,zce]
   simp only[List.flatMap_cons,List.flatMap_nil,List.append_nil]
   have hk:∀h∈ws6 m (K+1),qs3 (nL m 0).length (nI h)=K+1:=λh hh=>by
    obtain⟨s,hs,hsl⟩:=wq9 hM hh
    rw[hs.nz,hsl]
   grind [List.pairwise_iff_getElem,List.getElem_mem]
 have hpw:=(hpw (nL m 0).length).1
 have hall:∀h∈((List.range (nL m 0).length).flatMap λk=>ws6 m (k+1)),∃s,w04 m s h:=λh hh=>by
  grind [wq9]
 unfold q9k
 rw[e1]
 generalize((List.range (nL m 0).length).flatMap λk=>ws6 m (k+1))=L at *
 rw[zaj λq=>q rfl]
 cases L with
 | nil=>
  grind
 | cons h L=>
  rw[zaj (λq=>by cases q)]
  refine .inl ⟨rfl,?_⟩
  have e0:nL (h :: L) 0=h:=rfl
  obtain⟨s,hs⟩:=hall h (by simp)
  show ∃s,w04 m s (nL (h :: L) 0)/\_
  rw[e0]
  refine⟨s,hs,λt ht h1 hc=>?_⟩
  have hq:=w3b hM ht h1 hc
  have hm:=hmem t ht h1 hc
  have:qs3 (nL m 0).length (nI h)<=qs3 (nL m 0).length (nI (wo8 m (nL m 0).length t)):=by
   rcases zas.1 hm with e | e
   all_goals simp_all
  rw[hs.nz,hq.nz] at this
  omega
theorem xs4 (a b:List Int):∀k,q1b a b k=sm k λi=>nI a i*nI b i
 | 0=>rfl
 | k+1=>by rw[q1b,sm,xs4 a b k]
theorem w6a {m:List (List Int)} (hv:qb6 m=true) (h7:(nL m 0).length<=7):(qh9 m).1=(List.range (nL m 0).length).flatMap λk=>ws6 m (k+1):=by
 grind [qh9,q3c,nL,q55,q72]
theorem yk3 {m:List (List Int)} (hv:qb6 m=true) (h7:(nL m 0).length<=7) {h:List Int} (hh:h∈(qh9 m).1):∃s,w04 m s h:=by
 rw[w6a hv h7,zem] at hh
 obtain⟨k,_,hk⟩:=hh
 obtain⟨s,hs,_⟩:=wq9 (Mk.of hv) hk
 grind
theorem x8u {m:List (List Int)} (hv:qb6 m=true) (h7:(nL m 0).length<=7) {s:List Int} (hs:Named (nL m 0).length s) (h1:0<s.length) (hc:IsC m s):∃h∈(qh9 m).1,w04 m s h:=by
 refine⟨_,?_,w3b (Mk.of hv) hs h1 hc⟩
 rw[w6a hv h7,zem]
 have:=hs.len
 refine⟨s.length-1,za2.2 ow,?_⟩
 grind [w59,Mk.of]
theorem w6b {m:List (List Int)} (hv:qb6 m=true) {s h:List Int} (hc:w04 m s h):HOk h:=by
 have:=(Mk.of hv).pix10
 refine⟨by rw[hc.len]; omega,λi=>?_⟩
 have:=hc.small i
 omega
theorem w3c (h:List Int):∀k,wb9 h k=sm k λi=>qd7 (nI h i)
 | 0=>rfl
 | k+1=>by rw[wb9,w3c h k]; rfl
theorem w05 {n:Nat} {f:Nat->Int} (h:∀i,i<n->0<=f i):0<=sm n f:=by
 induction n with
 | zero=>exact zbs _
 | succ n ih=>
  grind [sm]
theorem xs5 {n:Nat} {f:Nat->Int} (h:∀i,i<n->0<=f i) {k:Nat} (hk:k<n) (hf:0<f k):0<sm n f:=by
 induction n with
 | zero=>omega
 | succ n ih=>
  have h2:=h n ow
  have h1:=w05 (n:=n) λi hi=>h i ow
  grind [sm,Nat.lt_succ_iff_lt_or_eq]
theorem qs4 (x:Int):0<=qd7 x:=zb3 _
theorem yk4 {h:List Int} {i:Nat} (hi:i<h.length) (hx:nI h i≠0):0<szL h:=by
 unfold szL
 rw[w3c]
 refine xs5 (λi _=>qs4 _) hi ?_
 grind [qd7,nI]
theorem xs6 {m:List (List Int)} {s h:List Int} (hc:w04 m s h):0<szL h:=by
 have h1:=hc.nam.at_ 0 hc.pos
 exact yk4 (i:=(nI s 0).toNat) (by rw[hc.len]; omega) (hc.on 0 hc.pos)
theorem x3c {l:List Int} {j:Nat} (h:j+1<l.length):(swp l j).Perm l:=by
 unfold swp
 rw[qf3 l j ow,qf3 l (j+1) h]
 grind
theorem w06 (f:Int->Int->Int):∀(j:Nat) (l:List Int),j<l.length->(qx4 f j l).Perm l
 | 0,l,_=>List.Perm.refl l
 | j+1,l,h=>by
  rw[qx4]
  split
  ·exact(w06 f j (swp l j) (by grind [q96])).trans (x3c h)
  rfl
theorem w6c (f:Int->Int->Int) (l:List Int):∀k,k<l.length\/k=0->(qw7 f l k).Perm l
 | 0,_=>List.Perm.refl l
 | k+1,h=>by
  have h1:=(q0w f l k ow).1
  exact(w06 f (k+1) (qw7 f l k) ow).trans (w6c f l k ow)
theorem w6d {l:List Int} {j i:Nat} (h:j+1<l.length):nI (swp l j) i=if i=j then nI l (j+1) else if i=j+1 then nI l j else nI l i:=by
 unfold swp
 by_cases e:i=j
 ·subst e
  rw[zam rfl]
  exact qu0 (t:=.int .i64) _ _ _ (by grind)
 ·rw[zaj e]
  refine(qz7 (t:=.int .i64) _ _ _ _ e).trans ?_
  by_cases e2:i=j+1
  ·subst e2
   rw[zam rfl]
   grind [qu0]
  ·rw[zaj e2]
   exact qz7 (t:=.int .i64) _ _ _ _ e2
structure yk5 (v:Int->Int) (l:List Int) (j n:Nat):Prop where
 lo:∀a b,a<b->b<n->a≠j->b≠j->v (nI l b)<=v (nI l a)
 hi:∀b,j<b->b<n->v (nI l b)<=v (nI l j)
theorem w07 {v:Int->Int} {n:Nat}:∀(j:Nat) (l:List Int),j<n->n<=l.length->yk5 v l j n->∀a b,a<b->b<n->v (nI (qx4 (λx y=>v y-v x) j l) b)<=v (nI (qx4 (λx y=>v y-v x) j l) a)
 | 0,l,hj,hn,h=>λa b hab hb=>by
  show v (nI l b)<=v (nI l a)
  by_cases e:a=0
  ·subst e; exact h.hi b hab hb
  ·exact h.lo a b hab hb e ow
 | j+1,l,hj,hn,h=>λa b hab hb=>by
  rw[qx4]
  split
  ·rename_i hc
   refine w07 j (swp l j) ow (by grind [q96]) ⟨λa b hab hb ha hb'=>?_,λb hjb hb=>?_⟩ a b hab hb
   ·rw[w6d ow,w6d ow,zaj ha,zaj hb']
    by_cases e1:b=j+1
    ·rw[zam e1,zaj ow]
     exact h.lo a j ow ow ow ow
    ·rw[zaj e1]
     by_cases e2:a=j+1
     ·rw[zam e2]
      exact h.lo j b ow hb ow e1
     ·rw[zaj e2]; exact h.lo a b hab hb e2 e1
   ·rw[w6d ow,w6d ow,zaj ow,zam rfl]
    by_cases e1:b=j+1
    ·grind
    ·rw[zaj e1]; exact h.hi b ow hb
  ·rename_i hc
   have hge:v (nI l (j+1))<=v (nI l j):=ow
   by_cases e1:b=j+1
   ·subst e1
    by_cases e2:a=j
    ·grind
    ·exact zcu hge (h.lo a j ow ow ow ow)
   ·by_cases e2:a=j+1
    ·subst e2; exact h.hi b hab hb
    ·exact h.lo a b hab hb e2 e1
theorem w6e {v:Int->Int} (l:List Int):∀k,k<l.length->∀a b,a<b->b<k+1->v (nI (qw7 (λx y=>v y-v x) l k) b)<=v (nI (qw7 (λx y=>v y-v x) l k) a)
 | 0,_=>λa b hab hb=>by omega
 | k+1,hk=>by
  have h1:=w6e (v:=v) l k ow
  have h2:=(q0w (λx y=>v y-v x) l k ow).1
  rw[qw7]
  exact w07 (k+1) _ ow ow ⟨λa b hab hb ha hb'=>h1 a b hab ow,λb h3 h4=>by omega⟩
def q0y (f:Int->Int):List Int->Int
 | []=>0
 | x :: r=>f x+q0y f r
theorem q5d (f:Int->Int) {a b:List Int} (h:a.Perm b):q0y f a=q0y f b:=by
 induction h with
 | nil=>rfl
 | cons x _ ih=>grind [q0y]
 | swap x y l=>grind [q0y]
 | trans _ _ ih1 ih2=>omega
theorem q73 (f:Int->Int):∀a b:List Int,q0y f (a++b)=q0y f a+q0y f b
 | [],b=>by simp[q0y]
 | x :: a,b=>by simp[q0y,q73 f a b]; omega
theorem wj6 (f:Int->Int) (a:Int):∀(s:List Int) (m:Nat),(∀y∈s,f y<=f a)->m<s.length->q0y f (s.take (m+1))<=f a+q0y f (s.take m)
 | [],m,_,h=>by grind
 | x :: s,0,h,_=>by grind [q0y]
 | x :: s,m+1,h,hm=>by
  have:=wj6 f a s m (λy hy=>h y (by grind)) (by grind)
  grind [q0y]
theorem xs7 (f:Int->Int) {t s:List Int} (h:t.Sublist s) (hp:s.Pairwise λx y=>f y<=f x):q0y f t<=q0y f (s.take t.length):=by
 induction h with
 | slnil=>simp
 | @cons t s a hs ih=>
  obtain⟨h1,h2⟩:=List.pairwise_cons.1 hp
  have:=ih h2
  have hl:=hs.length_le
  cases e:t.length with
  | zero=>grind
  | succ m=>
   rw[e] at this hl
   have:=wj6 f a s m h1 ow
   grind [q0y]
 | @cons_cons t s a hs ih=>
  grind [List.pairwise_cons,List.length_cons,q0y]
def szV (h:List Int) (x:Int):Int:=qd7 (nI h x.toNat)
theorem q2c (h:List Int) (p:List Int):inL h p=q0y (szV h) p:=by
 have:∀k,k<=p.length->qw5 h p k=q0y (szV h) (p.take k):=λk=>by
  induction k with
  | zero=>grind [qw5,q0y]
  | succ k ih=>
   intro hk
   have hs:p.take (k+1)=p.take k++[nI p k]:=by
    grind [List.take_add_one,List.getElem?_eq_getElem,qf3]
   rw[qw5,ih ow,hs,q73]
   rfl
 simp_all [inL,Nat.le_refl,List.take_length]
theorem q27 {n:Nat} {p:List Int} (h:Named n p):p.Pairwise (· < ·):=by
 rw[zc3]
 intro i j hi hj hij
 have:=h.asc i j hij hj
 grind [qf3]
theorem q4b {n:Nat} {p:List Int} (h:p.Pairwise (· < ·)) (hb:∀x∈p,0<=x/\x<n):Named n p:=by
 refine⟨λj hj=>hb _ (q4a hj),λi j hij hj=>?_⟩
 grind [qf3,List.pairwise_iff_getElem]
theorem q00 {p:List Int} (h:p.Pairwise (· < ·)):p.Nodup:=h.imp λ{a b} q e=>by omega
theorem w6f (n:Nat):(qp1 n).Pairwise (· < ·):=q27 (Named.idx n)
theorem wb1 {n:Nat} {x:Int}:x∈qp1 n↔0<=x/\x<n:=by
 constructor
 ·intro hx
  obtain⟨i,hi,rfl⟩:=zbh.1 hx
  rw[<- qf3 _ _ hi]
  grind [qf6,q31]
 ·intro hx
  have:nI (qp1 n) x.toNat=x:=by grind [q31]
  grind [q4a,qf6]
def xs8 (h:List Int):List Int:=insL (q7l h) (qp1 h.length)
theorem q2d (h:List Int):(xs8 h).Perm (qp1 h.length):=w6c _ _ _ ow
theorem xs9 (h:List Int):(xs8 h).Pairwise λx y=>szV h y<=szV h x:=by
 rw[zc3]
 intro i j hi hj hij
 have hl:(xs8 h).length=h.length:=by rw[(q2d h).length_eq,qf6]
 have:=w6e (v:=szV h) (qp1 h.length) ((qp1 h.length).length-1) (by grind [qf6]) i j hij (by grind [qf6])
 rw[<- qf3 _ i hi,<- qf3 _ j hj]
 exact this
theorem w08 (h:List Int) (k:Nat):(q19 h k).Perm ((xs8 h).take k):=List.mergeSort_perm ..
theorem w9k {h:List Int} {k:Nat}:Named h.length (q19 h k):=by
 have hp:=w08 h k
 have hnd:(xs8 h).Nodup:=(q00 (w6f _)).perm (q2d h).symm
 have hnd2:(q19 h k).Nodup:=(hnd.sublist (List.take_sublist k _)).perm hp.symm
 have hsrt:(q19 h k).Pairwise (·<=·):=by
  have:=List.pairwise_mergeSort (le:=λx y:Int=>decide (x<=y)) (λa b c h1 h2=>by grind) (λa b=>by
   grind) ((xs8 h).take k)
  exact this.imp λ{a b} q=>zbi q
 grind [q4b,wb1,q2d,List.mem_of_mem_take,List.Pairwise.imp₂]
theorem q5e (h:List Int) (k:Nat):inL h (q19 h k)=q0y (szV h) ((xs8 h).take k):=by grind [q2c,q5d,w08]
theorem wr0 {h:List Int} {p:List Int} (hp:Named h.length p):inL h p<=inL h (q19 h p.length):=by
 rw[q5e,q2c]
 have hnd:(xs8 h).Nodup:=(q00 (w6f _)).perm (q2d h).symm
 have hf:((xs8 h).filter λx=>decide (x∈p)).Perm p:=by
  rw[zcg (hnd.sublist zc6) (q00 (q27 hp))]
  intro a
  rw[zdt,za5]
  constructor
  ·simp
  ·intro q
   refine⟨(q2d h).mem_iff.2 (wb1.2 ?_),q⟩
   obtain⟨i,hi,rfl⟩:=zbh.1 q
   have:=hp.at_ i hi
   grind [qf3]
 have:=xs7 (szV h) (t:=(xs8 h).filter λx=>decide (x∈p)) zc6 (xs9 h)
 rwa [q5d _ hf,hf.length_eq] at this
theorem q3i {m:List (List Int)} (hM:Mk m):∀(K:Nat) (d:Nat->Int),qs3 (nL m 0).length d<=K->Sol m.length (nL m 0).length (rowOf m) d->(∃c,c<(nL m 0).length/\d c≠0)->∃s,Named (nL m 0).length s/\0<s.length/\IsC m s/\∀j,j<s.length->d (nI s j).toNat≠0
 | 0,d,hK,_,⟨c,hc,hd⟩=>by
  have:=cnt_lt (d:=λ_=>0) (e:=d) (c0:=c) rfl hd _ hc λc _ q=>absurd rfl q
  omega
 | K+1,d,hK,hs,⟨c1,hc1,hd1⟩=>by
  have hN:=(qf5 d (nL m 0).length).1
  have hnz:=(qf5 d (nL m 0).length).2
  have hin:=qo2 d (nL m 0).length
  have hl:=q0x d (nL m 0).length
  generalize qo7 (nL m 0).length d=s at hN hnz hin hl
  have h1:0<s.length:=by grind
  have hO:=qk2 hM hN h1
  by_cases hC:IsC m s
  ·grind
  ·have hsW:∀c,c<s.length->(nI s c).toNat<(nL m 0).length:=λc hc=>by have:=hN.at_ c hc; omega
   have hu:Sol m.length s.length (rowOf (qp5 m s)) λc=>d (nI s c).toNat:=λa ha=>by
    have e:=hs a ha
    rw[qs9 s.length (f:=λc=>rowOf m a c*d c) (τ:=λc=>(nI s c).toNat) hsW (λq k hq hk e=>hN.inj hq hk e) λb hb hq=>by
     grind] at e
    grind [qd3,rowOf,ql3,qq9]
   have hx:∃z,Sol m.length s.length (rowOf (qp5 m s)) z/\(∃c,c<s.length/\z c=0)/\∃c,c<s.length/\z c≠0:=zae λhno=>by
    have:=hO.one_mk hu hnz λz hz h0 c hc=>zae λq=>hno ⟨z,hz,h0,c,hc,q⟩
    exact hC ⟨this.1,this.2⟩
   obtain⟨z,hz,⟨c0,hc0,hz0⟩,c2,hc2,hz2⟩:=hx
   have hat:∀c,c<s.length->(sm s.length λq=>if(nI s q).toNat=(nI s c).toNat then z q else 0)=z c:=λc hc=>by
    rw[qm8 (k:=c) hc λi hi hne=>by
     try dsimp only
     rw[zaj λe=>hne (hN.inj hi hc e)]]
    simp
   have hoff:∀c,c<(nL m 0).length->(sm s.length λq=>if(nI s q).toNat=c then z q else 0)≠0->d c≠0:=λc hc hne q=>hne (qj9 λi hi=>by
    grind)
   have hlt:=cnt_lt (d:=λcol=>sm s.length λq=>if(nI s q).toNat=col then z q else 0) (e:=d) (c0:=(nI s c0).toNat) (by grind) (hnz c0 hc0) _ (hsW c0 hc0) hoff
   obtain⟨s',k1,k2,k3,k4⟩:=q3i hM K (λcol=>sm s.length λq=>if(nI s q).toNat=col then z q else 0) ow (λa ha=>by
    rw[q3h hsW]
    rw[<- hz a ha]
    grind [qd3,rowOf,ql3,qq9]) ⟨(nI s c2).toNat,hsW c2 hc2,by grind⟩
   exact⟨s',k1,k2,k3,λj hj=>hoff _ (by have:=k1.at_ j hj; omega) (k4 j hj)⟩
theorem xt0 {P:Nat->Prop} {x y:Nat->Int} (hx:∀i,P i->0<=x i) (hy:∀i,P i->0<y i):∀n,(∃i,i<n/\P i)->∃i,i<n/\P i/\∀k,k<n->P k->x i*y k<=x k*y i
 | 0,⟨i,hi,_⟩=>by omega
 | n+1,h=>by
  by_cases h0:∃i,i<n/\P i
  ·obtain⟨i,hi,hp,hm⟩:=xt0 hx hy n h0
   by_cases hn:P n/\x n*y i<x i*y n
   ·refine⟨n,ow,hn.1,λk hk hpk=>?_⟩
    rcases zau.1 hk with e | e
    ·have h1:=hm k e hpk
     have h2:x n*y i*y k<=x i*y n*y k:=zai ow (by grind)
     have h3:x i*y k*y n<=x k*y i*y n:=zai h1 (by grind)
     have h4:y i*(x n*y k)<=y i*(x k*y n):=by
      grind
     simp_all
    grind
   grind
  grind
def sA (n:Nat) (d:Nat->Int):Int:=sm n λi=>qd7 (d i)
def sB (p:List Int) (d:Nat->Int):Int:=sm p.length λj=>qd7 (d (nI p j).toNat)
def sg (x:Int):Int:=if x<0 then -1 else 1
theorem x8v (x:Int):qd7 x=sg x*x:=by grind [qd7,sg]
theorem x8w {x:Int} {e:Int} (he:e=1\/e=-1) (h:0<=e*x):qd7 x=e*x:=by
 unfold qd7
 grind
theorem xt1 {x:Int} (h:qd7 x=0):x=0:=by grind [qd7]
theorem yk6 (x:Int):sg x=1\/sg x=-1:=by grind [sg]
theorem wb2 (n:Nat) (x y:Int) (f g:Nat->Int):sm n (λi=>x*f i+y*g i)=x*sm n f+y*sm n g:=by
 grind [q9t,qj6]
theorem q74 {m:List (List Int)} (hv:qb6 m=true):(qh9 m).1.length<=1000000:=by
 have hM:=Mk.of hv
 have h10:=hM.pix10
 grind [qh9,q3c,nL,q55,wo6]
theorem q3j {m:List (List Int)} (hv:qb6 m=true) (h7:(nL m 0).length<=7) {i:Nat} (hi:i<(qh9 m).1.length):∃s,w04 m s (nL (qh9 m).1 i):=yk3 hv h7 (q04 _ _ hi)
theorem w09 {m:List (List Int)} (hv:qb6 m=true) {s h p:List Int} (hc:w04 m s h) (hp:Named (nL m 0).length p):xp7 h p:=by
 have h10:=(Mk.of hv).pix10
 have hl:=hp.len
 exact⟨w6b hv hc,ow,λj hj=>by rw[hc.len]; exact hp.at_ j hj,by have:=xs6 hc; omega⟩
theorem w6g {m:List (List Int)} {s h:List Int} (hc:w04 m s h) (k:Nat):Named (nL m 0).length (q19 h k):=by
 have:=w9k (h:=h) (k:=k)
 rwa [hc.len] at this
theorem ya4 {m:List (List Int)} (h7:qb6 m=true->(nL m 0).length<=7):x2q m:=by
 refine⟨λhv=>y05 hv,λhv k hk=>⟨q74 hv,λi hi=>?_,λi hi=>?_⟩⟩
 ·obtain⟨s,hc⟩:=q3j hv (h7 hv) hi
  have hM:=Mk.of hv
  have m1:=hM.pix1
  have m10:=hM.pix10
  exact⟨w6b hv hc,by rw[hc.len]; omega,by rw[hc.len]; omega,zb3 _,by rw[hc.len]; omega⟩
 grind [q3j,Int.toNat_natCast,w09,w6g]
def leQ (a b:Int × Int):Prop:=a.1*b.2<=b.1*a.2
theorem w6h (a:Int × Int):leQ a a:=zbs _
theorem wb3 {a b c:Int × Int} (ha:1<=a.2) (hb:1<=b.2) (hc:1<=c.2) (h1:leQ a b) (h2:leQ b c):leQ a c:=by
 unfold leQ at *
 have k1:a.1*b.2*c.2<=b.1*a.2*c.2:=zai h1 ow
 have k2:b.1*c.2*a.2<=c.1*b.2*a.2:=zai h2 ow
 refine zbz (a:=b.2) ?_ ow
 grind
theorem x3d {a:Int × Int} (h:q25 a):leQ (0,1) a:=by
 have:=h.n.1
 grind [leQ]
theorem w6i {a b:Int × Int}:0<wj0 a b↔b.1*a.2<a.1*b.2:=by
 grind [wj0]
theorem top_le {a b:Int × Int}:leQ a (wp3 a b)/\leQ b (wp3 a b):=by
 unfold wp3
 split
 ·rename_i h
  exact⟨ze8 (w6i.1 h),w6h b⟩
 ·rename_i h
  refine⟨w6h a,zbo.1 λq=>h (w6i.2 q)⟩
theorem y06 {h1 h2 p1 p2:List Int} (k1:xp7 h1 p1) (k2:xp7 h2 p2) (h:inL h1 p1*szL h2<=inL h2 p2*szL h1):leQ (shR h1 p1) (shR h2 p2):=by
 have l1:=q95 k1
 have l2:=q95 k2
 have s1:=q94 k1.ok k1.ne
 have s2:=q94 k2.ok k2.ne
 unfold leQ
 have q1:=l1.eq
 have q2:=l2.eq
 have b1:=l1.pos
 have b2:=l2.pos
 generalize shR h1 p1=a at *
 generalize shR h2 p2=b at *
 generalize inL h1 p1=x at *
 generalize inL h2 p2=y at *
 generalize szL h1=u at *
 generalize szL h2=v at *
 have hb:x*v*(a.2*b.2)<=y*u*(a.2*b.2):=zai h (by have:=zca (a:=a.2) (b:=b.2) ow ow; omega)
 refine zbz (a:=u*v) ?_ (zca s1 s2)
 have e1:u*v*(a.1*b.2)=x*v*(a.2*b.2):=by
  grind
 have e2:u*v*(b.1*a.2)=y*u*(a.2*b.2):=by
  grind
 omega
theorem wr1 {l:List (List Int)} {p:List Int} (h:yo7 l p):∀k,k<=l.length->(∀i,i<k->leQ (shR (nL l i) p) (xq0 l p k))/\(xq0 l p k=(0,1)\/∃i,i<k/\xq0 l p k=shR (nL l i) p)
 | 0,_=>⟨λi hi=>by omega,.inl rfl⟩
 | k+1,hk=>by
  obtain⟨h1,h2⟩:=wr1 h k ow
  have t:=top_le (a:=xq0 l p k) (b:=shR (nL l k) p)
  refine⟨λi hi=>?_,?_⟩
  ·rcases zau.1 hi with e | e
   ·exact wb3 (wj3 (h.ok i ow)).pos (q71 h k ow).pos (q71 h (k+1) hk).pos (h1 i e) t.1
   ·subst e; exact t.2
  ·show wp3 (xq0 l p k) (shR (nL l k) p)=(0,1)\/∃i,i<k+1/\wp3 (xq0 l p k) (shR (nL l k) p)=shR (nL l i) p
   unfold wp3
   grind
theorem q5f {l:List (List Int)} {n:Nat} (h:wp5 l n):∀k,k<=l.length->(∀i,i<k->leQ (shR (nL l i) (q19 (nL l i) n)) (qk1 l n k))/\(qk1 l n k=(0,1)\/∃i,i<k/\qk1 l n k=shR (nL l i) (q19 (nL l i) n))
 | 0,_=>⟨λi hi=>by omega,.inl rfl⟩
 | k+1,hk=>by
  obtain⟨h1,h2⟩:=q5f h k ow
  have t:=top_le (a:=qk1 l n k) (b:=shR (nL l k) (q19 (nL l k) n))
  have hs:=λi hi=>h.shr i hi
  have hl:=λj (hj:j<=l.length)=>qw6 h j hj
  simp only[Int.toNat_natCast] at hs hl
  refine⟨λi hi=>?_,?_⟩
  ·rcases zau.1 hi with e | e
   ·exact wb3 (wj3 (hs i ow)).pos (hl k ow).pos (hl (k+1) hk).pos (h1 i e) t.1
   ·subst e; exact t.2
  ·show wp3 (qk1 l n k) (shR (nL l k) (q19 (nL l k) n))=(0,1)\/∃i,i<k+1/\wp3 (qk1 l n k) (shR (nL l k) (q19 (nL l k) n))=shR (nL l i) (q19 (nL l i) n)
   unfold wp3
   grind
theorem y07 {h:List Int} {n:Nat} (hl:h.length=n):sA n (nI h)=szL h:=by
 grind [szL,sA,w3c]
theorem y08 (h p:List Int):sB p (nI h)=inL h p:=by
 have:∀k,qw5 h p k=sm k λj=>qd7 (nI h (nI p j).toNat):=λk=>by
  induction k with
  | zero=>rfl
  | succ k ih=>rw[qw5,ih]; rfl
 exact(this p.length).symm
theorem w3d {x y:Int × Int} (hx:1<=x.2) (hy:1<=y.2) (h:leQ x y) (hf:hlf y=false):hlf x=false:=by
 unfold hlf at *
 rw[decide_eq_false_iff_not,zdr] at *
 unfold leQ at h
 have h1:2*y.1*x.2<y.2*x.2:=zdy hf ow
 have h2:2*x.1*y.2<x.2*y.2:=by
  grind
 exact zd0 h2 ow
def fT (x d:Int):Int:=if x=0 then qd7 d else if 0<x then d else -d
def fF (n:Nat) (x d:Nat->Int):Int:=sm n λi=>fT (x i) (d i)
def w9l (n:Nat) (d e:Nat->Int):Prop:=∀i,i<n->0<=d i*e i
theorem x3e {a b:Int} (h:0<=a*b):qd7 (a+b)=qd7 a+qd7 b:=by
 unfold qd7
 rcases zcw a 0 with ha | ha | ha
 ·have hb:b<=0:=zbo.1 λq=>by have:=zbr ha q; omega
  omega
 ·omega
 ·have hb:0<=b:=zbo.1 λq=>by have:=zbj ha q; omega
  omega
theorem yk7 {x a b:Int} (h:0<=a*b):fT x (a+b)=fT x a+fT x b:=by
 grind [fT,x3e]
theorem q5g {a:Int} (b:Int) (h:0<=a):qd7 (a*b)=a*qd7 b:=by
 grind [qd7,Int.natAbs_mul,Int.natCast_mul,Int.natAbs_of_nonneg]
theorem yk8 {x a b:Int} (h:0<=a):fT x (a*b)=a*fT x b:=by
 grind [fT,q5g,Int.mul_neg]
theorem x5q {n:Nat} {x d e:Nat->Int} (h:w9l n d e):fF n x (λi=>d i+e i)=fF n x d+fF n x e:=by
 unfold fF
 rw[<- q9t]
 exact qd3 λi hi=>yk7 (h i hi)
theorem w1a {n:Nat} {x d:Nat->Int} {a:Int} (h:0<=a):fF n x (λi=>a*d i)=a*fF n x d:=by
 grind [fF,qj6,qd3,yk8]
theorem w3e {n:Nat} {x d:Nat->Int} (h:∀i,i<n->d i=0):fF n x d=0:=by
 grind [fF,qj9,fT,qd7]
theorem yk9 (z:Int):0<=z*z:=by
 rcases zd7 0 z with q | q
 all_goals simp_all [Int.mul_nonneg,Int.mul_nonneg_of_nonpos_of_nonpos]
theorem xt2 {n:Nat} {d c:Nat->Int} (hex:∃i,i<n/\0<d i*c i) :
  ∃k,k<n/\0<d k*c k/\w9l n (λi=>qd7 (c k)*d i-qd7 (d k)*c i) d/\qd7 (c k)*d k-qd7 (d k)*c k=0/\0<qd7 (c k)/\0<qd7 (d k):=by
 obtain⟨k,hk,hpk,hmin⟩:=xt0 (P:=λi=>i<n/\0<d i*c i) (x:=λi=>qd7 (d i)) (y:=λi=>qd7 (c i)) (λi _=>qs4 _) (λi hi=>by
  have:c i≠0:=λq=>by grind
  show 0<qd7 (c i)
  unfold qd7; omega) n (by grind)
 have hpk:=hpk.2
 have same:∀a b:Int,0<a*b->(0<a/\0<b)\/(a<0/\b<0):=λa b h=>by
  rcases zcw a 0 with q | q | q
  ·right; refine⟨q,zdr.1 λr=>?_⟩
   have:=Int.mul_nonpos_of_nonpos_of_nonneg (show a<=0 by omega) r; omega
  ·grind
  ·left; refine⟨q,zdr.1 λr=>?_⟩
   have:=za7 (show 0<=a by omega) r; omega
 refine⟨k,hk,hpk,λi hi=>?_,?_⟩
 ·show 0<=(qd7 (c k)*d i-qd7 (d k)*c i)*d i
  have e:(qd7 (c k)*d i-qd7 (d k)*c i)*d i=qd7 (c k)*(d i*d i)-qd7 (d k)*(d i*c i):=by grind
  rw[e]
  have h1:0<=qd7 (c k)*(d i*d i):=za3 (qs4 _) (yk9 _)
  rcases zc7 0 (d i*c i) with q | q
  ·have h2:qd7 (d k)*qd7 (c i)<=qd7 (d i)*qd7 (c k):=hmin i hi ⟨hi,q⟩
   have h3:0<=qd7 (d i):=qs4 _
   have h4:=zai h2 h3
   have e1:qd7 (d i)*qd7 (d i)=d i*d i:=by unfold qd7; rcases same _ _ q with r | r <;> rcases Int.natAbs_eq (d i) with w | w <;> grind
   have e2:qd7 (c i)*qd7 (d i)=d i*c i:=by
    rcases same _ _ q with r | r
    ·have a1:qd7 (d i)=d i:=by unfold qd7; omega
     have a2:qd7 (c i)=c i:=by unfold qd7; omega
     rw[a1,a2,ze6]
    ·have a1:qd7 (d i)=-d i:=by unfold qd7; omega
     have a2:qd7 (c i)=-c i:=by unfold qd7; omega
     rw[a1,a2]; grind
   have e3:qd7 (d k)*qd7 (c i)*qd7 (d i)=qd7 (d k)*(d i*c i):=by grind
   have e4:qd7 (d i)*qd7 (c k)*qd7 (d i)=qd7 (c k)*(d i*d i):=by rw[<- e1]; grind
   omega
  ·have h2:=za3 (qs4 (d k)) (show 0<=-(d i*c i) by omega)
   rw[Int.mul_neg] at h2
   omega
 grind [same,qd7]
theorem shrink {n:Nat} {d c:Nat->Int} (_:∀i,i<n->c i≠0->d i≠0) (hex:∃i,i<n/\0<d i*c i) :
  ∃k,k<n/\0<d k*c k/\w9l n (λi=>qd7 (c k)*d i-qd7 (d k)*c i) d/\qd7 (c k)*d k-qd7 (d k)*c k=0/\0<qd7 (c k)/\0<qd7 (d k):=xt2 hex
theorem w6j {m:List (List Int)} (hv:qb6 m=true) (h7:(nL m 0).length<=7) {x:Nat->Int} (hsafe:∀h∈(qh9 m).1,0<fF (nL m 0).length x (nI h)/\0<fF (nL m 0).length x (λi=>-(nI h i))) :
  ∀(K:Nat) (d:Nat->Int),qs3 (nL m 0).length d<=K->Sol m.length (nL m 0).length (rowOf m) d->(∃c,c<(nL m 0).length/\d c≠0)->0<fF (nL m 0).length x d
 | 0,d,hK,_,⟨c,hc,hd⟩=>by
  have:=cnt_lt (d:=λ_=>0) (e:=d) (c0:=c) rfl hd _ hc λc _ q=>absurd rfl q
  omega
 | K+1,d,hK,hs,hne=>by
  obtain⟨s,hsN,hs1,hsC,hsd⟩:=q3i (Mk.of hv) _ d (zac _) hs hne
  obtain⟨h,hh,hc⟩:=x8u hv h7 hsN hs1 hsC
  have hsf:=hsafe h hh
  have hsup:∀i,i<(nL m 0).length->nI h i≠0->d i≠0:=λi hi hne=>by
   refine zae λq=>hne (hc.off i hi λj hj e=>hsd j hj ?_)
   grind
  have hcnz:∃c,c<(nL m 0).length/\nI h c≠0:=⟨(nI s 0).toNat,by have:=hsN.at_ 0 hs1; omega,hc.on 0 hs1⟩
  have hcs:=hc.sol
  generalize hcf:nI h=c at *
  have ih:=w6j hv h7 hsafe K
  generalize hn:(nL m 0).length=n at *
  -- what is left of d,one coordinate fewer
  have part:∀e:Nat->Int,(∀i,i<n->e i≠0->d i≠0)->Sol m.length n (rowOf m) e->(∃i,i<n/\0<d i*e i) ->
    ∃a b:Int,0<a/\0<b/\w9l n (λi=>a*d i-b*e i) d/\(0<fF n x (λi=>a*d i-b*e i)\/∀i,i<n->a*d i-b*e i=0):=λe hsup hes hex=>by
   obtain⟨k,hk,hpk,hcons,hz,hp1,hp2⟩:=shrink hsup hex
   refine⟨qd7 (e k),qd7 (d k),hp1,hp2,hcons,?_⟩
   by_cases hnz:∃i,i<n/\qd7 (e k)*d i-qd7 (d k)*e i≠0
   ·left
    refine ih _ ?_ (λa ha=>?_) hnz
    ·have hdk:d k≠0:=λq=>by grind
     have:=cnt_lt (d:=λi=>qd7 (e k)*d i-qd7 (d k)*e i) (e:=d) (c0:=k) hz hdk n hk λi hi q=>by
      grind
     omega
    ·have h1:=hs a ha
     have h2:=hes a ha
     have e1:sm n (λi=>rowOf m a i*(qd7 (e k)*d i-qd7 (d k)*e i))=qd7 (e k)*sm n (λi=>rowOf m a i*d i)+(-qd7 (d k))*sm n (λi=>rowOf m a i*e i):=by
      rw[<- wb2]
      grind
     grind
   grind
  have hneg:Sol m.length n (rowOf m) λi=>-(c i):=λa ha=>by
   have h2:=hcs a ha
   have e1:sm n (λi=>rowOf m a i * -(c i))=(-1)*sm n (λi=>rowOf m a i*c i):=by
    rw[<- qj6]; grind
   grind
  have sqn:∀z:Int,0<=z*z:=yk9
  have fin1:∀e:Nat->Int,w9l n e d->0<fF n x e->(∀i,i<n->e i≠0->d i≠0)->Sol m.length n (rowOf m) e->(∃i,i<n/\e i≠0)->0<fF n x d:=λe hcd hpos hsup hes ⟨i0,hi0,hne0⟩=>by
   have hd0:=hsup i0 hi0 hne0
   have hpos0:0<d i0*e i0:=by
    have h1:=hcd i0 hi0
    grind [Int.mul_comm,Int.mul_ne_zero]
   obtain⟨a,b,ha,hb,hcons,hor⟩:=part e hsup hes ⟨i0,hi0,hpos0⟩
   have hadd:fF n x (λi=>a*d i)=fF n x (λi=>a*d i-b*e i)+fF n x (λi=>b*e i):=by
    rw[<- x5q (x:=x) (d:=λi=>a*d i-b*e i) (e:=λi=>b*e i) λi hi=>by
     show 0<=(a*d i-b*e i)*(b*e i)
     have h1:=hcons i hi
     have h2:=hcd i hi
     have h1:0<=(a*d i-b*e i)*d i:=h1
     rcases zcw (d i) 0 with q | q | q
     ·have e1:a*d i-b*e i<=0:=zbo.1 λw=>by have:=zbj w q; omega
      have e2:e i<=0:=zbo.1 λw=>by have:=zbj w q; omega
      have e3:b*e i<=0:=za7 ow e2
      exact zc8 e1 e3
     ·grind
     ·have e1:0<=a*d i-b*e i:=zbo.1 λw=>by have:=zbr w q; omega
      have e2:0<=e i:=zbo.1 λw=>by have:=zbr w q; omega
      exact za3 e1 (za3 ow e2)]
    simp
   rw[w1a ow,w1a (a:=b) ow] at hadd
   have h1:0<b*fF n x e:=zca hb hpos
   have h2:0<=fF n x (λi=>a*d i-b*e i):=by
    grind [w3e]
   have h3:0<a*fF n x d:=ow
   exact zdr.1 λw=>by have:=za7 (show 0<=a by omega) w; omega
  by_cases hp:∃i,i<n/\0<d i*c i
  ·by_cases hm:∃i,i<n/\0<d i * -(c i)
   ·obtain⟨a,b,ha,hb,hc1,ho1⟩:=part c hsup hcs hp
    obtain⟨a',b',ha',hb',hc2,ho2⟩:=part (λi=>-(c i)) (λi hi q=>hsup i hi λw=>q ow) hneg hm
    have hadd:fF n x (λi=>(a*b'+a' * b)*d i)=fF n x (λi=>b' * (a*d i-b*c i))+fF n x (λi=>b*(a' * d i-b' * -(c i))):=by
     rw[<- x5q (x:=x) (d:=λi=>b' * (a*d i-b*c i)) (e:=λi=>b*(a' * d i-b' * -(c i))) λi hi=>by
      show 0<=(b' * (a*d i-b*c i))*(b*(a' * d i-b' * -(c i)))
      have h1:0<=(a*d i-b*c i)*d i:=hc1 i hi
      have h2:0<=(a' * d i-b' * -(c i))*d i:=hc2 i hi
      rcases zcw (d i) 0 with q | q | q
      ·have e1:a*d i-b*c i<=0:=zbo.1 λw=>by have:=zbj w q; omega
       have e2:a' * d i-b' * -(c i)<=0:=zbo.1 λw=>by have:=zbj w q; omega
       exact zc8 (za7 ow e1) (za7 ow e2)
      ·grind
      ·have e1:0<=a*d i-b*c i:=zbo.1 λw=>by have:=zbr w q; omega
       have e2:0<=a' * d i-b' * -(c i):=zbo.1 λw=>by have:=zbr w q; omega
       exact za3 (za3 ow e1) (za3 ow e2)]
     grind
    have hT:0<a*b'+a' * b:=by have:=zca ha hb'; have:=zca ha' hb; omega
    rw[w1a ow,w1a (a:=b') ow,w1a (a:=b) ow] at hadd
    have n1:0<=fF n x (λi=>a*d i-b*c i):=by
     grind [w3e]
    have n2:0<=fF n x (λi=>a' * d i-b' * -(c i)):=by
     grind [w3e]
    have hsum:0<b' * fF n x (λi=>a*d i-b*c i)+b*fF n x (λi=>a' * d i-b' * -(c i)):=by
     have m1:=za3 (show 0<=b' by omega) n1
     have m2:=za3 (show 0<=b by omega) n2
     rcases ho1 with q | q
     ·have:=zca hb' q; omega
     ·rcases ho2 with q2 | q2
      ·have:=zca hb q2; omega
      ·obtain⟨i,hi,hdi⟩:=hne
       have e1:=q i hi
       have e2:=q2 i hi
       have e3:(a*b'+a' * b)*d i=b' * (a*d i-b*c i)+b*(a' * d i-b' * -(c i)):=by grind
       rw[e1,e2,zbk,zbk,ze7] at e3
       grind [absurd,Int.mul_ne_zero]
    rw[<- hadd] at hsum
    exact zdr.1 λw=>by have:=za7 (show 0<=a*b'+a' * b by omega) w; omega
   ·refine fin1 c (λi hi=>?_) hsf.1 hsup hcs hcnz
    grind
  ·refine fin1 (λi=>-(c i)) (λi hi=>?_) hsf.2 (λi hi q=>hsup i hi λw=>q ow) hneg ?_
   all_goals grind
def MkN (n W:Nat) (R:Nat->Nat->Int) (y:Nat->Int) (z:Nat->Int) (D:Int):Prop:=∀a,a<n->sm W (λc=>R a c*z c)=D*y a
def x8y (n W:Nat) (R:Nat->Nat->Int) (z:Nat->Int):Prop:=∀e:Nat->Int,Sol n W R e->(∀i,i<W->e i≠0->z i≠0)->∀i,i<W->e i=0
def sgS (W:Nat) (z e:Nat->Int):Int:=sm W λi=>sg (z i)*e i
theorem x8z (W:Nat) (z e:Nat->Int):sgS W z (λi=>-(e i))=-sgS W z e:=by
 unfold sgS
 have:sm W (λi=>sg (z i) * -(e i))=(-1)*sm W (λi=>sg (z i)*e i):=by
  rw[<- qj6]; grind
 grind
theorem yl0 {a b:Int} (ha:a≠0) (h:0<sg a*b):0<a*b:=by
 unfold sg at h
 split at h
 ·simp_all [Int.mul_pos_of_neg_of_neg]
 ·exact zca ow ow
theorem w6k {n W:Nat} {R:Nat->Nat->Int} {y z e:Nat->Int} {D:Int} (hD:0<D) (hz:MkN n W R y z D) (he:Sol n W R e) (hsup:∀i,i<W->e i≠0->z i≠0) (hne:∃i,i<W/\e i≠0) (hs:0<=sgS W z e) :
  ∃(z':Nat->Int) (D':Int),0<D'/\MkN n W R y z' D'/\(∀i,i<W->z' i≠0->z i≠0)/\qs3 W z' < qs3 W z/\sA W z' * D<=sA W z*D':=by
 have hex:∃i,i<W/\0<z i*e i:=by
  refine zae λq=>?_
  have hle:∀i,i<W->sg (z i)*e i<=0:=λi hi=>zbo.1 λw=>by
   by_cases h0:z i=0
   ·grind
   ·exact q ⟨i,hi,yl0 h0 w⟩
  obtain⟨i,hi,hei⟩:=hne
  have hlt:sg (z i)*e i<0:=by
   grind [sg,Int.mul_ne_zero,yk6]
  have h3:0<sm W λi=>-(sg (z i)*e i):=xs5 (λj hj=>by grind) hi ow
  grind [sm,sg,sgS,qj6,qd3]
 obtain⟨k,hk,hpk,hcons,hkz,hp1,hp2⟩:=shrink hsup hex
 refine⟨λi=>qd7 (e k)*z i-qd7 (z k)*e i,qd7 (e k)*D,zca hp1 hD,λa ha=>?_,λi hi q w=>?_,?_,?_⟩
 ·have h1:=hz a ha
  have h2:=he a ha
  have e1:sm W (λi=>R a i*(qd7 (e k)*z i-qd7 (z k)*e i))=qd7 (e k)*sm W (λi=>R a i*z i)+(-qd7 (z k))*sm W (λi=>R a i*e i):=by
   rw[<- wb2]
   grind
  grind
 ·grind
 ·have hdk:z k≠0:=λq=>by grind
  exact cnt_lt (d:=λi=>qd7 (e k)*z i-qd7 (z k)*e i) (e:=z) (c0:=k) hkz hdk W hk λi hi q w=>by
   grind
 ·have h1:sA W (λi=>qd7 (e k)*z i-qd7 (z k)*e i)=qd7 (e k)*sA W z+(-qd7 (z k))*sgS W z e:=by
   unfold sA sgS
   rw[<- wb2]
   refine qd3 λi hi=>?_
   have hc:0<=(qd7 (e k)*z i-qd7 (z k)*e i)*z i:=hcons i hi
   show qd7 (qd7 (e k)*z i-qd7 (z k)*e i)=qd7 (e k)*qd7 (z i)+-qd7 (z k)*(sg (z i)*e i)
   by_cases h0:z i=0
   ·have:e i=0:=zae λr=>hsup i hi r h0
    grind [qd7]
   ·have e2:qd7 (qd7 (e k)*z i-qd7 (z k)*e i)=sg (z i)*(qd7 (e k)*z i-qd7 (z k)*e i):=x8w (yk6 _) (by
     unfold sg
     split
     ·have:qd7 (e k)*z i-qd7 (z k)*e i<=0:=zbo.1 λw=>by have:=zbj w ‹z i<0›; omega
      omega
     ·have:0<=qd7 (e k)*z i-qd7 (z k)*e i:=zbo.1 λw=>by have:=zbr w (show 0<z i by omega); omega
      omega)
    grind [x8v]
  rw[h1]
  have h2:0<=qd7 (z k)*sgS W z e:=za3 ow hs
  have h3:qd7 (e k)*sA W z+-qd7 (z k)*sgS W z e<=qd7 (e k)*sA W z:=by grind
  have h4:=zai h3 (show 0<=D by omega)
  grind
theorem yl1 {n W:Nat} {R:Nat->Nat->Int} {y:Nat->Int}:∀(K:Nat) (z:Nat->Int) (D:Int),qs3 W z<=K->0<D->MkN n W R y z D ->
  ∃(b:Nat->Int) (E:Int),0<E/\MkN n W R y b E/\(∀i,i<W->b i≠0->z i≠0)/\x8y n W R b/\sA W b*D<=sA W z*E:=by
 intro K
 induction K with
 | zero=>
  intro z D hK hD hz
  refine⟨z,D,hD,hz,λ_ _ h=>h,λe _ hsup i hi=>zae λq=>?_,zbs _⟩
  have:=cnt_lt (d:=λ_=>0) (e:=z) (c0:=i) rfl (hsup i hi q) W hi λc _ w=>absurd rfl w
  omega
 | succ K ih=>
  intro z D hK hD hz
  by_cases hI:x8y n W R z
  ·grind
  ·obtain⟨e,he,hsup,hne⟩:∃e:Nat->Int,Sol n W R e/\(∀i,i<W->e i≠0->z i≠0)/\∃i,i<W/\e i≠0:=by
    refine zae λq=>hI λe h1 h2 i hi=>zae λw=>q ⟨e,h1,h2,i,hi,w⟩
   obtain⟨z',D',h1,h2,h3,h4,h5⟩:∃(z':Nat->Int) (D':Int),0<D'/\MkN n W R y z' D'/\(∀i,i<W->z' i≠0->z i≠0)/\qs3 W z' < qs3 W z/\sA W z' * D<=sA W z*D':=by
    rcases zd7 0 (sgS W z e) with q | q
    ·grind [w6k]
    ·refine w6k (e:=λi=>-(e i)) hD hz (λa ha=>?_) (λi hi w=>hsup i hi λr=>w ow) ?_ (by grind [x8z])
     ·have h2:=he a ha
      have e1:sm W (λi=>R a i * -(e i))=(-1)*sm W (λi=>R a i*e i):=by
       rw[<- qj6]; grind
      grind
     grind
   obtain⟨b,E,b1,b2,b3,b4,b5⟩:=ih z' D' ow h1 h2
   refine⟨b,E,b1,b2,λi hi w=>h3 i hi (b3 i hi w),b4,?_⟩
   refine zbz (a:=D') ?_ h1
   have k1:=zai b5 (show 0<=D by omega)
   have k2:=zai h5 (show 0<=E by omega)
   grind
theorem y09 {x d E:Int} (hE:0<E):E*qd7 x+fT x d<=qd7 (E*x+d):=by
 grind [fT,qd7,Int.mul_neg]
theorem xt3 {n W:Nat} {R:Nat->Nat->Int} {y x b:Nat->Int} {E:Int} (hgrow:∀d:Nat->Int,Sol n W R d->(∃i,i<W/\d i≠0)->0<fF W x d) (hx:MkN n W R y x 1) (hE:0<E) (hb:MkN n W R y b E) (hne:∃i,i<W/\b i≠E*x i):E*sA W x<sA W b:=by
 have hs:Sol n W R λi=>b i-E*x i:=λa ha=>by
  have h1:=hb a ha
  have h2:=hx a ha
  have e1:sm W (λi=>R a i*(b i-E*x i))=1*sm W (λi=>R a i*b i)+(-E)*sm W (λi=>R a i*x i):=by
   rw[<- wb2]; grind
  grind
 have hp:=hgrow _ hs (by grind)
 have hle:E*sA W x+fF W x (λi=>b i-E*x i)<=sA W b:=by
  unfold sA fF
  rw[<- qj6,<- q9t]
  have key:∀i,E*qd7 (x i)+fT (x i) (b i-E*x i)<=qd7 (b i):=λi=>by
   have h:=y09 (x:=x i) (d:=b i-E*x i) hE
   grind
  have hnn:=w05 (n:=W) (f:=λi=>qd7 (b i)-(E*qd7 (x i)+fT (x i) (b i-E*x i))) λi _=>by grind
  have e2:sm W (λi=>qd7 (b i)-(E*qd7 (x i)+fT (x i) (b i-E*x i)))=1*sm W (λi=>qd7 (b i))+(-1)*sm W (λi=>E*qd7 (x i)+fT (x i) (b i-E*x i)):=by
   rw[<- wb2]; grind
  grind
 omega
theorem x3f {n W:Nat} {R:Nat->Nat->Int} {x:Nat->Int} (hgrow:∀d:Nat->Int,Sol n W R d->(∃i,i<W/\d i≠0)->0<fF W x d):x8y n W R x:=λe he hsup i hi=>zae λq=>by
 have h1:=hgrow e he ⟨i,hi,q⟩
 have h2:=hgrow (λi=>-(e i)) (λa ha=>by
  have h2:=he a ha
  have e1:sm W (λi=>R a i * -(e i))=(-1)*sm W (λi=>R a i*e i):=by
   rw[<- qj6]; grind
  grind) ⟨i,hi,λw=>q ow⟩
 have e3:fF W x (λi=>-(e i))=(-1)*fF W x e:=by
  unfold fF
  rw[<- qj6]
  refine qd3 λj hj=>?_
  by_cases h0:x j=0
  ·have:e j=0:=zae λr=>hsup j hj r h0
   show fT (x j) (-(e j))=(-1)*fT (x j) (e j)
   rw[this]; unfold fT; rw[zam h0,zam h0]; rfl
  ·show fT (x j) (-(e j))=(-1)*fT (x j) (e j)
   unfold fT
   omega
 omega
theorem w3f {n W:Nat} {R:Nat->Nat->Int} {y x h:Nat->Int} (hx:MkN n W R y x 1) (hh:Sol n W R h) (hne:∃i,i<W/\h i≠0) (hf:fF W x h<=0) :
  ∃(b:Nat->Int) (E:Int),0<E/\MkN n W R y b E/\x8y n W R b/\(∃i,i<W/\b i≠E*x i)/\sA W b<=E*sA W x:=by
 have hex:∃i,i<W/\0<x i * -(h i):=by
  refine zae λq=>?_
  have hnn:∀i,i<W->0<=fT (x i) (h i):=λi hi=>by
   have h1:¬0<x i * -(h i):=λw=>q ⟨i,hi,w⟩
   rw[Int.mul_neg] at h1
   unfold fT
   split
   ·exact qs4 _
   ·split
    ·exact zbo.1 λw=>by simp_all [Int.mul_neg_of_pos_of_neg]
    ·have hx0:x i<0:=ow
     have:h i<=0:=zbo.1 λw=>by simp_all [Int.mul_neg_of_neg_of_pos]
     omega
  obtain⟨i,hi,hhi⟩:=hne
  have hlt:0<fT (x i) (h i):=by
   grind [fT,xt1]
  have:=xs5 hnn hi hlt
  grind [fF]
 obtain⟨k,hk,hpk,hcons,hkz,hp1,hp2⟩:∃k,k<W/\0<x k * -(h k)/\w9l W (λi=>qd7 (-(h k))*x i-qd7 (x k) * -(h i)) x/\qd7 (-(h k))*x k-qd7 (x k) * -(h k)=0/\0<qd7 (-(h k))/\0<qd7 (x k):=xt2 hex
 obtain⟨z,hz⟩:∃z:Nat->Int,z=λi=>qd7 (-(h k))*x i-qd7 (x k) * -(h i):=⟨_,rfl⟩
 have hmk:MkN n W R y z (qd7 (-(h k))):=λa ha=>by
  have h1:=hx a ha
  have h2:=hh a ha
  have e1:sm W (λi=>R a i*z i)=qd7 (-(h k))*sm W (λi=>R a i*x i)+qd7 (x k)*sm W (λi=>R a i*h i):=by
   rw[<- wb2]
   grind
  grind
 have hnz:sA W z=qd7 (-(h k))*sA W x+qd7 (x k)*fF W x h:=by
  unfold sA fF
  rw[<- wb2]
  refine qd3 λi hi=>?_
  have hc:0<=(qd7 (-(h k))*x i-qd7 (x k) * -(h i))*x i:=hcons i hi
  rw[hz]
  show qd7 (qd7 (-(h k))*x i-qd7 (x k) * -(h i))=qd7 (-(h k))*qd7 (x i)+qd7 (x k)*fT (x i) (h i)
  unfold fT
  split
  ·rename_i h0
   have e:qd7 (-(h k))*x i-qd7 (x k) * -(h i)=qd7 (x k)*h i:=by grind
   rw[e,q5g _ ow,h0]
   simp[qd7]
  ·rename_i h0
   split
   ·rename_i hpos
    have h1:0<=qd7 (-(h k))*x i-qd7 (x k) * -(h i):=zbo.1 λw=>by have:=zbr w hpos; omega
    grind [qd7]
   ·have hneg:x i<0:=ow
    have h1:qd7 (-(h k))*x i-qd7 (x k) * -(h i)<=0:=zbo.1 λw=>by have:=zbj w hneg; omega
    grind [qd7]
 have hzle:sA W z<=qd7 (-(h k))*sA W x:=by
  have:=za3 (show 0<=qd7 (x k) by omega) (show 0<=-fF W x h by omega)
  grind
 obtain⟨b,E,b1,b2,b3,b4,b5⟩:=yl1 _ z _ (zac _) hp1 hmk
 refine⟨b,E,b1,b2,b4,⟨k,hk,λw=>?_⟩,?_⟩
 ·have hxk:x k≠0:=λq=>by grind
  grind [Int.mul_ne_zero]
 ·refine zbz (a:=qd7 (-(h k))) ?_ hp1
  have k1:=zai hzle (show 0<=E by omega)
  grind
def Ind (m:List (List Int)) (l:List Int):Prop:=∀z:Nat->Int,(∀i,i<m.length->(sm l.length λc=>nI (nL m i) (nI l c).toNat*z c)=0)->∀c,c<l.length->z c=0
theorem w9m {l:List Int} {x:Int}:x∈l↔∃q,q<l.length/\nI l q=x:=by
 refine⟨λh=>?_,λ⟨q,hq,e⟩=>by grind [qf3,List.getElem_mem]⟩
 obtain⟨q,hq,e⟩:=zbh.1 h
 exact⟨q,hq,by grind [qf3]⟩
structure GrdOk (m:List (List Int)) (y S:List Int):Prop where
 chk:qq8 m y S=0
 nam:Named (nL m 0).length S
 pivs:(qr2 m S y).2.length=S.length
 id:∀k,k<S.length->nI (qr2 m S y).2 k=k
 no:q34 (qr2 m S y).1 (qr2 m S y).2 S.length=false
 sol:qy0 m S y=((List.range S.length).map (q7g (qr2 m S y).1 (qr2 m S y).2 S.length),0)
 ok:yg4 m S y
theorem xt4 {m:List (List Int)} {y S:List Int} (h:qq8 m y []=0) (hS:Named (nL m 0).length S):qq8 m y S=0:=by
 have hA:=Asked.of h
 have ha:x1f S=true:=q4x.2 λi h0 hi=>hS.asc (i-1) i ow hi
 have hb:(S.any λp=>!(inB p 0 ((nL m 0).length-1)))=false:=by
  rw[zbx]
  intro x hx
  obtain⟨q,hq,e⟩:=w9m.1 hx
  have:=hS.at_ q hq
  grind [inB,nL,qh1]
 grind [qq8,w5c,w5b]
theorem GrdOk.of {m:List (List Int)} {y S:List Int} (h0:qq8 m y []=0) (hN:Named (nL m 0).length S) (hI:Ind m S) (hz:∃z:Nat->Int,(∀a,a<m.length->(sm S.length λc=>nI (nL m a) (nI S c).toNat*z c)+nI y a*z S.length=0)/\z S.length≠0):GrdOk m y S/\∀z:Nat->Int,(∀a,a<m.length->(sm S.length λc=>nI (nL m a) (nI S c).toNat*z c)+nI y a*z S.length=0)->∀k,k<S.length->0<nI (nL (qr2 m S y).1 k) k/\nI (nL (qr2 m S y).1 k) k*z k+nI (nL (qr2 m S y).1 k) S.length*z S.length=0:=by
 have hc:=xt4 h0 hN
 have hA:=Asked.of hc
 have hSm:=qw3 hA
 have hst:=qs8 hSm.toMat S.length ow
 have hat:∀a,a<m.length->∀c,c<S.length->rowOf (qb8 m S y) a c=nI (nL m a) (nI S c).toNat:=λa ha c hc=>by
  grind [rowOf,qz1,ql3,qk0,ql7,qq9]
 have hlast:∀a,a<m.length->rowOf (qb8 m S y) a S.length=nI y a:=λa ha=>by
  unfold rowOf
  grind [qz1,ql3,qx5,nL,ql7,qn5]
 have hsl:∀z:Nat->Int,(∀a,a<m.length->(sm S.length λc=>nI (nL m a) (nI S c).toNat*z c)+nI y a*z S.length=0)->Sol m.length (S.length+1) (rowOf (qb8 m S y)) z:=λz h a ha=>by
  grind [sm,qd3]
 have hAs:Asc S.length (qb5 (qb8 m S y) S.length).2:=⟨λq hq=>⟨(hst.pos q hq).1,(hst.pos q hq).2.1⟩,hst.asc⟩
 have hP:(qb5 (qb8 m S y) S.length).2.length=S.length:=by
  rcases zap (qb5 (qb8 m S y) S.length).2.length S.length with q | q
  ·exfalso
   obtain⟨f,hf,hnp⟩:=Asc.free q
   obtain⟨z,z1,z2,z3⟩:=hst.free ow (f:=f) ow hnp λi h1 h2=>hst.zero i h1 h2 f hf
   have zN:z S.length=0:=z3 _ ow ow λq hq=>by have:=(hst.pos q hq).2.1; omega
   refine z2 (hI z (λi hi=>?_) f hf)
   have:=z1 i hi
   simp_all [sm,Int.mul_zero,Int.add_zero,qd3]
  ·have:=hAs.le; omega
 obtain⟨z,z1,z2⟩:=hz
 have hno:q34 (qb5 (qb8 m S y) S.length).1 (qb5 (qb8 m S y) S.length).2 S.length=false:=by
  unfold q34
  rw[zbx]
  intro k hk
  have hk:k<m.length:=by have:=za2.1 hk; have:=hst.len; omega
  intro hb
  simp only[Bool.and_eq_true,decide_eq_true_eq,bne_iff_ne] at hb
  have:=(hst.sol z).1 (hsl z z1) k hk
  unfold dt at this
  rw[sm,qj9 λc hc=>by rw[hst.zero k hb.1 hk c hc,zb9],Int.zero_add] at this
  grind [Int.mul_eq_zero]
 have hsol:qy0 m S y=((List.range S.length).map (q7g (qr2 m S y).1 (qr2 m S y).2 S.length),0):=by
  rw[qy0,zam hc,w1m]
  show(if q34 (qb5 (qb8 m S y) S.length).1 (qb5 (qb8 m S y) S.length).2 S.length=true then _ else _)=_
  rw[zaj (by grind)]
  show(if(qb5 (qb8 m S y) S.length).2.length<S.length then _ else _)=_
  rw[zaj ow]
  show((List.range (qb5 (qb8 m S y) S.length).2.length).map _,_)=_
  rw[hP]
 have h10:=hA.msk.pix10
 have hpl:=hA.nam.len
 refine⟨⟨hc,hN,hP,λk hk=>hAs.id hP hk,hno,hsol,(xo9 (y:=y) (m:=m) (pix:=S) ow).ok hc⟩,λz hz k hk=>?_⟩
 have hp:=hst.pos k ow
 rw[hAs.id hP hk,zat] at hp
 refine⟨hp.2.2.1,?_⟩
 have hpl2:=hst.pl
 have h1:=(hst.sol z).1 (hsl z hz) k ow
 unfold dt at h1
 rw[q61 (k:=k) (l:=S.length) ow ow ow λc hc h1 h2=>by
  try dsimp only
  have hp2:=(hst.pos c ow).2.2.2.2 k ow ow
  rw[hAs.id hP ow,zat] at hp2
  grind] at h1
 exact h1
def wc8 (n:Nat) (pix:List Int) (v:List (Int × Int)):Nat->List (Int × Int)
 | 0=>List.replicate n (0,1)
 | k+1=>(wc8 n pix v k).set (nI pix k).toNat (nR v k)
theorem q28 (n:Nat) (pix:List Int) (v:List (Int × Int)):∀k,(wc8 n pix v k).length=n
 | 0=>by simp[wc8]
 | k+1=>by rw[wc8,zbd]; exact q28 n pix v k
theorem x5r (l:List (Int × Int)) {p:Nat} (hp:p<l.length) (x:Int × Int) (q:Nat):nR (l.set p x) q=if q=p then x else nR l q:=by
 by_cases h:q=p
 ·subst h
  rw[zam rfl,q2b _ _ (by grind),zdo]
 ·rw[zaj h]
  rcases zap q l.length with e | e
  ·simp_all [q2b,List.length_set,List.getElem_set_ne,Ne.symm]
  grind [nR,qf0,List.getElem?_eq_none,List.length_set]
theorem w3g {n:Nat} {pix:List Int} {v:List (Int × Int)} (hs:Named n pix):∀k,k<=pix.length->∀j,j<k->nR (wc8 n pix v k) (nI pix j).toNat=nR v j
 | 0,_,j,hj=>absurd hj (zar _)
 | k+1,hk,j,hj=>by
  have h1:=hs.at_ k ow
  have h2:=hs.at_ j ow
  rw[wc8,x5r _ (by grind [q28])]
  rcases zau.1 hj with e | e
  ·have:=hs.asc j k e ow
   rw[zaj ow]
   exact w3g hs k ow j e
  grind
theorem xt5 {n:Nat} {pix:List Int} {v:List (Int × Int)} (hs:Named n pix) {c:Nat} (hn:c<n) (hc:∀j,j<pix.length->nI pix j≠(c:Int)):∀k,k<=pix.length->nR (wc8 n pix v k) c=(0,1)
 | 0,_=>by grind [wc8,q2b]
 | k+1,hk=>by
  have h1:=hs.at_ k ow
  have h2:=hc k ow
  rw[wc8,x5r _ (by grind [q28]),zaj ow]
  exact xt5 hs hn hc k ow
theorem w6l {m:List (List Int)} {y pix:List Int} (h:(qg5 m y pix).2=true):∃(L:Int) (u:Nat->Int),L≠0/\(∀j,j<pix.length->0<(nR (qg5 m y pix).1.2 j).2/\L=(nR (qg5 m y pix).1.2 j).2*u j) /\
  ∀a,a<m.length->(sm pix.length λj=>nI (nL m a) (nI pix j).toNat*((nR (qg5 m y pix).1.2 j).1*u j))=nI y a*L:=by
 have hI:=qn7 h
 have hA:=Asked.of hI.chk
 have hS:=qw3 hA
 have hst:=qs8 hS.toMat pix.length ow
 have hpl:=hst.pl
 have hvo:=wq6 h
 have hvl:=hI.len
 unfold qg5 at h hvo hvl ⊢
 split at h
 ·cases h
 ·rename_i hno
  rw[zaj hno] at hvo hvl ⊢
  have h0:(qy0 m pix y).2=0:=zae λq=>hno (.inl q)
  have es:qy0 m pix y=w1m (qb5 (qb8 m pix y) pix.length).1 (qb5 (qb8 m pix y) pix.length).2 pix.length:=by unfold qy0; rw[zam hI.chk]; rfl
  have hasc:Asc pix.length (qb5 (qb8 m pix y) pix.length).2:=⟨λq hq=>⟨(hst.pos q hq).1,(hst.pos q hq).2.1⟩,hst.asc⟩
  have hle:=hasc.le
  dsimp only at hvo hvl ⊢
  rw[es] at h0 hvo hvl ⊢
  unfold w1m at h0 hvo hvl ⊢
  split at h0
  ·omega
  ·rename_i hn
   rw[zaj hn] at hvo hvl ⊢
   split at h0
   ·omega
   ·rename_i hl
    rw[zaj hl] at hvo hvl ⊢
    have hlen:(qb5 (qb8 m pix y) pix.length).2.length=pix.length:=ow
    dsimp only at hvo hvl ⊢
    have hid:=λq (hq:q<pix.length)=>hasc.id hlen hq
    have hat:∀j,j<pix.length->nR (List.map (q7g (qb5 (qb8 m pix y) pix.length).1 (qb5 (qb8 m pix y) pix.length).2 pix.length) (List.range (qb5 (qb8 m pix y) pix.length).2.length)) j=q51 (nI (nL (qb5 (qb8 m pix y) pix.length).1 j) pix.length) (nI (nL (qb5 (qb8 m pix y) pix.length).1 j) j)/\0<nI (nL (qb5 (qb8 m pix y) pix.length).1 j) j:=λj hj=>by
     have hp:=(hst.pos j ow).2.2.1
     grind [Int.toNat_natCast,q2b,q7g,q90]
    generalize(List.map (q7g (qb5 (qb8 m pix y) pix.length).1 (qb5 (qb8 m pix y) pix.length).2 pix.length) (List.range (qb5 (qb8 m pix y) pix.length).2.length))=V at *
    have hpos:∀j,j<pix.length->0<(nR V j).2:=λj hj=>by
     obtain⟨q1,_⟩:=hvo (nR V j) (by grind [q2b,List.getElem_mem])
     unfold q7h at q1
     grind
    obtain⟨L,u,hL,hu⟩:=exL pix.length (λj=>(nR V j).2) λj hj=>by grind
    refine⟨L,u,hL,λj hj=>⟨hpos j hj,hu j hj⟩,λa ha=>?_⟩
    obtain⟨z,hz1,hz2⟩:∃z:Nat->Int,(∀j,j<pix.length->z j=(nR V j).1*u j)/\z pix.length=- L:=⟨λj=>if j<pix.length then(nR V j).1*u j else-L,λj hj=>zam hj,zaj (zbe _)⟩
    have hsol:Sol m.length (pix.length+1) (rowOf (qb8 m pix y)) z:=(hst.sol z).2 λi hi=>by
     unfold dt
     rcases zap i pix.length with q | q
     ·rw[q61 (k:=i) (l:=pix.length) ow ow ow λc hc h1 h2=>by
       try dsimp only
       have:=(hst.pos c ow).2.2.2.2 i ow (zds h1)
       grind]
      try dsimp only
      rw[hz1 i q,hz2]
      obtain⟨e1,e2⟩:=hat i q
      have huq:=hu i q
      try dsimp only at huq
      rw[huq,e1]
      generalize nI (nL (qb5 (qb8 m pix y) pix.length).1 i) pix.length=x at *
      generalize nI (nL (qb5 (qb8 m pix y) pix.length).1 i) i=p at *
      have g1:gcdI x p*(q51 x p).1=x:=za9 (za8.1 (zb0 _ _))
      have g2:gcdI x p*(q51 x p).2=p:=za9 (za8.1 (zb2 _ _))
      grind
     ·refine qj9 λc hc=>?_
      try dsimp only
      rcases zap c pix.length with q2 | q2
      ·rw[hst.zero i ow hi c q2,zb9]
      ·have hz0:nI (nL (qb5 (qb8 m pix y) pix.length).1 i) pix.length=0:=zae λq3=>hn (by
        unfold q34
        rw[zb1]
        exact⟨i,za2.2 (by have:=hst.len; omega),by grind⟩)
       grind
    have e:=hsol a ha
    rw[sm,hz2] at e
    have hrow:∀c,c<pix.length->rowOf (qb8 m pix y) a c=nI (nL m a) (nI pix c).toNat:=λc hc=>by
     grind [rowOf,qz1,ql3,qk0,ql7,qq9]
    have hlast:rowOf (qb8 m pix y) a pix.length=nI y a:=by
     unfold rowOf
     rw[qz1 m pix y a ha,ql3 m pix a ha]
     grind [qn5,qx5,nL,nI,ql7]
    rw[hlast] at e
    have e2:(sm pix.length λc=>rowOf (qb8 m pix y) a c*z c)=sm pix.length λj=>nI (nL m a) (nI pix j).toNat*((nR V j).1*u j):=qd3 λc hc=>by
     grind
    grind
theorem q5h {m:List (List Int)} {y:List Int}:∀K,∀f∈qi0 m y K,∃pix,(qg5 m y pix).2=true/\f=(qg5 m y pix).1
 | 0,f,h=>by cases h
 | K+1,f,h=>by
  rcases zak.1 h with h | h
  ·exact q5h K f h
  grind [qg2,Option.some.inj]
theorem q6d {m:List (List Int)} {y pix:List Int} (h:(qg5 m y pix).2=true):∀K,pix.length<K->(qg5 m y pix).1∈qi0 m y K
 | 0,hk=>absurd hk (zar _)
 | K+1,hk=>by
  rw[qi0]
  by_cases e:pix.length=K
  ·refine zak.2 (.inr ?_)
   unfold qg2
   rw[zcs]
   have:=w00 (Asked.of (qn7 h).chk).nam
   grind
  ·exact zak.2 (.inl (q6d h K ow))
theorem x3g {m:List (List Int)} {y:List Int} {f:Fit} (h:wi1 m y f=true):(qg5 m y f.1).2=true/\f=(qg5 m y f.1).1:=by
 unfold wi1 at h
 simp only[Bool.and_eq_true,decide_eq_true_eq] at h
 obtain⟨⟨⟨_,_⟩,h1⟩,h2⟩:=h
 exact⟨h1,Prod.ext (qn7 h1).fst.symm h2.symm⟩
theorem w1b {m:List (List Int)} {y pix:List Int} (h:(qg5 m y pix).2=true):wi1 m y (qg5 m y pix).1=true:=by
 have hI:=qn7 h
 rw[x23]
 unfold xn3 x7s
 rw[w2u,hI.fst]
 simp only[Bool.and_eq_true,decide_eq_true_eq]
 exact⟨⟨hI.chk,h⟩,hI.fst.symm,trivial⟩
theorem w1c {m:List (List Int)} {y pix:List Int} {k:Int} (h:(qg5 m y pix).2=true):pix.length<fitsN m k↔(pix.length:Int)<=k:=by
 have hI:=qn7 h
 have hA:=Asked.of hI.chk
 have h1:=hI.rows
 have h2:=hA.nam.len
 grind [fitsN]
theorem w1d {m:List (List Int)} {y:List Int} {f:Fit} {k:Int} (h:wi1 m y f=true):f∈qe0 m y k↔(f.1.length:Int)<=k:=by
 obtain⟨h1,h2⟩:=x3g h
 grind [qe0,w1c,w0p,q6d]
def ya5 (x:List Int):Nat->List Int × List (Int × Int)
 | 0=>([],[])
 | k+1=>if nI x k=0 then ya5 x k else((ya5 x k).1++[(k:Int)],(ya5 x k).2++[(nI x k,1)])
def shF (x:List Int):List Int × List (Int × Int):=ya5 x x.length
end Go.Proofs.YtnchigbbjajiiaaGreat
