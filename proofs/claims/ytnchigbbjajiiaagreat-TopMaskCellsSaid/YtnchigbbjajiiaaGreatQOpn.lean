/- Lengths of a slice of slices. No condition. -/
import Derived.Test.YtnchigbbjajiiaaGreatQ7
import Derived.Test.YtnchigbbjajiiaaGreatEngT2
import Derived.Test.YtnchigbbjajiiaaGreatQ1
import Derived.Test.YtnchigbbjajiiaaGreatN20
import Derived.Test.YtnchigbbjajiiaaGreatV5
import Derived.Test.YtnchigbbjajiiaaGreatRows
import Derived.Test.YtnchigbbjajiiaaGreatCore
import Derived.ProofKit
import Derived.OpenShut
import Derived.ShutString
import Derived.ChangeOld
import Derived.Below
import Derived.Deep.Matrix
set_option linter.unusedVariables false
set_option linter.unusedSimpArgs false
namespace Go.Proofs.YtnchigbbjajiiaaGreat
open Go Go.RowKit Eng
structure wt0 (l:List (List Int)) (k:Int):Prop where
 len:l.length<=1000000
 lar:∀i,i<l.length->xs9 (nL l i) k
 shr:∀i,i<l.length->x2w (nL l i) (q8g (nL l i) k.toNat)
def xt3 (l:List (List Int)) (k:Nat):List (List Int × (Int × Int)):=l.map λh=>(h,shR h (q8g h k))
theorem xy5 {l:List (List Int)} {k i:Nat} (h:i<l.length):((xt3 l k).map λq=>((q.1,q.2,()):qa3 [qd4,qy8]))[i]? = some (nL l i,shR (nL l i) (q8g (nL l i) k),()):=by
 grind [xt3,List.map_map,List.getElem?_eq_getElem,qk3]
abbrev ye0:qz6:=wl7 [qf8,qb9] [qd4,qy8] (λx=>wt0 x.1 x.2.1) (λx=>(xt3 x.1 x.2.1.toNat).map λq=>(q.1,q.2,()))
def ye1 (l:List (List Int)):Nat->Option Inv
 | 0=>some (Inv.of [8] 1 (λi:Nat=>[(8,.lit (.int .i64 i))]) (λi=>[.cnt (some i)]) (λi=>i<=l.length) (λi=>l.length-i))
 | _=>none
theorem xd6:qv9 Tryz.prog 131 ye0:=by
 refine yd9 (snd (SpecsOk.cons xd5 (SpecsOk.cons w5o (SpecsOk.nil _)))) rfl Tryz.func131 rfl rfl rfl [12] 6 (λx=>[(7,.lit (.int .i64 (x.1:List (List Int)).length)),(8,.lit (.int .i64 0))]) (λx=>ye1 x.1) kr kr (λ_=>by kernel_rfl) dc (λx l A cp=>⟨rfl,rfl,rfl,rfl,trivial⟩) ?_
 rintro⟨l,k,⟨⟩⟩ q h
 revert l k
 intro(l:List (List Int)) (k:Int) (h:wt0 l k)
 refine vcs (let Q0:=xt3 l k.toNat; let Q1:=(l,k,PUnit.unit); ∃(v0:Unit),∃(v1:Nat),Nat.le v1 l.length/\(((0:Int)=(↑v1:Int)/\True)/\some (0:Nat)=some v1/\True)/\∀(v2:Nat),Nat.le v2 l.length->(decide ((↑v2:Int)<(↑l.length:Int))=true->((0:Int)<=(↑v2:Int)/\(↑v2:Int)<(↑l.length:Int))/\xs9 (nL l v2) k/\x2w (nL l v2) (q8g (nL l v2) k.toNat)/\Value.func (Fn.yield q) #[] #[]=Value.func (Fn.yield (qg6.l (q8i (Ty.list (Ty.int .i64)) [qb9] [qd4,qy8] [(12:Nat)] (6:Nat) Q1 (List.map (λ(v5:List Int × Int × Int)=>(v5.1,v5.2,())) Q0) q))) #[] #[]/\(qg6.L (q8i (Ty.list (Ty.int .i64)) [qb9] [qd4,qy8] [(12:Nat)] (6:Nat) Q1 (List.map (λ(v5:List Int × Int × Int)=>(v5.1,v5.2,())) Q0) q))[v2]?=some (nL l v2,((shR (nL l v2) (q8g (nL l v2) k.toNat)).1,(shR (nL l v2) (q8g (nL l v2) k.toNat)).2),())/\(fits .i64 ((↑v2:Int)+(1:Int))/\∃(v5:Nat),Nat.le v5 l.length/\l.length-v5<l.length-v2/\((↑v2:Int)+(1:Int)=(↑v5:Int)/\True)/\some (v2+(1:Nat))=some v5/\True)/\True)/\(decide ((↑v2:Int)<(↑l.length:Int))=false->v2=(qg6.L (q8i (Ty.list (Ty.int .i64)) [qb9] [qd4,qy8] [(12:Nat)] (6:Nat) Q1 (List.map (λ(v5:List Int × Int × Int)=>(v5.1,v5.2,())) Q0) q)).length)) ?_
 have hl:=h.len
 refine⟨(),0,zae _,⟨rfl,rfl⟩,λi hi=>⟨λhlt=>⟨hlt,h.lar i hlt,h.shr i hlt,rfl,xy5 hlt,qa7,i+1,hlt,ow,by rfl,rfl⟩,λhge=>?_⟩⟩
 obtain rfl:i=l.length:=ow
 show _=((xt3 l k.toNat).map λq=>((q.1,q.2,()):qa3 [qd4,qy8])).length
 rw[za3]; exact(za3 _).symm
abbrev yt8:qa8:=q68 false none [qf8,qb9] (λ_=>True) (λx=>.clo 131 (.cons (.imm (.cons (.dat (.list (.int .i64)) x.1) .nil) 0) (.cons (.imm (.cons (.lit (.int .i64 x.2.1)) .nil) 0) .nil)))
theorem xd7:Meets Tryz.prog 84 yt8:=by
 refine q0o (snd (SpecsOk.nil _)) Tryz.func84 rfl rfl (λ_ _=>none) (λ_=>by kernel_rfl) dc ?_
 rintro⟨l,k,⟨⟩⟩ -
 revert l k
 intro(l:List (List Int)) (k:Int)
 refine vcr (((l=l/\True)/\(0:Nat)=(0:Nat))/\((k=k/\True)/\(0:Nat)=(0:Nat))/\True) ?_
 simp
def qp2 (l:List (List Int)) (k:Nat):Nat->Int × Int
 | 0=>(0,1)
 | i+1=>xs6 (qp2 l k i) (shR (nL l i) (q8g (nL l i) k))
theorem q8j {l:List (List Int)} {k:Int} (h:wt0 l k):∀i,i<=l.length->q4y (qp2 l k.toNat i)
 | 0,_=>x6m
 | i+1,hi=>x2y (q8j h i ow) (xy4 (h.shr i ow))
abbrev yt9:AV:=.cons (.lit (.int .i64 0)) (.cons (.lit (.int .i64 0)) .nil)
def ye2 (l:List (List Int)) (k:Int):Nat->Option Inv
 | 0=>some (Inv.of [] 3 (λ_:Nat=>[]) (λi=>[.box 43 yt9,.box 43 (.cons (.lit (.int .i64 (qp2 l k.toNat i).1)) (.cons (.lit (.int .i64 (qp2 l k.toNat i).2)) .nil)),.box 121 (.cons (.clo 193 (.cons (.box 1 0) .nil)) .nil)]) (λi=>i<=l.length) (λi=>i))
 | _=>none
abbrev yu0:qa8:=qe4 true none [qf8,qb9] [qy8] (λx=>wt0 x.1 x.2.1) (λx=>(qp2 x.1 x.2.1.toNat x.1.length,()))
theorem xd8:Meets Tryz.prog 107 yu0:=by
 refine meets (ys6 (SpecsOk.cons xd0 (SpecsOk.cons xd7 (SpecsOk.cons w5q (SpecsOk.nil _)))) (ItsOk.cons xd6 ItsOk.nil) (BxsOk.cons w5p BxsOk.nil)) Tryz.func107 rfl rfl (λx=>ye2 x.1 x.2.1) (λ_=>by kernel_rfl) dc ?_
 rintro⟨l,k,⟨⟩⟩ h
 revert l k
 intro(l:List (List Int)) (k:Int) (h:wt0 l k)
 refine vcs (let Q0:=qp2 l k.toNat l.length; True/\True/\wt0 l k/\∃(v0:Unit),∃(v1:Nat),Nat.le v1 l.length/\v1=(0:Nat)/\(((0:Int)=(0:Int)/\(0:Int)=(0:Int)/\True)/\((0:Int)=(qp2 l k.toNat v1).1/\(1:Int)=(qp2 l k.toNat v1).2/\True)/\((True/\True)/\True)/\True)/\∀(v2:Nat),Nat.le v2 l.length->(∀(v4:List Int × qa3._f [qy8] ⟨qa3._f [] PUnit.unit,PUnit.unit⟩),(List.map (λ(v6:List Int × Int × Int)=>(v6.1,v6.2,())) (xt3 l k.toNat))[v2]?=some v4->(q4y ((qp2 l k.toNat v2).1,(qp2 l k.toNat v2).2)/\q4y (v4.2.1.1,v4.2.1.2))/\∃(v6:Nat),Nat.le v6 l.length/\v6=v2+(1:Nat)/\((0:Int)=(0:Int)/\(0:Int)=(0:Int)/\True)/\((xs6 ((qp2 l k.toNat v2).1,(qp2 l k.toNat v2).2) (v4.2.1.1,v4.2.1.2)).1=(qp2 l k.toNat v6).1/\(xs6 ((qp2 l k.toNat v2).1,(qp2 l k.toNat v2).2) (v4.2.1.1,v4.2.1.2)).2=(qp2 l k.toNat v6).2/\True)/\((True/\True)/\True)/\True)/\(v2=(List.map (λ(v5:List Int × Int × Int)=>(v5.1,v5.2,())) (xt3 l k.toNat)).length->True/\(qp2 l k.toNat v2).1=Q0.1/\(qp2 l k.toNat v2).2=Q0.2/\True)) ?_
 refine⟨h,(),0,zae _,rfl,⟨rfl,rfl⟩,λi hi=>⟨λd hd=>?_,λhe=>?_⟩⟩
 ·have hd:((xt3 l k.toNat).map λq=>((q.1,q.2,()):qa3 [qd4,qy8]))[i]? = some d:=hd
  have hlt:i<l.length:=by
   have:=(zaf.1 hd).1
   rw[za3] at this
   exact Nat.lt_of_lt_of_eq this (za3 _)
  rw[xy5 hlt] at hd
  obtain rfl:=zaa hd
  exact⟨⟨q8j h i hi,xy4 (h.shr i hlt)⟩,i+1,hlt,rfl,rfl,rfl⟩
 ·have he:i=((xt3 l k.toNat).map λq=>((q.1,q.2,()):qa3 [qd4,qy8])).length:=he
  rw[za3] at he
  obtain rfl:i=l.length:=he.trans (za3 _)
  simp
structure xy6 (m:List (List Int)):Prop where
 cir:qb6 m=true->wo1 m
 shs:qb6 m=true->∀k:Nat,k<=(nL m 0).length->wt0 (qw9 m).1 k
def hlf (r:Int × Int):Bool:=decide (r.2<=2*r.1)
abbrev ye3:qa8:=qe4 true none [qy8] [.bool] (λx=>q4y x.1) (λx=>(hlf x.1,()))
theorem w5u:Meets Tryz.prog 85 ye3:=by
 refine mt0 (SpecsOk.nil _) Tryz.func85 ?_
 rintro⟨⟨a,b⟩,⟨⟩⟩ h
 revert a b
 intro(a:Int) (b:Int) (h:q4y (a,b))
 refine vcs (fits .i64 ((2:Int)*a)/\decide (b<=(2:Int)*a)=hlf (a,b)) ?_
 have h1:=h.n
 obtain⟨h1,h2⟩:=h1
 dsimp only at h1 h2
 exact⟨qa7,rfl⟩
def ordF (l:List (List Int)):Nat->Nat->Nat
 | 0,k=>k
 | f+1,k=>if hlf (qp2 l (k+1) l.length)=false then ordF l f (k+1) else k
def ordL (m:List (List Int)):Nat:=ordF (qw9 m).1 (nL m 0).length 0
theorem w23 {l:List (List Int)} {n k:Nat} (h:k<n):ordF l (n-k) k=if hlf (qp2 l (k+1) l.length)=false then ordF l (n-(k+1)) (k+1) else k:=by
 obtain⟨f,hf⟩:∃f,n-k=f+1:=⟨n-k-1,ow⟩
 grind [ordF]
structure xt4 (l:List (List Int)) (n k:Nat):Prop where
 le:k<=n
 eq:ordF l n 0=ordF l (n-k) k
def ye4 (l:List (List Int)) (n:Nat):Nat->Option Inv
 | 0=>some (Inv.of [4] 0 (λk:Nat=>[(4,.lit (.int .i64 k))]) (λ_=>[]) (λk=>xt4 l n k) (λk=>n-k))
 | _=>none
abbrev xt5:qa8:=qe4 true none [qf8] [qb9] (λx=>qb6 x.1=true/\xy6 x.1) (λx=>((ordL x.1:Nat),()))
theorem wh4:Meets Tryz.prog 72 xt5:=by
 refine mts (SpecsOk.cons w5r (SpecsOk.cons xd8 (SpecsOk.cons w5u (SpecsOk.nil _)))) Tryz.func72 (λx=>ye4 (qw9 x.1).1 (nL x.1 0).length) ?_
 rintro⟨m,⟨⟩⟩ h
 revert m
 intro(m:List (List Int)) (h:qb6 m=true/\xy6 m)
 refine vcs ((qb6 m=true->wo1 m)/\∃(v0:Unit),∃(v1:Nat),xt4 (qw9 m).1 (nL m (0:Nat)).length v1/\(((0:Int)=(↑v1:Int)/\True)/\True)/\∀(v2:Nat),xt4 (qw9 m).1 (nL m (0:Nat)).length v2->((0:Int)<=(0:Int)/\(0:Int)<(↑m.length:Int))/\(decide ((↑v2:Int)<(↑(nL m (0:Nat)).length:Int))=true->fits .i64 ((↑v2:Int)+(1:Int))/\wt0 (qw9 m).1 ((↑v2:Int)+(1:Int))/\q4y ((qp2 (qw9 m).1 ((↑v2:Int)+(1:Int)).toNat (qw9 m).1.length).1,(qp2 (qw9 m).1 ((↑v2:Int)+(1:Int)).toNat (qw9 m).1.length).2)/\((!hlf ((qp2 (qw9 m).1 ((↑v2:Int)+(1:Int)).toNat (qw9 m).1.length).1,(qp2 (qw9 m).1 ((↑v2:Int)+(1:Int)).toNat (qw9 m).1.length).2))=true->fits .i64 ((↑v2:Int)+(1:Int))/\∃(v6:Nat),xt4 (qw9 m).1 (nL m (0:Nat)).length v6/\(nL m (0:Nat)).length-v6<(nL m (0:Nat)).length-v2/\((↑v2:Int)+(1:Int)=(↑v6:Int)/\True)/\True)/\((!hlf ((qp2 (qw9 m).1 ((↑v2:Int)+(1:Int)).toNat (qw9 m).1.length).1,(qp2 (qw9 m).1 ((↑v2:Int)+(1:Int)).toNat (qw9 m).1.length).2))=false->(↑v2:Int)=(↑(ordL m):Int)))/\(decide ((↑v2:Int)<(↑(nL m (0:Nat)).length:Int))=false->(↑v2:Int)=(↑(ordL m):Int))) ?_
 have hM:=Mk.of h.1
 have m1:=hM.rows1
 have m10:=hM.pix10
 have hc:=h.2.shs h.1
 refine⟨h.2.cir,(),0,⟨zae _,rfl⟩,rfl,λk hk=>⟨ow,λhlt=>?_,λhge=>?_⟩⟩
 ·have e:((k:Int)+1).toNat=k+1:=ow
  have e2:((k:Int)+1)=((k+1:Nat):Int):=by rfl
  have hs:=hc (k+1) ow
  have hl:=q8j hs (qw9 m).1.length (zad _)
  rw[za6] at hl
  rw[e,e2]
  refine⟨qa7,hs,hl,λhf=>⟨qa7,k+1,⟨ow,?_⟩,ow,rfl⟩,λhf=>?_⟩
  ·rw[hk.eq,w23 hlt]
   grind
  ·have:ordL m=k:=by
    unfold ordL
    rw[hk.eq,w23 hlt,zai (by grind)]
   omega
 ·have hle:=hk.le
  have e:k=(nL m 0).length:=ow
  have:ordL m=k:=by
   unfold ordL
   rw[hk.eq,e,Nat.sub_self]; rfl
  omega
def w5v (m:List (List Int)):Int × Int:=if qb6 m=true then((ordL m:Nat),0) else(0,1)
abbrev x6o:qa8:=qe4 true none [qf8] [qb9,qb9] (λx=>xy6 x.1) (λx=>((w5v x.1).1,(w5v x.1).2,()))
theorem wz5:Meets Tryz.prog 26 x6o:=by
 refine mt0 (SpecsOk.cons qq3 (SpecsOk.cons wh4 (SpecsOk.nil _))) Tryz.func26 ?_
 rintro⟨m,⟨⟩⟩ h
 revert m
 intro(m:List (List Int)) (h:xy6 m)
 refine vcs (True/\((!qb6 m)=true->(0:Int)=(w5v m).1/\(1:Int)=(w5v m).2/\True)/\((!qb6 m)=false->(qb6 m=true/\xy6 m)/\(↑(ordL m):Int)=(w5v m).1/\(0:Int)=(w5v m).2/\True)) ?_
 refine⟨λhv=>?_,λhv=>⟨⟨hv,h⟩,?_⟩⟩
 ·unfold w5v; grind
 ·unfold w5v; grind
theorem xt6 {m:List (List Int)} (hv:qb6 m=true) (h7:(nL m 0).length<=7):(qw9 m).1=(List.range (nL m 0).length).flatMap λk=>xq6 m (k+1):=by
 grind [qw9,q2w,nL,q59,xq7]
theorem x6p {m:List (List Int)} (hv:qb6 m=true) (h7:(nL m 0).length<=7) {h:List Int} (hh:h∈(qw9 m).1):∃s,xq8 m s h:=by
 rw[xt6 hv h7,List.mem_flatMap] at hh
 obtain⟨k,_,hk⟩:=hh
 obtain⟨s,hs,_⟩:=xq9 (Mk.of hv) hk
 grind
theorem w24 {m:List (List Int)} (hv:qb6 m=true) {s h:List Int} (hc:xq8 m s h):HOk h:=by
 have:=(Mk.of hv).pix10
 refine⟨by rw[hc.len]; omega,λi=>?_⟩
 have:=hc.small i
 omega
theorem xd9 (h:List Int):∀k,wh1 h k=sm k λi=>q5m (nI h i)
 | 0=>rfl
 | k+1=>by rw[wh1,xd9 h k]; rfl
theorem xe0 {n:Nat} {f:Nat->Int} (h:∀i,i<n->0<=f i):0<=sm n f:=by
 induction n with
 | zero=>exact zd7 _
 | succ n ih=>
  grind [sm]
theorem x6q {n:Nat} {f:Nat->Int} (h:∀i,i<n->0<=f i) {k:Nat} (hk:k<n) (hf:0<f k):0<sm n f:=by
 induction n with
 | zero=>omega
 | succ n ih=>
  have h2:=h n ow
  have h1:=xe0 (n:=n) λi hi=>h i ow
  grind [sm,Nat.lt_succ_iff_lt_or_eq]
theorem wz6 (x:Int):0<=q5m x:=zb3 _
theorem x6r {h:List Int} {i:Nat} (hi:i<h.length) (hx:nI h i≠0):0<szL h:=by
 unfold szL
 rw[xd9]
 refine x6q (λi _=>wz6 _) hi ?_
 grind [q5m,nI]
theorem x22 {m:List (List Int)} {s h:List Int} (hc:xq8 m s h):0<szL h:=by
 have h1:=hc.nam.at_ 0 hc.pos
 exact x6r (i:=(nI s 0).toNat) (by rw[hc.len]; omega) (hc.on 0 hc.pos)
theorem xt7 {l:List Int} {j:Nat} (h:j+1<l.length):(swp l j).Perm l:=by
 unfold swp
 rw[qf2 l j ow,qf2 l (j+1) h]
 grind
theorem wt1 (f:Int->Int->Int):∀(j:Nat) (l:List Int),j<l.length->(q0w f j l).Perm l
 | 0,l,_=>List.Perm.refl l
 | j+1,l,h=>by
  rw[q0w]
  split
  ·exact(wt1 f j (swp l j) (by grind [wh2])).trans (xt7 h)
  rfl
theorem w25 (f:Int->Int->Int) (l:List Int):∀k,k<l.length\/k=0->(qz4 f l k).Perm l
 | 0,_=>List.Perm.refl l
 | k+1,h=>by
  have h1:=(q1s f l k ow).1
  exact(wt1 f (k+1) (qz4 f l k) ow).trans (w25 f l k ow)
def wz7 (f:Int->Int):List Int->Int
 | []=>0
 | x :: r=>f x+wz7 f r
theorem xe1 (f:Int->Int) {a b:List Int} (h:a.Perm b):wz7 f a=wz7 f b:=by
 induction h with
 | nil=>rfl
 | cons x _ ih=>grind [wz7]
 | swap x y l=>grind [wz7]
 | trans _ _ ih1 ih2=>omega
theorem w26 (f:Int->Int):∀a b:List Int,wz7 f (a++b)=wz7 f a+wz7 f b
 | [],b=>by simp[wz7]
 | x :: a,b=>by simp[wz7,w26 f a b]; omega
def szV (h:List Int) (x:Int):Int:=q5m (nI h x.toNat)
theorem x23 (h:List Int) (p:List Int):inL h p=wz7 (szV h) p:=by
 have:∀k,k<=p.length->qv2 h p k=wz7 (szV h) (p.take k):=λk=>by
  induction k with
  | zero=>grind [qv2,wz7]
  | succ k ih=>
   intro hk
   have hs:p.take (k+1)=p.take k++[nI p k]:=by
    grind [List.take_add_one,List.getElem?_eq_getElem,qf2]
   rw[qv2,ih ow,hs,w26]
   rfl
 simp_all [inL,Nat.le_refl,List.take_length]
theorem xt8 {n:Nat} {p:List Int} (h:Named n p):p.Pairwise (· < ·):=by
 rw[List.pairwise_iff_getElem]
 intro i j hi hj hij
 have:=h.asc i j hij hj
 grind [qf2]
theorem wz8 {n:Nat} {p:List Int} (h:p.Pairwise (· < ·)) (hb:∀x∈p,0<=x/\x<n):Named n p:=by
 refine⟨λj hj=>hb _ (q42 hj),λi j hij hj=>?_⟩
 grind [qf2,List.pairwise_iff_getElem]
theorem xt9 {p:List Int} (h:p.Pairwise (· < ·)):p.Nodup:=h.imp λ{a b} q e=>by omega
theorem x6s (n:Nat):(qo0 n).Pairwise (· < ·):=xt8 (Named.idx n)
theorem x26 {n:Nat} {x:Int}:x∈qo0 n↔0<=x/\x<n:=by
 constructor
 ·intro hx
  obtain⟨i,hi,rfl⟩:=zbu.1 hx
  rw[<- qf2 _ _ hi]
  grind [qe8,q2n]
 ·intro hx
  have:nI (qo0 n) x.toNat=x:=by grind [q2n]
  grind [q42,qe8]
def x3n (h:List Int):List Int:=insL (q5v h) (qo0 h.length)
theorem wt2 (h:List Int):(x3n h).Perm (qo0 h.length):=w25 _ _ _ ow
theorem wt3 (h:List Int) (k:Nat):(q8g h k).Perm ((x3n h).take k):=List.mergeSort_perm ..
theorem w5w {h:List Int} {k:Nat}:Named h.length (q8g h k):=by
 have hp:=wt3 h k
 have hnd:(x3n h).Nodup:=(xt9 (x6s _)).perm (wt2 h).symm
 have hnd2:(q8g h k).Nodup:=(hnd.sublist (List.take_sublist k _)).perm hp.symm
 have hsrt:(q8g h k).Pairwise (·<=·):=by
  have:=List.pairwise_mergeSort (le:=λx y:Int=>decide (x<=y)) (λa b c h1 h2=>by grind) (λa b=>by
   grind) ((x3n h).take k)
  exact this.imp λ{a b} q=>zbe q
 grind [wz8,x26,wt2,List.mem_of_mem_take,List.Pairwise.imp₂]
theorem xu0 (h:List Int) (k:Nat):inL h (q8g h k)=wz7 (szV h) ((x3n h).take k):=by grind [x23,xe1,wt3]
def sg (x:Int):Int:=if x<0 then -1 else 1
theorem xu1 {m:List (List Int)} (hv:qb6 m=true):(qw9 m).1.length<=1000000:=by
 have hM:=Mk.of hv
 have h10:=hM.pix10
 grind [qw9,q2w,nL,q59,wd6]
theorem xy7 {m:List (List Int)} (hv:qb6 m=true) (h7:(nL m 0).length<=7) {i:Nat} (hi:i<(qw9 m).1.length):∃s,xq8 m s (nL (qw9 m).1 i):=x6p hv h7 (q15 _ _ hi)
theorem ye5 {m:List (List Int)} (hv:qb6 m=true) {s h p:List Int} (hc:xq8 m s h) (hp:Named (nL m 0).length p):x2w h p:=by
 have h10:=(Mk.of hv).pix10
 have hl:=hp.len
 exact⟨w24 hv hc,ow,λj hj=>by rw[hc.len]; exact hp.at_ j hj,by have:=x22 hc; omega⟩
theorem x6t {m:List (List Int)} {s h:List Int} (hc:xq8 m s h) (k:Nat):Named (nL m 0).length (q8g h k):=by
 have:=w5w (h:=h) (k:=k)
 rwa [hc.len] at this
theorem yu1 {m:List (List Int)} (h7:qb6 m=true->(nL m 0).length<=7):xy6 m:=by
 refine⟨λhv=>ya9 hv,λhv k hk=>⟨xu1 hv,λi hi=>?_,λi hi=>?_⟩⟩
 ·obtain⟨s,hc⟩:=xy7 hv (h7 hv) hi
  have hM:=Mk.of hv
  have m1:=hM.pix1
  have m10:=hM.pix10
  exact⟨w24 hv hc,by rw[hc.len]; omega,by rw[hc.len]; omega,zb3 _,by rw[hc.len]; omega⟩
 grind [xy7,Int.toNat_natCast,ye5,x6t]
open Go Go.Proofs Go.RowKit Eng Ls
def smB (m:List (List Int)) (n:Int):Bool:=(m.all λl=>decide ((l.length:Int)<=n)) && decide (m.length<=6)
structure x60 (m:List (List Int)) (n:Int) (k:Nat):Prop where
 le:k<=m.length
 all:∀i,i<k->((nL m i).length:Int)<=n
def yu2 (m:List (List Int)) (n:Int):Nat->Option Inv
 | 0=>some (Inv.of [9] 0 (λk:Nat=>[(9,.lit (.int .i64 k))]) (λ_=>[]) (λk=>x60 m n k) (λk=>m.length-k))
 | _=>none
abbrev sSm:qa8:=qe4 true none [qf8,qb9] [.bool] (λx=>x.1.length<=9223372036854775807) (λx=>(smB x.1 x.2.1,()))
theorem xu2:Meets Tryz.prog 8 sSm:=by
 refine mts (SpecsOk.nil _) Tryz.func8 (λx=>yu2 x.1 x.2.1) ?_
 rintro⟨m,n,⟨⟩⟩ h
 revert m n
 intro(m:List (List Int)) (n:Int) (h:m.length<=9223372036854775807)
 refine vcs (∃(v0:Unit),∃(v1:Nat),x60 m n v1/\(((0:Int)=(↑v1:Int)/\True)/\True)/\∀(v2:Nat),x60 m n v2->(decide ((↑v2:Int)<(↑m.length:Int))=true->((0:Int)<=(↑v2:Int)/\(↑v2:Int)<(↑m.length:Int))/\(decide (n<(↑(nL m v2).length:Int))=true->false=smB m n)/\(decide (n<(↑(nL m v2).length:Int))=false->fits .i64 ((↑v2:Int)+(1:Int))/\∃(v6:Nat),x60 m n v6/\m.length-v6<m.length-v2/\((↑v2:Int)+(1:Int)=(↑v6:Int)/\True)/\True))/\(decide ((↑v2:Int)<(↑m.length:Int))=false->decide ((↑m.length:Int)<=(6:Int))=smB m n)) ?_
 refine⟨(),0,⟨zae _,λi hi=>absurd hi ow⟩,rfl,λk hk=>⟨λhlt=>⟨hlt,λhn=>?_,λhn=>?_⟩,λhge=>?_⟩⟩
 ·grind [smB,decide,List.all_eq_false,nL,qk3,List.getElem_mem]
 ·refine⟨qa7,k+1,⟨hlt,λi hi=>?_⟩,ow,ow⟩
  by_cases q:i=k
  ·grind
  ·exact hk.all i ow
 ·have hkl:=hk.le
  have:(m.all λl=>decide ((l.length:Int)<=n))=true:=by
   rw[zaq]
   intro l hl
   obtain⟨i,hi,rfl⟩:=zbg hl
   have:=hk.all i ow
   grind [qk3,decide_eq_true]
  unfold smB
  grind
def x3a (l:List (List Int)) (k:Nat):Nat->Int × Int
 | 0=>(0,1)
 | i+1=>xs6 (x3a l k i) (ofR (wz7 (szV (nL l i)) ((x3n (nL l i)).take k)) (szL (nL l i)))
theorem w27 (l:List (List Int)) (k:Nat):∀n,qp2 l k n=x3a l k n
 | 0=>rfl
 | n+1=>by
  rw[qp2,x3a,w27 l k n]
  grind [shR,xu0]
abbrev m9:List (List Int):=[[1,1,0],[0,1,1]]
abbrev p9:List (List Int):=[[0,0,0],[0,5,0]]
theorem yu3:w5v m9=(1,0):=by
 have hc:(qw9 m9).1=[[1,-1,1]]:=by rfl
 have hv:qb6 m9=true:=by rfl
 unfold w5v ordL
 rw[zap hv,hc]
 show(((ordF [[1,-1,1]] 3 0:Nat):Int),(0:Int))=(1,0)
 simp only[ordF,w27]
 rfl
theorem cc9:xy6 m9:=yu1 λ_=>by show 3<=7; decide
theorem yu4:w21 m9 p9 2 1=(true,0):=by rfl
theorem wh9:xc1 m9 (qp1 m9 p9 2 2) 1:=by
 intro i hi h1 h2
 have hi:i<2:=hi
 match i,hi,h1 with
 | 0,_,h1=>cases h1
 | 1,_,_=>
  show wx8 m9 [5,5] 1
  have hL:q4n m9 [5,5] 1=[([1],[(5,1)])]:=by rfl
  refine⟨⟨⟨dc,dc,dc,dc,dc,λj hj s hs=>?_⟩,by grind⟩,λf hf=>?_⟩
  ·have hN:fitsN m9 1=2:=by rfl
   have:=wq6 hs
   grind [x57]
  ·rw[hL] at hf
   obtain rfl:=zar.1 hf
   refine⟨rfl,dc,λj hj=>?_⟩
   obtain rfl:j=0:=by grind
   exact⟨dc,dc⟩
abbrev ye6:qa8:=qe4 true none [] [.bool] (λ_=>True) (λ_=>(true,()))
theorem w5x:Meets Tryz.prog 10 ye6:=by
 refine mt0 (SpecsOk.cons wz5 (SpecsOk.cons w5g (SpecsOk.cons xc6 (SpecsOk.nil _)))) Tryz.func10 ?_
 rintro⟨⟩ -
 refine vcs (xy6 [[(1:Int),(1:Int),(0:Int)],[(0:Int),(1:Int),(1:Int)]]/\True/\((0:Int)=(0:Int)->∀(v1:Nat),Nat.le (Nat.succ v1) (2:Nat)->(nFr (qp1 [[(1:Int),(1:Int),(0:Int)],[(0:Int),(1:Int),(1:Int)]] [[(0:Int),(0:Int),(0:Int)],[(0:Int),(5:Int),(0:Int)]] (2:Nat) (2:Nat)) v1).1=false->wt4 [[(1:Int),(1:Int),(0:Int)],[(0:Int),(1:Int),(1:Int)]] (nFr (qp1 [[(1:Int),(1:Int),(0:Int)],[(0:Int),(1:Int),(1:Int)]] [[(0:Int),(0:Int),(0:Int)],[(0:Int),(5:Int),(0:Int)]] (2:Nat) (2:Nat)) v1).2 (1:Int)=(0:Int)->wx8 [[(1:Int),(1:Int),(0:Int)],[(0:Int),(1:Int),(1:Int)]] (nFr (qp1 [[(1:Int),(1:Int),(0:Int)],[(0:Int),(1:Int),(1:Int)]] [[(0:Int),(0:Int),(0:Int)],[(0:Int),(5:Int),(0:Int)]] (2:Nat) (2:Nat)) v1).2 (1:Int))/\(((0:Int)==(0:Int))=true->(((w5v [[(1:Int),(1:Int),(0:Int)],[(0:Int),(1:Int),(1:Int)]]).1==(1:Int))=true->(((0:Int)==(0:Int))=true->(((↑(6:Nat):Int)==(6:Int))=true->(((0:Int)==(0:Int))=true->(w21 [[(1:Int),(1:Int),(0:Int)],[(0:Int),(1:Int),(1:Int)]] [[(0:Int),(0:Int),(0:Int)],[(0:Int),(5:Int),(0:Int)]] (2:Int) (1:Int)).1=true)/\(((0:Int)==(0:Int))=false->false=true))/\(((↑(6:Nat):Int)==(6:Int))=false->false=true))/\(((0:Int)==(0:Int))=false->false=true))/\(((w5v [[(1:Int),(1:Int),(0:Int)],[(0:Int),(1:Int),(1:Int)]]).1==(1:Int))=false->false=true))/\(((0:Int)==(0:Int))=false->false=true)) ?_
 have ho:(w5v m9).1=1:=za9 Prod.fst yu3
 have hs:(w21 m9 p9 2 1).1=true:=za9 Prod.fst yu4
 exact⟨cc9,wh9,⟨⟨λ_=>⟨⟨λ_=>⟨hs,λq=>absurd trivial q⟩,λq=>absurd rfl q⟩,λq=>absurd trivial q⟩,λq=>absurd ho q⟩,λq=>absurd trivial q⟩⟩
open Go Go.RowKit Eng
open Go Go.RowKit Eng Ls
theorem x3b {m:List (List Int)} {n:Nat} (h:smB m n=true) (h1:1<=m.length):(nL m 0).length<=n:=by
 unfold smB at h
 rw[zam,zaq] at h
 have:=zbe (h.1 (nL m 0) (by grind [qk3,List.getElem_mem]))
 omega
theorem wh5 {m:List (List Int)} {x:List Int} (hM:Mk m) {a:Nat} (ha:a<m.length):nI (qu0 m x) a=sm (nL m 0).length λc=>nI (nL m a) c*nI x c:=by
 rw[qf2 _ _ (by grind [qu0])]
 simp only[qu0,List.getElem_map,List.getElem_range]
 rw[xb4,hM.each a ha]
open Go Go.Proofs Go.RowKit Eng
def ql9 (m:List (List Int)) (x:List Int) (k:Nat):List Cll:=(List.range k).map λi=>(nL m i,smL (nL m i) x,smL (nL m i) x)
theorem q1t (m:List (List Int)) (x:List Int) (k:Nat):(ql9 m x k).length=k:=by simp[ql9]
theorem xe2 {m:List (List Int)} {x:List Int} {k i:Nat} (h:i<k):nC' (ql9 m x k) i=(nL m i,smL (nL m i) x,smL (nL m i) x):=by
 have e:nC' (ql9 m x k) i=(ql9 m x k)[i]'(by rw[q1t]; exact h):=qo1 (t:=.prod (.list (.int .i64)) (.prod (.int .i64) (.int .i64))) (ql9 m x k) i (by rw[q1t]; exact h)
 rw[e]; simp[ql9]
theorem q6f {m:List (List Int)} {x:List Int} {i:Nat} (h:i<m.length):nI (qu0 m x) i=smL (nL m i) x:=by
 rw[qf2 _ i (by rw[qw8]; exact h)]; simp[qu0]
structure Lit (m:List (List Int)) (T:Int) (x:List Int):Prop where
 val:qb6 m=true
 n6:(nL m 0).length<=6
 t0:0<=T
 t3:T<=3
 pd:pdE (nL m 0).length T x=0
theorem Lit.xl {m:List (List Int)} {T:Int} {x:List Int} (h:Lit m T x):x.length=(nL m 0).length:=by have:=(q9s.1 h.pd).1; omega
theorem Lit.at_ {m:List (List Int)} {T:Int} {x:List Int} (h:Lit m T x) {i:Nat} (hi:i<x.length):0<=nI x i/\nI x i<=T:=(q9s.1 h.pd).2 i hi
theorem Lit.vf {m:List (List Int)} {T:Int} {x:List Int} (h:Lit m T x):vfB (nL m 0).length T=true:=by
 have:=(Mk.of h.val).pix1
 have:=h.n6; have:=h.t0; have:=h.t3
 exact q5k.2 ⟨⟨ow,ow⟩,ow,ow⟩
theorem xe3 {m:List (List Int)} (hv:qb6 m=true) {i:Nat} (hi:i<m.length):vrB (nL m 0).length (nL m i)=true:=by
 have hM:=Mk.of hv
 have hl:=hM.each i hi
 exact xw7.2 ⟨ow,λc hc=>by have:=hM.small i hi c ow; omega⟩
theorem Lit.sm {m:List (List Int)} {T:Int} {x:List Int} (h:Lit m T x) {i:Nat} (hi:i<m.length):SmPre (nL m i) x:=w9p h.vf (xe3 h.val hi) h.pd
theorem Lit.bd {m:List (List Int)} {T:Int} {x:List Int} (h:Lit m T x) {i:Nat} (hi:i<m.length):-100<=smL (nL m i) x/\smL (nL m i) x<=100:=by
 have h1:=(h.sm hi).bnd _ (zad _)
 have h2:=(h.sm hi).few
 show -100<=qh1 _ _ _/\qh1 _ _ _<=100
 omega
theorem Lit.vs {m:List (List Int)} {T:Int} {x:List Int} (h:Lit m T x):vsB (nL m 0).length T (ql9 m x m.length)=true:=by
 have m6:=(Mk.of h.val).rows6
 unfold vsB
 rw[h.vf,zbk (by rw[q1t]; omega),zc8,zc8,zaq]
 intro c hc
 unfold ql9 at hc
 obtain⟨i,hi,rfl⟩:=za4.1 hc
 have hi:=za2.1 hi
 have hb:=h.bd hi
 unfold vcB
 rw[xe3 h.val hi,qf9.2 ⟨hb.1,zd7 _⟩,zbk hb.2]; rfl
theorem xe4 {m:List (List Int)} {x z:List Int}:ftB (ql9 m x m.length) z=true↔∀i,i<m.length->smL (nL m i) z=smL (nL m i) x:=by
 unfold ftB
 rw[zaq]
 constructor
 ·intro h i hi
  have:=h (nL m i,smL (nL m i) x,smL (nL m i) x) (za4.2 ⟨i,za2.2 hi,rfl⟩)
  have:=qf9.1 this
  dsimp only at this
  omega
 ·intro h c hc
  unfold ql9 at hc
  obtain⟨i,hi,rfl⟩:=za4.1 hc
  have:=h i (za2.1 hi)
  exact qf9.2 (by dsimp only; omega)
theorem Lit.sho {m:List (List Int)} {T:Int} {x:List Int} (h:Lit m T x):w88 m x=0:=by
 have h3:=h.t3
 have hall:(x.all λe=>inB e (0-1000000) 1000000)=true:=by
  rw[zaq]
  intro v hv
  obtain⟨c,hcc,rfl⟩:=zbu.1 hv
  have:=h.at_ hcc
  rw[qf2 x c hcc] at this
  exact qf9.2 ⟨ow,ow⟩
 unfold w88 w51
 rw[zai (by rw[h.val]; decide),zai (by have:=h.xl; omega),hall]; rfl
theorem Lit.rdg {m:List (List Int)} {T:Int} {x:List Int} (h:Lit m T x):Rdg m x (qu0 m x):=⟨h.val,h.xl,qw8 m x,λi hi=>wh5 (Mk.of h.val) hi⟩
theorem Lit.other {m:List (List Int)} {T:Int} {x z:List Int} (h:Lit m T x) (hz:z∈lfL (nL m 0).length T (ql9 m x m.length)):Lit m T z/\Rdg m z (qu0 m x):=by
 unfold lfL at hz
 obtain⟨h1,h2⟩:=zb7.1 hz
 have hl:Lit m T z:=⟨h.val,h.n6,h.t0,h.t3,we3 h.vf h1⟩
 have e:=xe4.1 h2
 refine⟨hl,h.val,hl.xl,qw8 m x,λi hi=>?_⟩
 rw[q6f hi,<- e i hi,<- q6f hi]
 exact wh5 (Mk.of h.val) hi
theorem Lit.mem {m:List (List Int)} {T:Int} {x:List Int} (h:Lit m T x):x∈lfL (nL m 0).length T (ql9 m x m.length):=
 zb7.2 ⟨xn6 (by have:=h.xl; omega) λa ha=>by
  obtain⟨c,hcc,rfl⟩:=zbu.1 ha
  have:=h.at_ hcc
  rw[qf2 x c hcc] at this
  exact this,xe4.2 λ_ _=>rfl⟩
theorem Lit.first {m:List (List Int)} {T:Int} {x:List Int} (h:Lit m T x):∃z,z∈lfL (nL m 0).length T (ql9 m x m.length)/\fsR (nL m 0).length T (ql9 m x m.length)=(z,0):=by
 unfold fsR
 rw[zai (by rw[h.vs]; decide)]
 cases hf:(qm1 (nL m 0).length T).find? (ftB (ql9 m x m.length)) with
 | none=>
  obtain⟨h1,h2⟩:=zb7.1 h.mem
  exact absurd h2 (List.find?_eq_none.1 hf x h1)
 | some z=>exact⟨z,zb7.2 ⟨List.mem_of_find?_eq_some hf,List.find?_some hf⟩,rfl⟩
theorem w28 {l:List (List Int)} {q:Nat} {v:Int} (h0:0<l.length) (h:∀i,i<l.length->nI (nL l i) q=v):∀k,k<=l.length->q5t l q k=(v,v)
 | 0,_=>by rw[q5t,h 0 h0]
 | k+1,hk=>by
  rw[q5t,w28 h0 h k ow,h k ow]
  simp[max2]
theorem xy8 {l:List (List Int)} {q:Nat} (h:(q5t l q l.length).1=(q5t l q l.length).2):∀n,q<n->(q:Int)∈q9t l n
 | 0,hn=>absurd hn (zat _)
 | n+1,hn=>by
  rw[q9t]
  by_cases e:q=n
  ·subst e; rw[zap h]; simp
  ·have:=xy8 h n ow
   split
   ·exact List.mem_append_left _ this
   ·exact this
theorem Lit.known {m:List (List Int)} {T:Int} {x:List Int} (h:Lit m T x) {p:Nat} (hp:p<(nL m 0).length) (hk:knB m (p:Int)=true):(p:Int)∈(kcR (nL m 0).length T (ql9 m x m.length)).1/\(kcR (nL m 0).length T (ql9 m x m.length)).2=0:=by
 have h0:0<(lfL (nL m 0).length T (ql9 m x m.length)).length:=List.length_pos_of_mem h.mem
 unfold kcR
 rw[zai (by rw[h.vs]; decide),zai ow]
 refine⟨xy8 ?_ _ ow,rfl⟩
 rw[w28 (v:=nI x p) h0 (λi hi=>?_) _ (zad _)]
 rw[qk3 _ i hi]
 exact x2k hk hp (h.other (zbd hi)).2 h.rdg
theorem Lit.value {m:List (List Int)} {T:Int} {x:List Int} (h:Lit m T x) {p:Nat} (hp:p<(nL m 0).length) (hk:knB m (p:Int)=true):VlPre m x (qu0 m x) p:=by
 refine⟨⟨h.rdg,λi hi=>?_⟩,hp,hk,?_⟩
 ·rw[qw8] at hi
  rw[q6f hi]
  have:=h.bd hi
  unfold qd8; omega
 ·have:=h.at_ (show p<x.length by rw[h.xl]; exact hp)
  have:=h.t3
  unfold qd8; omega
def w5y (l:List Int) (p:Int) (k:Nat):Bool:=(l.take k).any λq=>p==q
def ye7 (m:List (List Int)) (x:List Int) (T:Int):Nat->Option Inv
 | 0=>some (Inv.of [8,62] 2 (λk:Nat=>[(8,.own 1),(62,.lit (.int .i64 k))]) (λk=>[.box 29 (.cons (.lit (.int .i64 (nL m 0).length)) (.cons (.lit (.int .i64 T)) .nil)),.vec 32 (.prod (.list (.int .i64)) (.prod (.int .i64) (.int .i64))) (ql9 m x k)]) (λk=>k<=m.length/\(0<k->pdE (nL m 0).length T x=0)) (λk=>m.length-k))
 | 1=>some (Inv.of [148] 2 (λk:Nat=>[(148,.lit (.int .i64 k))]) (λk=>[.box 29 (.cons (.lit (.int .i64 (nL m 0).length)) (.cons (.lit (.int .i64 T)) .nil)),.dead]) (λk=>k<=m.length) (λk=>m.length-k))
 | 2=>some (Inv.of [194] 2 (λk:Nat=>[(194,.lit (.int .i64 k))]) (λk=>[.dead,.dead]) (λk=>k<=(knR m).1.length) (λk=>(knR m).1.length-k))
 | 3=>some (Eng.Inv.mk Nat Nat [27,200] 2 (λj k=>[(27,.lit (.bool (w5y (kcR (nL m 0).length T (ql9 m x m.length)).1 (nI (knR m).1 j) k))),(200,.lit (.int .i64 k))]) (λ_ _=>[.dead,.dead]) (λj k=>k<=(kcR (nL m 0).length T (ql9 m x m.length)).1.length) (λj k=>(kcR (nL m 0).length T (ql9 m x m.length)).1.length-k))
 | _=>none
abbrev yu5:qa8:=qe4 true none [qf8,qd4,qb9] [.bool] (λx=>x9d x.1/\x.2.1.length<=9223372036854775807) (λ_=>(true,()))
set_option maxRecDepth 20000 in
theorem xe5:Meets Tryz.prog 3 yu5:=by
 refine mts (SpecsOk.cons xu2 (SpecsOk.cons qq3 (SpecsOk.cons w5x (SpecsOk.cons xn8 (SpecsOk.cons w9q (SpecsOk.cons xo2 (SpecsOk.cons xo4 (SpecsOk.cons q9r (SpecsOk.cons xp1 (SpecsOk.cons xr2 (SpecsOk.nil _))))))))))) Tryz.func3 (λx=>ye7 x.1 x.2.1 x.2.2.1) ?_
 rintro⟨m,x,t,⟨⟩⟩ h
 revert m x t
 intro(m:List (List Int)) (x:List Int) (t:Int) (h:x9d m/\x.length<=9223372036854775807)
 refine vcs (let Q0:=ql9 m x m.length; let Q1:=qs4 m x; m.length<=(9223372036854775807:Nat)/\((!smB m (6:Int))=true->True/\true=true)/\((!smB m (6:Int))=false->(decide ((6:Int)<(↑x.length:Int))=true->True/\true=true)/\(decide ((6:Int)<(↑x.length:Int))=false->(decide (t<(0:Int))=true->True/\true=true)/\(decide (t<(0:Int))=false->(decide ((2:Int)<t)=true->True/\true=true)/\(decide ((2:Int)<t)=false->True/\((!qb6 m)=true->True/\true=true)/\((!qb6 m)=false->((0:Int)<=(0:Int)/\(0:Int)<(↑m.length:Int))/\∃(v5:Unit),∃(v6:Nat),(v6<=m.length/\(Nat.le (1:Nat) v6->pdE (↑(nL m (0:Nat)).length:Int) t x=(0:Int)))/\((True/\(0:Int)=(↑v6:Int)/\True)/\((↑(nL m (0:Nat)).length:Int)=(↑(nL m (0:Nat)).length:Int)/\t=t/\True)/\ql9 m x v6=[]/\True)/\∀(v7:Nat),v7<=m.length/\(Nat.le (1:Nat) v7->pdE (↑(nL m (0:Nat)).length:Int) t x=(0:Int))->(decide ((↑v7:Int)<(↑m.length:Int))=true->((0:Int)<=(↑v7:Int)/\(↑v7:Int)<(↑m.length:Int))/\(((nL m v7).length<=(100000:Nat)/\x.length<=(1000000:Nat))/\(1:Int)=(1:Ty.den qb9))/\(((qtR (↑(nL m (0:Nat)).length:Int) t (nL m v7) x).2 != (0:Int))=true->True/\true=true)/\(((qtR (↑(nL m (0:Nat)).length:Int) t (nL m v7) x).2 != (0:Int))=false->((0:Nat)<List.length [((qtR (↑(nL m (0:Nat)).length:Int) t (nL m v7) x).1.1,(qtR (↑(nL m (0:Nat)).length:Int) t (nL m v7) x).1.2.1,(qtR (↑(nL m (0:Nat)).length:Int) t (nL m v7) x).1.2.2)]/\Nat.le ((ql9 m x v7).length+List.length [((qtR (↑(nL m (0:Nat)).length:Int) t (nL m v7) x).1.1,(qtR (↑(nL m (0:Nat)).length:Int) t (nL m v7) x).1.2.1,(qtR (↑(nL m (0:Nat)).length:Int) t (nL m v7) x).1.2.2)]) (1000000:Nat))/\fits .i64 ((↑v7:Int)+(1:Int))/\∃(v11:Nat),(v11<=m.length/\(Nat.le (1:Nat) v11->pdE (↑(nL m (0:Nat)).length:Int) t x=(0:Int)))/\m.length-v11<m.length-v7/\(True/\(↑v7:Int)+(1:Int)=(↑v11:Int)/\True)/\((↑(nL m (0:Nat)).length:Int)=(↑(nL m (0:Nat)).length:Int)/\t=t/\True)/\ql9 m x v7++[((qtR (↑(nL m (0:Nat)).length:Int) t (nL m v7) x).1.1,(qtR (↑(nL m (0:Nat)).length:Int) t (nL m v7) x).1.2.1,(qtR (↑(nL m (0:Nat)).length:Int) t (nL m v7) x).1.2.2)]=ql9 m x v11/\True))/\(decide ((↑v7:Int)<(↑m.length:Int))=false->(qn3 (ql9 m x v7)/\x.length<=(1000000:Nat))/\qn3 (ql9 m x v7)/\qn3 (ql9 m x v7)/\(((ftR (↑(nL m (0:Nat)).length:Int) t (ql9 m x v7) x).2 != (0:Int))=true->false=true)/\(((ftR (↑(nL m (0:Nat)).length:Int) t (ql9 m x v7) x).2 != (0:Int))=false->((!(ftR (↑(nL m (0:Nat)).length:Int) t (ql9 m x v7) x).1)=true->false=true)/\((!(ftR (↑(nL m (0:Nat)).length:Int) t (ql9 m x v7) x).1)=false->(((fsR (↑(nL m (0:Nat)).length:Int) t (ql9 m x v7)).2 != (0:Int))=true->false=true)/\(((fsR (↑(nL m (0:Nat)).length:Int) t (ql9 m x v7)).2 != (0:Int))=false->(((kcR (↑(nL m (0:Nat)).length:Int) t (ql9 m x v7)).2 != (0:Int))=true->false=true)/\(((kcR (↑(nL m (0:Nat)).length:Int) t (ql9 m x v7)).2 != (0:Int))=false->x.length<=(1000000:Nat)/\(fsR (↑(nL m (0:Nat)).length:Int) t (ql9 m x v7)).1.length<=(1000000:Nat)/\((Q1.2 != (0:Int))=true->false=true)/\((Q1.2 != (0:Int))=false->(((qs4 m (fsR (↑(nL m (0:Nat)).length:Int) t (ql9 m x v7)).1).2 != (0:Int))=true->false=true)/\(((qs4 m (fsR (↑(nL m (0:Nat)).length:Int) t (ql9 m x v7)).1).2 != (0:Int))=false->(((↑Q1.1.length:Int) != (↑(qs4 m (fsR (↑(nL m (0:Nat)).length:Int) t (ql9 m x v7)).1).1.length:Int))=true->false=true)/\(((↑Q1.1.length:Int) != (↑(qs4 m (fsR (↑(nL m (0:Nat)).length:Int) t (ql9 m x v7)).1).1.length:Int))=false->(((↑Q1.1.length:Int) != (↑(ql9 m x v7).length:Int))=true->false=true)/\(((↑Q1.1.length:Int) != (↑(ql9 m x v7).length:Int))=false->∃(v18:Unit),∃(v19:Nat),Nat.le v19 m.length/\(((0:Int)=(↑v19:Int)/\True)/\((↑(nL m (0:Nat)).length:Int)=(↑(nL m (0:Nat)).length:Int)/\t=t/\True)/\True/\True)/\∀(v20:Nat),Nat.le v20 m.length->(decide ((↑v20:Int)<(↑Q1.1.length:Int))=true->((0:Int)<=(↑v20:Int)/\(↑v20:Int)<(↑Q1.1.length:Int))/\((0:Int)<=(↑v20:Int)/\(↑v20:Int)<(↑(qs4 m (fsR (↑(nL m (0:Nat)).length:Int) t (ql9 m x v7)).1).1.length:Int))/\((nI Q1.1 v20 != nI (qs4 m (fsR (↑(nL m (0:Nat)).length:Int) t (ql9 m x v7)).1).1 v20)=true->false=true)/\((nI Q1.1 v20 != nI (qs4 m (fsR (↑(nL m (0:Nat)).length:Int) t (ql9 m x v7)).1).1 v20)=false->((0:Int)<=(↑v20:Int)/\(↑v20:Int)<(↑(ql9 m x v7).length:Int))/\((0:Int)<=(↑v20:Int)/\(↑v20:Int)<(↑Q1.1.length:Int))/\(((qe5 (Ty.prod (Ty.list (Ty.int .i64)) (Ty.prod (Ty.int .i64) (Ty.int .i64))) (ql9 m x v7) v20).2.1 != nI Q1.1 v20)=true->false=true)/\(((qe5 (Ty.prod (Ty.list (Ty.int .i64)) (Ty.prod (Ty.int .i64) (Ty.int .i64))) (ql9 m x v7) v20).2.1 != nI Q1.1 v20)=false->((0:Int)<=(↑v20:Int)/\(↑v20:Int)<(↑(ql9 m x v7).length:Int))/\((0:Int)<=(↑v20:Int)/\(↑v20:Int)<(↑Q1.1.length:Int))/\(((qe5 (Ty.prod (Ty.list (Ty.int .i64)) (Ty.prod (Ty.int .i64) (Ty.int .i64))) (ql9 m x v7) v20).2.2 != nI Q1.1 v20)=true->false=true)/\(((qe5 (Ty.prod (Ty.list (Ty.int .i64)) (Ty.prod (Ty.int .i64) (Ty.int .i64))) (ql9 m x v7) v20).2.2 != nI Q1.1 v20)=false->fits .i64 ((↑v20:Int)+(1:Int))/\∃(v26:Nat),Nat.le v26 m.length/\m.length-v26<m.length-v20/\((↑v20:Int)+(1:Int)=(↑v26:Int)/\True)/\((↑(nL m (0:Nat)).length:Int)=(↑(nL m (0:Nat)).length:Int)/\t=t/\True)/\True/\True))))/\(decide ((↑v20:Int)<(↑Q1.1.length:Int))=false->(qb6 m=true->q3v m)/\(((knR m).2 != (0:Int))=true->false=true)/\(((knR m).2 != (0:Int))=false->∃(v24:Unit),∃(v25:Nat),Nat.le v25 (knR m).1.length/\(((0:Int)=(↑v25:Int)/\True)/\True/\True/\True)/\∀(v26:Nat),Nat.le v26 (knR m).1.length->(decide ((↑v26:Int)<(↑(knR m).1.length:Int))=true->((0:Int)<=(↑v26:Int)/\(↑v26:Int)<(↑(knR m).1.length:Int))/\∃(v29:Nat),∃(v30:Nat),Nat.le v30 (kcR (↑(nL m (0:Nat)).length:Int) t Q0).1.length/\((false=w5y (kcR (↑(nL m (0:Nat)).length:Int) t Q0).1 (nI (knR m).1 v29) v30/\(0:Int)=(↑v30:Int)/\True)/\True/\True/\True)/\∀(v31:Nat),Nat.le v31 (kcR (↑(nL m (0:Nat)).length:Int) t Q0).1.length->(decide ((↑v31:Int)<(↑(kcR (↑(nL m (0:Nat)).length:Int) t (ql9 m x v7)).1.length:Int))=true->((0:Int)<=(↑v31:Int)/\(↑v31:Int)<(↑(kcR (↑(nL m (0:Nat)).length:Int) t (ql9 m x v7)).1.length:Int))/\(w5y (kcR (↑(nL m (0:Nat)).length:Int) t Q0).1 (nI (knR m).1 v29) v31=true->fits .i64 ((↑v31:Int)+(1:Int))/\∃(v35:Nat),Nat.le v35 (kcR (↑(nL m (0:Nat)).length:Int) t Q0).1.length/\(kcR (↑(nL m (0:Nat)).length:Int) t Q0).1.length-v35<(kcR (↑(nL m (0:Nat)).length:Int) t Q0).1.length-v31/\(true=w5y (kcR (↑(nL m (0:Nat)).length:Int) t Q0).1 (nI (knR m).1 v29) v35/\(↑v31:Int)+(1:Int)=(↑v35:Int)/\True)/\True/\True/\True)/\(w5y (kcR (↑(nL m (0:Nat)).length:Int) t Q0).1 (nI (knR m).1 v29) v31=false->fits .i64 ((↑v31:Int)+(1:Int))/\∃(v35:Nat),Nat.le v35 (kcR (↑(nL m (0:Nat)).length:Int) t Q0).1.length/\(kcR (↑(nL m (0:Nat)).length:Int) t Q0).1.length-v35<(kcR (↑(nL m (0:Nat)).length:Int) t Q0).1.length-v31/\((nI (knR m).1 v26==nI (kcR (↑(nL m (0:Nat)).length:Int) t (ql9 m x v7)).1 v31)=w5y (kcR (↑(nL m (0:Nat)).length:Int) t Q0).1 (nI (knR m).1 v29) v35/\(↑v31:Int)+(1:Int)=(↑v35:Int)/\True)/\True/\True/\True))/\(decide ((↑v31:Int)<(↑(kcR (↑(nL m (0:Nat)).length:Int) t (ql9 m x v7)).1.length:Int))=false->(decide (nI (knR m).1 v26<(0:Int))=true->false=true)/\(decide (nI (knR m).1 v26<(0:Int))=false->(decide ((↑x.length:Int)<=nI (knR m).1 v26)=true->false=true)/\(decide ((↑x.length:Int)<=nI (knR m).1 v26)=false->((0:Ty.den qb9)<=nI (knR m).1 v26/\∃(v36:List Int),VlPre m v36 Q1.1 (nI (knR m).1 v26).toNat)/\((!w5y (kcR (↑(nL m (0:Nat)).length:Int) t Q0).1 (nI (knR m).1 v29) v31)=true->false=true)/\((!w5y (kcR (↑(nL m (0:Nat)).length:Int) t Q0).1 (nI (knR m).1 v29) v31)=false->(((0:Ty.den qb9) != (0:Int))=true->false=true)/\(((0:Ty.den qb9) != (0:Int))=false->((0:Int)<=nI (knR m).1 v26/\nI (knR m).1 v26<(↑x.length:Int))/\((!((vlR m Q1.1 (nI (knR m).1 v26)).1==nI x (nI (knR m).1 v26).toNat && (vlR m Q1.1 (nI (knR m).1 v26)).2==(1:Int)))=true->false=true)/\((!((vlR m Q1.1 (nI (knR m).1 v26)).1==nI x (nI (knR m).1 v26).toNat && (vlR m Q1.1 (nI (knR m).1 v26)).2==(1:Int)))=false->fits .i64 ((↑v26:Int)+(1:Int))/\∃(v39:Nat),Nat.le v39 (knR m).1.length/\(knR m).1.length-v39<(knR m).1.length-v26/\((↑v26:Int)+(1:Int)=(↑v39:Int)/\True)/\True/\True/\True)))))))/\(decide ((↑v26:Int)<(↑(knR m).1.length:Int))=false->True/\true=true)))))))))))))))))) ?_
 obtain⟨hF,-⟩:=h
 refine⟨hF.rows,λhsm hx6 t0 t2 hv=>?_⟩
 have hM:=Mk.of hv
 have m1:=hM.rows1
 have m6:=hM.rows6
 have hn:=x3b (n:=6) hsm m1
 have hp1:=hM.pix1
 have hvf:vfB (nL m 0).length t=true:=q5k.2 ⟨⟨ow,ow⟩,ow,ow⟩
 have hqt:∀k,k<m.length->qtR (nL m 0).length t (nL m k) x=if pdE (nL m 0).length t x=0 then((nL m k,smL (nL m k) x,smL (nL m k) x),0) else(([],0,0),pdE (nL m 0).length t x):=λk hk=>by
  have e:rwE (nL m 0).length t (nL m k) x=pdE (nL m 0).length t x:=by unfold rwE; rw[hvf,xe3 hv hk]; rfl
  unfold qtR; rw[e]
 refine⟨ow,(),0,⟨zae _,λh=>absurd h (zbf _)⟩,⟨rfl,rfl⟩,λk ⟨hk,hpd⟩=>⟨λhlt=>?_,λhge=>?_⟩⟩
 ·have hl:=hM.each k hlt
  refine⟨hlt,⟨ow,ow⟩,λhq=>?_⟩
  have h0:pdE (nL m 0).length t x=0:=zan λhne=>by
   rw[hqt k hlt,zai hne] at hq; exact hne hq
  rw[hqt k hlt,zap h0]
  refine⟨by rw[q1t]; omega,qa7,k+1,⟨hlt,λ_=>h0⟩,ow,ow,?_⟩
  unfold ql9
  rw[zcl,zd0]; rfl
 obtain rfl:k=m.length:=ow
 have hL:Lit m t x:=⟨hv,hn,t0,ow,hpd m1⟩
 have hcp:qn3 (ql9 m x m.length):=λi hi=>by
  rw[q1t] at hi
  rw[xe2 hi]
  have:=hM.each i hi
  show(nL m i).length<=_
  omega
 obtain⟨z,hz,hfs⟩:=hL.first
 obtain⟨hLz,hRz⟩:=hL.other hz
 have hft:ftR (nL m 0).length t (ql9 m x m.length) x=(true,0):=by
  unfold ftR
  rw[zai (by rw[hL.vs]; decide),zai (λq=>q hL.pd),xe4.2 λ_ _=>rfl]
 have hkc:(kcR (nL m 0).length t (ql9 m x m.length)).2=0:=by
  have h0:0<(lfL (nL m 0).length t (ql9 m x m.length)).length:=List.length_pos_of_mem hL.mem
  unfold kcR
  rw[zai (by rw[hL.vs]; decide),zai ow]
 have hrx:qs4 m x=(qu0 m x,0):=by unfold qs4; rw[zap hL.sho]
 have hrz:qs4 m z=(qu0 m z,0):=by unfold qs4; rw[zap hLz.sho]
 have hxz:∀i,i<m.length->nI (qu0 m z) i=nI (qu0 m x) i:=λi hi=>by
  rw[hRz.eq i hi,wh5 hM hi]
 have hkr:knR m=(q8m m (nL m 0).length,0):=by unfold knR; rw[zap hv]
 have hkn:∀j,j<(q8m m (nL m 0).length).length->∃p:Nat,nI (q8m m (nL m 0).length) j=p/\p<(nL m 0).length/\knB m (p:Int)=true:=λj hj=>by
  have hmem:nI (q8m m (nL m 0).length) j∈q8m m (nL m 0).length:=by rw[qf2 _ j hj]; exact zbd hj
  obtain⟨p,hp,e⟩:=za4.1 hmem
  obtain⟨h1,h2⟩:=zb7.1 hp
  exact⟨p,e.symm,za2.1 h1,h2⟩
 have hxl:=hL.xl
 have hkl:(q8m m (nL m 0).length).length<=(nL m 0).length:=by
  unfold q8m; rw[za3]; exact zah (List.length_filter_le _ _) (by simp)
 have hKl:(kcR (nL m 0).length t (ql9 m x m.length)).1.length<=1000000:=by
  have key:∀(l:List (List Int)) k,(q9t l k).length<=k:=λl k=>by
   induction k with
   | zero=>exact zad _
   | succ k ih=>
    rw[q9t]
    split
    ·rw[zas]; simp; omega
    ·omega
  unfold kcR
  split
  ·simp
  ·split
   ·simp
   ·have:=key (lfL (nL m 0).length t (ql9 m x m.length)) ((nL m 0).length:Int).toNat
    dsimp only
    omega
 rw[hft,hfs,hrx,hkr]
 dsimp only
 rw[hrz]
 dsimp only
 rw[qw8,qw8,q1t]
 refine⟨⟨hcp,ow⟩,hcp,hcp,λq=>absurd rfl q,λ_=>⟨λq=>(by cases q),λ_=>⟨λq=>absurd rfl q,λ_=>⟨λq=>absurd hkc q,λ_=>⟨ow,by have:=hLz.xl; omega,λq=>absurd rfl q,λ_=>⟨λq=>absurd rfl q,λ_=>⟨λq=>absurd rfl q,λ_=>⟨λq=>absurd rfl q,λ_=>⟨(),0,zae _,rfl,λk hk=>⟨λhlt=>?_,λhge=>?_⟩⟩⟩⟩⟩⟩⟩⟩⟩⟩
 ·have e1:=hxz k hlt
  have e2:=q6f (x:=x) hlt
  have e3:qe5 (.prod (.list (.int .i64)) (.prod (.int .i64) (.int .i64))) (ql9 m x m.length) k=(nL m k,smL (nL m k) x,smL (nL m k) x):=xe2 hlt
  rw[e3]
  exact⟨hlt,hlt,λq=>absurd e1.symm q,λ_=>⟨hlt,hlt,λq=>absurd e2.symm q,λ_=>⟨hlt,hlt,λq=>absurd e2.symm q,λ_=>⟨qa7,k+1,hlt,ow,ow⟩⟩⟩⟩
 refine⟨λhv=>w93 hv,λq=>absurd rfl q,λ_=>⟨(),0,zae _,rfl,λj hj hlt=>?_⟩⟩
 obtain⟨p,hp,hpn,hpk⟩:=hkn j hlt
 have hin:=(hL.known hpn hpk).1
 have hfx:=(hL.value hpn hpk).fx
 generalize(kcR (nL m 0).length t (ql9 m x m.length)).1=K at *
 have hthr:w5y K (p:Int) K.length=true:=by
  unfold w5y
  rw[zcs,zcd]
  exact⟨_,hin,by simp⟩
 refine⟨hlt,j,0,zae _,⟨by unfold w5y; simp,rfl⟩,λi hi=>?_⟩
 rw[hp]
 refine⟨λhil=>⟨hil,λhb=>⟨qa7,i+1,hil,ow,?_,ow⟩,λhb=>⟨qa7,i+1,hil,ow,?_,ow⟩⟩,λhil=>⟨λq=>?_,λ_=>⟨λq=>?_,λ_=>⟨⟨ow,x,?_⟩,λq=>?_,λ_=>⟨λq=>absurd trivial q,⟨ow,ow⟩,λq=>?_,λ_=>⟨qa7,j+1,hlt,ow,ow⟩⟩⟩⟩⟩⟩
 ·unfold w5y at hb ⊢
  rw[zco,List.any_append,hb]; rfl
 ·unfold w5y at hb ⊢
  rw[zco,List.any_append,hb,zak hil,qf2 _ i hil]; simp
 ·have q:(p:Int)<0:=q
  omega
 ·omega
 ·exact hL.value hpn hpk
 ·obtain rfl:i=K.length:=ow
  rw[hthr] at q; cases q
 ·rw[hfx.eq] at q; simp at q
open Go.ChangeShapes Go.WideShapes Go.ChangeAt Go.RowKit Go.Deep Ls
theorem own:ownKnob Tryz.prog.godebug=none:=kr
theorem laidOut:laidOutB Tryz.prog=true:=kr
theorem ye8 {H:Type} {enc:TypeId × Value->H} {W:World} {t e:TypeId} {v:Value} {d:DataW H} {p:List MemPlace} (ht:Tryz.prog.underlying t=some (.slice e)) (he:Tryz.prog.underlying e=some (.int .i64)) (ce:Tryz.prog.cellsOf e=1)
  (hv:∃a l c,v=.slice a l c) (h:DataW.Trod enc Tryz.prog W 0 (λ_=>true) true t v d p):∃a l c zs,v=.slice a l c/\SI W a l c zs:=by
 obtain⟨a,l,c,rfl⟩:=hv
 obtain⟨fuel,hf⟩:=h
 rcases open_ints ht he ce hf with⟨hcs,_⟩ | ⟨x,l',c',zs,hcs,_,hl,hm,hz,_,hcell,hwz⟩
 ·simp[Value.cells] at hcs
  obtain⟨rfl,rfl,rfl⟩:=hcs
  exact⟨_,_,_,[],rfl,SI.nil W⟩
 ·simp[Value.cells] at hcs
  obtain⟨rfl,rfl,rfl⟩:=hcs
  have hz':zs.length=c:=by grind
  refine⟨_,_,_,zs.take l,rfl,by grind,hl,hm,λ_=>⟨x,rfl,λk hk=>?_⟩⟩
  grind [nth]
theorem ye9 {H:Type} {enc:TypeId × Value->H} {W:World} {t e q:TypeId} {v:Value} {d:DataW H} {p:List MemPlace} (ht:Tryz.prog.underlying t=some (.slice e)) (he:Tryz.prog.underlying e=some (.slice q)) (hq:Tryz.prog.underlying q=some (.int .i64))
  (ce:Tryz.prog.cellsOf e=1) (cq:Tryz.prog.cellsOf q=1)
  (hv:∃a l c,v=.slice a l c) (h:DataW.Trod enc Tryz.prog W 0 (λ_=>true) true t v d p):∃a l c m,v=.slice a l c/\SM W a l c m:=by
 obtain⟨a,l,c,rfl⟩:=hv
 obtain⟨fuel,hf⟩:=h
 rcases open_int_rows ht he hq ce cq hf with⟨hcs,_⟩ | ⟨x,l',c',A,L,C,Z,hcs,_,hl,hm,_,hr⟩
 ·simp[Value.cells] at hcs
  obtain⟨rfl,rfl,rfl⟩:=hcs
  exact⟨_,_,_,[],rfl,SM.nil W⟩
 ·simp[Value.cells] at hcs
  obtain⟨rfl,rfl,rfl⟩:=hcs
  refine⟨_,_,_,(List.range l).map (λr=>(Z r).take (L r)),rfl,by simp,hl,hm,λ_=>⟨x,rfl,λk hk=>?_⟩⟩
  obtain⟨h1,h2,h3,h4,_,h6,h7⟩:=hr k ow
  have e0:nthL ((List.range l).map (λr=>(Z r).take (L r))) k=(Z k).take (L k):=by grind [nthL]
  have e1:((Z k).take (L k)).length=L k:=by grind
  rw[e0,e1]
  refine⟨A k,C k,h1,e1,h2,h3,λhp=>?_⟩
  cases hA:A k with
  | none=>grind
  | some a'=>
   refine⟨a',rfl,λj hj=>?_⟩
   grind [nth]
open Go Go.RowKit Eng Ls
theorem x3c {w:World} {A:Option Addr} {n c:Nat} {m:List (List Int)} (s:SM w A n c m):x9d m:=by
 have hl:=s.len
 have hn:=s.nmax
 refine⟨ow,λi hi=>?_⟩
 obtain⟨ad,_,h⟩:=s.at_ ow
 obtain⟨A',c',_,h2⟩:=h i ow
 have e:nL m i=nthL m i:=by
  rw[qk3 m i hi]
  unfold nthL
  rw[zax,zak hi]
  rfl
 rw[e]
 exact h2.nmax
theorem x3d {w:World} {A:Option Addr} {n c:Nat} {l:List Int} (s:SI w A n c l):l.length<=9223372036854775807:=by
 have:=s.nmax
 have:=s.len
 omega
end Go.Proofs.YtnchigbbjajiiaaGreat
