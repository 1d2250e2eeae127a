/- The greatest share of a mask, and its order: contracts by the engine. No condition. -/
import Derived.Test.YtnchigbbjajiiaaGreatQ7
import Derived.Test.YtnchigbbjajiiaaGreatEngT2
set_option linter.unusedVariables false
set_option linter.unusedSimpArgs false
namespace Go.Proofs.YtnchigbbjajiiaaGreat
open Go Go.RowKit Eng
structure wa2 (l:List (List Int)) (k:Int):Prop where
 len:l.length<=1000000
 lar:∀i,i<l.length->x05 (nL l i) k
 shr:∀i,i<l.length->xm0 (nL l i) (q3p (nL l i) k.toNat)
def x1a (l:List (List Int)) (k:Nat):List (List Int × (Int × Int)):=l.map λh=>(h,shR h (q3p h k))
theorem x2v {l:List (List Int)} {k i:Nat} (h:i<l.length):((x1a l k).map λq=>((q.1,q.2,()):qa5 [tInts,qo4]))[i]? = some (nL l i,shR (nL l i) (q3p (nL l i) k),()):=by
 grind [x1a,List.map_map,List.getElem?_eq_getElem,qm3]
abbrev yp5:q2y:=xw3 [tMask,tInt] [tInts,qo4] (λx=>wa2 x.1 x.2.1) (λx=>(x1a x.1 x.2.1.toNat).map λq=>(q.1,q.2,()))
def yp6 (l:List (List Int)):Nat->Option Inv
 | 0=>some (Inv.of [8] 1 (λi:Nat=>[(8,.lit (.int .i64 i))]) (λi=>[.cnt (some i)]) (λi=>i<=l.length) (λi=>l.length-i))
 | _=>none
theorem xm9:q1i Tryz.prog 131 yp5:=by
 refine yp4 (snd (SpecsOk.cons xm8 (SpecsOk.cons w7y (SpecsOk.nil _)))) rfl Tryz.func131 rfl rfl rfl [12] 6 (λx=>[(7,.lit (.int .i64 (x.1:List (List Int)).length)),(8,.lit (.int .i64 0))]) (λx=>yp6 x.1) kq kq (λ_=>by kernel_rfl) dc (λx l A cp=>⟨rfl,rfl,rfl,rfl,trivial⟩) ?_
 rintro⟨l,k,⟨⟩⟩ q h
 revert l k
 intro(l:List (List Int)) (k:Int) (h:wa2 l k)
 refine vcs (let Q0:=x1a l k.toNat; let Q1:=(l,k,PUnit.unit); ∃(v0:Unit),∃(v1:Nat),Nat.le v1 l.length/\(((0:Int)=(↑v1:Int)/\True)/\some (0:Nat)=some v1/\True)/\∀(v2:Nat),Nat.le v2 l.length->(decide ((↑v2:Int)<(↑l.length:Int))=true->((0:Int)<=(↑v2:Int)/\(↑v2:Int)<(↑l.length:Int))/\x05 (nL l v2) k/\xm0 (nL l v2) (q3p (nL l v2) k.toNat)/\Value.func (Fn.yield q) #[] #[]=Value.func (Fn.yield (qj1.l (q9m (Ty.list (Ty.int .i64)) [tInt] [tInts,qo4] [(12:Nat)] (6:Nat) Q1 (List.map (λ(v5:List Int × Int × Int)=>(v5.1,v5.2,())) Q0) q))) #[] #[]/\(qj1.L (q9m (Ty.list (Ty.int .i64)) [tInt] [tInts,qo4] [(12:Nat)] (6:Nat) Q1 (List.map (λ(v5:List Int × Int × Int)=>(v5.1,v5.2,())) Q0) q))[v2]?=some (nL l v2,((shR (nL l v2) (q3p (nL l v2) k.toNat)).1,(shR (nL l v2) (q3p (nL l v2) k.toNat)).2),())/\(fits .i64 ((↑v2:Int)+(1:Int))/\∃(v5:Nat),Nat.le v5 l.length/\l.length-v5<l.length-v2/\((↑v2:Int)+(1:Int)=(↑v5:Int)/\True)/\some (v2+(1:Nat))=some v5/\True)/\True)/\(decide ((↑v2:Int)<(↑l.length:Int))=false->v2=(qj1.L (q9m (Ty.list (Ty.int .i64)) [tInt] [tInts,qo4] [(12:Nat)] (6:Nat) Q1 (List.map (λ(v5:List Int × Int × Int)=>(v5.1,v5.2,())) Q0) q)).length)) ?_
 have hl:=h.len
 refine⟨(),0,zae _,⟨rfl,rfl⟩,λi hi=>⟨λhlt=>⟨hlt,h.lar i hlt,h.shr i hlt,rfl,x2v hlt,qa3,i+1,hlt,ow,by rfl,rfl⟩,λhge=>?_⟩⟩
 obtain rfl:i=l.length:=ow
 show _=((x1a l k.toNat).map λq=>((q.1,q.2,()):qa5 [tInts,qo4])).length
 rw[za8]; exact(za8 _).symm
abbrev y0m:qb3:=xv8 false none [tMask,tInt] (λ_=>True) (λx=>.clo 131 (.cons (.imm (.cons (.dat (.list (.int .i64)) x.1) .nil) 0) (.cons (.imm (.cons (.lit (.int .i64 x.2.1)) .nil) 0) .nil)))
theorem xn0:Meets Tryz.prog 84 y0m:=by
 refine w3w (snd (SpecsOk.nil _)) Tryz.func84 rfl rfl (λ_ _=>none) (λ_=>by kernel_rfl) dc ?_
 rintro⟨l,k,⟨⟩⟩ -
 revert l k
 intro(l:List (List Int)) (k:Int)
 refine vcr (((l=l/\True)/\(0:Nat)=(0:Nat))/\((k=k/\True)/\(0:Nat)=(0:Nat))/\True) ?_
 simp
def ql1 (l:List (List Int)) (k:Nat):Nat->Int × Int
 | 0=>(0,1)
 | i+1=>wn3 (ql1 l k i) (shR (nL l i) (q3p (nL l i) k))
theorem qz9 {l:List (List Int)} {k:Int} (h:wa2 l k):∀i,i<=l.length->q2q (ql1 l k.toNat i)
 | 0,_=>x2u
 | i+1,hi=>xm2 (qz9 h i ow) (wg7 (h.shr i ow))
abbrev y0n:AV:=.cons (.lit (.int .i64 0)) (.cons (.lit (.int .i64 0)) .nil)
def yp7 (l:List (List Int)) (k:Int):Nat->Option Inv
 | 0=>some (Inv.of [] 3 (λ_:Nat=>[]) (λi=>[.box 43 y0n,.box 43 (.cons (.lit (.int .i64 (ql1 l k.toNat i).1)) (.cons (.lit (.int .i64 (ql1 l k.toNat i).2)) .nil)),.box 121 (.cons (.clo 193 (.cons (.box 1 0) .nil)) .nil)]) (λi=>i<=l.length) (λi=>i))
 | _=>none
abbrev y0o:qb3:=qe8 true none [tMask,tInt] [qo4] (λx=>wa2 x.1 x.2.1) (λx=>(ql1 x.1 x.2.1.toNat x.1.length,()))
theorem wz4:Meets Tryz.prog 107 y0o:=by
 refine meets (y0a (SpecsOk.cons xm1 (SpecsOk.cons xn0 (SpecsOk.cons w70 (SpecsOk.nil _)))) (ItsOk.cons xm9 ItsOk.nil) (BxsOk.cons w7z BxsOk.nil)) Tryz.func107 rfl rfl (λx=>yp7 x.1 x.2.1) (λ_=>by kernel_rfl) dc ?_
 rintro⟨l,k,⟨⟩⟩ h
 revert l k
 intro(l:List (List Int)) (k:Int) (h:wa2 l k)
 refine vcs (let Q0:=ql1 l k.toNat l.length; True/\True/\wa2 l k/\∃(v0:Unit),∃(v1:Nat),Nat.le v1 l.length/\v1=(0:Nat)/\(((0:Int)=(0:Int)/\(0:Int)=(0:Int)/\True)/\((0:Int)=(ql1 l k.toNat v1).1/\(1:Int)=(ql1 l k.toNat v1).2/\True)/\((True/\True)/\True)/\True)/\∀(v2:Nat),Nat.le v2 l.length->(∀(v4:List Int × qa5._f [qo4] ⟨qa5._f [] PUnit.unit,PUnit.unit⟩),(List.map (λ(v6:List Int × Int × Int)=>(v6.1,v6.2,())) (x1a l k.toNat))[v2]?=some v4->(q2q ((ql1 l k.toNat v2).1,(ql1 l k.toNat v2).2)/\q2q (v4.2.1.1,v4.2.1.2))/\∃(v6:Nat),Nat.le v6 l.length/\v6=v2+(1:Nat)/\((0:Int)=(0:Int)/\(0:Int)=(0:Int)/\True)/\((wn3 ((ql1 l k.toNat v2).1,(ql1 l k.toNat v2).2) (v4.2.1.1,v4.2.1.2)).1=(ql1 l k.toNat v6).1/\(wn3 ((ql1 l k.toNat v2).1,(ql1 l k.toNat v2).2) (v4.2.1.1,v4.2.1.2)).2=(ql1 l k.toNat v6).2/\True)/\((True/\True)/\True)/\True)/\(v2=(List.map (λ(v5:List Int × Int × Int)=>(v5.1,v5.2,())) (x1a l k.toNat)).length->True/\(ql1 l k.toNat v2).1=Q0.1/\(ql1 l k.toNat v2).2=Q0.2/\True)) ?_
 refine⟨h,(),0,zae _,rfl,⟨rfl,rfl⟩,λi hi=>⟨λd hd=>?_,λhe=>?_⟩⟩
 ·have hd:((x1a l k.toNat).map λq=>((q.1,q.2,()):qa5 [tInts,qo4]))[i]? = some d:=hd
  have hlt:i<l.length:=by
   have:=(zag.1 hd).1
   rw[za8] at this
   exact Nat.lt_of_lt_of_eq this (za8 _)
  rw[x2v hlt] at hd
  obtain rfl:=zaa hd
  exact⟨⟨qz9 h i hi,wg7 (h.shr i hlt)⟩,i+1,hlt,rfl,rfl,rfl⟩
 ·have he:i=((x1a l k.toNat).map λq=>((q.1,q.2,()):qa5 [tInts,qo4])).length:=he
  rw[za8] at he
  obtain rfl:i=l.length:=he.trans (za8 _)
  simp
def w0h (m:List (List Int)) (k least:Int):Int:=if validB m=false then 1 else if inB k least (nL m 0).length=false then 7 else 0
abbrev yp8:qb3:=qe8 true none [tMask,tInt,tInt] [tInt] (λ_=>True) (λx=>(w0h x.1 x.2.1 x.2.2.1,()))
theorem w73:Meets Tryz.prog 83 yp8:=by
 refine mt0 (SpecsOk.cons q6w (SpecsOk.cons wk4 (SpecsOk.nil _))) Tryz.func83 ?_
 rintro⟨m,k,q,⟨⟩⟩ -
 revert m k q
 intro(m:List (List Int)) (k:Int) (q:Int)
 refine vcs (True/\((!validB m)=true->(1:Int)=w0h m k q)/\((!validB m)=false->((0:Int)<=(0:Int)/\(0:Int)<(↑m.length:Int))/\True/\((!inB k q (↑(nL m (0:Nat)).length:Int))=true->(7:Int)=w0h m k q)/\((!inB k q (↑(nL m (0:Nat)).length:Int))=false->(0:Int)=w0h m k q))) ?_
 refine⟨λhv=>(zao hv).symm,λhv=>⟨by have:=(Mk.of hv).rows1; omega,λhb=>?_,λhb=>?_⟩⟩
 all_goals grind [w0h]
structure w47 (m:List (List Int)):Prop where
 cir:validB m=true->q99 m
 shs:validB m=true->∀k:Nat,k<=(nL m 0).length->wa2 (qf2 m).1 k
def grQ (m:List (List Int)) (k:Int):Int × Int:=if w0h m k 0=0 then ql1 (qf2 m).1 k.toNat (qf2 m).1.length else(0,0)
theorem x58 {m:List (List Int)} {k q:Int} (h:w0h m k q=0) (hq:0<=q:=by decide):validB m=true/\∃n:Nat,k=n/\n<=(nL m 0).length:=by
 unfold w0h at h
 split at h
 ·cases h
 ·rename_i hv
  split at h
  ·cases h
  ·rename_i hb
   have hb:=inB_iff.1 (by cases e:inB k q (nL m 0).length with | true=>rfl | false=>grind)
   exact⟨by grind,k.toNat,ow,ow⟩
abbrev yb6:qb3:=qe8 true none [tMask,tInt] [qo4,tInt] (λx=>w47 x.1) (λx=>(grQ x.1 x.2.1,w0h x.1 x.2.1 0,()))
theorem w2f:Meets Tryz.prog 63 yb6:=by
 refine mt0 (SpecsOk.cons w73 (SpecsOk.cons q5u (SpecsOk.cons wz4 (SpecsOk.nil _)))) Tryz.func63 ?_
 rintro⟨m,k,⟨⟩⟩ h
 revert m k
 intro(m:List (List Int)) (k:Int) (h:w47 m)
 refine vcs (let Q0:=ql1 (qf2 m).1 k.toNat (qf2 m).1.length; True/\((w0h m k (0:Int) != (0:Int))=true->((0:Int)=(grQ m k).1/\(0:Int)=(grQ m k).2/\True)/\w0h m k (0:Int)=w0h m k (0:Int)/\True)/\((w0h m k (0:Int) != (0:Int))=false->(validB m=true->q99 m)/\wa2 (qf2 m).1 k/\(Q0.1=(grQ m k).1/\Q0.2=(grQ m k).2/\True)/\(0:Int)=w0h m k (0:Int)/\True)) ?_
 refine⟨λhe=>?_,λhe=>?_⟩
 ·unfold grQ; grind
 ·obtain⟨hv,n,rfl,hn⟩:=x58 he
  unfold grQ; rw[zao he]
  exact⟨h.cir,h.shs hv n hn,⟨rfl,rfl⟩,he.symm⟩
def hlf (r:Int × Int):Bool:=decide (r.2<=2*r.1)
abbrev yp9:qb3:=qe8 true none [qo4] [.bool] (λx=>q2q x.1) (λx=>(hlf x.1,()))
theorem w74:Meets Tryz.prog 85 yp9:=by
 refine mt0 (SpecsOk.nil _) Tryz.func85 ?_
 rintro⟨⟨a,b⟩,⟨⟩⟩ h
 revert a b
 intro(a:Int) (b:Int) (h:q2q (a,b))
 refine vcs (fits .i64 ((2:Int)*a)/\decide (b<=(2:Int)*a)=hlf (a,b)) ?_
 have h1:=h.n
 obtain⟨h1,h2⟩:=h1
 dsimp only at h1 h2
 exact⟨qa3,rfl⟩
def ordF (l:List (List Int)):Nat->Nat->Nat
 | 0,k=>k
 | f+1,k=>if hlf (ql1 l (k+1) l.length)=false then ordF l f (k+1) else k
def ordL (m:List (List Int)):Nat:=ordF (qf2 m).1 (nL m 0).length 0
theorem w48 {l:List (List Int)} {n k:Nat} (h:k<n):ordF l (n-k) k=if hlf (ql1 l (k+1) l.length)=false then ordF l (n-(k+1)) (k+1) else k:=by
 obtain⟨f,hf⟩:∃f,n-k=f+1:=⟨n-k-1,ow⟩
 grind [ordF]
structure x1b (l:List (List Int)) (n k:Nat):Prop where
 le:k<=n
 eq:ordF l n 0=ordF l (n-k) k
def yq0 (l:List (List Int)) (n:Nat):Nat->Option Inv
 | 0=>some (Inv.of [4] 0 (λk:Nat=>[(4,.lit (.int .i64 k))]) (λ_=>[]) (λk=>x1b l n k) (λk=>n-k))
 | _=>none
abbrev x1c:qb3:=qe8 true none [tMask] [tInt] (λx=>validB x.1=true/\w47 x.1) (λx=>((ordL x.1:Nat),()))
theorem wn5:Meets Tryz.prog 72 x1c:=by
 refine mts (SpecsOk.cons q5u (SpecsOk.cons wz4 (SpecsOk.cons w74 (SpecsOk.nil _)))) Tryz.func72 (λx=>yq0 (qf2 x.1).1 (nL x.1 0).length) ?_
 rintro⟨m,⟨⟩⟩ h
 revert m
 intro(m:List (List Int)) (h:validB m=true/\w47 m)
 refine vcs ((validB m=true->q99 m)/\∃(v0:Unit),∃(v1:Nat),x1b (qf2 m).1 (nL m (0:Nat)).length v1/\(((0:Int)=(↑v1:Int)/\True)/\True)/\∀(v2:Nat),x1b (qf2 m).1 (nL m (0:Nat)).length v2->((0:Int)<=(0:Int)/\(0:Int)<(↑m.length:Int))/\(decide ((↑v2:Int)<(↑(nL m (0:Nat)).length:Int))=true->fits .i64 ((↑v2:Int)+(1:Int))/\wa2 (qf2 m).1 ((↑v2:Int)+(1:Int))/\q2q ((ql1 (qf2 m).1 ((↑v2:Int)+(1:Int)).toNat (qf2 m).1.length).1,(ql1 (qf2 m).1 ((↑v2:Int)+(1:Int)).toNat (qf2 m).1.length).2)/\((!hlf ((ql1 (qf2 m).1 ((↑v2:Int)+(1:Int)).toNat (qf2 m).1.length).1,(ql1 (qf2 m).1 ((↑v2:Int)+(1:Int)).toNat (qf2 m).1.length).2))=true->fits .i64 ((↑v2:Int)+(1:Int))/\∃(v6:Nat),x1b (qf2 m).1 (nL m (0:Nat)).length v6/\(nL m (0:Nat)).length-v6<(nL m (0:Nat)).length-v2/\((↑v2:Int)+(1:Int)=(↑v6:Int)/\True)/\True)/\((!hlf ((ql1 (qf2 m).1 ((↑v2:Int)+(1:Int)).toNat (qf2 m).1.length).1,(ql1 (qf2 m).1 ((↑v2:Int)+(1:Int)).toNat (qf2 m).1.length).2))=false->(↑v2:Int)=(↑(ordL m):Int)))/\(decide ((↑v2:Int)<(↑(nL m (0:Nat)).length:Int))=false->(↑v2:Int)=(↑(ordL m):Int))) ?_
 have hM:=Mk.of h.1
 have m1:=hM.rows1
 have m10:=hM.pix10
 have hc:=h.2.shs h.1
 refine⟨h.2.cir,(),0,⟨zae _,rfl⟩,rfl,λk hk=>⟨ow,λhlt=>?_,λhge=>?_⟩⟩
 ·have e:((k:Int)+1).toNat=k+1:=ow
  have e2:((k:Int)+1)=((k+1:Nat):Int):=by rfl
  have hs:=hc (k+1) ow
  have hl:=qz9 hs (qf2 m).1.length (zab _)
  rw[zaq] at hl
  rw[e,e2]
  refine⟨qa3,hs,hl,λhf=>⟨qa3,k+1,⟨ow,?_⟩,ow,rfl⟩,λhf=>?_⟩
  ·rw[hk.eq,w48 hlt]
   grind
  ·have:ordL m=k:=by
    unfold ordL
    rw[hk.eq,w48 hlt,zak (by grind)]
   omega
 ·have hle:=hk.le
  have e:k=(nL m 0).length:=ow
  have:ordL m=k:=by
   unfold ordL
   rw[hk.eq,e,Nat.sub_self]; rfl
  omega
def q66 (m:List (List Int)):Int × Int:=if validB m=true then((ordL m:Nat),0) else(0,1)
abbrev yb7:qb3:=qe8 true none [tMask] [tInt,tInt] (λx=>w47 x.1) (λx=>((q66 x.1).1,(q66 x.1).2,()))
theorem q9n:Meets Tryz.prog 26 yb7:=by
 refine mt0 (SpecsOk.cons q6w (SpecsOk.cons wn5 (SpecsOk.nil _))) Tryz.func26 ?_
 rintro⟨m,⟨⟩⟩ h
 revert m
 intro(m:List (List Int)) (h:w47 m)
 refine vcs (True/\((!validB m)=true->(0:Int)=(q66 m).1/\(1:Int)=(q66 m).2/\True)/\((!validB m)=false->(validB m=true/\w47 m)/\(↑(ordL m):Int)=(q66 m).1/\(0:Int)=(q66 m).2/\True)) ?_
 refine⟨λhv=>?_,λhv=>⟨⟨hv,h⟩,?_⟩⟩
 ·unfold q66; grind
 ·unfold q66; grind
def x59 (l:List Int):Bool:=(decide (7<l.length) && decide (l.length<=10)) || decide (20<l.length)
def w8l (m:List (List Int)):Bool:=!(m.any x59) && decide (m.length<=8)
structure w75 (m:List (List Int)) (k:Nat):Prop where
 le:k<=m.length
 ok:∀i,i<k->x59 (nL m i)=false
def yb8 (m:List (List Int)):Nat->Option Inv
 | 0=>some (Inv.of [7] 0 (λk:Nat=>[(7,.lit (.int .i64 k))]) (λ_=>[]) (λk=>w75 m k) (λk=>m.length-k))
 | _=>none
abbrev yq1:qb3:=qe8 true none [tMask] [.bool] (λx=>x.1.length<=9223372036854775807) (λx=>(w8l x.1,()))
theorem w76:Meets Tryz.prog 18 yq1:=by
 refine mts (SpecsOk.nil _) Tryz.func18 (λx=>yb8 x.1) ?_
 rintro⟨m,⟨⟩⟩ h
 revert m
 intro(m:List (List Int)) (h:m.length<=9223372036854775807)
 refine vcs (∃(v0:Unit),∃(v1:Nat),w75 m v1/\(((0:Int)=(↑v1:Int)/\True)/\True)/\∀(v2:Nat),w75 m v2->(decide ((↑v2:Int)<(↑m.length:Int))=true->((0:Int)<=(↑v2:Int)/\(↑v2:Int)<(↑m.length:Int))/\(decide ((7:Int)<(↑(nL m v2).length:Int))=true->(decide ((↑(nL m v2).length:Int)<=(10:Int))=true->false=w8l m)/\(decide ((↑(nL m v2).length:Int)<=(10:Int))=false->(decide ((20:Int)<(↑(nL m v2).length:Int))=true->false=w8l m)/\(decide ((20:Int)<(↑(nL m v2).length:Int))=false->fits .i64 ((↑v2:Int)+(1:Int))/\∃(v8:Nat),w75 m v8/\m.length-v8<m.length-v2/\((↑v2:Int)+(1:Int)=(↑v8:Int)/\True)/\True)))/\(decide ((7:Int)<(↑(nL m v2).length:Int))=false->(decide ((20:Int)<(↑(nL m v2).length:Int))=true->false=w8l m)/\(decide ((20:Int)<(↑(nL m v2).length:Int))=false->fits .i64 ((↑v2:Int)+(1:Int))/\∃(v7:Nat),w75 m v7/\m.length-v7<m.length-v2/\((↑v2:Int)+(1:Int)=(↑v7:Int)/\True)/\True)))/\(decide ((↑v2:Int)<(↑m.length:Int))=false->decide ((↑m.length:Int)<=(8:Int))=w8l m)) ?_
 refine⟨(),0,⟨zae _,λi hi=>by omega⟩,rfl,λk hk=>⟨λhlt=>?_,λhge=>?_⟩⟩
 ·have bad:x59 (nL m k)=true->false=w8l m:=λq=>by
   grind [w8l,List.any_eq_true,nL,qn7]
  have good:x59 (nL m k)=false->fits IntKind.i64 (↑k+1)/\∃v8,w75 m v8/\m.length-v8<m.length-k/\(↑k+1:Int)=↑v8:=λq=>⟨qa3,k+1,⟨hlt,λi hi=>by
   by_cases e:i=k
   ·grind
   ·exact hk.ok i ow⟩,ow,by rfl⟩
  grind [x59]
 ·have hle:=hk.le
  have e:m.any x59=false:=by
   rw[zbr]
   intro x hx
   obtain⟨i,hi,rfl⟩:=zby.1 hx
   have:=hk.ok i ow
   grind [qm3]
  unfold w8l
  grind
end Go.Proofs.YtnchigbbjajiiaaGreat
