/- The document's shares: contracts by the engine. No condition. -/
import Derived.Test.YtempacilejhbgaaGreatQ10
set_option linter.unusedVariables false
set_option linter.unusedSimpArgs false
namespace Go.Proofs.YtempacilejhbgaaGreat
open Go Go.RowKit Eng
abbrev x22:qb9:=qg2 true none [tInt] [tInt] (λx=>qe8 1000000000 x.1) (λx=>(qy3 x.1,()))
theorem w3c:Meets Tryz.prog 103 x22:=by
 refine meets (snd (SpecsOk.nil _)) Tryz.func103 rfl rfl (λ_ _=>none) (λ_=>by kernel_rfl) (by decide) ?_
 rintro⟨x,⟨⟩⟩ h
 revert x
 intro(x:Int) (h:qe8 1000000000 x)
 refine @qd8 _ ((decide (x<(0:Int))=true->fits .i64 ((0:Int)-x)/\(0:Int)-x=qy3 x)/\(decide (x<(0:Int))=false->x=qy3 x)) (by kernel_rfl) ?_
 try simp only[z0,z1,z2,z3,z4,z5,z6,z7,z8,z9,z10,Int.reduceEq,z11,z12,z13,z14,z15,z16,z17,z18,z19,z20,z21,z22,z23,z24,z25,z26,z27,z28,z29,z30,Int.reduceLE,Int.reduceLT,z31,z32,z33,z34,qa3]
 try simp only[qb3,qb4,qc7,z31,z32,z2,z1]
 unfold qe8 at h
 unfold qy3
 exact⟨λq=>⟨qa7 (by omega) (by omega),by omega⟩,λq=>by omega⟩
def xx9 (n d:Int):Nat->Option Inv
 | 0=>some (Inv.of [5,6] 1 (λs:Int × Int=>[(5,.lit (.int .i64 s.1)),(6,.lit (.int .i64 s.2))]) (λ_=>[.box 34 x0h]) (λs=>((0<=s.1/\s.1<=BIG)/\0<=s.2/\s.2<=BIG)/\gcdI s.1 s.2=gcdI n d) (λs=>s.2.toNat))
 | _=>none
abbrev x23:qb9:=qg2 true none [tInt,tInt] [qz1] (λx=>(0<=x.1/\x.1<=BIG)/\0<x.2.1/\x.2.1<=BIG) (λx=>(ofR x.1 x.2.1,()))
theorem w3d:Meets Tryz.prog 104 x23:=by
 refine meets (snd (SpecsOk.nil _)) Tryz.func104 rfl rfl (λx=>xx9 x.1 x.2.1) (λ_=>by kernel_rfl) (by decide) ?_
 rintro⟨n,d,⟨⟩⟩ h
 revert n d
 intro(n:Int) (d:Int) (h:(0<=n/\n<=BIG)/\0<d/\d<=BIG)
 refine @qd8 _ (∃(v0:Unit),∃(v1:Int × Int),((((0:Int)<=v1.1/\v1.1<=BIG)/\(0:Int)<=v1.2/\v1.2<=BIG)/\gcdI v1.1 v1.2=gcdI n d)/\((n=v1.1/\d=v1.2/\True)/\((0:Int)=(0:Int)/\(0:Int)=(0:Int)/\True)/\True)/\∀(v2:Int × Int),(((0:Int)<=v2.1/\v2.1<=BIG)/\(0:Int)<=v2.2/\v2.2<=BIG)/\gcdI v2.1 v2.2=gcdI n d->(decide ((0:Int)<v2.2)=true->v2.2≠(0:Int)/\∃(v5:Int × Int),((((0:Int)<=v5.1/\v5.1<=BIG)/\(0:Int)<=v5.2/\v5.2<=BIG)/\gcdI v5.1 v5.2=gcdI n d)/\v5.2.toNat<v2.2.toNat/\(v2.2=v5.1/\Int.tmod v2.1 v2.2=v5.2/\True)/\((0:Int)=(0:Int)/\(0:Int)=(0:Int)/\True)/\True)/\(decide ((0:Int)<v2.2)=false->v2.1≠(0:Int)/\fits .i64 (Int.tdiv n v2.1)/\v2.1≠(0:Int)/\fits .i64 (Int.tdiv d v2.1)/\Int.tdiv n v2.1=(ofR n d).1/\Int.tdiv d v2.1=(ofR n d).2/\True)) (by kernel_rfl) ?_
 try simp only[z0,z1,z2,z3,z4,z5,z6,z7,z8,z9,z10,Int.reduceEq,z11,z12,z13,z14,z15,z16,z17,z18,z19,z20,z21,z22,z23,z24,z25,z26,z27,z28,z29,z30,Int.reduceLE,Int.reduceLT,z31,z32,z33,z34,qa3]
 try simp only[qb3,qb4,qc7,z31,z32,z2,z1]
 have hB:BIG=4000000000000000000:=rfl
 refine⟨(),(n,d),⟨⟨⟨by dsimp only; omega,by dsimp only; omega⟩,by dsimp only; omega,by dsimp only; omega⟩,rfl⟩,⟨rfl,rfl⟩,?_⟩
 rintro⟨x,y⟩ ⟨⟨⟨h1,h2⟩,h3,h4⟩,h5⟩
 dsimp only at h1 h2 h3 h4 h5 ⊢
 refine⟨λhy=>⟨by omega,(y,x.tmod y),⟨⟨⟨h3,h4⟩,?_,?_⟩,?_⟩,?_,rfl,rfl⟩,λhy=>?_⟩
 ·rw[Int.tmod_eq_emod_of_nonneg h1]
  exact Int.emod_nonneg x (by omega)
 ·rw[Int.tmod_eq_emod_of_nonneg h1]
  have k2:=Int.emod_lt_of_pos x hy
  dsimp only; omega
 ·exact(wj4 h1 h3).trans h5
 ·rw[Int.tmod_eq_emod_of_nonneg h1]
  have k1:=Int.emod_nonneg x (b:=y) (by omega)
  have k2:=Int.emod_lt_of_pos x hy
  dsimp only; omega
 ·obtain rfl:y=0:=by omega
  rw[wj5 x h1] at h5
  have hp:=qp7 (a:=n) (b:=d) (.inr (by omega))
  have q1:=qk0 (g:=x) (a:=n) (K:=BIG) (by omega)
  have q2:=qk0 (g:=x) (a:=d) (K:=BIG) (by omega)
  have e:ofR n d=(n.tdiv x,d.tdiv x):=by unfold ofR; rw[if_neg (by omega),h5]
  rw[e]
  exact⟨by omega,qa7 (by omega) (by omega),by omega,qa7 (by omega) (by omega),rfl,rfl⟩
def xy0 (h pix:List Int):Nat->Option Inv
 | 0=>some (Inv.of [6,13] 1 (λk:Nat=>[(6,.lit (.int .i64 (q0p h k))),(13,.lit (.int .i64 k))]) (λ_=>[.box 34 x0h]) (λk=>k<=h.length) (λk=>h.length-k))
 | 1=>some (Inv.of [5,24] 1 (λk:Nat=>[(5,.lit (.int .i64 (qm2 h pix k))),(24,.lit (.int .i64 k))]) (λ_=>[.box 34 x0h]) (λk=>k<=pix.length) (λk=>pix.length-k))
 | _=>none
abbrev x26:qb9:=qg2 true none [tInts,tInts] [qz1] (λx=>wb4 x.1 x.2.1) (λx=>(shR x.1 x.2.1,()))
theorem w3e:Meets Tryz.prog 61 x26:=by
 refine meets (snd (SpecsOk.cons w3c (SpecsOk.cons w3d (SpecsOk.nil _)))) Tryz.func61 rfl rfl (λx=>xy0 x.1 x.2.1) (λ_=>by kernel_rfl) (by decide) ?_
 rintro⟨h,p,⟨⟩⟩ hh
 revert h p
 intro(h:List Int) (p:List Int) (hh:wb4 h p)
 refine @qd8 _ (∃(v0:Unit),∃(v1:Nat),Nat.le v1 h.length/\(((0:Int)=q0p h v1/\(0:Int)=(↑v1:Int)/\True)/\((0:Int)=(0:Int)/\(0:Int)=(0:Int)/\True)/\True)/\∀(v2:Nat),Nat.le v2 h.length->(decide ((↑v2:Int)<(↑h.length:Int))=true->((0:Int)<=(↑v2:Int)/\(↑v2:Int)<(↑h.length:Int))/\qe8 (1000000000:Int) (nI h v2)/\fits .i64 (q0p h v2+qy3 (nI h v2))/\fits .i64 ((↑v2:Int)+(1:Int))/\∃(v5:Nat),Nat.le v5 h.length/\h.length-v5<h.length-v2/\(q0p h v2+qy3 (nI h v2)=q0p h v5/\(↑v2:Int)+(1:Int)=(↑v5:Int)/\True)/\((0:Int)=(0:Int)/\(0:Int)=(0:Int)/\True)/\True)/\(decide ((↑v2:Int)<(↑h.length:Int))=false->∃(v5:Unit),∃(v6:Nat),Nat.le v6 p.length/\(((0:Int)=qm2 h p v6/\(0:Int)=(↑v6:Int)/\True)/\((0:Int)=(0:Int)/\(0:Int)=(0:Int)/\True)/\True)/\∀(v7:Nat),Nat.le v7 p.length->(decide ((↑v7:Int)<(↑p.length:Int))=true->((0:Int)<=(↑v7:Int)/\(↑v7:Int)<(↑p.length:Int))/\((0:Int)<=nI p v7/\nI p v7<(↑h.length:Int))/\qe8 (1000000000:Int) (nI h (nI p v7).toNat)/\fits .i64 (qm2 h p v7+qy3 (nI h (nI p v7).toNat))/\fits .i64 ((↑v7:Int)+(1:Int))/\∃(v10:Nat),Nat.le v10 p.length/\p.length-v10<p.length-v7/\(qm2 h p v7+qy3 (nI h (nI p v7).toNat)=qm2 h p v10/\(↑v7:Int)+(1:Int)=(↑v10:Int)/\True)/\((0:Int)=(0:Int)/\(0:Int)=(0:Int)/\True)/\True)/\(decide ((↑v7:Int)<(↑p.length:Int))=false->(((0:Ty.den tInt)<=qm2 h p v7/\qm2 h p v7<=BIG)/\(0:Ty.den tInt)<q0p h v2/\q0p h v2<=BIG)/\(ofR (qm2 h p v7) (q0p h v2)).1=(shR h p).1/\(ofR (qm2 h p v7) (q0p h v2)).2=(shR h p).2/\True))) (by kernel_rfl) ?_
 try simp only[z0,z1,z2,z3,z4,z5,z6,z7,z8,z9,z10,Int.reduceEq,z11,z12,z13,z14,z15,z16,z17,z18,z19,z20,z21,z22,z23,z24,z25,z26,z27,z28,z29,z30,Int.reduceLE,Int.reduceLT,z31,z32,z33,z34,qa3]
 try simp only[qb3,qb4,qc7,z31,z32,z2,z1]
 have hl:=hh.len
 have hb:=hh.ok.len
 refine⟨(),0,Nat.zero_le _,⟨rfl,rfl⟩,λk hk=>⟨λhlt=>?_,λhge=>?_⟩⟩
 ·have h1:=qy4 hh.ok k
  have h2:=qy4 hh.ok (k+1)
  have h3:=hh.ok.sm k
  unfold qe8 at h3
  have e:q0p h k+qy3 (nI h k)=q0p h (k+1):=rfl
  exact⟨hlt,by unfold qe8; omega,qa7 (by omega) (by omega),qa7 (by omega) (by omega),k+1,hlt,by omega,e,by push_cast; rfl⟩
 obtain rfl:k=h.length:=by omega
 refine⟨(),0,Nat.zero_le _,⟨rfl,rfl⟩,λk hk=>⟨λhlt=>?_,λhge=>?_⟩⟩
 ·have h1:=qy5 (pix:=p) hh.ok k
  have h2:=qy5 (pix:=p) hh.ok (k+1)
  have h3:=hh.ok.sm (nI p k).toNat
  have h4:=hh.at_ k hlt
  unfold qe8 at h3
  have e:qm2 h p k+qy3 (nI h (nI p k).toNat)=qm2 h p (k+1):=rfl
  exact⟨hlt,h4,by unfold qe8; omega,qa7 (by omega) (by omega),qa7 (by omega) (by omega),k+1,hlt,by omega,e,by push_cast; rfl⟩
 ·obtain rfl:k=p.length:=by omega
  have h1:=qy5 (pix:=p) hh.ok p.length
  have h2:=qy4 hh.ok h.length
  have h3:=q2b hh.ok hh.ne
  unfold szL at h3
  have hB:BIG=4000000000000000000:=rfl
  exact⟨⟨⟨h1.1,by omega⟩,h3,by omega⟩,rfl,rfl⟩
def q2c (h:List Int):Nat->Bool
 | 0=>true
 | k+1=>q2c h k && (nI h k==0)
theorem w6u (h:List Int):∀k,0<=q0p h k
 | 0=>Int.le_refl _
 | k+1=>by
  have:=w6u h k
  rw[q0p]; unfold qy3; omega
theorem w6v (h:List Int):∀k,q2c h k=decide (q0p h k=0)
 | 0=>by simp[q2c,q0p]
 | k+1=>by
  have h0:=w6u h k
  rw[q2c,q0p,w6v h k]
  rw[Bool.eq_iff_iff,Bool.and_eq_true,decide_eq_true_eq,decide_eq_true_eq,beq_iff_eq]
  unfold qy3
  omega
def w3f (h:List Int):Bool:=decide (10<h.length) || q8n h || decide (szL h=0)
def shE (h p:List Int):Int:=if w3f h=true then 1 else wk0 h.length p
def shQ (h p:List Int):Int × Int:=if shE h p=0 then shR h p else(0,0)
theorem xn9 {h:List Int} (hb:w3f h=false):HOk h/\szL h≠0/\h.length<=10:=by
 unfold w3f at hb
 simp only[Bool.or_eq_false_iff,decide_eq_false_iff_not] at hb
 obtain⟨⟨h1,h2⟩,h3⟩:=hb
 refine⟨⟨by omega,λi=>?_⟩,h3,by omega⟩
 rcases Nat.lt_or_ge i h.length with q | q
 ·unfold q8n at h2
  rw[List.any_eq_false] at h2
  have:=h2 (nI h i) (by rw[qf8 h i q]; exact List.getElem_mem q)
  simp only[Bool.not_eq_true,Bool.not_eq_false'] at this
  have:=inB_iff.1 this
  unfold qe8; omega
 ·have:nI h i=0:=by unfold nI qh7; rw[List.getD_eq_getElem?_getD,List.getElem?_eq_none q]; rfl
  rw[this]; unfold qe8; decide
theorem xy1 {h p:List Int} (he:shE h p=0):wb4 h p/\Named h.length p/\w3f h=false:=by
 unfold shE at he
 split at he
 ·cases he
 rename_i hb
 have hb:w3f h=false:=by simpa using hb
 obtain⟨h1,h2,h3⟩:=xn9 hb
 have hN:=Named.of he
 have:=hN.len
 exact⟨⟨h1,by omega,hN.at_,h2⟩,hN,hb⟩
structure xo0 (h p:List Int):Prop where
 h:h.length<=1000
 p:p.length<=1000
abbrev xo1:qb9:=qg2 true none [tInts,tInts] [qz1,tInt] (λx=>xo0 x.1 x.2.1) (λx=>(shQ x.1 x.2.1,shE x.1 x.2.1,()))
theorem wm0:Meets Tryz.prog 18 xo1:=by
 refine meets (snd (SpecsOk.cons w5z (SpecsOk.cons (q6h (fs:=[(99,xv7)]) (SpecsOk.cons w2r (SpecsOk.nil _))) (SpecsOk.cons q4u (SpecsOk.cons w50 (SpecsOk.cons q39 (SpecsOk.nil _))))))) Tryz.func18 rfl rfl (λ_ _=>none) (λ_=>by kernel_rfl) (by decide) ?_
 rintro⟨h,p,⟨⟩⟩ hh
 revert h p
 intro(h:List Int) (p:List Int) (hh:xo0 h p)
 refine @qd8 _ ((decide ((10:Int)<(↑h.length:Int))=true->((0:Int)=(shQ h p).1/\(0:Int)=(shQ h p).2/\True)/\(1:Int)=shE h p/\True)/\(decide ((10:Int)<(↑h.length:Int))=false->True/\∃(v1:qa6 [Ty.int .i64]->Prop),∃(v2:qa6 [Ty.int .i64]->Bool),(∀(v3:Int × qa6._f [] PUnit.unit),v1 v3->((0:PTy.den (PTy.cap tInt))<=(1000000:Int)/\(1000000:Int)<=BIG)/\(!inB v3.1 ((0:Int)-(1000000:Int)) (1000000:Int))=v2 v3)/\(h.length<=(1000000:Nat)/\∀(v3:Nat),v3<h.length->v1 (nI h v3,()))/\((List.any h λ(v4:Int)=>v2 (v4,()))=true->((0:Int)=(shQ h p).1/\(0:Int)=(shQ h p).2/\True)/\(1:Int)=shE h p/\True)/\((List.any h λ(v4:Int)=>v2 (v4,()))=false->HOk h/\((szL h==(0:Int))=true->((0:Int)=(shQ h p).1/\(0:Int)=(shQ h p).2/\True)/\(1:Int)=shE h p/\True)/\((szL h==(0:Int))=false->(((0:Ty.den tInt)<=(↑h.length:Int)/\(↑h.length:Int)<=BIG)/\p.length<=(1000000:Nat))/\((wk0 (↑h.length:Int) p != (0:Int))=true->((0:Int)=(shQ h p).1/\(0:Int)=(shQ h p).2/\True)/\wk0 (↑h.length:Int) p=shE h p/\True)/\((wk0 (↑h.length:Int) p != (0:Int))=false->wb4 h p/\((shR h p).1=(shQ h p).1/\(shR h p).2=(shQ h p).2/\True)/\(0:Int)=shE h p/\True))))) (by kernel_rfl) ?_
 try simp only[z0,z1,z2,z3,z4,z5,z6,z7,z8,z9,z10,Int.reduceEq,z11,z12,z13,z14,z15,z16,z17,z18,z19,z20,z21,z22,z23,z24,z25,z26,z27,z28,z29,z30,Int.reduceLE,Int.reduceLT,z31,z32,z33,z34,qa3]
 try simp only[qb3,qb4,qc7,z31,z32,z2,z1]
 have hl:=hh.h
 have hp:=hh.p
 have bad:w3f h=true->(0=(shQ h p).fst/\0=(shQ h p).snd)/\1=shE h p:=λq=>by
  have e:shE h p=1:=if_pos q
  unfold shQ
  rw[e,if_neg (by decide)]
  exact⟨⟨rfl,rfl⟩,rfl⟩
 refine⟨λh1=>bad ?_,λh1=>⟨λ_=>True,λx=>!(inB x.1 (0-1000000) 1000000),λx _=>⟨by decide,by simp⟩,⟨by omega,λ_ _=>trivial⟩,λho=>bad ?_,λho=>⟨?_,λh2=>bad ?_,λh2=>?_⟩⟩⟩
 ·have:10<h.length:=by omega
  simp[w3f,this]
 ·have:q8n h=true:=ho
  simp[w3f,this]
 ·refine⟨by omega,λi=>?_⟩
  rcases Nat.lt_or_ge i h.length with q | q
  ·rw[List.any_eq_false] at ho
   have:=ho (nI h i) (by rw[qf8 h i q]; exact List.getElem_mem q)
   simp only[Bool.not_eq_true,Bool.not_eq_false'] at this
   have:=inB_iff.1 this
   unfold qe8; omega
  ·have:nI h i=0:=by unfold nI qh7; rw[List.getD_eq_getElem?_getD,List.getElem?_eq_none q]; rfl
   rw[this]; unfold qe8; decide
 ·simp[w3f,h2]
 ·have hb:w3f h=false:=by
   have q1:¬10<h.length:=by omega
   have q2:q8n h=false:=ho
   simp[w3f,h2,q1,q2]
  have hE:shE h p=wk0 h.length p:=if_neg (by rw[hb]; decide)
  unfold BIG
  refine⟨⟨by omega,by omega⟩,λhn=>?_,λhn=>?_⟩
  ·unfold shQ
   rw[hE,if_neg hn]
   exact⟨⟨rfl,rfl⟩,rfl⟩
  ·have hs:shE h p=0:=hE.trans hn
   unfold shQ
   rw[if_pos hs]
   exact⟨(xy1 hs).1,⟨rfl,rfl⟩,hs.symm⟩
end Go.Proofs.YtempacilejhbgaaGreat
