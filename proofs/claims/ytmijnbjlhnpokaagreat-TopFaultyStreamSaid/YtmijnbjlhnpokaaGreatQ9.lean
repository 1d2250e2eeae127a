/- The greatest share of a mask, and its order: contracts by the engine. No condition. -/
import Derived.Test.YtmijnbjlhnpokaaGreatQ7
import Derived.Test.YtmijnbjlhnpokaaGreatEngT2
set_option linter.unusedVariables false
set_option linter.unusedSimpArgs false
namespace Go.Proofs.YtmijnbjlhnpokaaGreat
open Go Go.RowKit Eng
structure wq9 (l:List (List Int)) (k:Int):Prop where
 len:l.length<=1000000
 lar:∀i,i<l.length->xl9 (nL l i) k
 shr:∀i,i<l.length->x0q (nL l i) (q7o (nL l i) k.toNat)
def xm3 (l:List (List Int)) (k:Nat):List (List Int × (Int × Int)):=l.map λh=>(h,shR h (q7o h k))
theorem xs3 {l:List (List Int)} {k i:Nat} (h:i<l.length):((xm3 l k).map λq=>((q.1,q.2,()):qa4 [qe8,q0a]))[i]? = some (nL l i,shR (nL l i) (q7o (nL l i) k),()):=by
 unfold xm3
 rw[List.map_map,List.getElem?_map,List.getElem?_eq_getElem h,qm1 l i h]
 rfl
abbrev ya1:qw1:=wv9 [qf3,qd0] [qe8,q0a] (λx=>wq9 x.1 x.2.1) (λx=>(xm3 x.1 x.2.1.toNat).map λq=>(q.1,q.2,()))
def ya2 (l:List (List Int)):Nat->Option Inv
 | 0=>some (Inv.of [8] 1 (λi:Nat=>[(8,.lit (.int .i64 i))]) (λi=>[.cnt (some i)]) (λi=>i<=l.length) (λi=>l.length-i))
 | _=>none
theorem w9s:qt4 Tryz.prog 241 ya1:=by
 refine ya0 (snd (SpecsOk.cons w9r (SpecsOk.cons w5b (SpecsOk.nil _)))) rfl Tryz.func241 rfl rfl rfl [12] 6 (λx=>[(7,.lit (.int .i64 (x.1:List (List Int)).length)),(8,.lit (.int .i64 0))]) (λx=>ya2 x.1) (by kernel_rfl) (by kernel_rfl) (λ_=>by kernel_rfl) (by decide) (λx l A cp=>⟨rfl,rfl,rfl,rfl,trivial⟩) ?_
 rintro⟨l,k,⟨⟩⟩ q h
 revert l k
 intro(l:List (List Int)) (k:Int) (h:wq9 l k)
 refine @qd1 _ (let Q0:=xm3 l k.toNat; let Q1:=(l,k,PUnit.unit); ∃(v0:Unit),∃(v1:Nat),Nat.le v1 l.length/\(((0:Int)=(↑v1:Int)/\True)/\some (0:Nat)=some v1/\True)/\∀(v2:Nat),Nat.le v2 l.length->(decide ((↑v2:Int)<(↑l.length:Int))=true->((0:Int)<=(↑v2:Int)/\(↑v2:Int)<(↑l.length:Int))/\xl9 (nL l v2) k/\x0q (nL l v2) (q7o (nL l v2) k.toNat)/\Value.func (Fn.yield q) #[] #[]=Value.func (Fn.yield (qh3.l (q7q (Ty.list (Ty.int .i64)) [qd0] [qe8,q0a] [(12:Nat)] (6:Nat) Q1 (List.map (λ(v5:List Int × Int × Int)=>(v5.1,v5.2,())) Q0) q))) #[] #[]/\(qh3.L (q7q (Ty.list (Ty.int .i64)) [qd0] [qe8,q0a] [(12:Nat)] (6:Nat) Q1 (List.map (λ(v5:List Int × Int × Int)=>(v5.1,v5.2,())) Q0) q))[v2]?=some (nL l v2,((shR (nL l v2) (q7o (nL l v2) k.toNat)).1,(shR (nL l v2) (q7o (nL l v2) k.toNat)).2),())/\(fits .i64 ((↑v2:Int)+(1:Int))/\∃(v5:Nat),Nat.le v5 l.length/\l.length-v5<l.length-v2/\((↑v2:Int)+(1:Int)=(↑v5:Int)/\True)/\some (v2+(1:Nat))=some v5/\True)/\True)/\(decide ((↑v2:Int)<(↑l.length:Int))=false->v2=(qh3.L (q7q (Ty.list (Ty.int .i64)) [qd0] [qe8,q0a] [(12:Nat)] (6:Nat) Q1 (List.map (λ(v5:List Int × Int × Int)=>(v5.1,v5.2,())) Q0) q)).length)) (by kernel_rfl) ?_
 try simp only[z0,z1,z2,z3,z4,z5,z6,z7,z8,z9,z10,Int.reduceEq,z11,z12,z13,z14,z15,z16,z17,z18,z19,z20,z21,z22,z23,z24,z25,z26,z27,z28,z29,z30,Int.reduceLE,Int.reduceLT,z31,z32,z33,z34,qa1]
 try simp only[qa7,qa8,qb5,z31,z32,z2,z1]
 have hl:=h.len
 refine⟨(),0,Nat.zero_le _,⟨rfl,rfl⟩,λi hi=>⟨λhlt=>⟨hlt,h.lar i hlt,h.shr i hlt,rfl,xs3 hlt,qb8 (by omega) (by omega),i+1,hlt,by omega,by push_cast; rfl,rfl⟩,λhge=>?_⟩⟩
 obtain rfl:i=l.length:=by omega
 show _=((xm3 l k.toNat).map λq=>((q.1,q.2,()):qa4 [qe8,q0a])).length
 rw[List.length_map]; exact(List.length_map _).symm
abbrev yo8:qb4:=wl1 false none [qf3,qd0] (λ_=>True) (λx=>.clo 241 (.cons (.imm (.cons (.dat (.list (.int .i64)) x.1) .nil) 0) (.cons (.imm (.cons (.lit (.int .i64 x.2.1)) .nil) 0) .nil)))
theorem w9t:Meets Tryz.prog 219 yo8:=by
 refine q45 (snd (SpecsOk.nil _)) Tryz.func219 rfl rfl (λ_ _=>none) (λ_=>by kernel_rfl) (by decide) ?_
 rintro⟨l,k,⟨⟩⟩ -
 revert l k
 intro(l:List (List Int)) (k:Int)
 refine @qd1 _ (((l=l/\True)/\(0:Nat)=(0:Nat))/\((k=k/\True)/\(0:Nat)=(0:Nat))/\True) (by kernel_rfl) ?_
 try simp only[z0,z1,z2,z3,z4,z5,z6,z7,z8,z9,z10,Int.reduceEq,z11,z12,z13,z14,z15,z16,z17,z18,z19,z20,z21,z22,z23,z24,z25,z26,z27,z28,z29,z30,Int.reduceLE,Int.reduceLT,z31,z32,z33,z34,qa1]
 try simp only[qa7,qa8,qb5,z31,z32,z2,z1]
def qo9 (l:List (List Int)) (k:Nat):Nat->Int × Int
 | 0=>(0,1)
 | i+1=>xl6 (qo9 l k i) (shR (nL l i) (q7o (nL l i) k))
theorem q7r {l:List (List Int)} {k:Int} (h:wq9 l k):∀i,i<=l.length->q2s (qo9 l k.toNat i)
 | 0,_=>x42
 | i+1,hi=>x0s (q7r h i (by omega)) (xs2 (h.shr i (by omega)))
abbrev yo9:AV:=.cons (.lit (.int .i64 0)) (.cons (.lit (.int .i64 0)) .nil)
def ya3 (l:List (List Int)) (k:Int):Nat->Option Inv
 | 0=>some (Inv.of [] 3 (λ_:Nat=>[]) (λi=>[.box 60 yo9,.box 60 (.cons (.lit (.int .i64 (qo9 l k.toNat i).1)) (.cons (.lit (.int .i64 (qo9 l k.toNat i).2)) .nil)),.box 95 (.cons (.clo 184 (.cons (.box 1 0) .nil)) .nil)]) (λi=>i<=l.length) (λi=>i))
 | _=>none
abbrev yp0:qb4:=qf2 true none [qf3,qd0] [q0a] (λx=>wq9 x.1 x.2.1) (λx=>(qo9 x.1 x.2.1.toNat x.1.length,()))
theorem w9u:Meets Tryz.prog 162 yp0:=by
 refine meets (yn6 (SpecsOk.cons w9m (SpecsOk.cons w9t (SpecsOk.cons w5d (SpecsOk.nil _)))) (ItsOk.cons w9s ItsOk.nil) (BxsOk.cons w5c BxsOk.nil)) Tryz.func162 rfl rfl (λx=>ya3 x.1 x.2.1) (λ_=>by kernel_rfl) (by decide) ?_
 rintro⟨l,k,⟨⟩⟩ h
 revert l k
 intro(l:List (List Int)) (k:Int) (h:wq9 l k)
 refine @qd1 _ (let Q0:=qo9 l k.toNat l.length; True/\True/\wq9 l k/\∃(v0:Unit),∃(v1:Nat),Nat.le v1 l.length/\v1=(0:Nat)/\(((0:Int)=(0:Int)/\(0:Int)=(0:Int)/\True)/\((0:Int)=(qo9 l k.toNat v1).1/\(1:Int)=(qo9 l k.toNat v1).2/\True)/\((True/\True)/\True)/\True)/\∀(v2:Nat),Nat.le v2 l.length->(∀(v4:List Int × qa4._f [q0a] ⟨qa4._f [] PUnit.unit,PUnit.unit⟩),(List.map (λ(v6:List Int × Int × Int)=>(v6.1,v6.2,())) (xm3 l k.toNat))[v2]?=some v4->(q2s ((qo9 l k.toNat v2).1,(qo9 l k.toNat v2).2)/\q2s (v4.2.1.1,v4.2.1.2))/\∃(v6:Nat),Nat.le v6 l.length/\v6=v2+(1:Nat)/\((0:Int)=(0:Int)/\(0:Int)=(0:Int)/\True)/\((xl6 ((qo9 l k.toNat v2).1,(qo9 l k.toNat v2).2) (v4.2.1.1,v4.2.1.2)).1=(qo9 l k.toNat v6).1/\(xl6 ((qo9 l k.toNat v2).1,(qo9 l k.toNat v2).2) (v4.2.1.1,v4.2.1.2)).2=(qo9 l k.toNat v6).2/\True)/\((True/\True)/\True)/\True)/\(v2=(List.map (λ(v5:List Int × Int × Int)=>(v5.1,v5.2,())) (xm3 l k.toNat)).length->True/\(qo9 l k.toNat v2).1=Q0.1/\(qo9 l k.toNat v2).2=Q0.2/\True)) (by kernel_rfl) ?_
 try simp only[z0,z1,z2,z3,z4,z5,z6,z7,z8,z9,z10,Int.reduceEq,z11,z12,z13,z14,z15,z16,z17,z18,z19,z20,z21,z22,z23,z24,z25,z26,z27,z28,z29,z30,Int.reduceLE,Int.reduceLT,z31,z32,z33,z34,qa1]
 try simp only[qa7,qa8,qb5,z31,z32,z2,z1]
 refine⟨h,(),0,Nat.zero_le _,rfl,⟨rfl,rfl⟩,λi hi=>⟨λd hd=>?_,λhe=>?_⟩⟩
 ·have hd:((xm3 l k.toNat).map λq=>((q.1,q.2,()):qa4 [qe8,q0a]))[i]? = some d:=hd
  have hlt:i<l.length:=by
   have:=(List.getElem?_eq_some_iff.1 hd).1
   rw[List.length_map] at this
   exact Nat.lt_of_lt_of_eq this (List.length_map _)
  rw[xs3 hlt] at hd
  obtain rfl:=Option.some.inj hd
  exact⟨⟨q7r h i hi,xs2 (h.shr i hlt)⟩,i+1,hlt,rfl,rfl,rfl⟩
 ·have he:i=((xm3 l k.toNat).map λq=>((q.1,q.2,()):qa4 [qe8,q0a])).length:=he
  rw[List.length_map] at he
  obtain rfl:i=l.length:=he.trans (List.length_map _)
  exact⟨rfl,rfl⟩
structure xs4 (m:List (List Int)):Prop where
 cir:qb9 m=true->wn6 m
 shs:qb9 m=true->∀k:Nat,k<=(nL m 0).length->wq9 (qv0 m).1 k
def hlf (r:Int × Int):Bool:=decide (r.2<=2*r.1)
abbrev ya4:qb4:=qf2 true none [q0a] [.bool] (λx=>q2s x.1) (λx=>(hlf x.1,()))
theorem w5h:Meets Tryz.prog 67 ya4:=by
 refine meets (snd (SpecsOk.nil _)) Tryz.func67 rfl rfl (λ_ _=>none) (λ_=>by kernel_rfl) (by decide) ?_
 rintro⟨⟨a,b⟩,⟨⟩⟩ h
 revert a b
 intro(a:Int) (b:Int) (h:q2s (a,b))
 refine @qd1 _ (fits .i64 ((2:Int)*a)/\decide (b<=(2:Int)*a)=hlf (a,b)) (by kernel_rfl) ?_
 try simp only[z0,z1,z2,z3,z4,z5,z6,z7,z8,z9,z10,Int.reduceEq,z11,z12,z13,z14,z15,z16,z17,z18,z19,z20,z21,z22,z23,z24,z25,z26,z27,z28,z29,z30,Int.reduceLE,Int.reduceLT,z31,z32,z33,z34,qa1]
 try simp only[qa7,qa8,qb5,z31,z32,z2,z1]
 have h1:=h.n
 obtain⟨h1,h2⟩:=h1
 dsimp only at h1 h2
 exact⟨qb8 (by omega) (by omega),rfl⟩
def ordF (l:List (List Int)):Nat->Nat->Nat
 | 0,k=>k
 | f+1,k=>if hlf (qo9 l (k+1) l.length)=false then ordF l f (k+1) else k
def ordL (m:List (List Int)):Nat:=ordF (qv0 m).1 (nL m 0).length 0
theorem w2b {l:List (List Int)} {n k:Nat} (h:k<n):ordF l (n-k) k=if hlf (qo9 l (k+1) l.length)=false then ordF l (n-(k+1)) (k+1) else k:=by
 obtain⟨f,hf⟩:∃f,n-k=f+1:=⟨n-k-1,by omega⟩
 rw[hf,show n-(k+1)=f by omega,ordF]
structure xm4 (l:List (List Int)) (n k:Nat):Prop where
 le:k<=n
 eq:ordF l n 0=ordF l (n-k) k
def ya5 (l:List (List Int)) (n:Nat):Nat->Option Inv
 | 0=>some (Inv.of [4] 0 (λk:Nat=>[(4,.lit (.int .i64 k))]) (λ_=>[]) (λk=>xm4 l n k) (λk=>n-k))
 | _=>none
abbrev xm5:qb4:=qf2 true none [qf3] [qd0] (λx=>qb9 x.1=true/\xs4 x.1) (λx=>((ordL x.1:Nat),()))
theorem wf4:Meets Tryz.prog 101 xm5:=by
 refine meets (snd (SpecsOk.cons w5e (SpecsOk.cons w9u (SpecsOk.cons w5h (SpecsOk.nil _))))) Tryz.func101 rfl rfl (λx=>ya5 (qv0 x.1).1 (nL x.1 0).length) (λ_=>by kernel_rfl) (by decide) ?_
 rintro⟨m,⟨⟩⟩ h
 revert m
 intro(m:List (List Int)) (h:qb9 m=true/\xs4 m)
 refine @qd1 _ ((qb9 m=true->wn6 m)/\∃(v0:Unit),∃(v1:Nat),xm4 (qv0 m).1 (nL m (0:Nat)).length v1/\(((0:Int)=(↑v1:Int)/\True)/\True)/\∀(v2:Nat),xm4 (qv0 m).1 (nL m (0:Nat)).length v2->((0:Int)<=(0:Int)/\(0:Int)<(↑m.length:Int))/\(decide ((↑v2:Int)<(↑(nL m (0:Nat)).length:Int))=true->fits .i64 ((↑v2:Int)+(1:Int))/\wq9 (qv0 m).1 ((↑v2:Int)+(1:Int))/\q2s ((qo9 (qv0 m).1 ((↑v2:Int)+(1:Int)).toNat (qv0 m).1.length).1,(qo9 (qv0 m).1 ((↑v2:Int)+(1:Int)).toNat (qv0 m).1.length).2)/\((!hlf ((qo9 (qv0 m).1 ((↑v2:Int)+(1:Int)).toNat (qv0 m).1.length).1,(qo9 (qv0 m).1 ((↑v2:Int)+(1:Int)).toNat (qv0 m).1.length).2))=true->fits .i64 ((↑v2:Int)+(1:Int))/\∃(v6:Nat),xm4 (qv0 m).1 (nL m (0:Nat)).length v6/\(nL m (0:Nat)).length-v6<(nL m (0:Nat)).length-v2/\((↑v2:Int)+(1:Int)=(↑v6:Int)/\True)/\True)/\((!hlf ((qo9 (qv0 m).1 ((↑v2:Int)+(1:Int)).toNat (qv0 m).1.length).1,(qo9 (qv0 m).1 ((↑v2:Int)+(1:Int)).toNat (qv0 m).1.length).2))=false->(↑v2:Int)=(↑(ordL m):Int)))/\(decide ((↑v2:Int)<(↑(nL m (0:Nat)).length:Int))=false->(↑v2:Int)=(↑(ordL m):Int))) (by kernel_rfl) ?_
 try simp only[z0,z1,z2,z3,z4,z5,z6,z7,z8,z9,z10,Int.reduceEq,z11,z12,z13,z14,z15,z16,z17,z18,z19,z20,z21,z22,z23,z24,z25,z26,z27,z28,z29,z30,Int.reduceLE,Int.reduceLT,z31,z32,z33,z34,qa1]
 try simp only[qa7,qa8,qb5,z31,z32,z2,z1]
 have hM:=Mk.of h.1
 have m1:=hM.rows1
 have m10:=hM.pix10
 have hc:=h.2.shs h.1
 refine⟨h.2.cir,(),0,⟨Nat.zero_le _,rfl⟩,rfl,λk hk=>⟨by omega,λhlt=>?_,λhge=>?_⟩⟩
 ·have e:((k:Int)+1).toNat=k+1:=by omega
  have e2:((k:Int)+1)=((k+1:Nat):Int):=by push_cast; rfl
  have hs:=hc (k+1) (by omega)
  have hl:=q7r hs (qv0 m).1.length (Nat.le_refl _)
  rw[Int.toNat_natCast] at hl
  rw[e,e2]
  refine⟨qb8 (by omega) (by omega),hs,hl,λhf=>⟨qb8 (by omega) (by omega),k+1,⟨by omega,?_⟩,by omega,rfl⟩,λhf=>?_⟩
  ·rw[hk.eq,w2b hlt]
   exact if_pos hf
  ·have:ordL m=k:=by
    unfold ordL
    rw[hk.eq,w2b hlt,if_neg (by rw[show hlf (qo9 (qv0 m).1 (k+1) (qv0 m).1.length)=true from hf]; simp)]
   rw[this]
 ·have hle:=hk.le
  have e:k=(nL m 0).length:=by omega
  have:ordL m=k:=by
   unfold ordL
   rw[hk.eq,e,Nat.sub_self]; rfl
  rw[this]
def w5i (m:List (List Int)):Int × Int:=if qb9 m=true then((ordL m:Nat),0) else(0,1)
abbrev x45:qb4:=qf2 true none [qf3] [qd0,qd0] (λx=>xs4 x.1) (λx=>((w5i x.1).1,(w5i x.1).2,()))
theorem wy7:Meets Tryz.prog 51 x45:=by
 refine meets (snd (SpecsOk.cons qq1 (SpecsOk.cons wf4 (SpecsOk.nil _)))) Tryz.func51 rfl rfl (λ_ _=>none) (λ_=>by kernel_rfl) (by decide) ?_
 rintro⟨m,⟨⟩⟩ h
 revert m
 intro(m:List (List Int)) (h:xs4 m)
 refine @qd1 _ (True/\((!qb9 m)=true->(0:Int)=(w5i m).1/\(1:Int)=(w5i m).2/\True)/\((!qb9 m)=false->(qb9 m=true/\xs4 m)/\(↑(ordL m):Int)=(w5i m).1/\(0:Int)=(w5i m).2/\True)) (by kernel_rfl) ?_
 try simp only[z0,z1,z2,z3,z4,z5,z6,z7,z8,z9,z10,Int.reduceEq,z11,z12,z13,z14,z15,z16,z17,z18,z19,z20,z21,z22,z23,z24,z25,z26,z27,z28,z29,z30,Int.reduceLE,Int.reduceLT,z31,z32,z33,z34,qa1]
 try simp only[qa7,qa8,qb5,z31,z32,z2,z1]
 refine⟨λhv=>?_,λhv=>⟨⟨hv,h⟩,?_⟩⟩
 ·unfold w5i; rw[hv]; exact⟨rfl,rfl⟩
 ·unfold w5i; rw[if_pos hv]; exact⟨rfl,rfl⟩
end Go.Proofs.YtmijnbjlhnpokaaGreat
