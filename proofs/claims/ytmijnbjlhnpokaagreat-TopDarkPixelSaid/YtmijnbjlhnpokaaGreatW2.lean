/- Rows that are eliminated: what they are made of, and how great they grow. Plain mathematics. No condition. -/
import Derived.Test.YtmijnbjlhnpokaaGreatQ7
import Derived.Test.YtmijnbjlhnpokaaGreatEngT2
import Derived.Test.YtmijnbjlhnpokaaGreatV0
set_option linter.unusedVariables false
set_option linter.unusedSimpArgs false
namespace Go.Proofs.YtmijnbjlhnpokaaGreat
open Go Go.RowKit Eng
structure ws4 (l:List (List Int)) (k:Int):Prop where
 len:l.length<=1000000
 lar:∀i,i<l.length->xo5 (nL l i) k
 shr:∀i,i<l.length->xf3 (nL l i) (q7z (nL l i) k.toNat)
def xo9 (l:List (List Int)) (k:Nat):List (List Int × (Int × Int)):=l.map λh=>(h,shR h (q7z h k))
theorem xu1 {l:List (List Int)} {k i:Nat} (h:i<l.length):((xo9 l k).map λq=>((q.1,q.2,()):qa4 [qe9,q0e]))[i]? = some (nL l i,shR (nL l i) (q7z (nL l i) k),()):=by
 unfold xo9
 rw[List.map_map,List.getElem?_map,List.getElem?_eq_getElem h,qj8 l i h]
 rfl
abbrev x92:qw4:=wx7 [qg0,qc8] [qe9,q0e] (λx=>ws4 x.1 x.2.1) (λx=>(xo9 x.1 x.2.1.toNat).map λq=>(q.1,q.2,()))
def x94 (l:List (List Int)):Nat->Option Inv
 | 0=>some (Inv.of [8] 1 (λi:Nat=>[(8,.lit (.int .i64 i))]) (λi=>[.cnt (some i)]) (λi=>i<=l.length) (λi=>l.length-i))
 | _=>none
theorem xa3:qu0 Tryz.prog 241 x92:=by
 refine x9z (snd (SpecsOk.cons xa2 (SpecsOk.cons q95 (SpecsOk.nil _)))) rfl Tryz.func241 rfl rfl rfl [12] 6 (λx=>[(7,.lit (.int .i64 (x.1:List (List Int)).length)),(8,.lit (.int .i64 0))]) (λx=>x94 x.1) (by kernel_rfl) (by kernel_rfl) (λ_=>by kernel_rfl) (by decide) (λx l A cp=>⟨rfl,rfl,rfl,rfl,trivial⟩) ?_
 rintro⟨l,k,⟨⟩⟩ q h
 revert l k
 intro(l:List (List Int)) (k:Int) (h:ws4 l k)
 refine @qd1 _ (let Q0:=xo9 l k.toNat; let Q1:=(l,k,PUnit.unit); ∃(v0:Unit),∃(v1:Nat),Nat.le v1 l.length/\(((0:Int)=(↑v1:Int)/\True)/\some (0:Nat)=some v1/\True)/\∀(v2:Nat),Nat.le v2 l.length->(decide ((↑v2:Int)<(↑l.length:Int))=true->((0:Int)<=(↑v2:Int)/\(↑v2:Int)<(↑l.length:Int))/\xo5 (nL l v2) k/\xf3 (nL l v2) (q7z (nL l v2) k.toNat)/\Value.func (Fn.yield q) #[] #[]=Value.func (Fn.yield (qh2.l (q71 (Ty.list (Ty.int .i64)) [qc8] [qe9,q0e] [(12:Nat)] (6:Nat) Q1 (List.map (λ(v5:List Int × Int × Int)=>(v5.1,v5.2,())) Q0) q))) #[] #[]/\(qh2.L (q71 (Ty.list (Ty.int .i64)) [qc8] [qe9,q0e] [(12:Nat)] (6:Nat) Q1 (List.map (λ(v5:List Int × Int × Int)=>(v5.1,v5.2,())) Q0) q))[v2]?=some (nL l v2,((shR (nL l v2) (q7z (nL l v2) k.toNat)).1,(shR (nL l v2) (q7z (nL l v2) k.toNat)).2),())/\(fits .i64 ((↑v2:Int)+(1:Int))/\∃(v5:Nat),Nat.le v5 l.length/\l.length-v5<l.length-v2/\((↑v2:Int)+(1:Int)=(↑v5:Int)/\True)/\some (v2+(1:Nat))=some v5/\True)/\True)/\(decide ((↑v2:Int)<(↑l.length:Int))=false->v2=(qh2.L (q71 (Ty.list (Ty.int .i64)) [qc8] [qe9,q0e] [(12:Nat)] (6:Nat) Q1 (List.map (λ(v5:List Int × Int × Int)=>(v5.1,v5.2,())) Q0) q)).length)) (by kernel_rfl) ?_
 try simp only[z0,z1,z2,z3,z4,z5,z6,z7,z8,z9,z10,Int.reduceEq,z11,z12,z13,z14,z15,z16,z17,z18,z19,z20,z21,z22,z23,z24,z25,z26,z27,z28,z29,z30,Int.reduceLE,Int.reduceLT,z31,z32,z33,z34,qa1]
 try simp only[qa7,qa8,qb8,z31,z32,z2,z1]
 have hl:=h.len
 refine⟨(),0,Nat.zero_le _,⟨rfl,rfl⟩,λi hi=>⟨λhlt=>⟨hlt,h.lar i hlt,h.shr i hlt,rfl,xu1 hlt,qb5 (by omega) (by omega),i+1,hlt,by omega,by push_cast; rfl,rfl⟩,λhge=>?_⟩⟩
 obtain rfl:i=l.length:=by omega
 show _=((xo9 l k.toNat).map λq=>((q.1,q.2,()):qa4 [qe9,q0e])).length
 rw[List.length_map]; exact(List.length_map _).symm
abbrev yo0:qb7:=we6 false none [qg0,qc8] (λ_=>True) (λx=>.clo 241 (.cons (.imm (.cons (.dat (.list (.int .i64)) x.1) .nil) 0) (.cons (.imm (.cons (.lit (.int .i64 x.2.1)) .nil) 0) .nil)))
theorem xa4:Meets Tryz.prog 219 yo0:=by
 refine q3k (snd (SpecsOk.nil _)) Tryz.func219 rfl rfl (λ_ _=>none) (λ_=>by kernel_rfl) (by decide) ?_
 rintro⟨l,k,⟨⟩⟩ -
 revert l k
 intro(l:List (List Int)) (k:Int)
 refine @qd1 _ (((l=l/\True)/\(0:Nat)=(0:Nat))/\((k=k/\True)/\(0:Nat)=(0:Nat))/\True) (by kernel_rfl) ?_
 try simp only[z0,z1,z2,z3,z4,z5,z6,z7,z8,z9,z10,Int.reduceEq,z11,z12,z13,z14,z15,z16,z17,z18,z19,z20,z21,z22,z23,z24,z25,z26,z27,z28,z29,z30,Int.reduceLE,Int.reduceLT,z31,z32,z33,z34,qa1]
 try simp only[qa7,qa8,qb8,z31,z32,z2,z1]
def qp9 (l:List (List Int)) (k:Nat):Nat->Int × Int
 | 0=>(0,1)
 | i+1=>wj8 (qp9 l k i) (shR (nL l i) (q7z (nL l i) k))
theorem q72 {l:List (List Int)} {k:Int} (h:ws4 l k):∀i,i<=l.length->q0f (qp9 l k.toNat i)
 | 0,_=>w94
 | i+1,hi=>w95 (q72 h i (by omega)) (q7y (h.shr i (by omega)))
abbrev yo1:AV:=.cons (.lit (.int .i64 0)) (.cons (.lit (.int .i64 0)) .nil)
def x97 (l:List (List Int)) (k:Int):Nat->Option Inv
 | 0=>some (Inv.of [] 3 (λ_:Nat=>[]) (λi=>[.box 60 yo1,.box 60 (.cons (.lit (.int .i64 (qp9 l k.toNat i).1)) (.cons (.lit (.int .i64 (qp9 l k.toNat i).2)) .nil)),.box 95 (.cons (.clo 184 (.cons (.box 1 0) .nil)) .nil)]) (λi=>i<=l.length) (λi=>i))
 | _=>none
abbrev yo2:qb7:=qf1 true none [qg0,qc8] [q0e] (λx=>ws4 x.1 x.2.1) (λx=>(qp9 x.1 x.2.1.toNat x.1.length,()))
theorem xa5:Meets Tryz.prog 162 yo2:=by
 refine meets (yg2 (SpecsOk.cons ws1 (SpecsOk.cons xa4 (SpecsOk.cons q97 (SpecsOk.nil _)))) (ItsOk.cons xa3 ItsOk.nil) (BxsOk.cons q96 BxsOk.nil)) Tryz.func162 rfl rfl (λx=>x97 x.1 x.2.1) (λ_=>by kernel_rfl) (by decide) ?_
 rintro⟨l,k,⟨⟩⟩ h
 revert l k
 intro(l:List (List Int)) (k:Int) (h:ws4 l k)
 refine @qd1 _ (let Q0:=qp9 l k.toNat l.length; True/\True/\ws4 l k/\∃(v0:Unit),∃(v1:Nat),Nat.le v1 l.length/\v1=(0:Nat)/\(((0:Int)=(0:Int)/\(0:Int)=(0:Int)/\True)/\((0:Int)=(qp9 l k.toNat v1).1/\(1:Int)=(qp9 l k.toNat v1).2/\True)/\((True/\True)/\True)/\True)/\∀(v2:Nat),Nat.le v2 l.length->(∀(v4:List Int × qa4._f [q0e] ⟨qa4._f [] PUnit.unit,PUnit.unit⟩),(List.map (λ(v6:List Int × Int × Int)=>(v6.1,v6.2,())) (xo9 l k.toNat))[v2]?=some v4->(q0f ((qp9 l k.toNat v2).1,(qp9 l k.toNat v2).2)/\q0f (v4.2.1.1,v4.2.1.2))/\∃(v6:Nat),Nat.le v6 l.length/\v6=v2+(1:Nat)/\((0:Int)=(0:Int)/\(0:Int)=(0:Int)/\True)/\((wj8 ((qp9 l k.toNat v2).1,(qp9 l k.toNat v2).2) (v4.2.1.1,v4.2.1.2)).1=(qp9 l k.toNat v6).1/\(wj8 ((qp9 l k.toNat v2).1,(qp9 l k.toNat v2).2) (v4.2.1.1,v4.2.1.2)).2=(qp9 l k.toNat v6).2/\True)/\((True/\True)/\True)/\True)/\(v2=(List.map (λ(v5:List Int × Int × Int)=>(v5.1,v5.2,())) (xo9 l k.toNat)).length->True/\(qp9 l k.toNat v2).1=Q0.1/\(qp9 l k.toNat v2).2=Q0.2/\True)) (by kernel_rfl) ?_
 try simp only[z0,z1,z2,z3,z4,z5,z6,z7,z8,z9,z10,Int.reduceEq,z11,z12,z13,z14,z15,z16,z17,z18,z19,z20,z21,z22,z23,z24,z25,z26,z27,z28,z29,z30,Int.reduceLE,Int.reduceLT,z31,z32,z33,z34,qa1]
 try simp only[qa7,qa8,qb8,z31,z32,z2,z1]
 refine⟨h,(),0,Nat.zero_le _,rfl,⟨rfl,rfl⟩,λi hi=>⟨λd hd=>?_,λhe=>?_⟩⟩
 ·have hd:((xo9 l k.toNat).map λq=>((q.1,q.2,()):qa4 [qe9,q0e]))[i]? = some d:=hd
  have hlt:i<l.length:=by
   have:=(List.getElem?_eq_some_iff.1 hd).1
   rw[List.length_map] at this
   exact Nat.lt_of_lt_of_eq this (List.length_map _)
  rw[xu1 hlt] at hd
  obtain rfl:=Option.some.inj hd
  exact⟨⟨q72 h i hi,q7y (h.shr i hlt)⟩,i+1,hlt,rfl,rfl,rfl⟩
 ·have he:i=((xo9 l k.toNat).map λq=>((q.1,q.2,()):qa4 [qe9,q0e])).length:=he
  rw[List.length_map] at he
  obtain rfl:i=l.length:=he.trans (List.length_map _)
  exact⟨rfl,rfl⟩
def ya0 (m:List (List Int)) (k least:Int):Int:=if qa9 m=false then 1 else if inB k least (nL m 0).length=false then 7 else 0
structure xu2 (m:List (List Int)):Prop where
 cir:qa9 m=true->q2v m
 shs:qa9 m=true->∀k:Nat,k<=(nL m 0).length->ws4 (qi1 m).1 k
def hlf (r:Int × Int):Bool:=decide (r.2<=2*r.1)
abbrev ya1:qb7:=qf1 true none [q0e] [.bool] (λx=>q0f x.1) (λx=>(hlf x.1,()))
theorem q99:Meets Tryz.prog 67 ya1:=by
 refine meets (snd (SpecsOk.nil _)) Tryz.func67 rfl rfl (λ_ _=>none) (λ_=>by kernel_rfl) (by decide) ?_
 rintro⟨⟨a,b⟩,⟨⟩⟩ h
 revert a b
 intro(a:Int) (b:Int) (h:q0f (a,b))
 refine @qd1 _ (fits .i64 ((2:Int)*a)/\decide (b<=(2:Int)*a)=hlf (a,b)) (by kernel_rfl) ?_
 try simp only[z0,z1,z2,z3,z4,z5,z6,z7,z8,z9,z10,Int.reduceEq,z11,z12,z13,z14,z15,z16,z17,z18,z19,z20,z21,z22,z23,z24,z25,z26,z27,z28,z29,z30,Int.reduceLE,Int.reduceLT,z31,z32,z33,z34,qa1]
 try simp only[qa7,qa8,qb8,z31,z32,z2,z1]
 have h1:=h.n
 obtain⟨h1,h2⟩:=h1
 dsimp only at h1 h2
 exact⟨qb5 (by omega) (by omega),rfl⟩
def ordF (l:List (List Int)):Nat->Nat->Nat
 | 0,k=>k
 | f+1,k=>if hlf (qp9 l (k+1) l.length)=false then ordF l f (k+1) else k
def ordL (m:List (List Int)):Nat:=ordF (qi1 m).1 (nL m 0).length 0
theorem w2v {l:List (List Int)} {n k:Nat} (h:k<n):ordF l (n-k) k=if hlf (qp9 l (k+1) l.length)=false then ordF l (n-(k+1)) (k+1) else k:=by
 obtain⟨f,hf⟩:∃f,n-k=f+1:=⟨n-k-1,by omega⟩
 rw[hf,show n-(k+1)=f by omega,ordF]
structure xp0 (l:List (List Int)) (n k:Nat):Prop where
 le:k<=n
 eq:ordF l n 0=ordF l (n-k) k
def ya2 (l:List (List Int)) (n:Nat):Nat->Option Inv
 | 0=>some (Inv.of [4] 0 (λk:Nat=>[(4,.lit (.int .i64 k))]) (λ_=>[]) (λk=>xp0 l n k) (λk=>n-k))
 | _=>none
abbrev xp1:qb7:=qf1 true none [qg0] [qc8] (λx=>qa9 x.1=true/\xu2 x.1) (λx=>((ordL x.1:Nat),()))
theorem wh5:Meets Tryz.prog 101 xp1:=by
 refine meets (snd (SpecsOk.cons q98 (SpecsOk.cons xa5 (SpecsOk.cons q99 (SpecsOk.nil _))))) Tryz.func101 rfl rfl (λx=>ya2 (qi1 x.1).1 (nL x.1 0).length) (λ_=>by kernel_rfl) (by decide) ?_
 rintro⟨m,⟨⟩⟩ h
 revert m
 intro(m:List (List Int)) (h:qa9 m=true/\xu2 m)
 refine @qd1 _ ((qa9 m=true->q2v m)/\∃(v0:Unit),∃(v1:Nat),xp0 (qi1 m).1 (nL m (0:Nat)).length v1/\(((0:Int)=(↑v1:Int)/\True)/\True)/\∀(v2:Nat),xp0 (qi1 m).1 (nL m (0:Nat)).length v2->((0:Int)<=(0:Int)/\(0:Int)<(↑m.length:Int))/\(decide ((↑v2:Int)<(↑(nL m (0:Nat)).length:Int))=true->fits .i64 ((↑v2:Int)+(1:Int))/\ws4 (qi1 m).1 ((↑v2:Int)+(1:Int))/\q0f ((qp9 (qi1 m).1 ((↑v2:Int)+(1:Int)).toNat (qi1 m).1.length).1,(qp9 (qi1 m).1 ((↑v2:Int)+(1:Int)).toNat (qi1 m).1.length).2)/\((!hlf ((qp9 (qi1 m).1 ((↑v2:Int)+(1:Int)).toNat (qi1 m).1.length).1,(qp9 (qi1 m).1 ((↑v2:Int)+(1:Int)).toNat (qi1 m).1.length).2))=true->fits .i64 ((↑v2:Int)+(1:Int))/\∃(v6:Nat),xp0 (qi1 m).1 (nL m (0:Nat)).length v6/\(nL m (0:Nat)).length-v6<(nL m (0:Nat)).length-v2/\((↑v2:Int)+(1:Int)=(↑v6:Int)/\True)/\True)/\((!hlf ((qp9 (qi1 m).1 ((↑v2:Int)+(1:Int)).toNat (qi1 m).1.length).1,(qp9 (qi1 m).1 ((↑v2:Int)+(1:Int)).toNat (qi1 m).1.length).2))=false->(↑v2:Int)=(↑(ordL m):Int)))/\(decide ((↑v2:Int)<(↑(nL m (0:Nat)).length:Int))=false->(↑v2:Int)=(↑(ordL m):Int))) (by kernel_rfl) ?_
 try simp only[z0,z1,z2,z3,z4,z5,z6,z7,z8,z9,z10,Int.reduceEq,z11,z12,z13,z14,z15,z16,z17,z18,z19,z20,z21,z22,z23,z24,z25,z26,z27,z28,z29,z30,Int.reduceLE,Int.reduceLT,z31,z32,z33,z34,qa1]
 try simp only[qa7,qa8,qb8,z31,z32,z2,z1]
 have hM:=Mk.of h.1
 have m1:=hM.rows1
 have m10:=hM.pix10
 have hc:=h.2.shs h.1
 refine⟨h.2.cir,(),0,⟨Nat.zero_le _,rfl⟩,rfl,λk hk=>⟨by omega,λhlt=>?_,λhge=>?_⟩⟩
 ·have e:((k:Int)+1).toNat=k+1:=by omega
  have e2:((k:Int)+1)=((k+1:Nat):Int):=by push_cast; rfl
  have hs:=hc (k+1) (by omega)
  have hl:=q72 hs (qi1 m).1.length (Nat.le_refl _)
  rw[Int.toNat_natCast] at hl
  rw[e,e2]
  refine⟨qb5 (by omega) (by omega),hs,hl,λhf=>⟨qb5 (by omega) (by omega),k+1,⟨by omega,?_⟩,by omega,rfl⟩,λhf=>?_⟩
  ·rw[hk.eq,w2v hlt]
   exact if_pos hf
  ·have:ordL m=k:=by
    unfold ordL
    rw[hk.eq,w2v hlt,if_neg (by rw[show hlf (qp9 (qi1 m).1 (k+1) (qi1 m).1.length)=true from hf]; simp)]
   rw[this]
 ·have hle:=hk.le
  have e:k=(nL m 0).length:=by omega
  have:ordL m=k:=by
   unfold ordL
   rw[hk.eq,e,Nat.sub_self]; rfl
  rw[this]
def w53 (m:List (List Int)):Int × Int:=if qa9 m=true then((ordL m:Nat),0) else(0,1)
abbrev x5c:qb7:=qf1 true none [qg0] [qc8,qc8] (λx=>xu2 x.1) (λx=>((w53 x.1).1,(w53 x.1).2,()))
theorem w0i:Meets Tryz.prog 51 x5c:=by
 refine meets (snd (SpecsOk.cons qp4 (SpecsOk.cons wh5 (SpecsOk.nil _)))) Tryz.func51 rfl rfl (λ_ _=>none) (λ_=>by kernel_rfl) (by decide) ?_
 rintro⟨m,⟨⟩⟩ h
 revert m
 intro(m:List (List Int)) (h:xu2 m)
 refine @qd1 _ (True/\((!qa9 m)=true->(0:Int)=(w53 m).1/\(1:Int)=(w53 m).2/\True)/\((!qa9 m)=false->(qa9 m=true/\xu2 m)/\(↑(ordL m):Int)=(w53 m).1/\(0:Int)=(w53 m).2/\True)) (by kernel_rfl) ?_
 try simp only[z0,z1,z2,z3,z4,z5,z6,z7,z8,z9,z10,Int.reduceEq,z11,z12,z13,z14,z15,z16,z17,z18,z19,z20,z21,z22,z23,z24,z25,z26,z27,z28,z29,z30,Int.reduceLE,Int.reduceLT,z31,z32,z33,z34,qa1]
 try simp only[qa7,qa8,qb8,z31,z32,z2,z1]
 refine⟨λhv=>?_,λhv=>⟨⟨hv,h⟩,?_⟩⟩
 ·unfold w53; rw[hv]; exact⟨rfl,rfl⟩
 ·unfold w53; rw[if_pos hv]; exact⟨rfl,rfl⟩
def sm:Nat->(Nat->Int)->Int
 | 0,_=>0
 | n+1,f=>sm n f+f n
theorem qe8 {n:Nat} {f g:Nat->Int} (h:∀i,i<n->f i=g i):sm n f=sm n g:=by
 induction n with
 | zero=>rfl
 | succ n ih=>rw[sm,sm,ih λi hi=>h i (by omega),h n (by omega)]
theorem sm_zero {n:Nat} {f:Nat->Int} (h:∀i,i<n->f i=0):sm n f=0:=by
 induction n with
 | zero=>rfl
 | succ n ih=>rw[sm,ih λi hi=>h i (by omega),h n (by omega)]; rfl
theorem w2w (n:Nat) (f g:Nat->Int):sm n (λi=>f i+g i)=sm n f+sm n g:=by
 induction n with
 | zero=>rfl
 | succ n ih=>simp only[sm,ih]; omega
theorem xu3 (n:Nat) (f g:Nat->Int):sm n (λi=>f i-g i)=sm n f-sm n g:=by
 induction n with
 | zero=>rfl
 | succ n ih=>simp only[sm,ih]; omega
theorem qs6 (n:Nat) (c:Int) (f:Nat->Int):sm n (λi=>c*f i)=c*sm n f:=by
 induction n with
 | zero=>simp[sm]
 | succ n ih=>simp only[sm,ih,Int.mul_add]
theorem qq0 {n k:Nat} {f:Nat->Int} (hk:k<n) (h:∀i,i<n->i≠k->f i=0):sm n f=f k:=by
 induction n with
 | zero=>omega
 | succ n ih=>
  rw[sm]
  by_cases e:k=n
  ·subst e
   rw[sm_zero λi hi=>h i (by omega) (by omega)]; omega
  ·rw[ih (by omega) λi hi hne=>h i (by omega) hne,h n (by omega) (Ne.symm e)]; omega
theorem wa0 {n k l:Nat} {f:Nat->Int} (hk:k<n) (hl:l<n) (hkl:k≠l) (h:∀i,i<n->i≠k->i≠l->f i=0):sm n f=f k+f l:=by
 have e:sm n f=sm n (λi=>if i=k then f k else 0)+sm n (λi=>if i=l then f l else 0):=by
  rw[<- w2w]
  refine qe8 λi hi=>?_
  by_cases e1:i=k
  ·subst e1; rw[if_pos rfl,if_neg hkl]; omega
  ·rw[if_neg e1]
   by_cases e2:i=l
   ·subst e2; rw[if_pos rfl]; omega
   ·rw[if_neg e2,h i hi e1 e2]; rfl
 rw[e,qq0 hk λi _ hne=>if_neg hne,qq0 hl λi _ hne=>if_neg hne,if_pos rfl,if_pos rfl]
theorem x5d {n:Nat} {f:Nat->Int} {B:Nat} (h:∀i,i<n->(f i).natAbs<=B):(sm n f).natAbs<=n*B:=by
 induction n with
 | zero=>simp[sm]
 | succ n ih=>
  have h1:=ih λi hi=>h i (by omega)
  have h2:=h n (by omega)
  rw[sm,Nat.succ_mul]
  omega
theorem w0j (n k:Nat) (f:Nat->Nat->Int):sm n (λi=>sm k (λj=>f i j))=sm k (λj=>sm n (λi=>f i j)):=by
 induction n with
 | zero=>exact(sm_zero λ_ _=>rfl).symm
 | succ n ih=>
  rw[sm,ih,<- w2w]
  rfl
theorem qt5 (n:Nat) (x y:Int) (f g r:Nat->Int):sm n (λb=>(x*f b-y*g b)*r b)=x*sm n (λb=>f b*r b)-y*sm n (λb=>g b*r b):=by
 rw[<- qs6,<- qs6,<- xu3]
 refine qe8 λi _=>?_
 rw[Int.sub_mul,Int.mul_assoc,Int.mul_assoc]
theorem q73:∀(B A:Nat) (f:Nat->Nat),(∀i,i<A->f i<B)->B<A->∃i j,i<j/\j<A/\f i=f j
 | 0,A,f,h,hA=>absurd (h 0 hA) (Nat.not_lt_zero _)
 | B+1,A,f,h,hA=>by
  by_cases hx:∃i,i<A/\f i=B
  ·obtain⟨i0,h0,h1⟩:=hx
   by_cases hy:∃j,j<A/\j≠i0/\f j=B
   ·obtain⟨j,k0,k1,k2⟩:=hy
    rcases Nat.lt_or_gt_of_ne k1 with q | q
    ·exact⟨j,i0,q,h0,by omega⟩
    ·exact⟨i0,j,q,k0,by omega⟩
   ·have hn:∀j,j<A->j≠i0->f j<B:=λj hj hne=>by
     have:=h j hj
     rcases Nat.lt_or_ge (f j) B with q | q
     ·exact q
     ·exact absurd ⟨j,hj,hne,by omega⟩ hy
    obtain⟨i,j,q1,q2,q3⟩:=q73 B (A-1) (λi=>f (if i<i0 then i else i+1)) (λi hi=>hn _ (by split <;> omega) (by split <;> omega)) (by omega)
    refine⟨if i<i0 then i else i+1,if j<i0 then j else j+1,?_,?_,q3⟩
    ·split <;> split <;> omega
    ·split <;> omega
  ·obtain⟨i,j,q1,q2,q3⟩:=q73 B A f (λi hi=>by
    have:=h i hi
    rcases Nat.lt_or_ge (f i) B with q | q
    ·exact q
    ·exact absurd ⟨i,hi,by omega⟩ hx) (by omega)
   exact⟨i,j,q1,q2,q3⟩
def dig (b:Nat):Nat->Nat->Nat
 | 0,N=>N % b
 | a+1,N=>dig b a (N / b)
theorem xu4 {b:Nat} (hb:0<b):∀a N,dig b a N<b
 | 0,N=>Nat.mod_lt _ hb
 | a+1,N=>xu4 hb a (N / b)
theorem xa6 {b:Nat} (hb:0<b):∀(n N M:Nat),N<b ^ n->M<b ^ n->(∀a,a<n->dig b a N=dig b a M)->N=M
 | 0,N,M,h1,h2,_=>by simp at h1 h2; omega
 | n+1,N,M,h1,h2,h=>by
  have h0:=h 0 (by omega)
  have e:=xa6 hb n (N / b) (M / b) (Nat.div_lt_of_lt_mul (by rw[Nat.pow_succ,Nat.mul_comm] at h1; exact h1)) (Nat.div_lt_of_lt_mul (by rw[Nat.pow_succ,Nat.mul_comm] at h2; exact h2)) λa ha=>h (a+1) (by omega)
  have h0:N % b=M % b:=h0
  rw[<- Nat.div_add_mod N b,<- Nat.div_add_mod M b,e,h0]
def q34 (B:Nat):List Nat->Nat
 | []=>0
 | x :: l=>x+B*q34 B l
theorem w2x {B:Nat}:∀(l:List Nat),(∀x∈l,x<B)->q34 B l<B ^ l.length
 | [],_=>by simp[q34]
 | x :: l,h=>by
  have h1:=w2x l λy hy=>h y (by simp[hy])
  have h2:=h x (by simp)
  rw[q34,List.length_cons,Nat.pow_succ,Nat.mul_comm (B ^ l.length)]
  calc x+B*q34 B l<B+B*q34 B l:=by omega
   _=B*(q34 B l+1):=by rw[Nat.mul_add]; omega
   _<=B*B ^ l.length:=Nat.mul_le_mul (Nat.le_refl _) h1
theorem ws5 {B:Nat} (hB:0<B):∀(l k:List Nat),l.length=k.length->(∀x∈l,x<B)->(∀x∈k,x<B)->q34 B l=q34 B k->l=k
 | [],[],_,_,_,_=>rfl
 | [],_ :: _,h,_,_,_=>by simp at h
 | _ :: _,[],h,_,_,_=>by simp at h
 | x :: l,y :: k,h,h1,h2,e=>by
  have hx:=h1 x (by simp)
  have hy:=h2 y (by simp)
  rw[q34,q34] at e
  have e1:x=y:=by
   have:=congrArg (· % B) e
   simpa[Nat.add_mul_mod_self_left,Nat.mod_eq_of_lt hx,Nat.mod_eq_of_lt hy] using this
  subst e1
  have e2:q34 B l=q34 B k:=Nat.eq_of_mul_eq_mul_left hB (by omega)
  rw[ws5 hB l k (by simpa using h) (λz hz=>h1 z (by simp[hz])) (λz hz=>h2 z (by simp[hz])) e2]
def smN:Nat->(Nat->Nat)->Nat
 | 0,_=>0
 | n+1,f=>smN n f+f n
theorem x5e {n C:Nat} {f:Nat->Nat} (h:∀i,i<n->f i<=C):smN n f<=n*C:=by
 induction n with
 | zero=>simp[smN]
 | succ n ih=>
  have h1:=ih λi hi=>h i (by omega)
  have h2:=h n (by omega)
  rw[smN,Nat.succ_mul]; omega
def lhsN (n C:Nat) (f:Nat->Int) (z:Nat->Nat):Nat:=smN n λa=>if 0<f a then z a else if f a<0 then C-z a else 0
theorem x1b {n C:Nat} {f:Nat->Int} (hf:∀a,a<n->(f a).natAbs<=1) {z y:Nat->Nat} (hz:∀a,a<n->z a<=C) (hy:∀a,a<n->y a<=C):(lhsN n C f z:Int)-(lhsN n C f y:Int)=sm n λa=>f a*((z a:Int)-(y a:Int)):=by
 unfold lhsN
 induction n with
 | zero=>rfl
 | succ n ih=>
  have h1:=ih (λa ha=>hf a (by omega)) (λa ha=>hz a (by omega)) (λa ha=>hy a (by omega))
  have h2:=hf n (by omega)
  have h3:=hz n (by omega)
  have h4:=hy n (by omega)
  rw[smN,smN,sm,<- h1]
  rcases Int.lt_trichotomy (f n) 0 with q | q | q
  ·have e:f n=-1:=by omega
   rw[if_neg (by omega),if_pos q,if_neg (by omega),if_pos q,e]
   omega
  ·rw[q]; simp
  ·have e:f n=1:=by omega
   rw[if_pos q,if_pos q,e]
   omega
theorem x5f {n:Nat} (hn:0<n) (fs:List (Nat->Int)) (hlen:fs.length<n) (h1:∀f∈fs,∀a,a<n->(f a).natAbs<=1):∃z:Nat->Int,(∃a,a<n/\z a≠0)/\(∀a,a<n->(z a).natAbs<=n ^ (n-1))/\∀f∈fs,sm n (λa=>f a*z a)=0:=by
 obtain⟨C,hC⟩:∃C,C=n ^ (n-1):=⟨_,rfl⟩
 have hb:0<C+1:=by omega
 let code:Nat->Nat:=λN=>q34 (n*C+1) (fs.map λf=>lhsN n C f λa=>dig (C+1) a N)
 have hdig:∀N a,dig (C+1) a N<=C:=λN a=>by have:=xu4 hb a N; omega
 have hl:∀N,∀x∈fs.map (λf=>lhsN n C f λa=>dig (C+1) a N),x<n*C+1:=λN x hx=>by
  obtain⟨f,hf,rfl⟩:=List.mem_map.1 hx
  have:=x5e (n:=n) (C:=C) (f:=λa=>if 0<f a then dig (C+1) a N else if f a<0 then C-dig (C+1) a N else 0) λi _=>by
   have:=hdig N i
   split
   ·exact this
   ·split <;> omega
  exact Nat.lt_succ_of_le this
 obtain⟨N,M,hNM,hM,he⟩:=q73 ((n*C+1) ^ fs.length) ((C+1) ^ n) code (λN _=>by
  have:=w2x _ (hl N)
  rw[List.length_map] at this
  exact this) (by
  calc(n*C+1) ^ fs.length<=(n*C+1) ^ (n-1):=Nat.pow_le_pow_right (by omega) (by omega)
   _<=(n*(C+1)) ^ (n-1):=Nat.pow_le_pow_left (by rw[Nat.mul_add]; omega) _
   _=n ^ (n-1)*(C+1) ^ (n-1):=Nat.mul_pow _ _ _
   _=C*(C+1) ^ (n-1):=by rw[<- hC]
   _<(C+1)*(C+1) ^ (n-1):=Nat.mul_lt_mul_of_pos_right (by omega) (Nat.pow_pos hb)
   _=(C+1) ^ n:=by rw[Nat.mul_comm,<- Nat.pow_succ,show(n-1).succ=n by omega])
 refine⟨λa=>(dig (C+1) a M:Int)-(dig (C+1) a N:Int),Classical.byContradiction λhno=>?_,λa ha=>?_,λf hf=>?_⟩
 ·have:=xa6 hb n N M (by omega) hM λa ha=>by
   rcases Classical.em ((dig (C+1) a M:Int)-(dig (C+1) a N:Int)=0) with q | q
   ·omega
   ·exact absurd ⟨a,ha,q⟩ hno
  omega
 ·have q1:=hdig M a
  have q2:=hdig N a
  rw[<- hC]
  dsimp only
  omega
 ·have hll:=ws5 (B:=n*C+1) (by omega) _ _ (by simp) (hl N) (hl M) he
  have hfe:lhsN n C f (λa=>dig (C+1) a N)=lhsN n C f (λa=>dig (C+1) a M):=List.map_inj_left.1 hll f hf
  rw[<- x1b (h1 f hf) (λa _=>hdig M a) (λa _=>hdig N a),hfe]
  omega
structure El (n W:Nat) (R ρ:Nat->Nat->Int) (pv:Nat->Option Nat):Prop where
 comb:∀a,a<n->∃(c:Int) (l:Nat->Int),c≠0/\(∀j,j<W->c*ρ a j=sm n λb=>l b*R b j)/\(∀b,b<n->l b≠0->pv b≠none\/b=a)/\(pv a=none->l a≠0)
 ind:∀ν:Nat->Int,(∀b,b<n->ν b≠0->pv b≠none)->(∀t p,t<n->pv t=some p->(sm n λb=>ν b*R b p)=0)->∀b,b<n->ν b=0
 piv:∀t p,t<n->pv t=some p->p<W/\ρ t p≠0/\∀a,a<n->a≠t->ρ a p=0
theorem El.start {n W:Nat} {R ρ:Nat->Nat->Int} (h:∀a,a<n->∃c:Int,c≠0/\∀j,j<W->c*ρ a j=R a j):El n W R ρ (λ_=>none):=by
 refine⟨λa ha=>?_,fun ν h1 _ b hb=>?_,λt p _ h=>by cases h⟩
 ·obtain⟨c,hc,h1⟩:=h a ha
  refine⟨c,λb=>if b=a then 1 else 0,hc,λj hj=>?_,λb _ hb=>?_,λ_=>by simp⟩
  ·rw[h1 j hj,qq0 ha λi _ hne=>by(try dsimp only); rw[if_neg hne]; simp]
   (try dsimp only); rw[if_pos rfl]; omega
  ·by_cases e:b=a
   ·exact .inr e
   ·(try dsimp only at hb); rw[if_neg e] at hb; exact absurd rfl hb
 ·rcases Classical.em (ν b=0) with q | q
  ·exact q
  ·exact absurd rfl (h1 b hb q)
theorem qv1 {a b:Int} (ha:a≠0) (hb:b≠0):a*b≠0:=λh=>(Int.mul_eq_zero.1 h).elim ha hb
theorem qd5 {a b:Int} (h:a*b=0) (ha:a≠0):b=0:=(Int.mul_eq_zero.1 h).resolve_left ha
theorem El.step {n W:Nat} {R ρ ρ':Nat->Nat->Int} {pv:Nat->Option Nat} {t0 j:Nat} (h:El n W R ρ pv) (ht:t0<n) (hp:pv t0=none) (hj:j<W) (hx:ρ t0 j≠0)
  (hT:∃s:Int,s≠0/\∀c,c<W->ρ' t0 c=s*ρ t0 c) (hO:∀a,a<n->a≠t0->ρ' a j=0/\∃α β γ:Int,α≠0/\β≠0/\∀c,c<W->α*ρ' a c=β*ρ a c-γ*ρ' t0 c) :
  El n W R ρ' (λb=>if b=t0 then some j else pv b):=by
 obtain⟨s,hs,hsT⟩:=hT
 obtain⟨c0,l0,hc0,hl0,hs0,hn0⟩:=h.comb t0 ht
 have hn0:=hn0 hp
 have hpv:∀b,(if b=t0 then some j else pv b)≠none↔(pv b≠none\/b=t0):=λb=>by
  by_cases e:b=t0
  ·rw[if_pos e]; exact⟨λ_=>.inr e,λ_=>by simp⟩
  ·rw[if_neg e]; exact⟨.inl,λq=>q.resolve_right e⟩
 refine⟨λa ha=>?_,fun ν h1 h2=>?_,λt p htn htp=>?_⟩
 ·by_cases e:a=t0
  ·subst e
   refine⟨c0,λb=>s*l0 b,hc0,λc hc=>?_,λb hb hne=>(hs0 b hb λq=>hne (by(try dsimp only); rw[q,Int.mul_zero])).imp (λq=>(hpv b).2 (.inl q)) id,λq=>absurd q (by simp)⟩
   have e1:(sm n λb=>s*l0 b*R b c)=s*sm n (λb=>l0 b*R b c):=by rw[<- qs6]; exact qe8 λi _=>Int.mul_assoc _ _ _
   rw[e1,<- hl0 c hc,hsT c hc]
   grind
  ·obtain⟨hz,α,β,γ,hα,hβ,hrel⟩:=hO a ha e
   obtain⟨ca,la,hca,hla,hsa,hna⟩:=h.comb a ha
   refine⟨ca*c0*α,λb=>c0*β*la b-ca*γ*s*l0 b,qv1 (qv1 hca hc0) hα,λc hc=>?_,λb hb hne=>?_,λq=>?_⟩
   ·rw[qt5 n (c0*β) (ca*γ*s) la l0 (λb=>R b c),<- hla c hc,<- hl0 c hc]
    have h3:=hrel c hc
    rw[hsT c hc] at h3
    grind
   ·by_cases q1:la b=0
    ·by_cases q2:l0 b=0
     ·exact absurd (by(try dsimp only); rw[q1,q2]; simp) hne
     ·exact .inl ((hpv b).2 ((hs0 b hb q2).imp id id))
    ·rcases hsa b hb q1 with q | q
     ·exact .inl ((hpv b).2 (.inl q))
     ·exact .inr q
   ·have hpa:pv a=none:=by
     rcases Classical.em (pv a=none) with k | k
     ·exact k
     ·exact absurd q ((hpv a).2 (.inl k))
    have h0:l0 a=0:=Classical.byContradiction λk=>by
     rcases hs0 a ha k with k | k
     ·exact k hpa
     ·exact e k
    (try dsimp only); rw[h0]
    have:=qv1 (qv1 hc0 hβ) (hna hpa)
    simpa using this
 ·-- independent
  have hcol:∀p,(sm n λb=>ν b*R b p)=0->(sm n λb=>(l0 t0*ν b-ν t0*l0 b)*R b p)=- (ν t0*sm n λb=>l0 b*R b p):=λp hp=>by
   rw[qt5 n (l0 t0) (ν t0) ν l0 (λb=>R b p),hp]; simp
  have h2':∀t p,t<n->(if t=t0 then some j else pv t)=some p->(sm n λb=>ν b*R b p)=0:=h2
  have hz:=h.ind (λb=>l0 t0*ν b-ν t0*l0 b) (λb hb hne=>by
   by_cases e:b=t0
   ·subst e; exact absurd (by(try dsimp only); grind) hne
   ·by_cases q1:ν b=0
    ·by_cases q2:l0 b=0
     ·exact absurd (by(try dsimp only); rw[q1,q2]; simp) hne
     ·exact(hs0 b hb q2).resolve_right e
    ·exact((hpv b).1 (h1 b hb q1)).resolve_right e) (λt p htn htp=>by
   have hne:t≠t0:=λe=>by rw[e,hp] at htp; cases htp
   have hR:=h2' t p htn (by rw[if_neg hne]; exact htp)
   obtain⟨hpW,_,hpa⟩:=h.piv t p htn htp
   rw[hcol p hR,<- hl0 p hpW,hpa t0 ht (Ne.symm hne)]
   simp)
  have h0:ν t0=0:=by
   have hR:=h2' t0 j ht (if_pos rfl)
   have e1:=hcol j hR
   have e2:(sm n λb=>(l0 t0*ν b-ν t0*l0 b)*R b j)=0:=sm_zero λb hb=>by have:=hz b hb; (try dsimp only at this ⊢); rw[this]; simp
   rw[e2,<- hl0 j hj] at e1
   have e3:(c0*ρ t0 j)*ν t0=0:=by grind
   exact qd5 e3 (qv1 hc0 hx)
  intro b hb
  have e1:=hz b hb
  try dsimp only at e1
  rw[h0] at e1
  exact qd5 (a:=l0 t0) (by grind) hn0
 ·by_cases e:t=t0
  ·subst e
   rw[if_pos rfl] at htp
   obtain rfl:=Option.some.inj htp
   refine⟨hj,by rw[hsT j hj]; exact qv1 hs hx,λa ha hne=>(hO a ha hne).1⟩
  ·rw[if_neg e] at htp
   obtain⟨hpW,hpt,hpa⟩:=h.piv t p htn htp
   have h0:ρ' t0 p=0:=by rw[hsT p hpW,hpa t0 ht (Ne.symm e)]; simp
   refine⟨hpW,λq=>?_,λa ha hne=>?_⟩
   ·obtain⟨_,α,β,γ,hα,hβ,hrel⟩:=hO t htn e
    have h3:=hrel p hpW
    rw[q,h0] at h3
    exact qv1 hβ hpt (by grind)
   ·by_cases e2:a=t0
    ·rw[e2]; exact h0
    ·obtain⟨_,α,β,γ,hα,hβ,hrel⟩:=hO a ha e2
     have h3:=hrel p hpW
     rw[h0,hpa a ha hne] at h3
     exact qd5 (a:=α) (by grind) hα
def x5g (W:Nat) (r0 r:Nat->Int):Prop:=(∃s:Int,(s=1\/s=-1)/\∀c,c<W->r c=s*r0 c)\/(∀c,c<W->r c=0)\/∀d:Nat,(∀c,c<W->d∣(r c).natAbs)->d=1
theorem ws6 {W:Nat} {r s:Nat->Int} {α β:Int} (hα:α≠0) (h:∀c,c<W->α*r c=β*s c) (hp:∀d:Nat,(∀c,c<W->d∣(r c).natAbs)->d=1):∀c,c<W->(r c).natAbs<=(s c).natAbs:=by
 have hg:0<Nat.gcd α.natAbs β.natAbs:=Nat.gcd_pos_of_pos_left _ (by omega)
 obtain⟨a',ha'⟩:=Nat.gcd_dvd_left α.natAbs β.natAbs
 obtain⟨b',hb'⟩:=Nat.gcd_dvd_right α.natAbs β.natAbs
 have hco:Nat.Coprime b' a':=by
  have:=Nat.coprime_div_gcd_div_gcd hg
  have e1:α.natAbs / Nat.gcd α.natAbs β.natAbs=a':=by
   conv=>lhs; lhs; rw[ha']
   exact Nat.mul_div_cancel_left _ hg
  have e2:β.natAbs / Nat.gcd α.natAbs β.natAbs=b':=by
   conv=>lhs; lhs; rw[hb']
   exact Nat.mul_div_cancel_left _ hg
  rw[e1,e2] at this
  exact this.symm
 have habs:∀c,c<W->a' * (r c).natAbs=b' * (s c).natAbs:=λc hc=>by
  have h1:=congrArg Int.natAbs (h c hc)
  rw[Int.natAbs_mul,Int.natAbs_mul] at h1
  generalize Nat.gcd α.natAbs β.natAbs=g at hg ha' hb'
  rw[ha',hb',Nat.mul_assoc,Nat.mul_assoc] at h1
  exact Nat.eq_of_mul_eq_mul_left hg h1
 have hb1:b'=1:=hp b' λc hc=>hco.dvd_of_dvd_mul_left ⟨_,habs c hc⟩
 have ha1:0<a':=by
  rcases Nat.eq_zero_or_pos a' with q | q
  ·rw[q,Nat.mul_zero] at ha'; omega
  ·exact q
 intro c hc
 have h1:=habs c hc
 rw[hb1,Nat.one_mul] at h1
 rw[<- h1]
 exact Nat.le_mul_of_pos_left _ ha1
theorem El.bound {n W:Nat} {R ρ:Nat->Nat->Int} {pv:Nat->Option Nat} (h:El n W R ρ pv) (hone:∀t p,t<n->pv t=some p->∀b,b<n->(R b p).natAbs<=1) {a:Nat} (ha:a<n) (hnice:x5g W (R a) (ρ a)) {B:Nat} {c:Nat} (hc:c<W) (hB:∀b,b<n->(R b c).natAbs<=B):(ρ a c).natAbs<=n ^ n*B:=by
 have hn:0<n:=by omega
 have hpw:1<=n ^ n:=Nat.pow_pos hn
 rcases hnice with⟨s,hs,hr⟩ | hr | hr
 ·rw[hr c hc,Int.natAbs_mul]
  have h1:=hB a ha
  have h2:s.natAbs=1:=by rcases hs with rfl | rfl <;> rfl
  rw[h2,Nat.one_mul]
  exact Nat.le_trans h1 (Nat.le_mul_of_pos_left _ hpw)
 ·rw[hr c hc]; simp
 -- few equations
 obtain⟨l,hl⟩:∃form:Nat->Nat->Int,∀b,form b=(match pv b with
  | some p=>λx=>R x p
  | none=>λx=>if x=b then 1 else 0):=⟨_,λ_=>rfl⟩
 obtain⟨z,⟨a0,ha0,hza⟩,hzb,hze⟩:=x5f hn (((List.range n).erase a).map l) (by
  rw[List.length_map,List.length_erase_of_mem (List.mem_range.2 ha),List.length_range]; omega) (λf hf x hx=>by
  obtain⟨b,hb,rfl⟩:=List.mem_map.1 hf
  have hbn:=List.mem_range.1 (List.mem_of_mem_erase hb)
  rw[hl]
  cases hpb:pv b with
  | some p=>exact hone b p hbn hpb x hx
  | none=>(try dsimp only); split <;> simp)
 have heq:∀b,b<n->b≠a->sm n (λx=>l b x*z x)=0:=λb hb hne=>hze (l b) (List.mem_map.2 ⟨b,(List.mem_erase_of_ne hne).2 (List.mem_range.2 hb),rfl⟩)
 have hcol:∀t p,t<n->t≠a->pv t=some p->(sm n λb=>z b*R b p)=0:=λt p ht hne htp=>by
  have:=heq t ht hne
  rw[hl,htp] at this
  rw[<- this]
  exact qe8 λi _=>Int.mul_comm _ _
 have hnul:∀b,b<n->b≠a->pv b=none->z b=0:=λb hb hne hpb=>by
  have:=heq b hb hne
  rw[hl,hpb,qq0 hb λi _ hi=>by simp[hi]] at this
  simpa using this
 obtain⟨c1,la,hc1,hla,hsa,hna⟩:=h.comb a ha
 obtain⟨s,hs⟩:∃s:Nat->Int,s=λc=>sm n λb=>z b*R b c:=⟨_,rfl⟩
 have hpar:∃α β:Int,α≠0/\∀c,c<W->α*ρ a c=β*s c:=by
  cases hpa:pv a with
  | none=>
   have hz:=h.ind (λb=>z a*la b-la a*z b) (λb hb hne hpb=>by
    by_cases e:b=a
    ·subst e; exact hne (by(try dsimp only); grind)
    ·have q1:la b=0:=Classical.byContradiction λq=>(hsa b hb q).elim (λk=>k hpb) e
     (try dsimp only at hne); rw[q1,hnul b hb e hpb] at hne
     exact hne (by simp)) (λt p ht htp=>by
    have hne:t≠a:=λe=>by rw[e,hpa] at htp; cases htp
    obtain⟨hpW,_,hp0⟩:=h.piv t p ht htp
    rw[qt5 n (z a) (la a) la z (λb=>R b p),<- hla p hpW,hcol t p ht hne htp,hp0 a ha (Ne.symm hne)]
    simp)
   have hza0:z a≠0:=λq=>by
    have:=hz a0 ha0
    try dsimp only at this
    rw[q] at this
    exact hza (qd5 (a:=la a) (by grind) (hna hpa))
   refine⟨z a*c1,la a,qv1 hza0 hc1,λc hc=>?_⟩
   have e1:(sm n λb=>(z a*la b-la a*z b)*R b c)=0:=sm_zero λb hb=>by have:=hz b hb; (try dsimp only at this ⊢); rw[this]; simp
   rw[qt5 n (z a) (la a) la z (λb=>R b c),<- hla c hc] at e1
   rw[hs]
   grind
  | some p=>
   obtain⟨hpW,hpa0,hp0⟩:=h.piv a p ha hpa
   have hz:=h.ind (λb=>(c1*ρ a p)*z b-s p*la b) (λb hb hne hpb=>by
    have hba:b≠a:=λe=>by rw[e,hpa] at hpb; cases hpb
    have q1:la b=0:=Classical.byContradiction λq=>(hsa b hb q).elim (λk=>k hpb) hba
    (try dsimp only at hne); rw[q1,hnul b hb hba hpb] at hne
    exact hne (by simp)) (λt q ht htq=>by
    obtain⟨hqW,_,hq0⟩:=h.piv t q ht htq
    rw[qt5 n (c1*ρ a p) (s p) z la (λb=>R b q),<- hla q hqW]
    by_cases e:t=a
    ·subst e
     rw[hpa] at htq
     obtain rfl:=Option.some.inj htq
     rw[hs]
     grind
    ·rw[hcol t q ht e htq,hq0 a ha (Ne.symm e)]
     simp)
   have he:s p≠0:=λq=>by
    have:=hz a0 ha0
    try dsimp only at this
    rw[q] at this
    exact hza (qd5 (a:=c1*ρ a p) (by grind) (qv1 hc1 hpa0))
   refine⟨s p*c1,c1*ρ a p,qv1 he hc1,λc hc=>?_⟩
   have e1:(sm n λb=>((c1*ρ a p)*z b-s p*la b)*R b c)=0:=sm_zero λb hb=>by have:=hz b hb; (try dsimp only at this ⊢); rw[this]; simp
   rw[qt5 n (c1*ρ a p) (s p) z la (λb=>R b c),<- hla c hc] at e1
   have e2:s c=sm n λb=>z b*R b c:=by rw[hs]
   rw[<- e2] at e1
   grind
 obtain⟨α,β,hα,hab⟩:=hpar
 have h1:=ws6 hα hab hr c hc
 have h2:(s c).natAbs<=n*(n ^ (n-1)*B):=by
  rw[hs]
  refine x5d λb hb=>?_
  rw[Int.natAbs_mul]
  exact Nat.mul_le_mul (hzb b hb) (hB b hb)
 have h3:n*(n ^ (n-1)*B)=n ^ n*B:=by
  rw[<- Nat.mul_assoc,Nat.mul_comm n,<- Nat.pow_succ,show(n-1).succ=n by omega]
 omega
end Go.Proofs.YtmijnbjlhnpokaaGreat
