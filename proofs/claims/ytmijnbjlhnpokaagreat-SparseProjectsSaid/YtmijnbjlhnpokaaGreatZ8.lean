/- Rest and Next: contracts by the engine. No condition. -/
import Derived.Test.YtmijnbjlhnpokaaGreatZ6
set_option linter.unusedVariables false
set_option linter.unusedSimpArgs false
namespace Go.Proofs.YtmijnbjlhnpokaaGreat
open Go Go.RowKit Eng
abbrev x7q:qc9:=qg4 true none [qg0] [.bool] (λ_=>True) (λx=>(x.1 != 0,()))
theorem w8u:Meets Tryz.prog 194 x7q:=by
 refine meets (snd (SpecsOk.nil _)) Tryz.func194 rfl rfl (λ_ _=>none) (λ_=>by kernel_rfl) (by decide) ?_
 rintro⟨n,⟨⟩⟩ -
 revert n
 intro(n:Int)
 refine @qe1 _ ((n != (0:Int))=(n != (0:Ty.den qg0))) (by kernel_rfl) ?_
 try simp only[z0,z1,z2,z3,z4,z5,z6,z7,z8,z9,z10,Int.reduceEq,z11,z12,z13,z14,z15,z16,z17,z18,z19,z20,z21,z22,z23,z24,z25,z26,z27,z28,z29,z30,Int.reduceLE,Int.reduceLT,z31,z32,z33,z34,qa1]
 try simp only[qb5,qb6,qd2,z31,z32,z2,z1]
 done
def q48 (l:List Int):Bool:=!(l.any λe=>e != 0)
abbrev sOv:qc9:=qg4 true none [qf1] [.bool] (λx=>x.1.length<=1000000) (λx=>(q48 x.1,()))
theorem xh6:Meets Tryz.prog 143 sOv:=by
 refine meets (snd (SpecsOk.cons (q3v (fs:=[(194,x7q)]) (SpecsOk.cons w8u (SpecsOk.nil _))) (SpecsOk.nil _))) Tryz.func143 rfl rfl (λ_ _=>none) (λ_=>by kernel_rfl) (by decide) ?_
 rintro⟨l,⟨⟩⟩ h
 revert l
 intro(l:List Int) (h:l.length<=1000000)
 refine @qe1 _ (∃(v0:qa5 [Ty.int .i64]->Prop),∃(v1:qa5 [Ty.int .i64]->Bool),(∀(v2:Int × qa5._f [] PUnit.unit),v0 v2->True/\(v2.1 != (0:Ty.den qg0))=v1 v2)/\(l.length<=(1000000:Nat)/\∀(v2:Nat),v2<l.length->v0 (nI l v2,()))/\(!List.any l λ(v2:Int)=>v1 (v2,()))=q48 l) (by kernel_rfl) ?_
 try simp only[z0,z1,z2,z3,z4,z5,z6,z7,z8,z9,z10,Int.reduceEq,z11,z12,z13,z14,z15,z16,z17,z18,z19,z20,z21,z22,z23,z24,z25,z26,z27,z28,z29,z30,Int.reduceLE,Int.reduceLT,z31,z32,z33,z34,qa1]
 try simp only[qb5,qb6,qd2,z31,z32,z2,z1]
 exact⟨λ_=>True,λx=>x.1 != 0,λ_ _=>rfl,⟨h,λ_ _=>trivial⟩,by simp[q48]⟩
abbrev x1w:Ty:=.list (.prod (.int .i64) (.prod (.int .i64) (.int .i64)))
def nC (l:List (Int × Int × Int)) (i:Nat):Int × Int × Int:=qd1 q0l l i
def qf8 (l:List (Int × Int × Int)):Nat->Int × Int × Int
 | 0=>(0,0,0)
 | i+1=>if i=0\/w9q (nC l i) (qf8 l i)=true then nC l i else qf8 l i
theorem wp3 {l:List (Int × Int × Int)} (h:∀i,i<l.length->qq8 (nC l i)):∀i,i<=l.length->qq8 (qf8 l i)
 | 0,_=>⟨by show qc8 1000000000000000 0; unfold qc8; omega,by show(0:Int)<=0; omega,by show(0:Int)<=1000; omega⟩
 | i+1,hi=>by
  rw[qf8]; split
  ·exact h i (by omega)
  ·exact wp3 h i (by omega)
abbrev x7r (c:Int × Int × Int):AObj:=.box 163 (.cons (.lit (.int .i64 c.1)) (.cons (.lit (.int .i64 c.2.1)) (.cons (.lit (.int .i64 c.2.2)) .nil)))
def x52 (l:List (Int × Int × Int)):Nat->Option Inv
 | 0=>some (Inv.of [11] 2 (λi:Nat=>[(11,.lit (.int .i64 i))]) (λi=>[x7r (0,0,0),x7r (qf8 l i)]) (λi=>i<=l.length) (λi=>l.length-i))
 | _=>none
abbrev x53:qc9:=hspec [(146,x1v)] true none [.d x1w,.fn [q0l,q0l] .bool] [q0l,.bool] (λx=>x.1.length<=1000000/\(∀i,i<x.1.length->qq8 (nC x.1 i))/\(∀a b,qq8 a->qq8 b->x.2.1.1 (a,b,()))/\∀a b,qq8 a->qq8 b->x.2.1.2 (a,b,())=w9q a b) (λx=>(qf8 x.1 x.1.length,decide (0<(x.1.length:Int)),()))
theorem w4c:Meets Tryz.prog 145 x53:=by
 refine qt0 (SpecsOk.cons q9z (SpecsOk.nil _)) (snd (SpecsOk.nil _)) Tryz.func145 rfl rfl (λx=>x52 x.1) (λ_=>by kernel_rfl) (by decide) ?_
 rintro⟨l,⟨p,f⟩,⟨⟩⟩ h
 revert l p f
 intro(l:List (Int × Int × Int)) (p:qa5 [q0l,q0l]->Prop) (f:qa5 [q0l,q0l]->Bool) (h:l.length<=1000000/\(∀i,i<l.length->qq8 (nC l i))/\(∀a b,qq8 a->qq8 b->p (a,b,()))/\∀a b,qq8 a->qq8 b->f (a,b,())=w9q a b)
 refine @qe1 _ (let Q0:=qf8 l l.length; ∃(v0:Unit),∃(v1:Nat),Nat.le v1 l.length/\(((0:Int)=(↑v1:Int)/\True)/\((0:Int)=(0:Int)/\(0:Int)=(0:Int)/\(0:Int)=(0:Int)/\True)/\((0:Int)=(qf8 l v1).1/\(0:Int)=(qf8 l v1).2.1/\(0:Int)=(qf8 l v1).2.2/\True)/\True)/\∀(v2:Nat),Nat.le v2 l.length->(decide ((↑v2:Int)<(↑l.length:Int))=true->((0:Int)<=(↑v2:Int)/\(↑v2:Int)<(↑l.length:Int))/\(((↑v2:Int)==(0:Int))=true->fits .i64 ((↑v2:Int)+(1:Int))/\∃(v6:Nat),Nat.le v6 l.length/\l.length-v6<l.length-v2/\((↑v2:Int)+(1:Int)=(↑v6:Int)/\True)/\((0:Int)=(0:Int)/\(0:Int)=(0:Int)/\(0:Int)=(0:Int)/\True)/\((qd1 (Ty.prod (Ty.int .i64) (Ty.prod (Ty.int .i64) (Ty.int .i64))) l v2).1=(qf8 l v6).1/\(qd1 (Ty.prod (Ty.int .i64) (Ty.prod (Ty.int .i64) (Ty.int .i64))) l v2).2.1=(qf8 l v6).2.1/\(qd1 (Ty.prod (Ty.int .i64) (Ty.prod (Ty.int .i64) (Ty.int .i64))) l v2).2.2=(qf8 l v6).2.2/\True)/\True)/\(((↑v2:Int)==(0:Int))=false->p (((qd1 (Ty.prod (Ty.int .i64) (Ty.prod (Ty.int .i64) (Ty.int .i64))) l v2).1,(qd1 (Ty.prod (Ty.int .i64) (Ty.prod (Ty.int .i64) (Ty.int .i64))) l v2).2.1,(qd1 (Ty.prod (Ty.int .i64) (Ty.prod (Ty.int .i64) (Ty.int .i64))) l v2).2.2),((qf8 l v2).1,(qf8 l v2).2.1,(qf8 l v2).2.2),())/\(f (((qd1 (Ty.prod (Ty.int .i64) (Ty.prod (Ty.int .i64) (Ty.int .i64))) l v2).1,(qd1 (Ty.prod (Ty.int .i64) (Ty.prod (Ty.int .i64) (Ty.int .i64))) l v2).2.1,(qd1 (Ty.prod (Ty.int .i64) (Ty.prod (Ty.int .i64) (Ty.int .i64))) l v2).2.2),((qf8 l v2).1,(qf8 l v2).2.1,(qf8 l v2).2.2),())=true->fits .i64 ((↑v2:Int)+(1:Int))/\∃(v7:Nat),Nat.le v7 l.length/\l.length-v7<l.length-v2/\((↑v2:Int)+(1:Int)=(↑v7:Int)/\True)/\((0:Int)=(0:Int)/\(0:Int)=(0:Int)/\(0:Int)=(0:Int)/\True)/\((qd1 (Ty.prod (Ty.int .i64) (Ty.prod (Ty.int .i64) (Ty.int .i64))) l v2).1=(qf8 l v7).1/\(qd1 (Ty.prod (Ty.int .i64) (Ty.prod (Ty.int .i64) (Ty.int .i64))) l v2).2.1=(qf8 l v7).2.1/\(qd1 (Ty.prod (Ty.int .i64) (Ty.prod (Ty.int .i64) (Ty.int .i64))) l v2).2.2=(qf8 l v7).2.2/\True)/\True)/\(f (((qd1 (Ty.prod (Ty.int .i64) (Ty.prod (Ty.int .i64) (Ty.int .i64))) l v2).1,(qd1 (Ty.prod (Ty.int .i64) (Ty.prod (Ty.int .i64) (Ty.int .i64))) l v2).2.1,(qd1 (Ty.prod (Ty.int .i64) (Ty.prod (Ty.int .i64) (Ty.int .i64))) l v2).2.2),((qf8 l v2).1,(qf8 l v2).2.1,(qf8 l v2).2.2),())=false->fits .i64 ((↑v2:Int)+(1:Int))/\∃(v7:Nat),Nat.le v7 l.length/\l.length-v7<l.length-v2/\((↑v2:Int)+(1:Int)=(↑v7:Int)/\True)/\((0:Int)=(0:Int)/\(0:Int)=(0:Int)/\(0:Int)=(0:Int)/\True)/\((qf8 l v2).1=(qf8 l v7).1/\(qf8 l v2).2.1=(qf8 l v7).2.1/\(qf8 l v2).2.2=(qf8 l v7).2.2/\True)/\True)))/\(decide ((↑v2:Int)<(↑l.length:Int))=false->((qf8 l v2).1=Q0.1/\(qf8 l v2).2.1=Q0.2.1/\(qf8 l v2).2.2=Q0.2.2/\True)/\decide ((0:Int)<(↑l.length:Int))=decide ((0:Int)<(↑l.length:Int))/\True)) (by kernel_rfl) ?_
 try simp only[z0,z1,z2,z3,z4,z5,z6,z7,z8,z9,z10,Int.reduceEq,z11,z12,z13,z14,z15,z16,z17,z18,z19,z20,z21,z22,z23,z24,z25,z26,z27,z28,z29,z30,Int.reduceLE,Int.reduceLT,z31,z32,z33,z34,qa1]
 try simp only[qb5,qb6,qd2,z31,z32,z2,z1]
 obtain⟨hl,hc,hp,hf⟩:=h
 have hb:=wp3 hc
 refine⟨(),0,Nat.zero_le _,⟨rfl,rfl,rfl,rfl⟩,λi hi=>⟨λhlt=>⟨hlt,λh0=>?_,λh0=>?_⟩,λhge=>?_⟩⟩
 ·have e:qf8 l (i+1)=nC l i:=by rw[qf8,if_pos (.inl (by omega))]
  exact⟨qa7 (by omega) (by omega),i+1,by omega,by omega,by omega,by rw[e]; rfl,by rw[e]; rfl,by rw[e]; rfl⟩
 ·have hne:¬i=0:=λq=>h0 (by omega)
  have hx:=hf (nC l i) (qf8 l i) (hc i hlt) (hb i (by omega))
  change f (nC l i,qf8 l i,())=_ at hx
  refine⟨hp _ _ (hc i hlt) (hb i (by omega)),λh1=>?_,λh1=>?_⟩
  ·change f (nC l i,qf8 l i,())=true at h1
   have e:qf8 l (i+1)=nC l i:=by rw[qf8,if_pos (.inr (hx ▸ h1))]
   exact⟨qa7 (by omega) (by omega),i+1,by omega,by omega,by omega,by rw[e]; rfl,by rw[e]; rfl,by rw[e]; rfl⟩
  ·change f (nC l i,qf8 l i,())=false at h1
   have e:qf8 l (i+1)=qf8 l i:=by rw[qf8,if_neg (λq=>q.elim hne λq=>by rw[<- hx,h1] at q; cases q)]
   exact⟨qa7 (by omega) (by omega),i+1,by omega,by omega,by omega,by rw[e],by rw[e],by rw[e]⟩
 ·obtain rfl:i=l.length:=by omega
  exact⟨rfl,rfl,rfl⟩
def qj2 (m:List (List Int)) (r:List Int):Nat->List (Int × Int × Int)
 | 0=>[]
 | j+1=>if q48 (qi1 m j)=true then qj2 m r j else qj2 m r j++[((j:Int),ql0 (qi1 m j) r m.length,ql0 (qi1 m j) (qi1 m j) m.length)]
def qv0 (m:List (List Int)) (r:List Int):List (Int × Int × Int):=qj2 m r (nL m 0).length
def w1w (m:List (List Int)) (r:List Int):Int × Int:=if q48 r=true then(0,8) else if(qv0 m r).length=0\/(qf8 (qv0 m r) (qv0 m r).length).2.1=0 then(0,10) else((qf8 (qv0 m r) (qv0 m r).length).1,0)
def qn6 (m:List (List Int)) (y C:List Int):Int × Int:=w1w m (qe8 m y C)
structure xh7 (m:List (List Int)) (y C:List Int):Prop where
 rs:wv9 m y C
 one:0<m.length
 pix:(nL m 0).length<=1000
 col:∀j:Nat,j<(nL m 0).length->qw2 m j
 dot:∀j,j<(nL m 0).length->qw3 (qi1 m j) (qe8 m y C)/\qw3 (qi1 m j) (qi1 m j)
 cnd:∀j,j<(nL m 0).length->qq8 ((j:Int),ql0 (qi1 m j) (qe8 m y C) m.length,ql0 (qi1 m j) (qi1 m j) m.length)
theorem q49 (m:List (List Int)) (r:List Int):∀j,(qj2 m r j).length<=j
 | 0=>Nat.le_refl _
 | j+1=>by
  have:=q49 m r j
  rw[qj2]; split
  ·omega
  ·simp; omega
theorem q6d {m:List (List Int)} {r:List Int}:∀{J:Nat} {c:Int × Int × Int},c∈qj2 m r J->∃j,j<J/\c=((j:Int),ql0 (qi1 m j) r m.length,ql0 (qi1 m j) (qi1 m j) m.length)
 | 0,c,h=>by cases h
 | J+1,c,h=>by
  rw[qj2] at h
  split at h
  ·obtain⟨j,h1,h2⟩:=q6d h
   exact⟨j,by omega,h2⟩
  ·rcases List.mem_append.1 h with h | h
   ·obtain⟨j,h1,h2⟩:=q6d h
    exact⟨j,by omega,h2⟩
   ·exact⟨J,Nat.lt_succ_self J,List.mem_singleton.1 h⟩
abbrev ya9:qc9:=qg4 true none [tP] [qg0,qg0] (λx=>xh7 x.1.1.1 x.1.1.2 x.1.2) (λx=>((qn6 x.1.1.1 x.1.1.2 x.1.2).1,(qn6 x.1.1.1 x.1.1.2 x.1.2).2,()))
def x56 (m:List (List Int)) (y C:List Int):Nat->Option Inv
 | 0=>some (Inv.of [6,21] 2 (λj:Nat=>[(6,.own 1),(21,.lit (.int .i64 j))]) (λj=>[pBox m y C,.vec 163 q0l (qj2 m (qe8 m y C) j)]) (λj=>j<=(nL m 0).length) (λj=>(nL m 0).length-j))
 | _=>none
theorem w8v:Meets Tryz.prog 85 ya9:=by
 refine meets (snd (SpecsOk.cons q73 (SpecsOk.cons xh6 (SpecsOk.cons q9k (SpecsOk.cons q9v (SpecsOk.cons q9w (SpecsOk.cons w4c (SpecsOk.cons q9z (SpecsOk.nil _))))))))) Tryz.func85 rfl rfl (λx=>x56 x.1.1.1 x.1.1.2 x.1.2) (λ_=>by kernel_rfl) (by decide) ?_
 rintro⟨p,⟨⟩⟩ h
 revert p
 intro(p:(List (List Int) × List Int) × List Int) (h:xh7 p.1.1 p.1.2 p.2)
 refine @qe1 _ (let Q0:=qe8 p.1.1 p.1.2 p.2; let Q1:=qn6 p.1.1 p.1.2 p.2; wv9 p.1.1 p.1.2 p.2/\Q0.length<=(1000000:Nat)/\(q48 Q0=true->(0:Int)=Q1.1/\(8:Int)=Q1.2/\True)/\(q48 Q0=false->(0:Nat)<p.1.1.length/\∃(v1:Unit),∃(v2:Nat),Nat.le v2 (nL p.1.1 (0:Nat)).length/\((True/\(0:Int)=(↑v2:Int)/\True)/\(p.1.1=p.1.1/\p.1.2=p.1.2/\p.2=p.2/\True)/\qj2 p.1.1 Q0 v2=[]/\True)/\∀(v3:Nat),Nat.le v3 (nL p.1.1 (0:Nat)).length->(decide ((↑v3:Int)<(↑(nL p.1.1 (0:Nat)).length:Int))=true->qw2 p.1.1 (↑v3:Int)/\(qi1 p.1.1 v3).length<=(1000000:Nat)/\((!q48 (qi1 p.1.1 v3))=true->qw3 (qi1 p.1.1 v3) Q0/\qw3 (qi1 p.1.1 v3) (qi1 p.1.1 v3)/\((0:Nat)<List.length [((↑v3:Int),ql0 (qi1 p.1.1 v3) Q0 (qi1 p.1.1 v3).length,ql0 (qi1 p.1.1 v3) (qi1 p.1.1 v3) (qi1 p.1.1 v3).length)]/\Nat.le ((qj2 p.1.1 Q0 v3).length+List.length [((↑v3:Int),ql0 (qi1 p.1.1 v3) Q0 (qi1 p.1.1 v3).length,ql0 (qi1 p.1.1 v3) (qi1 p.1.1 v3) (qi1 p.1.1 v3).length)]) (1000000:Nat))/\fits .i64 ((↑v3:Int)+(1:Int))/\∃(v7:Nat),Nat.le v7 (nL p.1.1 (0:Nat)).length/\(nL p.1.1 (0:Nat)).length-v7<(nL p.1.1 (0:Nat)).length-v3/\(True/\(↑v3:Int)+(1:Int)=(↑v7:Int)/\True)/\(p.1.1=p.1.1/\p.1.2=p.1.2/\p.2=p.2/\True)/\qj2 p.1.1 Q0 v3++[((↑v3:Int),ql0 (qi1 p.1.1 v3) Q0 (qi1 p.1.1 v3).length,ql0 (qi1 p.1.1 v3) (qi1 p.1.1 v3) (qi1 p.1.1 v3).length)]=qj2 p.1.1 Q0 v7/\True)/\((!q48 (qi1 p.1.1 v3))=false->fits .i64 ((↑v3:Int)+(1:Int))/\∃(v7:Nat),Nat.le v7 (nL p.1.1 (0:Nat)).length/\(nL p.1.1 (0:Nat)).length-v7<(nL p.1.1 (0:Nat)).length-v3/\(True/\(↑v3:Int)+(1:Int)=(↑v7:Int)/\True)/\(p.1.1=p.1.1/\p.1.2=p.1.2/\p.2=p.2/\True)/\qj2 p.1.1 Q0 v3=qj2 p.1.1 Q0 v7/\True))/\(decide ((↑v3:Int)<(↑(nL p.1.1 (0:Nat)).length:Int))=false->∃(v6:qa5 [q0l,q0l]->Prop),∃(v7:qa5 [q0l,q0l]->Bool),(∀(v8:(Int × Int × Int) × qa5._f [q0l] ⟨qa5._f [] PUnit.unit,PUnit.unit⟩),v6 v8->(qq8 (v8.1.1,v8.1.2.1,v8.1.2.2)/\qq8 (v8.2.1.1,v8.2.1.2.1,v8.2.1.2.2))/\w9q (v8.1.1,v8.1.2.1,v8.1.2.2) (v8.2.1.1,v8.2.1.2.1,v8.2.1.2.2)=v7 v8)/\((qj2 p.1.1 Q0 v3).length<=(1000000:Nat)/\(∀(v8:Nat),v8<(qj2 p.1.1 Q0 v3).length->qq8 (nC (qj2 p.1.1 Q0 v3) v8))/\(∀(v8 v9:Int × Int × Int),qq8 v8->qq8 v9->v6 (v8,v9,()))/\∀(v8 v9:Int × Int × Int),qq8 v8->qq8 v9->v7 (v8,v9,())=w9q v8 v9)/\((!decide ((0:Int)<(↑(qj2 p.1.1 Q0 v3).length:Int)))=true->(0:Int)=Q1.1/\(10:Int)=Q1.2/\True)/\((!decide ((0:Int)<(↑(qj2 p.1.1 Q0 v3).length:Int)))=false->(((qf8 (qj2 p.1.1 Q0 v3) (qj2 p.1.1 Q0 v3).length).2.1==(0:Int))=true->(0:Int)=Q1.1/\(10:Int)=Q1.2/\True)/\(((qf8 (qj2 p.1.1 Q0 v3) (qj2 p.1.1 Q0 v3).length).2.1==(0:Int))=false->(qf8 (qj2 p.1.1 Q0 v3) (qj2 p.1.1 Q0 v3).length).1=Q1.1/\(0:Int)=Q1.2/\True))))) (by kernel_rfl) ?_
 try simp only[z0,z1,z2,z3,z4,z5,z6,z7,z8,z9,z10,Int.reduceEq,z11,z12,z13,z14,z15,z16,z17,z18,z19,z20,z21,z22,z23,z24,z25,z26,z27,z28,z29,z30,Int.reduceLE,Int.reduceLT,z31,z32,z33,z34,qa1]
 try simp only[qb5,qb6,qd2,z31,z32,z2,z1]
 obtain⟨⟨m,y⟩,C⟩:=p
 dsimp only at h ⊢
 have h6:=h.rs.m6
 have hp:=h.pix
 have hl:=qy3 m y C
 have hyl:=h.rs.ylen
 have hN:∀e:(if(qv0 m (qe8 m y C)).length=0\/(qf8 (qv0 m (qe8 m y C)) (qv0 m (qe8 m y C)).length).2.1=0 then((0,10):Int × Int) else((qf8 (qv0 m (qe8 m y C)) (qv0 m (qe8 m y C)).length).1,0))=(if(qv0 m (qe8 m y C)).length=0\/(qf8 (qv0 m (qe8 m y C)) (qv0 m (qe8 m y C)).length).2.1=0 then((0,10):Int × Int) else((qf8 (qv0 m (qe8 m y C)) (qv0 m (qe8 m y C)).length).1,0)),q48 (qe8 m y C)=false->qn6 m y C=(if(qv0 m (qe8 m y C)).length=0\/(qf8 (qv0 m (qe8 m y C)) (qv0 m (qe8 m y C)).length).2.1=0 then(0,10) else((qf8 (qv0 m (qe8 m y C)) (qv0 m (qe8 m y C)).length).1,0)):=λ_ ho=>by
  unfold qn6 w1w
  rw[if_neg (by rw[ho]; decide)]
 refine⟨h.rs,by omega,λho=>?_,λho=>⟨h.one,(),0,Nat.zero_le _,⟨rfl,rfl⟩,λj hj=>⟨λhlt=>⟨h.col j hlt,by rw[qi7]; omega,λho2=>?_,λho2=>?_⟩,λhge=>?_⟩⟩⟩
 ·have e:qn6 m y C=(0,8):=by unfold qn6 w1w; rw[if_pos ho]
  rw[e]; exact⟨rfl,rfl⟩
 ·have hcl:=q49 m (qe8 m y C) j
  refine⟨(h.dot j hlt).1,(h.dot j hlt).2,by omega,qa7 (by omega) (by omega),j+1,by omega,by omega,by omega,?_⟩
  rw[qj2,if_neg (by rw[ho2]; decide),qi7]
 ·refine⟨qa7 (by omega) (by omega),j+1,by omega,by omega,by omega,?_⟩
  rw[qj2,if_pos ho2]
 ·obtain rfl:j=(nL m 0).length:=by omega
  have hcl:=q49 m (qe8 m y C) (nL m 0).length
  have hN:=hN rfl ho
  have hcc:∀i,i<(qj2 m (qe8 m y C) (nL m 0).length).length->qq8 (nC (qj2 m (qe8 m y C) (nL m 0).length) i):=λi hi=>by
   obtain⟨j,h1,h2⟩:=q6d (List.getElem_mem hi)
   have e:nC (qj2 m (qe8 m y C) (nL m 0).length) i=(qj2 m (qe8 m y C) (nL m 0).length)[i]:=ql9 (t:=q0l) _ _ hi
   rw[e,h2]; exact h.cnd j h1
  refine⟨λx=>qq8 x.1/\qq8 x.2.1,λx=>w9q x.1 x.2.1,λx hx=>⟨hx,rfl⟩,⟨by omega,hcc,λa b h1 h2=>⟨h1,h2⟩,λa b _ _=>rfl⟩,λh0=>?_,λh0=>⟨λh1=>?_,λh1=>?_⟩⟩
  ·rw[hN,if_pos (.inl (show(qj2 m (qe8 m y C) (nL m 0).length).length=0 by omega))]; exact⟨rfl,rfl⟩
  ·rw[hN,if_pos (.inr h1)]; exact⟨rfl,rfl⟩
  ·rw[hN,if_neg λq=>q.elim (λq=>by
    have q:(qj2 m (qe8 m y C) (nL m 0).length).length=0:=q
    omega) h1]
   exact⟨rfl,rfl⟩
def qj6 (m:List (List Int)) (y C:List Int):List (Int × Int):=(qe8 m y C).map λn=>ofR n (qh0 m y C)
def qd6 (m:List (List Int)) (y C:List Int):List (Int × Int) × Int:=if qs5 m y C=0 then(qj6 m y C,0) else([],qs5 m y C)
structure q2f (m:List (List Int)) (y C:List Int):Prop where
 len:C.length<=100000
 rs:qs5 m y C=0->wv9 m y C
 nz:qs5 m y C=0->qh0 m y C≠0
 bd:qs5 m y C=0->qc8 BIG (qh0 m y C)/\∀i,i<y.length->qc8 BIG (nI (qe8 m y C) i)
abbrev yb0:qc9:=qg4 true none [qo2,qf1,qf1] [xc8,qg0] (λx=>q2f x.1 x.2.1 x.2.2.1) (λx=>((qd6 x.1 x.2.1 x.2.2.1).1,(qd6 x.1 x.2.1 x.2.2.1).2,()))
def x57 (m:List (List Int)) (y C:List Int):Nat->Option Inv
 | 0=>some (Inv.of [11,32] 1 (λk:Nat=>[(11,.own 0),(32,.lit (.int .i64 k))]) (λk=>[.vec 60 x4j ((qj6 m y C).take k)]) (λk=>k<=y.length) (λk=>y.length-k))
 | _=>none
theorem w8w:Meets Tryz.prog 26 yb0:=by
 refine meets (snd (SpecsOk.cons q3x (SpecsOk.cons q73 (SpecsOk.cons w02 (SpecsOk.nil _))))) Tryz.func26 rfl rfl (λx=>x57 x.1 x.2.1 x.2.2.1) (λ_=>by kernel_rfl) (by decide) ?_
 rintro⟨m,y,C,⟨⟩⟩ h
 revert m y C
 intro(m:List (List Int)) (y:List Int) (C:List Int) (h:q2f m y C)
 refine @qe1 _ (let Q0:=qe8 m y C; let Q1:=qh0 m y C; let Q2:=qj6 m y C; let Q3:=qd6 m y C; C.length<=(1000000:Nat)/\((qs5 m y C != (0:Int))=true->Q3.1=[]/\qs5 m y C=Q3.2/\True)/\((qs5 m y C != (0:Int))=false->wv9 m y C/\∃(v1:Unit),∃(v2:Nat),Nat.le v2 y.length/\((True/\(0:Int)=(↑v2:Int)/\True)/\List.take v2 Q2=[]/\True)/\∀(v3:Nat),Nat.le v3 y.length->(decide ((↑v3:Int)<(↑Q0.length:Int))=true->((0:Int)<=(↑v3:Int)/\(↑v3:Int)<(↑Q0.length:Int))/\(((-4000000000000000000:Int)<=nI Q0 v3/\nI Q0 v3<=BIG)/\((-4000000000000000000:Int)<=qh0 m y C/\qh0 m y C<=BIG)/\qh0 m y C≠(0:Ty.den qg0))/\((0:Nat)<List.length [((ofR (nI Q0 v3) Q1).1,(ofR (nI Q0 v3) Q1).2)]/\Nat.le ((List.take v3 Q2).length+List.length [((ofR (nI Q0 v3) Q1).1,(ofR (nI Q0 v3) Q1).2)]) (1000000:Nat))/\fits .i64 ((↑v3:Int)+(1:Int))/\∃(v6:Nat),Nat.le v6 y.length/\y.length-v6<y.length-v3/\(True/\(↑v3:Int)+(1:Int)=(↑v6:Int)/\True)/\List.take v3 Q2++[((ofR (nI Q0 v3) Q1).1,(ofR (nI Q0 v3) Q1).2)]=List.take v6 Q2/\True)/\(decide ((↑v3:Int)<(↑Q0.length:Int))=false->List.take v3 Q2=Q3.1/\(0:Int)=Q3.2/\True))) (by kernel_rfl) ?_
 try simp only[z0,z1,z2,z3,z4,z5,z6,z7,z8,z9,z10,Int.reduceEq,z11,z12,z13,z14,z15,z16,z17,z18,z19,z20,z21,z22,z23,z24,z25,z26,z27,z28,z29,z30,Int.reduceLE,Int.reduceLT,z31,z32,z33,z34,qa1]
 try simp only[qb5,qb6,qd2,z31,z32,z2,z1]
 have hl:=h.len
 have hz:=qy3 m y C
 have hfl:(qj6 m y C).length=y.length:=by simp[qj6,hz]
 refine⟨by omega,λhe=>?_,λhe=>⟨h.rs he,(),0,Nat.zero_le _,⟨rfl,rfl⟩,λk hk=>⟨λhlt=>?_,λhge=>?_⟩⟩⟩
 ·unfold qd6; rw[if_neg he]; exact⟨rfl,rfl⟩
 ·have hb:=h.bd he
  have h1:=hb.1
  have h2:=hb.2 k (by omega)
  have h3:=(h.rs he).m6
  have h4:=(h.rs he).ylen
  unfold qc8 at h1 h2
  refine⟨hlt,⟨h2,h1,h.nz he⟩,by rw[List.length_take]; omega,qa7 (by omega) (by omega),k+1,by omega,by omega,by omega,?_⟩
  have e:(qj6 m y C)[k]'(by omega)=ofR (nI (qe8 m y C) k) (qh0 m y C):=by simp[qj6,qh7 _ k hlt]
  rw[List.take_add_one,List.getElem?_eq_getElem (by omega),e]; rfl
 ·have e:qd6 m y C=(qj6 m y C,0):=by unfold qd6; rw[if_pos he]
  rw[e,List.take_of_length_le (by omega)]; exact⟨rfl,rfl⟩
end Go.Proofs.YtmijnbjlhnpokaaGreat
