/- Rest and Next: contracts by the engine. No condition. -/
import Derived.Test.YtmijnbjlhnpokaaGreatZ6
set_option linter.unusedVariables false
set_option linter.unusedSimpArgs false
namespace Go.Proofs.YtmijnbjlhnpokaaGreat
open Go Go.RowKit Eng
abbrev x45:qc7:=qg0 true none [qf8] [.bool] (λ_=>True) (λx=>(x.1 != 0,()))
theorem w7w:Meets Tryz.prog 194 x45:=by
 refine meets (snd (SpecsOk.nil _)) Tryz.func194 rfl rfl (λ_ _=>none) (λ_=>by kernel_rfl) (by decide) ?_
 rintro⟨n,⟨⟩⟩ -
 revert n
 intro(n:Int)
 refine @qe0 _ ((n != (0:Int))=(n != (0:Ty.den qf8))) (by kernel_rfl) ?_
 try simp only[z0,z1,z2,z3,z4,z5,z6,z7,z8,z9,z10,Int.reduceEq,z11,z12,z13,z14,z15,z16,z17,z18,z19,z20,z21,z22,z23,z24,z25,z26,z27,z28,z29,z30,Int.reduceLE,Int.reduceLT,z31,z32,z33,z34,qa1]
 try simp only[qb4,qb5,qc8,z31,z32,z2,z1]
 done
def qz3 (l:List Int):Bool:=!(l.any λe=>e != 0)
abbrev sOv:qc7:=qg0 true none [qd4] [.bool] (λx=>x.1.length<=1000000) (λx=>(qz3 x.1,()))
theorem xd0:Meets Tryz.prog 143 sOv:=by
 refine meets (snd (SpecsOk.cons (q3b (fs:=[(194,x45)]) (SpecsOk.cons w7w (SpecsOk.nil _))) (SpecsOk.nil _))) Tryz.func143 rfl rfl (λ_ _=>none) (λ_=>by kernel_rfl) (by decide) ?_
 rintro⟨l,⟨⟩⟩ h
 revert l
 intro(l:List Int) (h:l.length<=1000000)
 refine @qe0 _ (∃(v0:qa5 [Ty.int .i64]->Prop),∃(v1:qa5 [Ty.int .i64]->Bool),(∀(v2:Int × qa5._f [] PUnit.unit),v0 v2->True/\(v2.1 != (0:Ty.den qf8))=v1 v2)/\(l.length<=(1000000:Nat)/\∀(v2:Nat),v2<l.length->v0 (nI l v2,()))/\(!List.any l λ(v2:Int)=>v1 (v2,()))=qz3 l) (by kernel_rfl) ?_
 try simp only[z0,z1,z2,z3,z4,z5,z6,z7,z8,z9,z10,Int.reduceEq,z11,z12,z13,z14,z15,z16,z17,z18,z19,z20,z21,z22,z23,z24,z25,z26,z27,z28,z29,z30,Int.reduceLE,Int.reduceLT,z31,z32,z33,z34,qa1]
 try simp only[qb4,qb5,qc8,z31,z32,z2,z1]
 exact⟨λ_=>True,λx=>x.1 != 0,λ_ _=>rfl,⟨h,λ_ _=>trivial⟩,by simp[qz3]⟩
abbrev xz0:Ty:=.list (.prod (.int .i64) (.prod (.int .i64) (.int .i64)))
def nC (l:List (Int × Int × Int)) (i:Nat):Int × Int × Int:=qf2 qv8 l i
def qd6 (l:List (Int × Int × Int)):Nat->Int × Int × Int
 | 0=>(0,0,0)
 | i+1=>if i=0\/wo0 (nC l i) (qd6 l i)=true then nC l i else qd6 l i
theorem wn3 {l:List (Int × Int × Int)} (h:∀i,i<l.length->qq5 (nC l i)):∀i,i<=l.length->qq5 (qd6 l i)
 | 0,_=>⟨by show qd0 1000000000000000 0; unfold qd0; omega,by show(0:Int)<=0; omega,by show(0:Int)<=1000; omega⟩
 | i+1,hi=>by
  rw[qd6]; split
  ·exact h i (by omega)
  ·exact wn3 h i (by omega)
abbrev x46 (c:Int × Int × Int):AObj:=.box 163 (.cons (.lit (.int .i64 c.1)) (.cons (.lit (.int .i64 c.2.1)) (.cons (.lit (.int .i64 c.2.2)) .nil)))
def x3o (l:List (Int × Int × Int)):Nat->Option Inv
 | 0=>some (Inv.of [11] 2 (λi:Nat=>[(11,.lit (.int .i64 i))]) (λi=>[x46 (0,0,0),x46 (qd6 l i)]) (λi=>i<=l.length) (λi=>l.length-i))
 | _=>none
abbrev x3p:qc7:=hspec [(146,xy9)] true none [.d xz0,.fn [qv8,qv8] .bool] [qv8,.bool] (λx=>x.1.length<=1000000/\(∀i,i<x.1.length->qq5 (nC x.1 i))/\(∀a b,qq5 a->qq5 b->x.2.1.1 (a,b,()))/\∀a b,qq5 a->qq5 b->x.2.1.2 (a,b,())=wo0 a b) (λx=>(qd6 x.1 x.1.length,decide (0<(x.1.length:Int)),()))
theorem w28:Meets Tryz.prog 145 x3p:=by
 refine qs2 (SpecsOk.cons q9h (SpecsOk.nil _)) (snd (SpecsOk.nil _)) Tryz.func145 rfl rfl (λx=>x3o x.1) (λ_=>by kernel_rfl) (by decide) ?_
 rintro⟨l,⟨p,f⟩,⟨⟩⟩ h
 revert l p f
 intro(l:List (Int × Int × Int)) (p:qa5 [qv8,qv8]->Prop) (f:qa5 [qv8,qv8]->Bool) (h:l.length<=1000000/\(∀i,i<l.length->qq5 (nC l i))/\(∀a b,qq5 a->qq5 b->p (a,b,()))/\∀a b,qq5 a->qq5 b->f (a,b,())=wo0 a b)
 refine @qe0 _ (let Q0:=qd6 l l.length; ∃(v0:Unit),∃(v1:Nat),Nat.le v1 l.length/\(((0:Int)=(↑v1:Int)/\True)/\((0:Int)=(0:Int)/\(0:Int)=(0:Int)/\(0:Int)=(0:Int)/\True)/\((0:Int)=(qd6 l v1).1/\(0:Int)=(qd6 l v1).2.1/\(0:Int)=(qd6 l v1).2.2/\True)/\True)/\∀(v2:Nat),Nat.le v2 l.length->(decide ((↑v2:Int)<(↑l.length:Int))=true->((0:Int)<=(↑v2:Int)/\(↑v2:Int)<(↑l.length:Int))/\(((↑v2:Int)==(0:Int))=true->fits .i64 ((↑v2:Int)+(1:Int))/\∃(v6:Nat),Nat.le v6 l.length/\l.length-v6<l.length-v2/\((↑v2:Int)+(1:Int)=(↑v6:Int)/\True)/\((0:Int)=(0:Int)/\(0:Int)=(0:Int)/\(0:Int)=(0:Int)/\True)/\((qf2 (Ty.prod (Ty.int .i64) (Ty.prod (Ty.int .i64) (Ty.int .i64))) l v2).1=(qd6 l v6).1/\(qf2 (Ty.prod (Ty.int .i64) (Ty.prod (Ty.int .i64) (Ty.int .i64))) l v2).2.1=(qd6 l v6).2.1/\(qf2 (Ty.prod (Ty.int .i64) (Ty.prod (Ty.int .i64) (Ty.int .i64))) l v2).2.2=(qd6 l v6).2.2/\True)/\True)/\(((↑v2:Int)==(0:Int))=false->p (((qf2 (Ty.prod (Ty.int .i64) (Ty.prod (Ty.int .i64) (Ty.int .i64))) l v2).1,(qf2 (Ty.prod (Ty.int .i64) (Ty.prod (Ty.int .i64) (Ty.int .i64))) l v2).2.1,(qf2 (Ty.prod (Ty.int .i64) (Ty.prod (Ty.int .i64) (Ty.int .i64))) l v2).2.2),((qd6 l v2).1,(qd6 l v2).2.1,(qd6 l v2).2.2),())/\(f (((qf2 (Ty.prod (Ty.int .i64) (Ty.prod (Ty.int .i64) (Ty.int .i64))) l v2).1,(qf2 (Ty.prod (Ty.int .i64) (Ty.prod (Ty.int .i64) (Ty.int .i64))) l v2).2.1,(qf2 (Ty.prod (Ty.int .i64) (Ty.prod (Ty.int .i64) (Ty.int .i64))) l v2).2.2),((qd6 l v2).1,(qd6 l v2).2.1,(qd6 l v2).2.2),())=true->fits .i64 ((↑v2:Int)+(1:Int))/\∃(v7:Nat),Nat.le v7 l.length/\l.length-v7<l.length-v2/\((↑v2:Int)+(1:Int)=(↑v7:Int)/\True)/\((0:Int)=(0:Int)/\(0:Int)=(0:Int)/\(0:Int)=(0:Int)/\True)/\((qf2 (Ty.prod (Ty.int .i64) (Ty.prod (Ty.int .i64) (Ty.int .i64))) l v2).1=(qd6 l v7).1/\(qf2 (Ty.prod (Ty.int .i64) (Ty.prod (Ty.int .i64) (Ty.int .i64))) l v2).2.1=(qd6 l v7).2.1/\(qf2 (Ty.prod (Ty.int .i64) (Ty.prod (Ty.int .i64) (Ty.int .i64))) l v2).2.2=(qd6 l v7).2.2/\True)/\True)/\(f (((qf2 (Ty.prod (Ty.int .i64) (Ty.prod (Ty.int .i64) (Ty.int .i64))) l v2).1,(qf2 (Ty.prod (Ty.int .i64) (Ty.prod (Ty.int .i64) (Ty.int .i64))) l v2).2.1,(qf2 (Ty.prod (Ty.int .i64) (Ty.prod (Ty.int .i64) (Ty.int .i64))) l v2).2.2),((qd6 l v2).1,(qd6 l v2).2.1,(qd6 l v2).2.2),())=false->fits .i64 ((↑v2:Int)+(1:Int))/\∃(v7:Nat),Nat.le v7 l.length/\l.length-v7<l.length-v2/\((↑v2:Int)+(1:Int)=(↑v7:Int)/\True)/\((0:Int)=(0:Int)/\(0:Int)=(0:Int)/\(0:Int)=(0:Int)/\True)/\((qd6 l v2).1=(qd6 l v7).1/\(qd6 l v2).2.1=(qd6 l v7).2.1/\(qd6 l v2).2.2=(qd6 l v7).2.2/\True)/\True)))/\(decide ((↑v2:Int)<(↑l.length:Int))=false->((qd6 l v2).1=Q0.1/\(qd6 l v2).2.1=Q0.2.1/\(qd6 l v2).2.2=Q0.2.2/\True)/\decide ((0:Int)<(↑l.length:Int))=decide ((0:Int)<(↑l.length:Int))/\True)) (by kernel_rfl) ?_
 try simp only[z0,z1,z2,z3,z4,z5,z6,z7,z8,z9,z10,Int.reduceEq,z11,z12,z13,z14,z15,z16,z17,z18,z19,z20,z21,z22,z23,z24,z25,z26,z27,z28,z29,z30,Int.reduceLE,Int.reduceLT,z31,z32,z33,z34,qa1]
 try simp only[qb4,qb5,qc8,z31,z32,z2,z1]
 obtain⟨hl,hc,hp,hf⟩:=h
 have hb:=wn3 hc
 refine⟨(),0,Nat.zero_le _,⟨rfl,rfl,rfl,rfl⟩,λi hi=>⟨λhlt=>⟨hlt,λh0=>?_,λh0=>?_⟩,λhge=>?_⟩⟩
 ·have e:qd6 l (i+1)=nC l i:=by rw[qd6,if_pos (.inl (by omega))]
  exact⟨qa7 (by omega) (by omega),i+1,by omega,by omega,by omega,by rw[e]; rfl,by rw[e]; rfl,by rw[e]; rfl⟩
 ·have hne:¬i=0:=λq=>h0 (by omega)
  have hx:=hf (nC l i) (qd6 l i) (hc i hlt) (hb i (by omega))
  change f (nC l i,qd6 l i,())=_ at hx
  refine⟨hp _ _ (hc i hlt) (hb i (by omega)),λh1=>?_,λh1=>?_⟩
  ·change f (nC l i,qd6 l i,())=true at h1
   have e:qd6 l (i+1)=nC l i:=by rw[qd6,if_pos (.inr (hx ▸ h1))]
   exact⟨qa7 (by omega) (by omega),i+1,by omega,by omega,by omega,by rw[e]; rfl,by rw[e]; rfl,by rw[e]; rfl⟩
  ·change f (nC l i,qd6 l i,())=false at h1
   have e:qd6 l (i+1)=qd6 l i:=by rw[qd6,if_neg (λq=>q.elim hne λq=>by rw[<- hx,h1] at q; cases q)]
   exact⟨qa7 (by omega) (by omega),i+1,by omega,by omega,by omega,by rw[e],by rw[e],by rw[e]⟩
 ·obtain rfl:i=l.length:=by omega
  exact⟨rfl,rfl,rfl⟩
def qi0 (m:List (List Int)) (r:List Int):Nat->List (Int × Int × Int)
 | 0=>[]
 | j+1=>if qz3 (qg2 m j)=true then qi0 m r j else qi0 m r j++[((j:Int),qg8 (qg2 m j) r m.length,qg8 (qg2 m j) (qg2 m j) m.length)]
def qt9 (m:List (List Int)) (r:List Int):List (Int × Int × Int):=qi0 m r (nL m 0).length
def wn4 (m:List (List Int)) (r:List Int):Int × Int:=if qz3 r=true then(0,8) else if(qt9 m r).length=0\/(qd6 (qt9 m r) (qt9 m r).length).2.1=0 then(0,10) else((qd6 (qt9 m r) (qt9 m r).length).1,0)
def q5c (m:List (List Int)) (y C:List Int):Int × Int:=wn4 m (qh9 m y C)
structure w7x (m:List (List Int)) (y C:List Int):Prop where
 rs:wt5 m y C
 one:0<m.length
 pix:(nL m 0).length<=1000
 col:∀j:Nat,j<(nL m 0).length->qs4 m j
 dot:∀j,j<(nL m 0).length->ql5 (qg2 m j) (qh9 m y C)/\ql5 (qg2 m j) (qg2 m j)
 cnd:∀j,j<(nL m 0).length->qq5 ((j:Int),qg8 (qg2 m j) (qh9 m y C) m.length,qg8 (qg2 m j) (qg2 m j) m.length)
theorem q4p (m:List (List Int)) (r:List Int):∀j,(qi0 m r j).length<=j
 | 0=>Nat.le_refl _
 | j+1=>by
  have:=q4p m r j
  rw[qi0]; split
  ·omega
  ·simp; omega
theorem wd5 {m:List (List Int)} {r:List Int}:∀{J:Nat} {c:Int × Int × Int},c∈qi0 m r J->∃j,j<J/\c=((j:Int),qg8 (qg2 m j) r m.length,qg8 (qg2 m j) (qg2 m j) m.length)
 | 0,c,h=>by cases h
 | J+1,c,h=>by
  rw[qi0] at h
  split at h
  ·obtain⟨j,h1,h2⟩:=wd5 h
   exact⟨j,by omega,h2⟩
  ·rcases List.mem_append.1 h with h | h
   ·obtain⟨j,h1,h2⟩:=wd5 h
    exact⟨j,by omega,h2⟩
   ·exact⟨J,Nat.lt_succ_self J,List.mem_singleton.1 h⟩
abbrev x7h:qc7:=qg0 true none [tP] [qf8,qf8] (λx=>w7x x.1.1.1 x.1.1.2 x.1.2) (λx=>((q5c x.1.1.1 x.1.1.2 x.1.2).1,(q5c x.1.1.1 x.1.1.2 x.1.2).2,()))
def x3q (m:List (List Int)) (y C:List Int):Nat->Option Inv
 | 0=>some (Inv.of [6,21] 2 (λj:Nat=>[(6,.own 1),(21,.lit (.int .i64 j))]) (λj=>[pBox m y C,.vec 163 qv8 (qi0 m (qh9 m y C) j)]) (λj=>j<=(nL m 0).length) (λj=>(nL m 0).length-j))
 | _=>none
theorem w7y:Meets Tryz.prog 85 x7h:=by
 refine meets (snd (SpecsOk.cons q7o (SpecsOk.cons xd0 (SpecsOk.cons q83 (SpecsOk.cons q9d (SpecsOk.cons q9e (SpecsOk.cons w28 (SpecsOk.cons q9h (SpecsOk.nil _))))))))) Tryz.func85 rfl rfl (λx=>x3q x.1.1.1 x.1.1.2 x.1.2) (λ_=>by kernel_rfl) (by decide) ?_
 rintro⟨p,⟨⟩⟩ h
 revert p
 intro(p:(List (List Int) × List Int) × List Int) (h:w7x p.1.1 p.1.2 p.2)
 refine @qe0 _ (let Q0:=qh9 p.1.1 p.1.2 p.2; let Q1:=q5c p.1.1 p.1.2 p.2; wt5 p.1.1 p.1.2 p.2/\Q0.length<=(1000000:Nat)/\(qz3 Q0=true->(0:Int)=Q1.1/\(8:Int)=Q1.2/\True)/\(qz3 Q0=false->(0:Nat)<p.1.1.length/\∃(v1:Unit),∃(v2:Nat),Nat.le v2 (nL p.1.1 (0:Nat)).length/\((True/\(0:Int)=(↑v2:Int)/\True)/\(p.1.1=p.1.1/\p.1.2=p.1.2/\p.2=p.2/\True)/\qi0 p.1.1 Q0 v2=[]/\True)/\∀(v3:Nat),Nat.le v3 (nL p.1.1 (0:Nat)).length->(decide ((↑v3:Int)<(↑(nL p.1.1 (0:Nat)).length:Int))=true->qs4 p.1.1 (↑v3:Int)/\(qg2 p.1.1 v3).length<=(1000000:Nat)/\((!qz3 (qg2 p.1.1 v3))=true->ql5 (qg2 p.1.1 v3) Q0/\ql5 (qg2 p.1.1 v3) (qg2 p.1.1 v3)/\((0:Nat)<List.length [((↑v3:Int),qg8 (qg2 p.1.1 v3) Q0 (qg2 p.1.1 v3).length,qg8 (qg2 p.1.1 v3) (qg2 p.1.1 v3) (qg2 p.1.1 v3).length)]/\Nat.le ((qi0 p.1.1 Q0 v3).length+List.length [((↑v3:Int),qg8 (qg2 p.1.1 v3) Q0 (qg2 p.1.1 v3).length,qg8 (qg2 p.1.1 v3) (qg2 p.1.1 v3) (qg2 p.1.1 v3).length)]) (1000000:Nat))/\fits .i64 ((↑v3:Int)+(1:Int))/\∃(v7:Nat),Nat.le v7 (nL p.1.1 (0:Nat)).length/\(nL p.1.1 (0:Nat)).length-v7<(nL p.1.1 (0:Nat)).length-v3/\(True/\(↑v3:Int)+(1:Int)=(↑v7:Int)/\True)/\(p.1.1=p.1.1/\p.1.2=p.1.2/\p.2=p.2/\True)/\qi0 p.1.1 Q0 v3++[((↑v3:Int),qg8 (qg2 p.1.1 v3) Q0 (qg2 p.1.1 v3).length,qg8 (qg2 p.1.1 v3) (qg2 p.1.1 v3) (qg2 p.1.1 v3).length)]=qi0 p.1.1 Q0 v7/\True)/\((!qz3 (qg2 p.1.1 v3))=false->fits .i64 ((↑v3:Int)+(1:Int))/\∃(v7:Nat),Nat.le v7 (nL p.1.1 (0:Nat)).length/\(nL p.1.1 (0:Nat)).length-v7<(nL p.1.1 (0:Nat)).length-v3/\(True/\(↑v3:Int)+(1:Int)=(↑v7:Int)/\True)/\(p.1.1=p.1.1/\p.1.2=p.1.2/\p.2=p.2/\True)/\qi0 p.1.1 Q0 v3=qi0 p.1.1 Q0 v7/\True))/\(decide ((↑v3:Int)<(↑(nL p.1.1 (0:Nat)).length:Int))=false->∃(v6:qa5 [qv8,qv8]->Prop),∃(v7:qa5 [qv8,qv8]->Bool),(∀(v8:(Int × Int × Int) × qa5._f [qv8] ⟨qa5._f [] PUnit.unit,PUnit.unit⟩),v6 v8->(qq5 (v8.1.1,v8.1.2.1,v8.1.2.2)/\qq5 (v8.2.1.1,v8.2.1.2.1,v8.2.1.2.2))/\wo0 (v8.1.1,v8.1.2.1,v8.1.2.2) (v8.2.1.1,v8.2.1.2.1,v8.2.1.2.2)=v7 v8)/\((qi0 p.1.1 Q0 v3).length<=(1000000:Nat)/\(∀(v8:Nat),v8<(qi0 p.1.1 Q0 v3).length->qq5 (nC (qi0 p.1.1 Q0 v3) v8))/\(∀(v8 v9:Int × Int × Int),qq5 v8->qq5 v9->v6 (v8,v9,()))/\∀(v8 v9:Int × Int × Int),qq5 v8->qq5 v9->v7 (v8,v9,())=wo0 v8 v9)/\((!decide ((0:Int)<(↑(qi0 p.1.1 Q0 v3).length:Int)))=true->(0:Int)=Q1.1/\(10:Int)=Q1.2/\True)/\((!decide ((0:Int)<(↑(qi0 p.1.1 Q0 v3).length:Int)))=false->(((qd6 (qi0 p.1.1 Q0 v3) (qi0 p.1.1 Q0 v3).length).2.1==(0:Int))=true->(0:Int)=Q1.1/\(10:Int)=Q1.2/\True)/\(((qd6 (qi0 p.1.1 Q0 v3) (qi0 p.1.1 Q0 v3).length).2.1==(0:Int))=false->(qd6 (qi0 p.1.1 Q0 v3) (qi0 p.1.1 Q0 v3).length).1=Q1.1/\(0:Int)=Q1.2/\True))))) (by kernel_rfl) ?_
 try simp only[z0,z1,z2,z3,z4,z5,z6,z7,z8,z9,z10,Int.reduceEq,z11,z12,z13,z14,z15,z16,z17,z18,z19,z20,z21,z22,z23,z24,z25,z26,z27,z28,z29,z30,Int.reduceLE,Int.reduceLT,z31,z32,z33,z34,qa1]
 try simp only[qb4,qb5,qc8,z31,z32,z2,z1]
 obtain⟨⟨m,y⟩,C⟩:=p
 dsimp only at h ⊢
 have h6:=h.rs.m6
 have hp:=h.pix
 have hl:=q05 m y C
 have hyl:=h.rs.ylen
 have hN:∀e:(if(qt9 m (qh9 m y C)).length=0\/(qd6 (qt9 m (qh9 m y C)) (qt9 m (qh9 m y C)).length).2.1=0 then((0,10):Int × Int) else((qd6 (qt9 m (qh9 m y C)) (qt9 m (qh9 m y C)).length).1,0))=(if(qt9 m (qh9 m y C)).length=0\/(qd6 (qt9 m (qh9 m y C)) (qt9 m (qh9 m y C)).length).2.1=0 then((0,10):Int × Int) else((qd6 (qt9 m (qh9 m y C)) (qt9 m (qh9 m y C)).length).1,0)),qz3 (qh9 m y C)=false->q5c m y C=(if(qt9 m (qh9 m y C)).length=0\/(qd6 (qt9 m (qh9 m y C)) (qt9 m (qh9 m y C)).length).2.1=0 then(0,10) else((qd6 (qt9 m (qh9 m y C)) (qt9 m (qh9 m y C)).length).1,0)):=λ_ ho=>by
  unfold q5c wn4
  rw[if_neg (by rw[ho]; decide)]
 refine⟨h.rs,by omega,λho=>?_,λho=>⟨h.one,(),0,Nat.zero_le _,⟨rfl,rfl⟩,λj hj=>⟨λhlt=>⟨h.col j hlt,by rw[qi6]; omega,λho2=>?_,λho2=>?_⟩,λhge=>?_⟩⟩⟩
 ·have e:q5c m y C=(0,8):=by unfold q5c wn4; rw[if_pos ho]
  rw[e]; exact⟨rfl,rfl⟩
 ·have hcl:=q4p m (qh9 m y C) j
  refine⟨(h.dot j hlt).1,(h.dot j hlt).2,by omega,qa7 (by omega) (by omega),j+1,by omega,by omega,by omega,?_⟩
  rw[qi0,if_neg (by rw[ho2]; decide),qi6]
 ·refine⟨qa7 (by omega) (by omega),j+1,by omega,by omega,by omega,?_⟩
  rw[qi0,if_pos ho2]
 ·obtain rfl:j=(nL m 0).length:=by omega
  have hcl:=q4p m (qh9 m y C) (nL m 0).length
  have hN:=hN rfl ho
  have hcc:∀i,i<(qi0 m (qh9 m y C) (nL m 0).length).length->qq5 (nC (qi0 m (qh9 m y C) (nL m 0).length) i):=λi hi=>by
   obtain⟨j,h1,h2⟩:=wd5 (List.getElem_mem hi)
   have e:nC (qi0 m (qh9 m y C) (nL m 0).length) i=(qi0 m (qh9 m y C) (nL m 0).length)[i]:=qk4 (t:=qv8) _ _ hi
   rw[e,h2]; exact h.cnd j h1
  refine⟨λx=>qq5 x.1/\qq5 x.2.1,λx=>wo0 x.1 x.2.1,λx hx=>⟨hx,rfl⟩,⟨by omega,hcc,λa b h1 h2=>⟨h1,h2⟩,λa b _ _=>rfl⟩,λh0=>?_,λh0=>⟨λh1=>?_,λh1=>?_⟩⟩
  ·rw[hN,if_pos (.inl (show(qi0 m (qh9 m y C) (nL m 0).length).length=0 by omega))]; exact⟨rfl,rfl⟩
  ·rw[hN,if_pos (.inr h1)]; exact⟨rfl,rfl⟩
  ·rw[hN,if_neg λq=>q.elim (λq=>by
    have q:(qi0 m (qh9 m y C) (nL m 0).length).length=0:=q
    omega) h1]
   exact⟨rfl,rfl⟩
def q5d (m:List (List Int)) (y C:List Int):List (Int × Int):=(qh9 m y C).map λn=>ofR n (qj5 m y C)
def q2j (m:List (List Int)) (y C:List Int):List (Int × Int) × Int:=if qp2 m y C=0 then(q5d m y C,0) else([],qp2 m y C)
structure q9i (m:List (List Int)) (y C:List Int):Prop where
 len:C.length<=100000
 rs:qp2 m y C=0->wt5 m y C
 nz:qp2 m y C=0->qj5 m y C≠0
 bd:qp2 m y C=0->qd0 BIG (qj5 m y C)/\∀i,i<y.length->qd0 BIG (nI (qh9 m y C) i)
abbrev x7i:qc7:=qg0 true none [qk2,qd4,qd4] [xk9,qf8] (λx=>q9i x.1 x.2.1 x.2.2.1) (λx=>((q2j x.1 x.2.1 x.2.2.1).1,(q2j x.1 x.2.1 x.2.2.1).2,()))
def x3r (m:List (List Int)) (y C:List Int):Nat->Option Inv
 | 0=>some (Inv.of [11,32] 1 (λk:Nat=>[(11,.own 0),(32,.lit (.int .i64 k))]) (λk=>[.vec 60 xz8 ((q5d m y C).take k)]) (λk=>k<=y.length) (λk=>y.length-k))
 | _=>none
theorem w7z:Meets Tryz.prog 26 x7i:=by
 refine meets (snd (SpecsOk.cons q3e (SpecsOk.cons q7o (SpecsOk.cons w0c (SpecsOk.nil _))))) Tryz.func26 rfl rfl (λx=>x3r x.1 x.2.1 x.2.2.1) (λ_=>by kernel_rfl) (by decide) ?_
 rintro⟨m,y,C,⟨⟩⟩ h
 revert m y C
 intro(m:List (List Int)) (y:List Int) (C:List Int) (h:q9i m y C)
 refine @qe0 _ (let Q0:=qh9 m y C; let Q1:=qj5 m y C; let Q2:=q5d m y C; let Q3:=q2j m y C; C.length<=(1000000:Nat)/\((qp2 m y C != (0:Int))=true->Q3.1=[]/\qp2 m y C=Q3.2/\True)/\((qp2 m y C != (0:Int))=false->wt5 m y C/\∃(v1:Unit),∃(v2:Nat),Nat.le v2 y.length/\((True/\(0:Int)=(↑v2:Int)/\True)/\List.take v2 Q2=[]/\True)/\∀(v3:Nat),Nat.le v3 y.length->(decide ((↑v3:Int)<(↑Q0.length:Int))=true->((0:Int)<=(↑v3:Int)/\(↑v3:Int)<(↑Q0.length:Int))/\(((-4000000000000000000:Int)<=nI Q0 v3/\nI Q0 v3<=BIG)/\((-4000000000000000000:Int)<=qj5 m y C/\qj5 m y C<=BIG)/\qj5 m y C≠(0:Ty.den qf8))/\((0:Nat)<List.length [((ofR (nI Q0 v3) Q1).1,(ofR (nI Q0 v3) Q1).2)]/\Nat.le ((List.take v3 Q2).length+List.length [((ofR (nI Q0 v3) Q1).1,(ofR (nI Q0 v3) Q1).2)]) (1000000:Nat))/\fits .i64 ((↑v3:Int)+(1:Int))/\∃(v6:Nat),Nat.le v6 y.length/\y.length-v6<y.length-v3/\(True/\(↑v3:Int)+(1:Int)=(↑v6:Int)/\True)/\List.take v3 Q2++[((ofR (nI Q0 v3) Q1).1,(ofR (nI Q0 v3) Q1).2)]=List.take v6 Q2/\True)/\(decide ((↑v3:Int)<(↑Q0.length:Int))=false->List.take v3 Q2=Q3.1/\(0:Int)=Q3.2/\True))) (by kernel_rfl) ?_
 try simp only[z0,z1,z2,z3,z4,z5,z6,z7,z8,z9,z10,Int.reduceEq,z11,z12,z13,z14,z15,z16,z17,z18,z19,z20,z21,z22,z23,z24,z25,z26,z27,z28,z29,z30,Int.reduceLE,Int.reduceLT,z31,z32,z33,z34,qa1]
 try simp only[qb4,qb5,qc8,z31,z32,z2,z1]
 have hl:=h.len
 have hz:=q05 m y C
 have hfl:(q5d m y C).length=y.length:=by simp[q5d,hz]
 refine⟨by omega,λhe=>?_,λhe=>⟨h.rs he,(),0,Nat.zero_le _,⟨rfl,rfl⟩,λk hk=>⟨λhlt=>?_,λhge=>?_⟩⟩⟩
 ·unfold q2j; rw[if_neg he]; exact⟨rfl,rfl⟩
 ·have hb:=h.bd he
  have h1:=hb.1
  have h2:=hb.2 k (by omega)
  have h3:=(h.rs he).m6
  have h4:=(h.rs he).ylen
  unfold qd0 at h1 h2
  refine⟨hlt,⟨h2,h1,h.nz he⟩,by rw[List.length_take]; omega,qa7 (by omega) (by omega),k+1,by omega,by omega,by omega,?_⟩
  have e:(q5d m y C)[k]'(by omega)=ofR (nI (qh9 m y C) k) (qj5 m y C):=by simp[q5d,qh2 _ k hlt]
  rw[List.take_add_one,List.getElem?_eq_getElem (by omega),e]; rfl
 ·have e:q2j m y C=(q5d m y C,0):=by unfold q2j; rw[if_pos he]
  rw[e,List.take_of_length_le (by omega)]; exact⟨rfl,rfl⟩
def q7p (m:List (List Int)) (y C:List Int):Int × Int:=if qp2 m y C=0 then q5c m y C else(0,qp2 m y C)
structure q9j (m:List (List Int)) (y C:List Int):Prop where
 len:C.length<=100000
 nx:qp2 m y C=0->w7x m y C
abbrev x7j:qc7:=qg0 true none [qk2,qd4,qd4] [qf8,qf8] (λx=>q9j x.1 x.2.1 x.2.2.1) (λx=>((q7p x.1 x.2.1 x.2.2.1).1,(q7p x.1 x.2.1 x.2.2.1).2,()))
theorem w70:Meets Tryz.prog 28 x7j:=by
 refine meets (snd (SpecsOk.cons q3e (SpecsOk.cons w7y (SpecsOk.nil _)))) Tryz.func28 rfl rfl (λ_ _=>none) (λ_=>by kernel_rfl) (by decide) ?_
 rintro⟨m,y,C,⟨⟩⟩ h
 revert m y C
 intro(m:List (List Int)) (y:List Int) (C:List Int) (h:q9j m y C)
 refine @qe0 _ (let Q0:=q7p m y C; C.length<=(1000000:Nat)/\((qp2 m y C != (0:Int))=true->(0:Int)=Q0.1/\qp2 m y C=Q0.2/\True)/\((qp2 m y C != (0:Int))=false->w7x m y C/\(q5c m y C).1=Q0.1/\(q5c m y C).2=Q0.2/\True)) (by kernel_rfl) ?_
 try simp only[z0,z1,z2,z3,z4,z5,z6,z7,z8,z9,z10,Int.reduceEq,z11,z12,z13,z14,z15,z16,z17,z18,z19,z20,z21,z22,z23,z24,z25,z26,z27,z28,z29,z30,Int.reduceLE,Int.reduceLT,z31,z32,z33,z34,qa1]
 try simp only[qb4,qb5,qc8,z31,z32,z2,z1]
 have hl:=h.len
 refine⟨by omega,λhe=>?_,λhe=>⟨h.nx he,?_⟩⟩
 ·unfold q7p; rw[if_neg he]; exact⟨rfl,rfl⟩
 ·unfold q7p; rw[if_pos he]; exact⟨rfl,rfl⟩
end Go.Proofs.YtmijnbjlhnpokaaGreat
