/- What a faulty mask reads, and tests: contracts by the engine. No condition. -/
import Derived.Test.YtmijnbjlhnpokaaGreatH1
import Derived.Test.YtmijnbjlhnpokaaGreatV18
set_option linter.unusedVariables false
set_option linter.unusedSimpArgs false
namespace Go.Proofs.YtmijnbjlhnpokaaGreat
open Go Go.RowKit Eng
abbrev w4v:Ty:=.prod (.list (.int .i64)) (.list (.int .i64))
abbrev Tst:=List Int × List Int
abbrev yl0 (fs:List (Nat × qb4)):qb4:=hspec fs true none [.d (.list (.prod (.list (.int .i64)) (.list (.int .i64)))),.fn [.prod (.list (.int .i64)) (.list (.int .i64))] .bool] [qd0] (λx=>x.1.length<=1000000/\∀i,i<x.1.length->x.2.1.1 (qe6 (.prod (.list (.int .i64)) (.list (.int .i64))) x.1 i,())) (λx=>(ixT (.prod (.list (.int .i64)) (.list (.int .i64))) (λe=>x.2.1.2 (e,())) x.1,()))
theorem w8x {fs:List (Nat × qb4)} (hfs:SpecsOk Tryz.prog fs):Meets Tryz.prog 175 (yl0 fs):=by
 refine qk0 hfs (snd (SpecsOk.nil _)) Tryz.func175 rfl rfl (λx=>x3m (.prod (.list (.int .i64)) (.list (.int .i64))) x.1 (λe=>x.2.1.2 (e,()))) (λ_=>by kernel_rfl) (by decide) ?_
 rintro⟨l,⟨p,f⟩,⟨⟩⟩ h
 revert l p f
 intro(l:List (Ty.den (.prod (.list (.int .i64)) (.list (.int .i64))))) (p:qa4 [.prod (.list (.int .i64)) (.list (.int .i64))]->Prop) (f:qa4 [.prod (.list (.int .i64)) (.list (.int .i64))]->Bool) (h:l.length<=1000000/\∀i,i<l.length->p (qe6 (.prod (.list (.int .i64)) (.list (.int .i64))) l i,()))
 refine @qd1 _ (∃(v0:Unit),∃(v1:Nat),(v1<=l.length/\∀(v2:Nat),Nat.le (Nat.succ v2) v1->f (qe6 (Ty.prod (Ty.list (Ty.int .i64)) (Ty.list (Ty.int .i64))) l v2,())=false)/\(((0:Int)=(↑v1:Int)/\True)/\True)/\∀(v2:Nat),(v2<=l.length/\∀(v4:Nat),Nat.le (Nat.succ v4) v2->f (qe6 (Ty.prod (Ty.list (Ty.int .i64)) (Ty.list (Ty.int .i64))) l v4,())=false)->(decide ((↑v2:Int)<(↑l.length:Int))=true->((0:Int)<=(↑v2:Int)/\(↑v2:Int)<(↑l.length:Int))/\p (((qe6 (Ty.prod (Ty.list (Ty.int .i64)) (Ty.list (Ty.int .i64))) l v2).1,(qe6 (Ty.prod (Ty.list (Ty.int .i64)) (Ty.list (Ty.int .i64))) l v2).2),())/\(f (((qe6 (Ty.prod (Ty.list (Ty.int .i64)) (Ty.list (Ty.int .i64))) l v2).1,(qe6 (Ty.prod (Ty.list (Ty.int .i64)) (Ty.list (Ty.int .i64))) l v2).2),())=true->(↑v2:Int)=ixT (Ty.prod (Ty.list (Ty.int .i64)) (Ty.list (Ty.int .i64))) (λ(v6:List Int × List Int)=>f (v6,())) l)/\(f (((qe6 (Ty.prod (Ty.list (Ty.int .i64)) (Ty.list (Ty.int .i64))) l v2).1,(qe6 (Ty.prod (Ty.list (Ty.int .i64)) (Ty.list (Ty.int .i64))) l v2).2),())=false->fits .i64 ((↑v2:Int)+(1:Int))/\∃(v6:Nat),(v6<=l.length/\∀(v7:Nat),Nat.le (Nat.succ v7) v6->f (qe6 (Ty.prod (Ty.list (Ty.int .i64)) (Ty.list (Ty.int .i64))) l v7,())=false)/\l.length-v6<l.length-v2/\((↑v2:Int)+(1:Int)=(↑v6:Int)/\True)/\True))/\(decide ((↑v2:Int)<(↑l.length:Int))=false->(-1:Int)=ixT (Ty.prod (Ty.list (Ty.int .i64)) (Ty.list (Ty.int .i64))) (λ(v5:List Int × List Int)=>f (v5,())) l)) (by kernel_rfl) ?_
 try simp only[z0,z1,z2,z3,z4,z5,z6,z7,z8,z9,z10,Int.reduceEq,z11,z12,z13,z14,z15,z16,z17,z18,z19,z20,z21,z22,z23,z24,z25,z26,z27,z28,z29,z30,Int.reduceLE,Int.reduceLT,z31,z32,z33,z34,qa1]
 try simp only[qa7,qa8,qb5,z31,z32,z2,z1]
 obtain⟨hl,hp⟩:=h
 refine⟨(),0,⟨Nat.zero_le _,λi hi=>absurd hi (by omega)⟩,rfl,λk ⟨hk,hall⟩=>?_⟩
 refine⟨λhlt=>⟨hlt,hp k hlt,λhf=>(q9h (.prod (.list (.int .i64)) (.list (.int .i64))) (λe=>f (e,())) l k hlt hall hf).symm,λhf=>⟨qb8 (by omega) (by omega),k+1,⟨by omega,λi hi=>?_⟩,by omega,by omega⟩⟩,λhge=>(q3k (.prod (.list (.int .i64)) (.list (.int .i64))) (λe=>f (e,())) l λi hi=>hall i (by omega)).symm⟩
 by_cases e:i=k
 ·subst e; exact hf
 ·exact hall i (by omega)
abbrev yl1 (fs:List (Nat × qb4)):qb4:=hspec fs true none [.d (.list (.prod (.list (.int .i64)) (.list (.int .i64)))),.fn [.prod (.list (.int .i64)) (.list (.int .i64))] .bool] [.bool] (λx=>x.1.length<=1000000/\∀i,i<x.1.length->x.2.1.1 (qe6 (.prod (.list (.int .i64)) (.list (.int .i64))) x.1 i,())) (λx=>(x.1.any λe=>x.2.1.2 (e,()),()))
theorem wo1 {fs:List (Nat × qb4)} (hfs:SpecsOk Tryz.prog fs):Meets Tryz.prog 112 (yl1 fs):=by
 refine qk0 hfs (snd (SpecsOk.cons (w8x (fs:=fs) hfs) (SpecsOk.nil _))) Tryz.func112 rfl rfl (λx=>λ_=>none) (λ_=>by kernel_rfl) (by decide) ?_
 rintro⟨l,⟨p,f⟩,⟨⟩⟩ h
 revert l p f
 intro(l:List (Ty.den (.prod (.list (.int .i64)) (.list (.int .i64))))) (p:qa4 [.prod (.list (.int .i64)) (.list (.int .i64))]->Prop) (f:qa4 [.prod (.list (.int .i64)) (.list (.int .i64))]->Bool) (h:l.length<=1000000/\∀i,i<l.length->p (qe6 (.prod (.list (.int .i64)) (.list (.int .i64))) l i,()))
 refine @qd1 _ (∃(v0:qa4 [Ty.prod (Ty.list (Ty.int .i64)) (Ty.list (Ty.int .i64))]->Prop),∃(v1:qa4 [Ty.prod (Ty.list (Ty.int .i64)) (Ty.list (Ty.int .i64))]->Bool),([Ty.prod (Ty.list (Ty.int .i64)) (Ty.list (Ty.int .i64))]=[Ty.prod (Ty.list (Ty.int .i64)) (Ty.list (Ty.int .i64))]/\Ty.bool=Ty.bool/\p ≍ v0/\f ≍ v1)/\(l.length<=(1000000:Nat)/\∀(v2:Nat),v2<l.length->v0 (qe6 (Ty.prod (Ty.list (Ty.int .i64)) (Ty.list (Ty.int .i64))) l v2,()))/\decide ((0:Int)<=ixT (Ty.prod (Ty.list (Ty.int .i64)) (Ty.list (Ty.int .i64))) (λ(v2:List Int × List Int)=>v1 (v2,())) l)=List.any l λ(v2:List Int × List Int)=>f (v2,())) (by kernel_rfl) ?_
 try simp only[z0,z1,z2,z3,z4,z5,z6,z7,z8,z9,z10,Int.reduceEq,z11,z12,z13,z14,z15,z16,z17,z18,z19,z20,z21,z22,z23,z24,z25,z26,z27,z28,z29,z30,Int.reduceLE,Int.reduceLT,z31,z32,z33,z34,qa1]
 try simp only[qa7,qa8,qb5,z31,z32,z2,z1]
 exact⟨p,f,⟨HEq.rfl,HEq.rfl⟩,h,qw7 (.prod (.list (.int .i64)) (.list (.int .i64))) (λe=>f (e,())) l⟩
def fVB (m:List (List Int)) (f:Flt):Bool:=qb9 m && fvB m f
theorem FltPre.of {m:List (List Int)} {f:Flt} (h:(qb9 m && fvB m f)=true):FltPre m f:=by
 rw[Bool.and_eq_true] at h; exact⟨h.1,h.2⟩
def xc5 (m:List (List Int)) (f:Flt):List (List Int) × Int:=if fVB m f then(qh1 m f,0) else([],1)
abbrev yl2:qb4:=qf2 true none [qf3,qj4] [qf3,qd0] (λ_=>True) (λx=>((xc5 x.1 x.2.1).1,(xc5 x.1 x.2.1).2,()))
theorem w8y:Meets Tryz.prog 11 yl2:=by
 refine meets (snd (SpecsOk.cons wd9 (SpecsOk.cons q7i (SpecsOk.nil _)))) Tryz.func11 rfl rfl (λ_ _=>none) (λ_=>by kernel_rfl) (by decide) ?_
 rintro⟨m,⟨kd,r,p⟩,⟨⟩⟩ -
 revert m kd r p
 intro(m:List (List Int)) (kd:Int) (r:Int) (p:Int)
 refine @qd1 _ (let Q0:=(xc5 m (kd,r,p)); let Q1:=(!(qb9 m && fvB m (kd,r,p))); True/\(Q1=true->Q0.1=[]/\(1:Int)=Q0.2/\True)/\(Q1=false->FltPre m (kd,r,p)/\q1t (Ty.int .i64) (qh1 m (kd,r,p)) none=Q0.1/\(0:Int)=Q0.2/\True)) (by kernel_rfl) ?_
 try simp only[z0,z1,z2,z3,z4,z5,z6,z7,z8,z9,z10,Int.reduceEq,z11,z12,z13,z14,z15,z16,z17,z18,z19,z20,z21,z22,z23,z24,z25,z26,z27,z28,z29,z30,Int.reduceLE,Int.reduceLT,z31,z32,z33,z34,qa1]
 try simp only[qa7,qa8,qb5,z31,z32,z2,z1]
 refine⟨λh=>?_,λh=>⟨FltPre.of h,?_⟩⟩
 ·unfold xc5 fVB; rw[h]; exact⟨rfl,rfl⟩
 ·unfold xc5 fVB; rw[h]; exact⟨rfl,rfl⟩
def xc6 (m:List (List Int)) (f:Flt) (x:List Int):List Int:=(qs5 (qh1 m f) x).1
theorem wo2 (m:List (List Int)) (x:List Int):(q7h m x).length=m.length:=by simp[q7h]
theorem x0c (m:List (List Int)) (f:Flt) (x:List Int):(xc6 m f x).length=if q8n (qh1 m f) x=0 then(qh1 m f).length else 0:=by
 unfold xc6 qs5; split
 ·exact wo2 _ _
 ·rfl
theorem w1w (m:List (List Int)) (f:Flt):(qh1 m f).length=m.length:=by
 unfold qh1; split
 ·rw[List.length_set]
 ·split
  ·exact q1q _ _ _
  ·split
   ·rw[List.length_set]
   ·rfl
abbrev yl3:qb4:=qf2 false none [qf3,qj4,qe8] [qe8] (λx=>FltPre x.1 x.2.1/\x.2.2.1.length<=1000000) (λx=>(xc6 x.1 x.2.1 x.2.2.1,()))
theorem wo3:Meets Tryz.prog 61 yl3:=by
 refine meets (snd (SpecsOk.cons q7i (SpecsOk.cons q9u (SpecsOk.nil _)))) Tryz.func61 rfl rfl (λ_ _=>none) (λ_=>by kernel_rfl) (by decide) ?_
 rintro⟨m,⟨kd,r,p⟩,x,⟨⟩⟩ h
 revert m kd r p x
 intro(m:List (List Int)) (kd:Int) (r:Int) (p:Int) (x:List Int) (h:FltPre m (kd,r,p)/\x.length<=1000000)
 refine @qd1 _ (FltPre m (kd,r,p)/\x.length<=(1000000:Nat)/\(qs5 (q1t (Ty.int .i64) (qh1 m (kd,r,p)) none) x).1=xc6 m (kd,r,p) x) (by kernel_rfl) ?_
 try simp only[z0,z1,z2,z3,z4,z5,z6,z7,z8,z9,z10,Int.reduceEq,z11,z12,z13,z14,z15,z16,z17,z18,z19,z20,z21,z22,z23,z24,z25,z26,z27,z28,z29,z30,Int.reduceLE,Int.reduceLT,z31,z32,z33,z34,qa1]
 try simp only[qa7,qa8,qb5,z31,z32,z2,z1]
 exact⟨h.1,h.2,rfl⟩
abbrev yl4:qb4:=qf2 true none [qf3,qe8] [.bool] (λx=>x.2.1.length<=1000000) (λx=>(decide (q8n x.1 x.2.1=0),()))
theorem wo4:Meets Tryz.prog 60 yl4:=by
 refine meets (snd (SpecsOk.cons wo0 (SpecsOk.nil _))) Tryz.func60 rfl rfl (λ_ _=>none) (λ_=>by kernel_rfl) (by decide) ?_
 rintro⟨m,x,⟨⟩⟩ h
 revert m x
 intro(m:List (List Int)) (x:List Int) (h:x.length<=1000000)
 refine @qd1 _ (x.length<=(1000000:Nat)/\(q8n m x==(0:Int))=decide (q8n m x=(0:Int))) (by kernel_rfl) ?_
 try simp only[z0,z1,z2,z3,z4,z5,z6,z7,z8,z9,z10,Int.reduceEq,z11,z12,z13,z14,z15,z16,z17,z18,z19,z20,z21,z22,z23,z24,z25,z26,z27,z28,z29,z30,Int.reduceLE,Int.reduceLT,z31,z32,z33,z34,qa1]
 try simp only[qa7,qa8,qb5,z31,z32,z2,z1]
 exact⟨h,rfl⟩
def wo5 (m:List (List Int)) (f:Flt) (x:List Int):List Int × Int:=if fVB m f=false then([],1) else if q8n m x=0 then(xc6 m f x,0) else([],7)
abbrev yl5:qb4:=qf2 false none [qf3,qj4,qe8] [qe8,qd0] (λx=>x.2.2.1.length<=1000000) (λx=>((wo5 x.1 x.2.1 x.2.2.1).1,(wo5 x.1 x.2.1 x.2.2.1).2,()))
theorem w8z:Meets Tryz.prog 14 yl5:=by
 refine meets (snd (SpecsOk.cons wd9 (SpecsOk.cons wo4 (SpecsOk.cons wo3 (SpecsOk.nil _))))) Tryz.func14 rfl rfl (λ_ _=>none) (λ_=>by kernel_rfl) (by decide) ?_
 rintro⟨m,⟨kd,r,p⟩,x,⟨⟩⟩ h
 revert m kd r p x
 intro(m:List (List Int)) (kd:Int) (r:Int) (p:Int) (x:List Int) (h:x.length<=1000000)
 refine @qd1 _ (let Q0:=(wo5 m (kd,r,p) x); let Q1:=(!(qb9 m && fvB m (kd,r,p))); True/\(Q1=true->Q0.1=[]/\(1:Int)=Q0.2/\True)/\(Q1=false->x.length<=(1000000:Nat)/\((!decide (q8n m x=(0:Int)))=true->Q0.1=[]/\(7:Int)=Q0.2/\True)/\((!decide (q8n m x=(0:Int)))=false->(FltPre m (kd,r,p)/\x.length<=(1000000:Nat))/\xc6 m (kd,r,p) x=Q0.1/\(0:Int)=Q0.2/\True))) (by kernel_rfl) ?_
 try simp only[z0,z1,z2,z3,z4,z5,z6,z7,z8,z9,z10,Int.reduceEq,z11,z12,z13,z14,z15,z16,z17,z18,z19,z20,z21,z22,z23,z24,z25,z26,z27,z28,z29,z30,Int.reduceLE,Int.reduceLT,z31,z32,z33,z34,qa1]
 try simp only[qa7,qa8,qb5,z31,z32,z2,z1]
 refine⟨λhv=>by unfold wo5 fVB; rw[hv]; exact⟨rfl,rfl⟩,λhv=>⟨h,λhe=>?_,λhe=>⟨⟨FltPre.of hv,h⟩,?_⟩⟩⟩
 ·unfold wo5 fVB; rw[hv,if_neg (by decide),if_neg he]; exact⟨rfl,rfl⟩
 ·unfold wo5 fVB; rw[hv,if_neg (by decide),if_pos he]; exact⟨rfl,rfl⟩
def w5q (m:List (List Int)) (t:Tst):Bool:=decide (q8n m t.1=0) && decide (t.2.length=m.length)
def q18 (t:Tst):Prop:=t.1.length<=1000000/\t.2.length<=1000000
abbrev yl6:qb4:=qf2 true none [qf3,w4v] [.bool] (λx=>q18 x.2.1) (λx=>(w5q x.1 x.2.1,()))
theorem w80:Meets Tryz.prog 114 yl6:=by
 refine meets (snd (SpecsOk.cons wo4 (SpecsOk.nil _))) Tryz.func114 rfl rfl (λ_ _=>none) (λ_=>by kernel_rfl) (by decide) ?_
 rintro⟨m,⟨x,y⟩,⟨⟩⟩ h
 revert m x y
 intro(m:List (List Int)) (x:List Int) (y:List Int) (h:q18 (x,y))
 refine @qd1 _ (x.length<=(1000000:Nat)/\(decide (q8n m x=(0:Int))=true->((↑y.length:Int)==(↑m.length:Int))=w5q m (x,y))/\(decide (q8n m x=(0:Int))=false->false=w5q m (x,y))) (by kernel_rfl) ?_
 try simp only[z0,z1,z2,z3,z4,z5,z6,z7,z8,z9,z10,Int.reduceEq,z11,z12,z13,z14,z15,z16,z17,z18,z19,z20,z21,z22,z23,z24,z25,z26,z27,z28,z29,z30,Int.reduceLE,Int.reduceLT,z31,z32,z33,z34,qa1]
 try simp only[qa7,qa8,qb5,z31,z32,z2,z1]
 refine⟨h.1,λe=>?_,λe=>?_⟩
 ·unfold w5q; rw[decide_eq_true e,Bool.true_and]; exact decide_eq_decide.2 (show(y.length:Int)=m.length↔y.length=m.length by omega)
 ·unfold w5q; rw[decide_eq_false e]; rfl
abbrev yf9:qb4:=hspec [] true none [.d w4v,.cap qf3] [.bool] (λx=>q18 x.1) (λx=>(!w5q x.2.1 x.1,()))
theorem w81:Meets Tryz.prog 113 yf9:=by
 refine qk0 (SpecsOk.nil _) (snd (SpecsOk.cons w80 (SpecsOk.nil _))) Tryz.func113 rfl rfl (λ_ _=>none) (λ_=>by kernel_rfl) (by decide) ?_
 rintro⟨⟨x,y⟩,m,⟨⟩⟩ h
 revert x y m
 intro(x:List Int) (y:List Int) (m:List (List Int)) (h:q18 (x,y))
 refine @qd1 _ (q18 (x,y)/\(!w5q m (x,y))=!w5q m (x,y)) (by kernel_rfl) ?_
 try simp only[z0,z1,z2,z3,z4,z5,z6,z7,z8,z9,z10,Int.reduceEq,z11,z12,z13,z14,z15,z16,z17,z18,z19,z20,z21,z22,z23,z24,z25,z26,z27,z28,z29,z30,Int.reduceLE,Int.reduceLT,z31,z32,z33,z34,qa1]
 try simp only[qa7,qa8,qb5,z31,z32,z2,z1]
 exact h
def vtB (m:List (List Int)) (l:List Tst):Bool:=qb9 m && decide (l.length<=12) && l.all λt=>w5q m t
abbrev nT (l:List Tst) (i:Nat):Tst:=qe6 (.prod (.list (.int .i64)) (.list (.int .i64))) l i
def q00 (l:List Tst):Prop:=∀i,i<l.length->q18 (nT l i)
abbrev sVT:qb4:=qf2 true none [qf3,.list w4v] [.bool] (λx=>q00 x.2.1) (λx=>(vtB x.1 x.2.1,()))
theorem xk2:Meets Tryz.prog 62 sVT:=by
 refine meets (snd (SpecsOk.cons qq1 (SpecsOk.cons (wo1 (fs:=[(113,yf9)]) (SpecsOk.cons w81 (SpecsOk.nil _))) (SpecsOk.nil _)))) Tryz.func62 rfl rfl (λ_ _=>none) (λ_=>by kernel_rfl) (by decide) ?_
 rintro⟨m,l,⟨⟩⟩ h
 revert m l
 intro(m:List (List Int)) (l:List Tst) (h:q00 l)
 refine @qd1 _ (True/\(qb9 m=true->(decide ((↑l.length:Int)<=(12:Int))=true->∃(v2:qa4 [Ty.prod (Ty.list (Ty.int .i64)) (Ty.list (Ty.int .i64))]->Prop),∃(v3:qa4 [Ty.prod (Ty.list (Ty.int .i64)) (Ty.list (Ty.int .i64))]->Bool),(∀(v4:(List Int × List Int) × qa4._f [] PUnit.unit),v2 v4->q18 (v4.1.1,v4.1.2)/\(!w5q m (v4.1.1,v4.1.2))=v3 v4)/\(l.length<=(1000000:Nat)/\∀(v4:Nat),v4<l.length->v2 (qe6 (Ty.prod (Ty.list (Ty.int .i64)) (Ty.list (Ty.int .i64))) l v4,()))/\(!List.any l λ(v4:List Int × List Int)=>v3 (v4,()))=vtB m l)/\(decide ((↑l.length:Int)<=(12:Int))=false->false=vtB m l))/\(qb9 m=false->false=vtB m l)) (by kernel_rfl) ?_
 try simp only[z0,z1,z2,z3,z4,z5,z6,z7,z8,z9,z10,Int.reduceEq,z11,z12,z13,z14,z15,z16,z17,z18,z19,z20,z21,z22,z23,z24,z25,z26,z27,z28,z29,z30,Int.reduceLE,Int.reduceLT,z31,z32,z33,z34,qa1]
 try simp only[qa7,qa8,qb5,z31,z32,z2,z1]
 refine⟨λhv=>⟨λhl=>⟨λt=>q18 t.1,λt=>!w5q m t.1,λt ht=>⟨ht,(Bool.not_not _).symm⟩,⟨by omega,λi hi=>h i hi⟩,?_⟩,λhl=>?_⟩,λhv=>?_⟩
 ·unfold vtB; rw[hv,decide_eq_true (show l.length<=12 by omega)]; simp[List.not_all_eq_any_not]
 ·unfold vtB; rw[decide_eq_false (show ¬l.length<=12 by omega)]; simp
 ·unfold vtB; rw[hv]; rfl
structure w82 (m:List (List Int)) (f:Flt) (t:Tst):Prop where
 flt:FltPre m f
 tst:q18 t
def xk3 (m:List (List Int)) (f:Flt) (t:Tst):Bool:=decide (xc6 m f t.1=t.2)
abbrev yg0:qb4:=hspec [] true none [.d w4v,.cap qf3,.cap qj4] [.bool] (λx=>w82 x.2.1 x.2.2.1 x.1) (λx=>(!xk3 x.2.1 x.2.2.1 x.1,()))
theorem w83:Meets Tryz.prog 115 yg0:=by
 refine qk0 (SpecsOk.nil _) (snd (SpecsOk.cons wo3 (SpecsOk.cons wn0 (SpecsOk.nil _)))) Tryz.func115 rfl rfl (λ_ _=>none) (λ_=>by kernel_rfl) (by decide) ?_
 rintro⟨⟨x,y⟩,m,⟨kd,r,p⟩,⟨⟩⟩ h
 revert x y m kd r p
 intro(x:List Int) (y:List Int) (m:List (List Int)) (kd:Int) (r:Int) (p:Int) (h:w82 m (kd,r,p) (x,y))
 refine @qd1 _ ((FltPre m (kd,r,p)/\x.length<=(1000000:Nat))/\(xc6 m (kd,r,p) x).length<=(1000000:Nat)/\(!decide (xc6 m (kd,r,p) x=y))=!xk3 m (kd,r,p) (x,y)) (by kernel_rfl) ?_
 try simp only[z0,z1,z2,z3,z4,z5,z6,z7,z8,z9,z10,Int.reduceEq,z11,z12,z13,z14,z15,z16,z17,z18,z19,z20,z21,z22,z23,z24,z25,z26,z27,z28,z29,z30,Int.reduceLE,Int.reduceLT,z31,z32,z33,z34,qa1]
 try simp only[qa7,qa8,qb5,z31,z32,z2,z1]
 refine⟨⟨h.flt,h.tst.1⟩,?_,(Bool.not_not _).symm⟩
 rw[x0c]; split
 ·have h1:=(Mk.of h.flt.valid).rows6; rw[w1w]; omega
 ·exact Nat.zero_le _
structure w84 (m:List (List Int)) (f:Flt) (l:List Tst):Prop where
 flt:FltPre m f
 len:l.length<=1000000
 tst:q00 l
abbrev yl7:qb4:=qf2 true none [qf3,qj4,.list w4v] [.bool] (λx=>w84 x.1 x.2.1 x.2.2.1) (λx=>(x.2.2.1.all λt=>xk3 x.1 x.2.1 t,()))
theorem w85:Meets Tryz.prog 63 yl7:=by
 refine meets (snd (SpecsOk.cons (wo1 (fs:=[(115,yg0)]) (SpecsOk.cons w83 (SpecsOk.nil _))) (SpecsOk.nil _))) Tryz.func63 rfl rfl (λ_ _=>none) (λ_=>by kernel_rfl) (by decide) ?_
 rintro⟨m,⟨kd,r,p⟩,l,⟨⟩⟩ h
 revert m kd r p l
 intro(m:List (List Int)) (kd:Int) (r:Int) (p:Int) (l:List Tst) (h:w84 m (kd,r,p) l)
 refine @qd1 _ (∃(v0:qa4 [Ty.prod (Ty.list (Ty.int .i64)) (Ty.list (Ty.int .i64))]->Prop),∃(v1:qa4 [Ty.prod (Ty.list (Ty.int .i64)) (Ty.list (Ty.int .i64))]->Bool),(∀(v2:(List Int × List Int) × qa4._f [] PUnit.unit),v0 v2->w82 m (kd,r,p) (v2.1.1,v2.1.2)/\(!xk3 m (kd,r,p) (v2.1.1,v2.1.2))=v1 v2)/\(l.length<=(1000000:Nat)/\∀(v2:Nat),v2<l.length->v0 (qe6 (Ty.prod (Ty.list (Ty.int .i64)) (Ty.list (Ty.int .i64))) l v2,()))/\(!List.any l λ(v2:List Int × List Int)=>v1 (v2,()))=List.all l λ(v2:List Int × List Int)=>xk3 m (kd,r,p) v2) (by kernel_rfl) ?_
 try simp only[z0,z1,z2,z3,z4,z5,z6,z7,z8,z9,z10,Int.reduceEq,z11,z12,z13,z14,z15,z16,z17,z18,z19,z20,z21,z22,z23,z24,z25,z26,z27,z28,z29,z30,Int.reduceLE,Int.reduceLT,z31,z32,z33,z34,qa1]
 try simp only[qa7,qa8,qb5,z31,z32,z2,z1]
 refine⟨λt=>q18 t.1,λt=>!xk3 m (kd,r,p) t.1,λt ht=>⟨⟨h.flt,ht⟩,(Bool.not_not _).symm⟩,⟨h.len,λi hi=>h.tst i hi⟩,?_⟩
 simp[List.not_all_eq_any_not]
def exR (m:List (List Int)) (f:Flt) (l:List Tst):Bool × Int:=if fVB m f && vtB m l then(l.all λt=>xk3 m f t,0) else(false,1)
abbrev yl8:qb4:=qf2 true none [qf3,qj4,.list w4v] [.bool,qd0] (λx=>q00 x.2.2.1) (λx=>((exR x.1 x.2.1 x.2.2.1).1,(exR x.1 x.2.1 x.2.2.1).2,()))
theorem w86:Meets Tryz.prog 15 yl8:=by
 refine meets (snd (SpecsOk.cons wd9 (SpecsOk.cons xk2 (SpecsOk.cons w85 (SpecsOk.nil _))))) Tryz.func15 rfl rfl (λ_ _=>none) (λ_=>by kernel_rfl) (by decide) ?_
 rintro⟨m,⟨kd,r,p⟩,l,⟨⟩⟩ h
 revert m kd r p l
 intro(m:List (List Int)) (kd:Int) (r:Int) (p:Int) (l:List Tst) (h:q00 l)
 refine @qd1 _ (let Q0:=(exR m (kd,r,p) l); let Q1:=(!(qb9 m && fvB m (kd,r,p))); True/\(Q1=true->false=Q0.1/\(1:Int)=Q0.2/\True)/\(Q1=false->q00 l/\((!vtB m l)=true->false=Q0.1/\(1:Int)=Q0.2/\True)/\((!vtB m l)=false->w84 m (kd,r,p) l/\(List.all l λ(v2:List Int × List Int)=>xk3 m (kd,r,p) v2)=Q0.1/\(0:Int)=Q0.2/\True))) (by kernel_rfl) ?_
 try simp only[z0,z1,z2,z3,z4,z5,z6,z7,z8,z9,z10,Int.reduceEq,z11,z12,z13,z14,z15,z16,z17,z18,z19,z20,z21,z22,z23,z24,z25,z26,z27,z28,z29,z30,Int.reduceLE,Int.reduceLT,z31,z32,z33,z34,qa1]
 try simp only[qa7,qa8,qb5,z31,z32,z2,z1]
 refine⟨λhv=>by unfold exR fVB; rw[hv]; exact⟨rfl,rfl⟩,λhv=>⟨h,λht=>by unfold exR fVB; rw[hv,ht]; exact⟨rfl,rfl⟩,λht=>⟨⟨FltPre.of hv,?_,h⟩,by unfold exR fVB; rw[hv,ht]; exact⟨rfl,rfl⟩⟩⟩⟩
 unfold vtB at ht
 rw[Bool.and_eq_true,Bool.and_eq_true,decide_eq_true_eq] at ht
 omega
end Go.Proofs.YtmijnbjlhnpokaaGreat
