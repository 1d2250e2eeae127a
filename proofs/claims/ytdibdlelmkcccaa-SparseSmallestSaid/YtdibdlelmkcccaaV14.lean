/- The fit of some columns; what it is asked with: contracts by the engine. No condition. -/
import Derived.Test.YtdibdlelmkcccaaV12
import Derived.Test.YtdibdlelmkcccaaVClo
set_option linter.unusedVariables false
set_option linter.unusedSimpArgs false
namespace Go.Proofs.Ytdibdlelmkcccaa
open Go Go.RowKit Eng
theorem q96 (t:Ty) (a b:List t.den) (hl:a.length=b.length) (h:∀i,i<a.length->qa1 t a i=qa1 t b i):a=b:=by
 apply List.ext_getElem hl
 intro i h1 h2
 have:=h i h1
 rwa [ql1 a i h1,ql1 b i h2] at this
def x2k (a b:List (Ty.den (.prod (.int .i64) (.int .i64)))):Nat->Option Inv
 | 0=>some (Inv.of [13] 0 (λk:Nat=>[(13,.lit (.int .i64 k))]) (λ_=>[]) (λk=>k<=a.length/\∀i,i<k->qa1 (.prod (.int .i64) (.int .i64)) a i=qa1 (.prod (.int .i64) (.int .i64)) b i) (λk=>a.length-k))
 | _=>none
abbrev x6v:qc7:=qg3 true none [.list (.prod (.int .i64) (.int .i64)),.list (.prod (.int .i64) (.int .i64))] [.bool] (λx=>x.1.length<=1000000) (λx=>(decide (x.1=x.2.1),()))
theorem w58:qd8 Try.prog 57 x6v:=by
 refine meets (snd (SpecsOk.nil _)) Try.func57 rfl rfl (λx=>x2k x.1 x.2.1) (λ_=>by kernel_rfl) (by decide) ?_
 rintro⟨a,b,⟨⟩⟩ h
 revert a b
 intro(a:List (Ty.den (.prod (.int .i64) (.int .i64)))) (b:List (Ty.den (.prod (.int .i64) (.int .i64)))) (h:a.length<=1000000)
 refine @qe0 _ ((((↑(List.length a):Int) != (↑(List.length b):Int))=true->false=decide (a=b))/\(((↑(List.length a):Int) != (↑(List.length b):Int))=false->∃(v1:Unit),∃(v2:Nat),(v2<=List.length a/\∀(v3:Nat),Nat.le (Nat.succ v3) v2->qa1 (Ty.prod (Ty.int .i64) (Ty.int .i64)) a v3=qa1 (Ty.prod (Ty.int .i64) (Ty.int .i64)) b v3)/\(((0:Int)=(↑v2:Int)/\True)/\True)/\∀(v3:Nat),(v3<=List.length a/\∀(v5:Nat),Nat.le (Nat.succ v5) v3->qa1 (Ty.prod (Ty.int .i64) (Ty.int .i64)) a v5=qa1 (Ty.prod (Ty.int .i64) (Ty.int .i64)) b v5)->(decide ((↑v3:Int)<(↑(List.length a):Int))=true->((0:Int)<=(↑v3:Int)/\(↑v3:Int)<(↑(List.length a):Int))/\((0:Int)<=(↑v3:Int)/\(↑v3:Int)<(↑(List.length b):Int))/\((!(Prod.fst (qa1 (Ty.prod (Ty.int .i64) (Ty.int .i64)) a (Int.toNat (↑v3:Int)))==Prod.fst (qa1 (Ty.prod (Ty.int .i64) (Ty.int .i64)) b (Int.toNat (↑v3:Int))) && Prod.snd (qa1 (Ty.prod (Ty.int .i64) (Ty.int .i64)) a (Int.toNat (↑v3:Int)))==Prod.snd (qa1 (Ty.prod (Ty.int .i64) (Ty.int .i64)) b (Int.toNat (↑v3:Int)))))=true->false=decide (a=b))/\((!(Prod.fst (qa1 (Ty.prod (Ty.int .i64) (Ty.int .i64)) a (Int.toNat (↑v3:Int)))==Prod.fst (qa1 (Ty.prod (Ty.int .i64) (Ty.int .i64)) b (Int.toNat (↑v3:Int))) && Prod.snd (qa1 (Ty.prod (Ty.int .i64) (Ty.int .i64)) a (Int.toNat (↑v3:Int)))==Prod.snd (qa1 (Ty.prod (Ty.int .i64) (Ty.int .i64)) b (Int.toNat (↑v3:Int)))))=false->fits .i64 ((↑v3:Int)+(1:Int))/\∃(v7:Nat),(v7<=List.length a/\∀(v8:Nat),Nat.le (Nat.succ v8) v7->qa1 (Ty.prod (Ty.int .i64) (Ty.int .i64)) a v8=qa1 (Ty.prod (Ty.int .i64) (Ty.int .i64)) b v8)/\List.length a-v7<List.length a-v3/\((↑v3:Int)+(1:Int)=(↑v7:Int)/\True)/\True))/\(decide ((↑v3:Int)<(↑(List.length a):Int))=false->true=decide (a=b)))) (by kernel_rfl) ?_
 try simp only[z0,z1,z2,z3,z4,z5,z6,z7,z8,z9,z10,Int.reduceEq,z11,z12,z13,z14,z15,z16,z17,z18,z19,z20,z21,z22,z23,z24,z25,z26,z27,z28,z29,z30,Int.reduceLE,Int.reduceLT,z31,z32,z33,z34,qa3]
 try simp only[qb3,qb4,qc8,List.set_cons_zero,List.cons.injEq,and_true,true_and]
 refine⟨λhl=>?_,λhl=>?_⟩
 ·rw[decide_eq_false]; intro e; subst e; exact hl rfl
 ·refine⟨(),0,⟨Nat.zero_le _,λi hi=>absurd hi (by omega)⟩,rfl,λk ⟨hk,hall⟩=>⟨λhlt=>⟨hlt,by omega,λhne=>?_,λhe=>⟨qb9 (by omega) (by omega),k+1,⟨by omega,λi hi=>?_⟩,by omega,by omega⟩⟩,λhge=>?_⟩⟩
  ·rw[decide_eq_false]; intro e; subst e; first | exact hne rfl | (revert hne; simp)
  ·by_cases e:i=k
   ·subst e; first | exact he | (refine Prod.ext ?_ ?_ <;> simp_all)
   ·exact hall i (by omega)
  ·exact(decide_eq_true (q96 _ a b (by omega) λi hi=>hall i (by omega))).symm
def q14 (r:Int × Int):Bool:=decide (1<=r.2) && decide (r.2<=400) && decide (-10000000000<=r.1) && decide (r.1<=10000000000) && (qf2 r.1 r.2==1)
abbrev x2l:qc7:=qg3 true none [xk4] [.bool] (λ_=>True) (λx=>(q14 x.1,()))
theorem w2g:qd8 Try.prog 92 x2l:=by
 refine meets (snd (SpecsOk.cons qn3 (SpecsOk.nil _))) Try.func92 rfl rfl (λ_ _=>none) (λ_=>by kernel_rfl) (by decide) ?_
 rintro⟨r,⟨⟩⟩ -
 revert r
 intro(r:Int × Int)
 refine @qe0 _ ((decide ((1:Int)<=Prod.snd r)=true->(decide (Prod.snd r<=(400:Int))=true->(decide ((-10000000000:Int)<=Prod.fst r)=true->(decide (Prod.fst r<=(10000000000:Int))=true->(((-4000000000000000000:Int)<=Prod.fst r/\Prod.fst r<=BIG)/\(-4000000000000000000:Int)<=Prod.snd r/\Prod.snd r<=BIG)/\(qf2 (Prod.fst r) (Prod.snd r)==(1:Int))=q14 r)/\(decide (Prod.fst r<=(10000000000:Int))=false->false=q14 r))/\(decide ((-10000000000:Int)<=Prod.fst r)=false->false=q14 r))/\(decide (Prod.snd r<=(400:Int))=false->false=q14 r))/\(decide ((1:Int)<=Prod.snd r)=false->false=q14 r)) (by kernel_rfl) ?_
 try simp only[z0,z1,z2,z3,z4,z5,z6,z7,z8,z9,z10,Int.reduceEq,z11,z12,z13,z14,z15,z16,z17,z18,z19,z20,z21,z22,z23,z24,z25,z26,z27,z28,z29,z30,Int.reduceLE,Int.reduceLT,z31,z32,z33,z34,qa3]
 try simp only[qb3,qb4,qc8,List.set_cons_zero,List.cons.injEq,and_true,true_and]
 have hB:BIG=4000000000000000000:=rfl
 have no:¬(1<=r.2/\r.2<=400/\-10000000000<=r.1/\r.1<=10000000000)->false=q14 r:=λh=>by
  symm
  rw[Bool.eq_false_iff]
  intro e
  unfold q14 at e
  rw[Bool.and_eq_true,Bool.and_eq_true,Bool.and_eq_true,Bool.and_eq_true,decide_eq_true_eq,decide_eq_true_eq,decide_eq_true_eq,decide_eq_true_eq] at e
  exact h ⟨e.1.1.1.1,e.1.1.1.2,e.1.1.2,e.1.2⟩
 refine⟨λh1=>⟨λh2=>⟨λh3=>⟨λh4=>⟨⟨⟨by omega,by omega⟩,by omega,by omega⟩,by simp[q14,h1,h2,h3,h4]⟩,λh4=>no (by omega)⟩,λh3=>no (by omega)⟩,λh2=>no (by omega)⟩,λh1=>no (by omega)⟩
abbrev xv1:qc7:=qg3 true none [xk4] [.bool] (λ_=>True) (λx=>(!q14 x.1 || x.1.1==0,()))
theorem w2h:qd8 Try.prog 91 xv1:=by
 refine meets (snd (SpecsOk.cons w2g (SpecsOk.nil _))) Try.func91 rfl rfl (λ_ _=>none) (λ_=>by kernel_rfl) (by decide) ?_
 rintro⟨r,⟨⟩⟩ -
 revert r
 intro(r:Int × Int)
 refine @qe0 _ (True/\((!q14 (Prod.fst r,Prod.snd r))=true->true=(!q14 r || Prod.fst r==(0:Ty.den (Ty.int .i64))))/\((!q14 (Prod.fst r,Prod.snd r))=false->(Prod.fst r==(0:Int))=(!q14 r || Prod.fst r==(0:Ty.den (Ty.int .i64))))) (by kernel_rfl) ?_
 try simp only[z0,z1,z2,z3,z4,z5,z6,z7,z8,z9,z10,Int.reduceEq,z11,z12,z13,z14,z15,z16,z17,z18,z19,z20,z21,z22,z23,z24,z25,z26,z27,z28,z29,z30,Int.reduceLE,Int.reduceLT,z31,z32,z33,z34,qa3]
 try simp only[qb3,qb4,qc8,List.set_cons_zero,List.cons.injEq,and_true,true_and]
 exact⟨λh=>by have h:q14 r=false:=h; rw[h]; rfl,λh=>by have h:q14 r=true:=h; rw[h]; rfl⟩
def wy6 (v:List (Int × Int)):Bool:=v.any λr=>!q14 r || r.1==0
def q8g (f:List Int × List (Int × Int)):Bool:=decide (f.1.length=f.2.length) && !wy6 f.2 && w9k f.1
abbrev x6w:qc7:=qg3 true none [q3y] [.bool] (λx=>x.1.1.length<=1000000/\x.1.2.length<=1000000) (λx=>(q8g x.1,()))
def x2m (l:List Int) (v:List (Int × Int)):Nat->Option Inv
 | 0=>some (Inv.of [4] 1 (λk:Nat=>[(4,.lit (.int .i64 k))]) (λ_=>[.box 30 (.cons (.dat (.int .i64) l) (.cons (.dat (.prod (.int .i64) (.int .i64)) v) .nil))]) (λk=>1<=k/\(AscTo l k\/(k=1/\l=[]))) (λk=>l.length-k))
 | _=>none
theorem wi6:qd8 Try.prog 56 x6w:=by
 refine meets (snd (SpecsOk.cons (wh4 (fs:=[(91,xv1)]) (SpecsOk.cons w2h (SpecsOk.nil _))) (SpecsOk.nil _))) Try.func56 rfl rfl (λx=>x2m x.1.1 x.1.2) (λ_=>by kernel_rfl) (by decide) ?_
 rintro⟨f,⟨⟩⟩ h
 revert f
 intro(f:List Int × List (Int × Int)) (h:f.1.length<=1000000/\f.2.length<=1000000)
 refine @qe0 _ ((((↑(List.length (Prod.fst f)):Int) != (↑(List.length (Prod.snd f)):Int))=true->false=q8g f)/\(((↑(List.length (Prod.fst f)):Int) != (↑(List.length (Prod.snd f)):Int))=false->∃(v1:qa6 [Ty.prod (Ty.int .i64) (Ty.int .i64)]->Prop),∃(v2:qa6 [Ty.prod (Ty.int .i64) (Ty.int .i64)]->Bool),(∀(v3:(Int × Int) × qa6._f [] PUnit.unit),v1 v3->True/\(!q14 (Prod.fst (Prod.fst v3),Prod.snd (Prod.fst v3)) || Prod.fst (Prod.fst v3)==(0:Ty.den (Ty.int .i64)))=v2 v3)/\(List.length (Prod.snd f)<=(1000000:Nat)/\∀(v3:Nat),v3<List.length (Prod.snd f)->v1 (qa1 (Ty.prod (Ty.int .i64) (Ty.int .i64)) (Prod.snd f) v3,()))/\((List.any (Prod.snd f) λ(v4:Int × Int)=>v2 (v4,()))=true->false=q8g f)/\((List.any (Prod.snd f) λ(v4:Int × Int)=>v2 (v4,()))=false->∃(v4:Unit),∃(v5:Nat),((1:Nat)<=v5/\(AscTo (Prod.fst f) v5\/v5=(1:Nat)/\Prod.fst f=[]))/\(((1:Int)=(↑v5:Int)/\True)/\(Prod.fst f=Prod.fst f/\Prod.snd f=Prod.snd f/\True)/\True)/\∀(v6:Nat),(1:Nat)<=v6/\(AscTo (Prod.fst f) v6\/v6=(1:Nat)/\Prod.fst f=[])->(decide ((↑v6:Int)<(↑(List.length (Prod.fst f)):Int))=true->((0:Int)<=(↑v6:Int)/\(↑v6:Int)<(↑(List.length (Prod.fst f)):Int))/\fits .i64 ((↑v6:Int)-(1:Int))/\((0:Int)<=(↑v6:Int)-(1:Int)/\(↑v6:Int)-(1:Int)<(↑(List.length (Prod.fst f)):Int))/\(decide (qa1 (Ty.int .i64) (Prod.fst f) (Int.toNat (↑v6:Int))<=qa1 (Ty.int .i64) (Prod.fst f) (Int.toNat ((↑v6:Int)-(1:Int))))=true->false=q8g f)/\(decide (qa1 (Ty.int .i64) (Prod.fst f) (Int.toNat (↑v6:Int))<=qa1 (Ty.int .i64) (Prod.fst f) (Int.toNat ((↑v6:Int)-(1:Int))))=false->fits .i64 ((↑v6:Int)+(1:Int))/\∃(v10:Nat),((1:Nat)<=v10/\(AscTo (Prod.fst f) v10\/v10=(1:Nat)/\Prod.fst f=[]))/\List.length (Prod.fst f)-v10<List.length (Prod.fst f)-v6/\((↑v6:Int)+(1:Int)=(↑v10:Int)/\True)/\(Prod.fst f=Prod.fst f/\Prod.snd f=Prod.snd f/\True)/\True))/\(decide ((↑v6:Int)<(↑(List.length (Prod.fst f)):Int))=false->true=q8g f)))) (by kernel_rfl) ?_
 try simp only[z0,z1,z2,z3,z4,z5,z6,z7,z8,z9,z10,Int.reduceEq,z11,z12,z13,z14,z15,z16,z17,z18,z19,z20,z21,z22,z23,z24,z25,z26,z27,z28,z29,z30,Int.reduceLE,Int.reduceLT,z31,z32,z33,z34,qa3]
 try simp only[qb3,qb4,qc8,List.set_cons_zero,List.cons.injEq,and_true,true_and]
 obtain⟨hp1,hp2⟩:=h
 refine⟨λhl=>?_,λhl=>⟨λ_=>True,λx=>!q14 x.1 || x.1.1==0,λ_ _=>rfl,⟨hp2,λ_ _=>trivial⟩,λhw=>?_,λhw=>?_⟩⟩
 ·have:¬f.1.length=f.2.length:=by omega
  simp[q8g,this]
 ·have hw:wy6 f.2=true:=hw
  simp[q8g,hw]
 have hw:wy6 f.2=false:=hw
 have hl:f.1.length=f.2.length:=by omega
 have hv:q8g f=w9k f.1:=by simp[q8g,hl,hw]
 rw[hv]
 generalize f.1=l at *
 refine⟨(),1,⟨Nat.le_refl _,?_⟩,rfl,λk ⟨h1,hk⟩=>⟨λhlt=>?_,λhge=>?_⟩⟩
 ·cases l with
  | nil=>exact .inr ⟨rfl,rfl⟩
  | cons a l=>exact .inl ⟨by simp,λi h0 hi=>by omega⟩
 ·have hk:AscTo l k:=hk.resolve_right λ⟨_,e⟩=>by subst e; simp at hlt
  have e:((k:Int)-1).toNat=k-1:=by omega
  rw[e]
  exact⟨hlt,qb9 (by omega) (by omega),⟨by omega,by omega⟩,λh2=>(wy2 (by omega) hlt h2).symm,λh2=>⟨qb9 (by omega) (by omega),k+1,⟨by omega,.inl (hk.step hlt (.inr h2))⟩,by omega,by omega⟩⟩
 ·rcases hk with hk | ⟨_,rfl⟩
  ·obtain rfl:k=l.length:=by have:=hk.le; omega
   exact hk.all.symm
  ·rfl
abbrev tQ:Ty:=.prod (.list (.list (.int .i64))) (.list (.int .i64))
abbrev xv2:qc7:=qg3 true none [xk4] [.bool] (λ_=>True) (λx=>(x.1.1==0,()))
theorem w2i:qd8 Try.prog 83 xv2:=by
 refine meets (snd (SpecsOk.nil _)) Try.func83 rfl rfl (λ_ _=>none) (λ_=>by kernel_rfl) (by decide) ?_
 rintro⟨r,⟨⟩⟩ -
 revert r
 intro(r:Int × Int)
 refine @qe0 _ ((Prod.fst r==(0:Int))=(Prod.fst r==(0:Ty.den (Ty.int .i64)))) (by kernel_rfl) ?_
 try simp only[z0,z1,z2,z3,z4,z5,z6,z7,z8,z9,z10,Int.reduceEq,z11,z12,z13,z14,z15,z16,z17,z18,z19,z20,z21,z22,z23,z24,z25,z26,z27,z28,z29,z30,Int.reduceLE,Int.reduceLT,z31,z32,z33,z34,qa3]
 try simp only[qb3,qb4,qc8,List.set_cons_zero,List.cons.injEq,and_true,true_and]
 done
abbrev x2n:qc7:=qg3 true none [tQ] [qg4] (λx=>0<x.1.1.length) (λx=>((nL x.1.1 0).length,()))
theorem w2j:qd8 Try.prog 76 x2n:=by
 refine meets (snd (SpecsOk.nil _)) Try.func76 rfl rfl (λ_ _=>none) (λ_=>by kernel_rfl) (by decide) ?_
 rintro⟨q,⟨⟩⟩ h
 revert q
 intro(q:List (List Int) × List Int) (h:0<q.1.length)
 refine @qe0 _ (((0:Int)<=(0:Int)/\(0:Int)<(↑(List.length (Prod.fst q)):Int))/\(↑(List.length (qa1 (Ty.list (Ty.int .i64)) (Prod.fst q) (0:Nat))):Int)=(↑(List.length (nL (Prod.fst q) (0:Nat))):Int)) (by kernel_rfl) ?_
 try simp only[z0,z1,z2,z3,z4,z5,z6,z7,z8,z9,z10,Int.reduceEq,z11,z12,z13,z14,z15,z16,z17,z18,z19,z20,z21,z22,z23,z24,z25,z26,z27,z28,z29,z30,Int.reduceLE,Int.reduceLT,z31,z32,z33,z34,qa3]
 try simp only[qb3,qb4,qc8,List.set_cons_zero,List.cons.injEq,and_true,true_and]
 omega
end Go.Proofs.Ytdibdlelmkcccaa
set_option linter.unusedVariables false
set_option linter.unusedSimpArgs false
namespace Go.Proofs.Ytdibdlelmkcccaa
open Go Go.RowKit Eng
def qk0 (m:List (List Int)) (y pix:List Int):(List Int × List (Int × Int)) × Bool:=if(qt4 m pix y).2≠0\/((qt4 m pix y).1.any λr=>r.1==0)=true then(([],[]),false) else((pix,(qt4 m pix y).1),true)
abbrev x2o:qc7:=qg3 true none [tQ,qf7] [q3y,.bool] (λx=>qs7 x.1.1 x.2.1 x.1.2/\x.2.1.length<=100000) (λx=>((qk0 x.1.1 x.1.2 x.2.1).1,(qk0 x.1.1 x.1.2 x.2.1).2,()))
theorem wy7 {m:List (List Int)} {pix y:List Int} (h:qs7 m pix y):(qt4 m pix y).1.length<=1000000:=by
 unfold qt4
 split
 ·rename_i he
  have hA:=Asked.of he
  have hO:=h.ok he
  unfold wo8
  split
  ·simp
  ·split
   ·simp
   ·have hsh:=(q07 hO.red pix.length).piv
    rw[show(qd3 m pix y).length=m.length from qm2 _ _ _] at hsh
    have:=hA.msk.rows6
    have e:(qn8 m pix y).2.length=(qc0 (qd3 m pix y) pix.length).2.length:=rfl
    simp
    omega
 ·simp
theorem wi7:qd8 Try.prog 49 x2o:=by
 refine meets (snd (SpecsOk.cons w56 (SpecsOk.cons wo9 (SpecsOk.cons (wh4 (fs:=[(83,xv2)]) (SpecsOk.cons w2i (SpecsOk.nil _))) (SpecsOk.nil _))))) Try.func49 rfl rfl (λ_ _=>none) (λ_=>by kernel_rfl) (by decide) ?_
 rintro⟨q,pix,⟨⟩⟩ h
 revert q pix
 intro(q:List (List Int) × List Int) (pix:List Int) (h:qs7 q.1 pix q.2/\pix.length<=100000)
 refine @qe0 _ (qs7 (Prod.fst q) pix (Prod.snd q)/\((Prod.snd (qt4 (Prod.fst q) pix (Prod.snd q)) != (0:Int))=true->(Prod.fst (Prod.fst (qk0 (Prod.fst q) (Prod.snd q) pix))=[]/\Prod.snd (Prod.fst (qk0 (Prod.fst q) (Prod.snd q) pix))=[]/\True)/\false=Prod.snd (qk0 (Prod.fst q) (Prod.snd q) pix)/\True)/\((Prod.snd (qt4 (Prod.fst q) pix (Prod.snd q)) != (0:Int))=false->∃(v1:qa6 [Ty.prod (Ty.int .i64) (Ty.int .i64)]->Prop),∃(v2:qa6 [Ty.prod (Ty.int .i64) (Ty.int .i64)]->Bool),(∀(v3:(Int × Int) × qa6._f [] PUnit.unit),v1 v3->True/\(Prod.fst (Prod.fst v3)==(0:Ty.den (Ty.int .i64)))=v2 v3)/\(List.length (Prod.fst (qt4 (Prod.fst q) pix (Prod.snd q)))<=(1000000:Nat)/\∀(v3:Nat),v3<List.length (Prod.fst (qt4 (Prod.fst q) pix (Prod.snd q)))->v1 (qa1 (Ty.prod (Ty.int .i64) (Ty.int .i64)) (Prod.fst (qt4 (Prod.fst q) pix (Prod.snd q))) v3,()))/\((List.any (Prod.fst (qt4 (Prod.fst q) pix (Prod.snd q))) λ(v4:Int × Int)=>v2 (v4,()))=true->(Prod.fst (Prod.fst (qk0 (Prod.fst q) (Prod.snd q) pix))=[]/\Prod.snd (Prod.fst (qk0 (Prod.fst q) (Prod.snd q) pix))=[]/\True)/\false=Prod.snd (qk0 (Prod.fst q) (Prod.snd q) pix)/\True)/\((List.any (Prod.fst (qt4 (Prod.fst q) pix (Prod.snd q))) λ(v4:Int × Int)=>v2 (v4,()))=false->List.length pix<=(100000:Nat)/\(pix=Prod.fst (Prod.fst (qk0 (Prod.fst q) (Prod.snd q) pix))/\Prod.fst (qt4 (Prod.fst q) pix (Prod.snd q))=Prod.snd (Prod.fst (qk0 (Prod.fst q) (Prod.snd q) pix))/\True)/\true=Prod.snd (qk0 (Prod.fst q) (Prod.snd q) pix)/\True))) (by kernel_rfl) ?_
 try simp only[z0,z1,z2,z3,z4,z5,z6,z7,z8,z9,z10,Int.reduceEq,z11,z12,z13,z14,z15,z16,z17,z18,z19,z20,z21,z22,z23,z24,z25,z26,z27,z28,z29,z30,Int.reduceLE,Int.reduceLT,z31,z32,z33,z34,qa3]
 try simp only[qb3,qb4,qc8,List.set_cons_zero,List.cons.injEq,and_true,true_and]
 obtain⟨hp,hl⟩:=h
 refine⟨hp,λh1=>by simp[qk0,h1],λh1=>⟨λ_=>True,λx=>x.1.1==0,λ_ _=>rfl,⟨?_,λ_ _=>trivial⟩,λh2=>?_,λh2=>⟨hl,?_⟩⟩⟩
 ·exact wy7 hp
 ·have h2:((qt4 q.1 pix q.2).1.any λr=>r.1==0)=true:=h2
  unfold qk0; rw[if_pos (.inr h2)]; exact⟨⟨rfl,rfl⟩,rfl⟩
 ·have h2:((qt4 q.1 pix q.2).1.any λr=>r.1==0)=false:=h2
  unfold qk0; rw[if_neg (by rw[h1,h2]; simp)]; exact⟨⟨rfl,rfl⟩,rfl⟩
def q7k (m:List (List Int)) (y:List Int) (k:Int):Int:=if qt6 m y []=0 then(if inB k 0 10 then 0 else 7) else qt6 m y []
abbrev x6x:qc7:=qg3 true none [ql6,qf7,qg4] [qg4] (λ_=>True) (λx=>(q7k x.1 x.2.1 x.2.2.1,()))
theorem w59:qd8 Try.prog 43 x6x:=by
 refine meets (snd (SpecsOk.cons q2u (SpecsOk.cons qx8 (SpecsOk.nil _)))) Try.func43 rfl rfl (λ_ _=>none) (λ_=>by kernel_rfl) (by decide) ?_
 rintro⟨m,y,k,⟨⟩⟩ -
 revert m y k
 intro(m:List (List Int)) (y:List Int) (k:Int)
 refine @qe0 _ (Value.slice none (0:Nat) (0:Nat)=Value.slice none (0:Nat) (0:Nat)/\(0:Nat)<=(1000000:Nat)/\((qt6 m y [] != (0:Int))=true->qt6 m y []=q7k m y k)/\((qt6 m y [] != (0:Int))=false->True/\((!inB k (0:Int) (10:Int))=true->(7:Int)=q7k m y k)/\((!inB k (0:Int) (10:Int))=false->(0:Int)=q7k m y k))) (by kernel_rfl) ?_
 try simp only[z0,z1,z2,z3,z4,z5,z6,z7,z8,z9,z10,Int.reduceEq,z11,z12,z13,z14,z15,z16,z17,z18,z19,z20,z21,z22,z23,z24,z25,z26,z27,z28,z29,z30,Int.reduceLE,Int.reduceLT,z31,z32,z33,z34,qa3]
 try simp only[qb3,qb4,qc8,List.set_cons_zero,List.cons.injEq,and_true,true_and]
 exact⟨by decide,λhe=>by simp[q7k,he],λhe=>⟨λhk=>by simp[q7k,he,hk],λhk=>by simp[q7k,he,hk]⟩⟩
def qj0 (m:List (List Int)) (y:List Int) (f:List Int × List (Int × Int)):Bool:=q8g f && decide (qt6 m y f.1=0) && (qk0 m y f.1).2 && decide ((qk0 m y f.1).1.2=f.2)
abbrev xv3:qc7:=qg3 true none [ql6,qf7,q3y] [.bool] (λx=>qs7 x.1 x.2.2.1.1 x.2.1/\x.2.2.1.1.length<=100000/\x.2.2.1.2.length<=100000) (λx=>(qj0 x.1 x.2.1 x.2.2.1,()))
theorem wp0:qd8 Try.prog 27 xv3:=by
 refine meets (snd (SpecsOk.cons q2u (SpecsOk.cons wi6 (SpecsOk.cons wi7 (SpecsOk.cons w58 (SpecsOk.nil _)))))) Try.func27 rfl rfl (λ_ _=>none) (λ_=>by kernel_rfl) (by decide) ?_
 rintro⟨m,y,f,⟨⟩⟩ h
 revert m y f
 intro(m:List (List Int)) (y:List Int) (f:List Int × List (Int × Int)) (h:qs7 m f.1 y/\f.1.length<=100000/\f.2.length<=100000)
 refine @qe0 _ ((List.length (Prod.fst f)<=(1000000:Nat)/\List.length (Prod.snd f)<=(1000000:Nat))/\((!q8g (Prod.fst f,Prod.snd f))=true->false=qj0 m y f)/\((!q8g (Prod.fst f,Prod.snd f))=false->List.length (Prod.fst f)<=(1000000:Nat)/\((qt6 m y (Prod.fst f) != (0:Int))=true->false=qj0 m y f)/\((qt6 m y (Prod.fst f) != (0:Int))=false->(qs7 m (Prod.fst f) y/\List.length (Prod.fst f)<=(100000:Nat))/\(Prod.snd (qk0 m y (Prod.fst f))=true->List.length (Prod.snd (Prod.fst (qk0 m y (Prod.fst f))))<=(1000000:Nat)/\decide (Prod.snd (Prod.fst (qk0 m y (Prod.fst f)))=Prod.snd f)=qj0 m y f)/\(Prod.snd (qk0 m y (Prod.fst f))=false->false=qj0 m y f)))) (by kernel_rfl) ?_
 try simp only[z0,z1,z2,z3,z4,z5,z6,z7,z8,z9,z10,Int.reduceEq,z11,z12,z13,z14,z15,z16,z17,z18,z19,z20,z21,z22,z23,z24,z25,z26,z27,z28,z29,z30,Int.reduceLE,Int.reduceLT,z31,z32,z33,z34,qa3]
 try simp only[qb3,qb4,qc8,List.set_cons_zero,List.cons.injEq,and_true,true_and]
 obtain⟨hp,h1,h2⟩:=h
 refine⟨⟨by omega,by omega⟩,λhv=>?_,λhv=>⟨by omega,λhe=>?_,λhe=>⟨⟨hp,h1⟩,λhf=>⟨?_,?_⟩,λhf=>?_⟩⟩⟩
 ·have hv:q8g f=false:=hv
  simp[qj0,hv]
 ·simp[qj0,he]
 ·unfold qk0
  split
  ·simp
  ·exact wy7 hp
 ·have hv:q8g f=true:=hv
  simp[qj0,hv,he,hf]
 ·simp[qj0,hf]
end Go.Proofs.Ytdibdlelmkcccaa
