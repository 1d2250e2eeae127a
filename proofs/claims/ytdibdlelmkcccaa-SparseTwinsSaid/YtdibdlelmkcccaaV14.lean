/- The fit of some columns; what it is asked with: contracts by the engine. No condition. -/
import Derived.Test.YtdibdlelmkcccaaV12
import Derived.Test.YtdibdlelmkcccaaVClo
set_option linter.unusedVariables false
set_option linter.unusedSimpArgs false
namespace Go.Proofs.Ytdibdlelmkcccaa
open Go Go.RowKit Eng
theorem wb2 (t:Ty) (a b:List t.den) (hl:a.length=b.length) (h:∀i,i<a.length->qa3 t a i=qa3 t b i):a=b:=by
 apply List.ext_getElem hl
 intro i h1 h2
 have:=h i h1
 rwa [qp1 a i h1,qp1 b i h2] at this
def x0g (a b:List (Ty.den (.int .i64))):Nat->Option Inv
 | 0=>some (Inv.of [13] 0 (λk:Nat=>[(13,.lit (.int .i64 k))]) (λ_=>[]) (λk=>k<=a.length/\∀i,i<k->qa3 (.int .i64) a i=qa3 (.int .i64) b i) (λk=>a.length-k))
 | _=>none
abbrev x4e:qc9:=qh6 true none [.list (.int .i64),.list (.int .i64)] [.bool] (λx=>x.1.length<=1000000) (λx=>(decide (x.1=x.2.1),()))
theorem w5q:qe1 Try.prog 61 x4e:=by
 refine meets (snd (SpecsOk.nil _)) Try.func61 rfl rfl (λx=>x0g x.1 x.2.1) (λ_=>by kernel_rfl) (by decide) ?_
 rintro⟨a,b,⟨⟩⟩ h
 revert a b
 intro(a:List (Ty.den (.int .i64))) (b:List (Ty.den (.int .i64))) (h:a.length<=1000000)
 refine qe6 (B:=(((↑(List.length a):Int) != (↑(List.length b):Int))=true->false=decide (a=b))/\(((↑(List.length a):Int) != (↑(List.length b):Int))=false->∃(v1:Unit),∃(v2:Nat),(v2<=List.length a/\∀(v3:Nat),Nat.le (Nat.succ v3) v2->qa3 (Ty.int .i64) a v3=qa3 (Ty.int .i64) b v3)/\(((0:Int)=(↑v2:Int)/\True)/\True)/\∀(v3:Nat),(v3<=List.length a/\∀(v5:Nat),Nat.le (Nat.succ v5) v3->qa3 (Ty.int .i64) a v5=qa3 (Ty.int .i64) b v5)->(decide ((↑v3:Int)<(↑(List.length a):Int))=true->((0:Int)<=(↑v3:Int)/\(↑v3:Int)<(↑(List.length a):Int))/\((0:Int)<=(↑v3:Int)/\(↑v3:Int)<(↑(List.length b):Int))/\((qa3 (Ty.int .i64) a (Int.toNat (↑v3:Int)) != qa3 (Ty.int .i64) b (Int.toNat (↑v3:Int)))=true->false=decide (a=b))/\((qa3 (Ty.int .i64) a (Int.toNat (↑v3:Int)) != qa3 (Ty.int .i64) b (Int.toNat (↑v3:Int)))=false->fits .i64 ((↑v3:Int)+(1:Int))/\∃(v7:Nat),(v7<=List.length a/\∀(v8:Nat),Nat.le (Nat.succ v8) v7->qa3 (Ty.int .i64) a v8=qa3 (Ty.int .i64) b v8)/\List.length a-v7<List.length a-v3/\((↑v3:Int)+(1:Int)=(↑v7:Int)/\True)/\True))/\(decide ((↑v3:Int)<(↑(List.length a):Int))=false->true=decide (a=b)))) (by kernel_rfl) ?_
 try simp only[z0,z1,z2,z3,z4,z5,z6,z7,z8,z9,z10,Int.reduceEq,z11,z12,z13,z14,z15,z16,z17,z18,z19,z20,z21,z22,z23,z24,z25,z26,z27,z28,z29,z30,Int.reduceLE,Int.reduceLT,z31,z32,z33,z34,qa4]
 try simp only[qb8,qb9,qd2,List.set_cons_zero,List.cons.injEq,and_true,true_and]
 refine⟨λhl=>?_,λhl=>?_⟩
 ·rw[decide_eq_false]; intro e; subst e; exact hl rfl
 ·refine⟨(),0,⟨Nat.zero_le _,λi hi=>absurd hi (by omega)⟩,rfl,λk ⟨hk,hall⟩=>⟨λhlt=>⟨hlt,by omega,λhne=>?_,λhe=>⟨qa8 (by omega) (by omega),k+1,⟨by omega,λi hi=>?_⟩,by omega,by omega⟩⟩,λhge=>?_⟩⟩
  ·rw[decide_eq_false]; intro e; subst e; first | exact hne rfl | (revert hne; simp)
  ·by_cases e:i=k
   ·subst e; first | exact he | (refine Prod.ext ?_ ?_ <;> simp_all)
   ·exact hall i (by omega)
  ·exact(decide_eq_true (wb2 _ a b (by omega) λi hi=>hall i (by omega))).symm
abbrev tQ:Ty:=.prod (.list (.list (.int .i64))) (.list (.int .i64))
abbrev xq4:qc9:=qh6 true none [x1w] [.bool] (λ_=>True) (λx=>(x.1.1==0,()))
theorem w14:qe1 Try.prog 83 xq4:=by
 refine meets (snd (SpecsOk.nil _)) Try.func83 rfl rfl (λ_ _=>none) (λ_=>by kernel_rfl) (by decide) ?_
 rintro⟨r,⟨⟩⟩ -
 revert r
 intro(r:Int × Int)
 refine qe6 (B:=(Prod.fst r==(0:Int))=(Prod.fst r==(0:Ty.den (Ty.int .i64)))) (by kernel_rfl) ?_
 try simp only[z0,z1,z2,z3,z4,z5,z6,z7,z8,z9,z10,Int.reduceEq,z11,z12,z13,z14,z15,z16,z17,z18,z19,z20,z21,z22,z23,z24,z25,z26,z27,z28,z29,z30,Int.reduceLE,Int.reduceLT,z31,z32,z33,z34,qa4]
 try simp only[qb8,qb9,qd2,List.set_cons_zero,List.cons.injEq,and_true,true_and]
 done
abbrev x0h:qc9:=qh6 true none [tQ] [qg1] (λx=>0<x.1.1.length) (λx=>((nL x.1.1 0).length,()))
theorem w15:qe1 Try.prog 76 x0h:=by
 refine meets (snd (SpecsOk.nil _)) Try.func76 rfl rfl (λ_ _=>none) (λ_=>by kernel_rfl) (by decide) ?_
 rintro⟨q,⟨⟩⟩ h
 revert q
 intro(q:List (List Int) × List Int) (h:0<q.1.length)
 refine qe6 (B:=((0:Int)<=(0:Int)/\(0:Int)<(↑(List.length (Prod.fst q)):Int))/\(↑(List.length (qa3 (Ty.list (Ty.int .i64)) (Prod.fst q) (0:Nat))):Int)=(↑(List.length (nL (Prod.fst q) (0:Nat))):Int)) (by kernel_rfl) ?_
 try simp only[z0,z1,z2,z3,z4,z5,z6,z7,z8,z9,z10,Int.reduceEq,z11,z12,z13,z14,z15,z16,z17,z18,z19,z20,z21,z22,z23,z24,z25,z26,z27,z28,z29,z30,Int.reduceLE,Int.reduceLT,z31,z32,z33,z34,qa4]
 try simp only[qb8,qb9,qd2,List.set_cons_zero,List.cons.injEq,and_true,true_and]
 omega
end Go.Proofs.Ytdibdlelmkcccaa
set_option linter.unusedVariables false
set_option linter.unusedSimpArgs false
namespace Go.Proofs.Ytdibdlelmkcccaa
open Go Go.RowKit Eng
def q00 (m:List (List Int)) (y pix:List Int):(List Int × List (Int × Int)) × Bool:=if(q0g m pix y).2≠0\/((q0g m pix y).1.any λr=>r.1==0)=true then(([],[]),false) else((pix,(q0g m pix y).1),true)
abbrev x0i:qc9:=qh6 true none [tQ,qf6] [wm6,.bool] (λx=>q3i x.1.1 x.2.1 x.1.2/\x.2.1.length<=100000) (λx=>((q00 x.1.1 x.1.2 x.2.1).1,(q00 x.1.1 x.1.2 x.2.1).2,()))
theorem w82 {m:List (List Int)} {pix y:List Int} (h:q3i m pix y):(q0g m pix y).1.length<=1000000:=by
 unfold q0g
 split
 ·rename_i he
  have hA:=Asked.of he
  have hO:=h.ok he
  unfold w5m
  split
  ·simp
  ·split
   ·simp
   ·have hsh:=(q1q hO.red pix.length).piv
    rw[show(qg9 m pix y).length=m.length from qo1 _ _ _] at hsh
    have:=hA.msk.rows6
    have e:(qp9 m pix y).2.length=(qd0 (qg9 m pix y) pix.length).2.length:=rfl
    simp
    omega
 ·simp
theorem w5r:qe1 Try.prog 49 x0i:=by
 refine meets (snd (SpecsOk.cons w5o (SpecsOk.cons wp3 (SpecsOk.cons (w40 (fs:=[(83,xq4)]) (SpecsOk.cons w14 (SpecsOk.nil _))) (SpecsOk.nil _))))) Try.func49 rfl rfl (λ_ _=>none) (λ_=>by kernel_rfl) (by decide) ?_
 rintro⟨q,pix,⟨⟩⟩ h
 revert q pix
 intro(q:List (List Int) × List Int) (pix:List Int) (h:q3i q.1 pix q.2/\pix.length<=100000)
 refine qe6 (B:=q3i (Prod.fst q) pix (Prod.snd q)/\((Prod.snd (q0g (Prod.fst q) pix (Prod.snd q)) != (0:Int))=true->(Prod.fst (Prod.fst (q00 (Prod.fst q) (Prod.snd q) pix))=[]/\Prod.snd (Prod.fst (q00 (Prod.fst q) (Prod.snd q) pix))=[]/\True)/\false=Prod.snd (q00 (Prod.fst q) (Prod.snd q) pix)/\True)/\((Prod.snd (q0g (Prod.fst q) pix (Prod.snd q)) != (0:Int))=false->∃(v1:qa7 [Ty.prod (Ty.int .i64) (Ty.int .i64)]->Prop),∃(v2:qa7 [Ty.prod (Ty.int .i64) (Ty.int .i64)]->Bool),(∀(v3:(Int × Int) × qa7._f [] PUnit.unit),v1 v3->True/\(Prod.fst (Prod.fst v3)==(0:Ty.den (Ty.int .i64)))=v2 v3)/\(List.length (Prod.fst (q0g (Prod.fst q) pix (Prod.snd q)))<=(1000000:Nat)/\∀(v3:Nat),v3<List.length (Prod.fst (q0g (Prod.fst q) pix (Prod.snd q)))->v1 (qa3 (Ty.prod (Ty.int .i64) (Ty.int .i64)) (Prod.fst (q0g (Prod.fst q) pix (Prod.snd q))) v3,()))/\((List.any (Prod.fst (q0g (Prod.fst q) pix (Prod.snd q))) λ(v4:Int × Int)=>v2 (v4,()))=true->(Prod.fst (Prod.fst (q00 (Prod.fst q) (Prod.snd q) pix))=[]/\Prod.snd (Prod.fst (q00 (Prod.fst q) (Prod.snd q) pix))=[]/\True)/\false=Prod.snd (q00 (Prod.fst q) (Prod.snd q) pix)/\True)/\((List.any (Prod.fst (q0g (Prod.fst q) pix (Prod.snd q))) λ(v4:Int × Int)=>v2 (v4,()))=false->List.length pix<=(100000:Nat)/\(pix=Prod.fst (Prod.fst (q00 (Prod.fst q) (Prod.snd q) pix))/\Prod.fst (q0g (Prod.fst q) pix (Prod.snd q))=Prod.snd (Prod.fst (q00 (Prod.fst q) (Prod.snd q) pix))/\True)/\true=Prod.snd (q00 (Prod.fst q) (Prod.snd q) pix)/\True))) (by kernel_rfl) ?_
 try simp only[z0,z1,z2,z3,z4,z5,z6,z7,z8,z9,z10,Int.reduceEq,z11,z12,z13,z14,z15,z16,z17,z18,z19,z20,z21,z22,z23,z24,z25,z26,z27,z28,z29,z30,Int.reduceLE,Int.reduceLT,z31,z32,z33,z34,qa4]
 try simp only[qb8,qb9,qd2,List.set_cons_zero,List.cons.injEq,and_true,true_and]
 obtain⟨hp,hl⟩:=h
 refine⟨hp,λh1=>by simp[q00,h1],λh1=>⟨λ_=>True,λx=>x.1.1==0,λ_ _=>rfl,⟨?_,λ_ _=>trivial⟩,λh2=>?_,λh2=>⟨hl,?_⟩⟩⟩
 ·exact w82 hp
 ·have h2:((q0g q.1 pix q.2).1.any λr=>r.1==0)=true:=h2
  unfold q00; rw[if_pos (.inr h2)]; exact⟨⟨rfl,rfl⟩,rfl⟩
 ·have h2:((q0g q.1 pix q.2).1.any λr=>r.1==0)=false:=h2
  unfold q00; rw[if_neg (by rw[h1,h2]; simp)]; exact⟨⟨rfl,rfl⟩,rfl⟩
end Go.Proofs.Ytdibdlelmkcccaa
