/- The reference's sets; equal lists and fits: contracts by the engine. No condition. -/
import Derived.Test.YtdibdlelmkcccaaV16
set_option linter.unusedVariables false
set_option linter.unusedSimpArgs false
namespace Go.Proofs.Ytdibdlelmkcccaa
open Go Go.RowKit Eng
def xv5 (a b:List (Ty.den (.int .i64))):Nat->Option Inv
 | 0=>some (Inv.of [13] 0 (λk:Nat=>[(13,.lit (.int .i64 k))]) (λ_=>[]) (λk=>k<=a.length/\∀i,i<k->qa1 (.int .i64) a i=qa1 (.int .i64) b i) (λk=>a.length-k))
 | _=>none
abbrev x2t:qc7:=qg3 true none [.list (.int .i64),.list (.int .i64)] [.bool] (λx=>x.1.length<=1000000) (λx=>(decide (x.1=x.2.1),()))
theorem w2l:qd8 Try.prog 41 x2t:=by
 refine meets (snd (SpecsOk.nil _)) Try.func41 rfl rfl (λx=>xv5 x.1 x.2.1) (λ_=>by kernel_rfl) (by decide) ?_
 rintro⟨a,b,⟨⟩⟩ h
 revert a b
 intro(a:List (Ty.den (.int .i64))) (b:List (Ty.den (.int .i64))) (h:a.length<=1000000)
 refine @qe0 _ ((((↑(List.length a):Int) != (↑(List.length b):Int))=true->false=decide (a=b))/\(((↑(List.length a):Int) != (↑(List.length b):Int))=false->∃(v1:Unit),∃(v2:Nat),(v2<=List.length a/\∀(v3:Nat),Nat.le (Nat.succ v3) v2->qa1 (Ty.int .i64) a v3=qa1 (Ty.int .i64) b v3)/\(((0:Int)=(↑v2:Int)/\True)/\True)/\∀(v3:Nat),(v3<=List.length a/\∀(v5:Nat),Nat.le (Nat.succ v5) v3->qa1 (Ty.int .i64) a v5=qa1 (Ty.int .i64) b v5)->(decide ((↑v3:Int)<(↑(List.length a):Int))=true->((0:Int)<=(↑v3:Int)/\(↑v3:Int)<(↑(List.length a):Int))/\((0:Int)<=(↑v3:Int)/\(↑v3:Int)<(↑(List.length b):Int))/\((qa1 (Ty.int .i64) a (Int.toNat (↑v3:Int)) != qa1 (Ty.int .i64) b (Int.toNat (↑v3:Int)))=true->false=decide (a=b))/\((qa1 (Ty.int .i64) a (Int.toNat (↑v3:Int)) != qa1 (Ty.int .i64) b (Int.toNat (↑v3:Int)))=false->fits .i64 ((↑v3:Int)+(1:Int))/\∃(v7:Nat),(v7<=List.length a/\∀(v8:Nat),Nat.le (Nat.succ v8) v7->qa1 (Ty.int .i64) a v8=qa1 (Ty.int .i64) b v8)/\List.length a-v7<List.length a-v3/\((↑v3:Int)+(1:Int)=(↑v7:Int)/\True)/\True))/\(decide ((↑v3:Int)<(↑(List.length a):Int))=false->true=decide (a=b)))) (by kernel_rfl) ?_
 try simp only[z0,z1,z2,z3,z4,z5,z6,z7,z8,z9,z10,Int.reduceEq,z11,z12,z13,z14,z15,z16,z17,z18,z19,z20,z21,z22,z23,z24,z25,z26,z27,z28,z29,z30,Int.reduceLE,Int.reduceLT,z31,z32,z33,z34,qa3]
 try simp only[qb3,qb4,qc8,List.set_cons_zero,List.cons.injEq,and_true,true_and]
 refine⟨λhl=>?_,λhl=>?_⟩
 ·rw[decide_eq_false]; intro e; subst e; exact hl rfl
 ·refine⟨(),0,⟨Nat.zero_le _,λi hi=>absurd hi (by omega)⟩,rfl,λk ⟨hk,hall⟩=>⟨λhlt=>⟨hlt,by omega,λhne=>?_,λhe=>⟨qb9 (by omega) (by omega),k+1,⟨by omega,λi hi=>?_⟩,by omega,by omega⟩⟩,λhge=>?_⟩⟩
  ·rw[decide_eq_false]; intro e; subst e; first | exact hne rfl | (revert hne; simp)
  ·by_cases e:i=k
   ·subst e; first | exact he | (refine Prod.ext ?_ ?_ <;> simp_all)
   ·exact hall i (by omega)
  ·exact(decide_eq_true (q96 _ a b (by omega) λi hi=>hall i (by omega))).symm
def xv6 (a b:List (Ty.den (.prod (.int .i64) (.int .i64)))):Nat->Option Inv
 | 0=>some (Inv.of [13] 0 (λk:Nat=>[(13,.lit (.int .i64 k))]) (λ_=>[]) (λk=>k<=a.length/\∀i,i<k->qa1 (.prod (.int .i64) (.int .i64)) a i=qa1 (.prod (.int .i64) (.int .i64)) b i) (λk=>a.length-k))
 | _=>none
abbrev x2u:qc7:=qg3 true none [.list (.prod (.int .i64) (.int .i64)),.list (.prod (.int .i64) (.int .i64))] [.bool] (λx=>x.1.length<=1000000) (λx=>(decide (x.1=x.2.1),()))
theorem w2m:qd8 Try.prog 42 x2u:=by
 refine meets (snd (SpecsOk.nil _)) Try.func42 rfl rfl (λx=>xv6 x.1 x.2.1) (λ_=>by kernel_rfl) (by decide) ?_
 rintro⟨a,b,⟨⟩⟩ h
 revert a b
 intro(a:List (Ty.den (.prod (.int .i64) (.int .i64)))) (b:List (Ty.den (.prod (.int .i64) (.int .i64)))) (h:a.length<=1000000)
 refine @qe0 _ ((((↑(List.length a):Int) != (↑(List.length b):Int))=true->false=decide (a=b))/\(((↑(List.length a):Int) != (↑(List.length b):Int))=false->∃(v1:Unit),∃(v2:Nat),(v2<=List.length a/\∀(v3:Nat),Nat.le (Nat.succ v3) v2->qa1 (Ty.prod (Ty.int .i64) (Ty.int .i64)) a v3=qa1 (Ty.prod (Ty.int .i64) (Ty.int .i64)) b v3)/\(((0:Int)=(↑v2:Int)/\True)/\True)/\∀(v3:Nat),(v3<=List.length a/\∀(v5:Nat),Nat.le (Nat.succ v5) v3->qa1 (Ty.prod (Ty.int .i64) (Ty.int .i64)) a v5=qa1 (Ty.prod (Ty.int .i64) (Ty.int .i64)) b v5)->(decide ((↑v3:Int)<(↑(List.length a):Int))=true->((0:Int)<=(↑v3:Int)/\(↑v3:Int)<(↑(List.length a):Int))/\((0:Int)<=(↑v3:Int)/\(↑v3:Int)<(↑(List.length b):Int))/\((!(Prod.fst (qa1 (Ty.prod (Ty.int .i64) (Ty.int .i64)) a (Int.toNat (↑v3:Int)))==Prod.fst (qa1 (Ty.prod (Ty.int .i64) (Ty.int .i64)) b (Int.toNat (↑v3:Int))) && Prod.snd (qa1 (Ty.prod (Ty.int .i64) (Ty.int .i64)) a (Int.toNat (↑v3:Int)))==Prod.snd (qa1 (Ty.prod (Ty.int .i64) (Ty.int .i64)) b (Int.toNat (↑v3:Int)))))=true->false=decide (a=b))/\((!(Prod.fst (qa1 (Ty.prod (Ty.int .i64) (Ty.int .i64)) a (Int.toNat (↑v3:Int)))==Prod.fst (qa1 (Ty.prod (Ty.int .i64) (Ty.int .i64)) b (Int.toNat (↑v3:Int))) && Prod.snd (qa1 (Ty.prod (Ty.int .i64) (Ty.int .i64)) a (Int.toNat (↑v3:Int)))==Prod.snd (qa1 (Ty.prod (Ty.int .i64) (Ty.int .i64)) b (Int.toNat (↑v3:Int)))))=false->fits .i64 ((↑v3:Int)+(1:Int))/\∃(v7:Nat),(v7<=List.length a/\∀(v8:Nat),Nat.le (Nat.succ v8) v7->qa1 (Ty.prod (Ty.int .i64) (Ty.int .i64)) a v8=qa1 (Ty.prod (Ty.int .i64) (Ty.int .i64)) b v8)/\List.length a-v7<List.length a-v3/\((↑v3:Int)+(1:Int)=(↑v7:Int)/\True)/\True))/\(decide ((↑v3:Int)<(↑(List.length a):Int))=false->true=decide (a=b)))) (by kernel_rfl) ?_
 try simp only[z0,z1,z2,z3,z4,z5,z6,z7,z8,z9,z10,Int.reduceEq,z11,z12,z13,z14,z15,z16,z17,z18,z19,z20,z21,z22,z23,z24,z25,z26,z27,z28,z29,z30,Int.reduceLE,Int.reduceLT,z31,z32,z33,z34,qa3]
 try simp only[qb3,qb4,qc8,List.set_cons_zero,List.cons.injEq,and_true,true_and]
 refine⟨λhl=>?_,λhl=>?_⟩
 ·rw[decide_eq_false]; intro e; subst e; exact hl rfl
 ·refine⟨(),0,⟨Nat.zero_le _,λi hi=>absurd hi (by omega)⟩,rfl,λk ⟨hk,hall⟩=>⟨λhlt=>⟨hlt,by omega,λhne=>?_,λhe=>⟨qb9 (by omega) (by omega),k+1,⟨by omega,λi hi=>?_⟩,by omega,by omega⟩⟩,λhge=>?_⟩⟩
  ·rw[decide_eq_false]; intro e; subst e; first | exact hne rfl | (revert hne; simp)
  ·by_cases e:i=k
   ·subst e; first | exact he | (refine Prod.ext ?_ ?_ <;> simp_all)
   ·exact hall i (by omega)
  ·exact(decide_eq_true (q96 _ a b (by omega) λi hi=>hall i (by omega))).symm
structure wj1 (f:List Int × List (Int × Int)):Prop where
 pix:f.1.length<=1000000
 val:f.2.length<=1000000
def q1c (f g:List Int × List (Int × Int)):Bool:=decide (f.1=g.1) && decide (f.2=g.2)
abbrev xv7:qc7:=qg3 true none [q3y,q3y] [.bool] (λx=>wj1 x.1) (λx=>(q1c x.1 x.2.1,()))
theorem q6c:qd8 Try.prog 15 xv7:=by
 refine meets (snd (SpecsOk.cons w2l (SpecsOk.cons w2m (SpecsOk.nil _)))) Try.func15 rfl rfl (λ_ _=>none) (λ_=>by kernel_rfl) (by decide) ?_
 rintro⟨f,g,⟨⟩⟩ h
 revert f g
 intro(f:List Int × List (Int × Int)) (g:List Int × List (Int × Int)) (h:wj1 f)
 refine @qe0 _ (List.length (Prod.fst f)<=(1000000:Nat)/\(decide (Prod.fst f=Prod.fst g)=true->List.length (Prod.snd f)<=(1000000:Nat)/\decide (Prod.snd f=Prod.snd g)=q1c f g)/\(decide (Prod.fst f=Prod.fst g)=false->false=q1c f g)) (by kernel_rfl) ?_
 try simp only[z0,z1,z2,z3,z4,z5,z6,z7,z8,z9,z10,Int.reduceEq,z11,z12,z13,z14,z15,z16,z17,z18,z19,z20,z21,z22,z23,z24,z25,z26,z27,z28,z29,z30,Int.reduceLE,Int.reduceLT,z31,z32,z33,z34,qa3]
 try simp only[qb3,qb4,qc8,List.set_cons_zero,List.cons.injEq,and_true,true_and]
 exact⟨h.pix,λe=>⟨h.val,by simp[q1c,e]⟩,λe=>by simp[q1c,e]⟩
abbrev xv8:Ty:=.list (.prod (.list (.int .i64)) (.list (.prod (.int .i64) (.int .i64))))
def nF (l:List (List Int × List (Int × Int))) (i:Nat):List Int × List (Int × Int):=qa1 (.prod (.list (.int .i64)) (.list (.prod (.int .i64) (.int .i64)))) l i
def xv9 (s:List Int):Int:=if 0<s.length then nI s (s.length-1)+1 else 0
def xw0 (n:Nat) (s:List Int):List (List Int):=(List.range ((n:Int)-xv9 s).toNat).map λt:Nat=>s++[xv9 s+t]
def qq8 (n:Nat):Nat->List (List Int)
 | 0=>[[]]
 | k+1=>if k<(qq8 n k).length then qq8 n k++xw0 n (nL (qq8 n k) k) else qq8 n k
def w2n (n:Nat):List (List Int):=qq8 n 128
theorem q8i (n k:Nat):∀j,∃t,qq8 n (k+j)=qq8 n k++t
 | 0=>⟨[],by simp⟩
 | j+1=>by
  obtain⟨t,ht⟩:=q8i n k j
  rw[<- Nat.add_assoc,qq8]
  split
  ·exact⟨t++xw0 n (nL (qq8 n (k+j)) (k+j)),by rw[<- List.append_assoc,<- ht]⟩
  ·exact⟨t,ht⟩
def w6d (n:Nat):Bool:=decide ((qq8 n 128).length<=128) && (qq8 n 128).all λs=>decide (s.length<=7) && s.all λx=>decide (0<=x) && decide (x<n)
theorem wp1:((List.range 8).all λn=>w6d n)=true:=by decide +kernel
theorem w2o {n:Nat} (h:n<=7):(qq8 n 128).length<=128/\∀s∈qq8 n 128,s.length<=7/\∀x∈s,0<=x/\x<n:=by
 have:=List.all_eq_true.1 wp1 n (List.mem_range.2 (by omega))
 unfold w6d at this
 rw[Bool.and_eq_true,decide_eq_true_eq,List.all_eq_true] at this
 refine⟨this.1,λs hs=>?_⟩
 have h2:=this.2 s hs
 rw[Bool.and_eq_true,decide_eq_true_eq,List.all_eq_true] at h2
 refine⟨h2.1,λx hx=>?_⟩
 have:=h2.2 x hx
 simpa using this
theorem wj2 {n k:Nat} (h:n<=7) (hk:k<=128):(qq8 n k).length<=128/\∀s∈qq8 n k,s.length<=7/\∀x∈s,0<=x/\x<n:=by
 obtain⟨t,ht⟩:=q8i n k (128-k)
 rw[show k+(128-k)=128 by omega] at ht
 have:=w2o h
 rw[ht] at this
 refine⟨by have:=this.1; simp at this; omega,λs hs=>this.2 s (by simp[hs])⟩
end Go.Proofs.Ytdibdlelmkcccaa
