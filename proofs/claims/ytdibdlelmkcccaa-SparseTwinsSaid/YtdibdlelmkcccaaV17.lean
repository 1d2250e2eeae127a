/- The reference's sets; equal lists and fits: contracts by the engine. No condition. -/
import Derived.Test.YtdibdlelmkcccaaV16
set_option linter.unusedVariables false
set_option linter.unusedSimpArgs false
namespace Go.Proofs.Ytdibdlelmkcccaa
open Go Go.RowKit Eng
theorem q3j:qe1 Try.prog 54 wa6:=by
 refine meets (snd (SpecsOk.nil _)) Try.func54 rfl rfl (λ_ _=>none) (λ_=>by kernel_rfl) (by decide) ?_
 rintro⟨n,lo,hi,⟨⟩⟩ -
 revert n lo hi
 intro(n:Int) (lo:Int) (hi:Int)
 refine qe6 (B:=(decide (lo<=n)=true->decide (n<=hi)=inB n lo hi)/\(decide (lo<=n)=false->false=inB n lo hi)) (by kernel_rfl) ?_
 try simp only[z0,z1,z2,z3,z4,z5,z6,z7,z8,z9,z10,Int.reduceEq,z11,z12,z13,z14,z15,z16,z17,z18,z19,z20,z21,z22,z23,z24,z25,z26,z27,z28,z29,z30,Int.reduceLE,Int.reduceLT,z31,z32,z33,z34,qa4]
 try simp only[qb8,qb9,qd2,List.set_cons_zero,List.cons.injEq,and_true,true_and]
 constructor
 ·intro h1
  simp[inB,h1]
 ·intro h1
  have:¬lo<=n:=by omega
  simp[inB,this]
def xq6 (a b:List (Ty.den (.int .i64))):Nat->Option Inv
 | 0=>some (Inv.of [13] 0 (λk:Nat=>[(13,.lit (.int .i64 k))]) (λ_=>[]) (λk=>k<=a.length/\∀i,i<k->qa3 (.int .i64) a i=qa3 (.int .i64) b i) (λk=>a.length-k))
 | _=>none
abbrev x0n:qc9:=qh6 true none [.list (.int .i64),.list (.int .i64)] [.bool] (λx=>x.1.length<=1000000) (λx=>(decide (x.1=x.2.1),()))
theorem q80:qe1 Try.prog 41 x0n:=by
 refine meets (snd (SpecsOk.nil _)) Try.func41 rfl rfl (λx=>xq6 x.1 x.2.1) (λ_=>by kernel_rfl) (by decide) ?_
 rintro⟨a,b,⟨⟩⟩ h
 revert a b
 intro(a:List (Ty.den (.int .i64))) (b:List (Ty.den (.int .i64))) (h:a.length<=1000000)
 refine qe6 (B:=(((↑(List.length a):Int) != (↑(List.length b):Int))=true->false=decide (a=b))/\(((↑(List.length a):Int) != (↑(List.length b):Int))=false->∃(v1:Unit),∃(v2:Nat),(v2<=List.length a/\∀(v3:Nat),Nat.le (Nat.succ v3) v2->qa3 (Ty.int .i64) a v3=qa3 (Ty.int .i64) b v3)/\(((0:Int)=(↑v2:Int)/\True)/\True)/\∀(v3:Nat),(v3<=List.length a/\∀(v5:Nat),Nat.le (Nat.succ v5) v3->qa3 (Ty.int .i64) a v5=qa3 (Ty.int .i64) b v5)->(decide ((↑v3:Int)<(↑(List.length a):Int))=true->((0:Int)<=(↑v3:Int)/\(↑v3:Int)<(↑(List.length a):Int))/\((0:Int)<=(↑v3:Int)/\(↑v3:Int)<(↑(List.length b):Int))/\((qa3 (Ty.int .i64) a (Int.toNat (↑v3:Int)) != qa3 (Ty.int .i64) b (Int.toNat (↑v3:Int)))=true->false=decide (a=b))/\((qa3 (Ty.int .i64) a (Int.toNat (↑v3:Int)) != qa3 (Ty.int .i64) b (Int.toNat (↑v3:Int)))=false->fits .i64 ((↑v3:Int)+(1:Int))/\∃(v7:Nat),(v7<=List.length a/\∀(v8:Nat),Nat.le (Nat.succ v8) v7->qa3 (Ty.int .i64) a v8=qa3 (Ty.int .i64) b v8)/\List.length a-v7<List.length a-v3/\((↑v3:Int)+(1:Int)=(↑v7:Int)/\True)/\True))/\(decide ((↑v3:Int)<(↑(List.length a):Int))=false->true=decide (a=b)))) (by kernel_rfl) ?_
 try simp only[z0,z1,z2,z3,z4,z5,z6,z7,z8,z9,z10,Int.reduceEq,z11,z12,z13,z14,z15,z16,z17,z18,z19,z20,z21,z22,z23,z24,z25,z26,z27,z28,z29,z30,Int.reduceLE,Int.reduceLT,z31,z32,z33,z34,qa4]
 try simp only[qb8,qb9,qd2,List.set_cons_zero,List.cons.injEq,and_true,true_and]
 refine⟨λhl=>?_,λhl=>?_⟩
 ·rw[decide_eq_false]; intro e; subst e; exact hl rfl
 ·refine⟨(),0,⟨Nat.zero_le _,λi hi=>absurd hi (by omega)⟩,rfl,λk ⟨hk,hall⟩=>⟨λhlt=>⟨hlt,by omega,λhne=>?_,λhe=>⟨qa8 (by omega) (by omega),k+1,⟨by omega,λi hi=>?_⟩,by omega,by omega⟩⟩,λhge=>?_⟩⟩
  ·rw[decide_eq_false]; intro e; subst e; first | exact hne rfl | (revert hne; simp)
  ·by_cases e:i=k
   ·subst e; first | exact he | (refine Prod.ext ?_ ?_ <;> simp_all)
   ·exact hall i (by omega)
  ·exact(decide_eq_true (wb2 _ a b (by omega) λi hi=>hall i (by omega))).symm
def xq7 (a b:List (Ty.den (.prod (.int .i64) (.int .i64)))):Nat->Option Inv
 | 0=>some (Inv.of [13] 0 (λk:Nat=>[(13,.lit (.int .i64 k))]) (λ_=>[]) (λk=>k<=a.length/\∀i,i<k->qa3 (.prod (.int .i64) (.int .i64)) a i=qa3 (.prod (.int .i64) (.int .i64)) b i) (λk=>a.length-k))
 | _=>none
abbrev x0o:qc9:=qh6 true none [.list (.prod (.int .i64) (.int .i64)),.list (.prod (.int .i64) (.int .i64))] [.bool] (λx=>x.1.length<=1000000) (λx=>(decide (x.1=x.2.1),()))
theorem w18:qe1 Try.prog 42 x0o:=by
 refine meets (snd (SpecsOk.nil _)) Try.func42 rfl rfl (λx=>xq7 x.1 x.2.1) (λ_=>by kernel_rfl) (by decide) ?_
 rintro⟨a,b,⟨⟩⟩ h
 revert a b
 intro(a:List (Ty.den (.prod (.int .i64) (.int .i64)))) (b:List (Ty.den (.prod (.int .i64) (.int .i64)))) (h:a.length<=1000000)
 refine qe6 (B:=(((↑(List.length a):Int) != (↑(List.length b):Int))=true->false=decide (a=b))/\(((↑(List.length a):Int) != (↑(List.length b):Int))=false->∃(v1:Unit),∃(v2:Nat),(v2<=List.length a/\∀(v3:Nat),Nat.le (Nat.succ v3) v2->qa3 (Ty.prod (Ty.int .i64) (Ty.int .i64)) a v3=qa3 (Ty.prod (Ty.int .i64) (Ty.int .i64)) b v3)/\(((0:Int)=(↑v2:Int)/\True)/\True)/\∀(v3:Nat),(v3<=List.length a/\∀(v5:Nat),Nat.le (Nat.succ v5) v3->qa3 (Ty.prod (Ty.int .i64) (Ty.int .i64)) a v5=qa3 (Ty.prod (Ty.int .i64) (Ty.int .i64)) b v5)->(decide ((↑v3:Int)<(↑(List.length a):Int))=true->((0:Int)<=(↑v3:Int)/\(↑v3:Int)<(↑(List.length a):Int))/\((0:Int)<=(↑v3:Int)/\(↑v3:Int)<(↑(List.length b):Int))/\((!(Prod.fst (qa3 (Ty.prod (Ty.int .i64) (Ty.int .i64)) a (Int.toNat (↑v3:Int)))==Prod.fst (qa3 (Ty.prod (Ty.int .i64) (Ty.int .i64)) b (Int.toNat (↑v3:Int))) && Prod.snd (qa3 (Ty.prod (Ty.int .i64) (Ty.int .i64)) a (Int.toNat (↑v3:Int)))==Prod.snd (qa3 (Ty.prod (Ty.int .i64) (Ty.int .i64)) b (Int.toNat (↑v3:Int)))))=true->false=decide (a=b))/\((!(Prod.fst (qa3 (Ty.prod (Ty.int .i64) (Ty.int .i64)) a (Int.toNat (↑v3:Int)))==Prod.fst (qa3 (Ty.prod (Ty.int .i64) (Ty.int .i64)) b (Int.toNat (↑v3:Int))) && Prod.snd (qa3 (Ty.prod (Ty.int .i64) (Ty.int .i64)) a (Int.toNat (↑v3:Int)))==Prod.snd (qa3 (Ty.prod (Ty.int .i64) (Ty.int .i64)) b (Int.toNat (↑v3:Int)))))=false->fits .i64 ((↑v3:Int)+(1:Int))/\∃(v7:Nat),(v7<=List.length a/\∀(v8:Nat),Nat.le (Nat.succ v8) v7->qa3 (Ty.prod (Ty.int .i64) (Ty.int .i64)) a v8=qa3 (Ty.prod (Ty.int .i64) (Ty.int .i64)) b v8)/\List.length a-v7<List.length a-v3/\((↑v3:Int)+(1:Int)=(↑v7:Int)/\True)/\True))/\(decide ((↑v3:Int)<(↑(List.length a):Int))=false->true=decide (a=b)))) (by kernel_rfl) ?_
 try simp only[z0,z1,z2,z3,z4,z5,z6,z7,z8,z9,z10,Int.reduceEq,z11,z12,z13,z14,z15,z16,z17,z18,z19,z20,z21,z22,z23,z24,z25,z26,z27,z28,z29,z30,Int.reduceLE,Int.reduceLT,z31,z32,z33,z34,qa4]
 try simp only[qb8,qb9,qd2,List.set_cons_zero,List.cons.injEq,and_true,true_and]
 refine⟨λhl=>?_,λhl=>?_⟩
 ·rw[decide_eq_false]; intro e; subst e; exact hl rfl
 ·refine⟨(),0,⟨Nat.zero_le _,λi hi=>absurd hi (by omega)⟩,rfl,λk ⟨hk,hall⟩=>⟨λhlt=>⟨hlt,by omega,λhne=>?_,λhe=>⟨qa8 (by omega) (by omega),k+1,⟨by omega,λi hi=>?_⟩,by omega,by omega⟩⟩,λhge=>?_⟩⟩
  ·rw[decide_eq_false]; intro e; subst e; first | exact hne rfl | (revert hne; simp)
  ·by_cases e:i=k
   ·subst e; first | exact he | (refine Prod.ext ?_ ?_ <;> simp_all)
   ·exact hall i (by omega)
  ·exact(decide_eq_true (wb2 _ a b (by omega) λi hi=>hall i (by omega))).symm
structure w5v (f:List Int × List (Int × Int)):Prop where
 pix:f.1.length<=1000000
 val:f.2.length<=1000000
def wp5 (f g:List Int × List (Int × Int)):Bool:=decide (f.1=g.1) && decide (f.2=g.2)
abbrev xq8:qc9:=qh6 true none [wm6,wm6] [.bool] (λx=>w5v x.1) (λx=>(wp5 x.1 x.2.1,()))
theorem wp6:qe1 Try.prog 15 xq8:=by
 refine meets (snd (SpecsOk.cons q80 (SpecsOk.cons w18 (SpecsOk.nil _)))) Try.func15 rfl rfl (λ_ _=>none) (λ_=>by kernel_rfl) (by decide) ?_
 rintro⟨f,g,⟨⟩⟩ h
 revert f g
 intro(f:List Int × List (Int × Int)) (g:List Int × List (Int × Int)) (h:w5v f)
 refine qe6 (B:=List.length (Prod.fst f)<=(1000000:Nat)/\(decide (Prod.fst f=Prod.fst g)=true->List.length (Prod.snd f)<=(1000000:Nat)/\decide (Prod.snd f=Prod.snd g)=wp5 f g)/\(decide (Prod.fst f=Prod.fst g)=false->false=wp5 f g)) (by kernel_rfl) ?_
 try simp only[z0,z1,z2,z3,z4,z5,z6,z7,z8,z9,z10,Int.reduceEq,z11,z12,z13,z14,z15,z16,z17,z18,z19,z20,z21,z22,z23,z24,z25,z26,z27,z28,z29,z30,Int.reduceLE,Int.reduceLT,z31,z32,z33,z34,qa4]
 try simp only[qb8,qb9,qd2,List.set_cons_zero,List.cons.injEq,and_true,true_and]
 exact⟨h.pix,λe=>⟨h.val,by simp[wp5,e]⟩,λe=>by simp[wp5,e]⟩
abbrev x0p:Ty:=.list (.prod (.list (.int .i64)) (.list (.prod (.int .i64) (.int .i64))))
def nF (l:List (List Int × List (Int × Int))) (i:Nat):List Int × List (Int × Int):=qa3 (.prod (.list (.int .i64)) (.list (.prod (.int .i64) (.int .i64)))) l i
def qm8 (s:List Int):Int:=if 0<s.length then nI s (s.length-1)+1 else 0
def qn2 (n:Nat) (s:List Int):List (List Int):=(List.range ((n:Int)-qm8 s).toNat).map λt:Nat=>s++[qm8 s+t]
def qc8 (n:Nat):Nat->List (List Int)
 | 0=>[[]]
 | k+1=>if k<(qc8 n k).length then qc8 n k++qn2 n (nL (qc8 n k) k) else qc8 n k
def qe0 (n:Nat):List (List Int):=qc8 n 128
theorem q81 (n k:Nat):∀j,∃t,qc8 n (k+j)=qc8 n k++t
 | 0=>⟨[],by simp⟩
 | j+1=>by
  obtain⟨t,ht⟩:=q81 n k j
  rw[<- Nat.add_assoc,qc8]
  split
  ·exact⟨t++qn2 n (nL (qc8 n (k+j)) (k+j)),by rw[<- List.append_assoc,<- ht]⟩
  ·exact⟨t,ht⟩
theorem q62 {n k:Nat} (h:(qc8 n k).length<=k):∀j,qc8 n (k+j)=qc8 n k
 | 0=>rfl
 | j+1=>by
  have:=q62 h j
  rw[<- Nat.add_assoc,qc8,this,if_neg (by omega)]
def w5w (n:Nat):Bool:=decide ((qc8 n 128).length<=128) && (qc8 n 128).all λs=>decide (s.length<=7) && s.all λx=>decide (0<=x) && decide (x<n)
theorem wp7:((List.range 8).all λn=>w5w n)=true:=by decide +kernel
theorem w19 {n:Nat} (h:n<=7):(qc8 n 128).length<=128/\∀s∈qc8 n 128,s.length<=7/\∀x∈s,0<=x/\x<n:=by
 have:=List.all_eq_true.1 wp7 n (List.mem_range.2 (by omega))
 unfold w5w at this
 rw[Bool.and_eq_true,decide_eq_true_eq,List.all_eq_true] at this
 refine⟨this.1,λs hs=>?_⟩
 have h2:=this.2 s hs
 rw[Bool.and_eq_true,decide_eq_true_eq,List.all_eq_true] at h2
 refine⟨h2.1,λx hx=>?_⟩
 have:=h2.2 x hx
 simpa using this
theorem q3k {n k:Nat} (h:n<=7) (hk:k<=128):(qc8 n k).length<=128/\∀s∈qc8 n k,s.length<=7/\∀x∈s,0<=x/\x<n:=by
 obtain⟨t,ht⟩:=q81 n k (128-k)
 rw[show k+(128-k)=128 by omega] at ht
 have:=w19 h
 rw[ht] at this
 refine⟨by have:=this.1; simp at this; omega,λs hs=>this.2 s (by simp[hs])⟩
abbrev xq9:qc9:=qh6 false none [qg1] [qk0] (λx=>0<=x.1/\x.1<=7) (λx=>(qe0 x.1.toNat,()))
def xh5 (n:Nat):Nat->Option Inv
 | 0=>some (Inv.of [3,4] 1 (λk:Nat=>[(3,.own 0),(4,.lit (.int .i64 k))]) (λk=>[.vec 24 (.list (.int .i64)) (qc8 n k)]) (λk=>k<=128) (λk=>128-k))
 | 1=>some (Eng.Inv.mk Nat Nat [3,7] 1 (λk t=>[(3,.own 0),(7,.lit (.int .i64 (qm8 (nL (qc8 n k) k)+t)))]) (λk t=>[.vec 24 (.list (.int .i64)) (qc8 n k++(qn2 n (nL (qc8 n k) k)).take t)]) (λk t=>t<=(qn2 n (nL (qc8 n k) k)).length) (λk t=>(qn2 n (nL (qc8 n k) k)).length-t))
 | _=>none
theorem wp8:qe1 Try.prog 90 xq9:=by
 refine meets (xf8 [8] [38] (SpecsOk.nil _)) Try.func90 rfl rfl (λx=>xh5 x.1.toNat) (λ_=>by kernel_rfl) (by decide) ?_
 rintro⟨n,⟨⟩⟩ h
 revert n
 intro(n:Int) (h:0<=n/\n<=7)
 refine qe6 (B:=Value.slice none (0:Nat) (0:Nat)=Value.slice none (0:Nat) (0:Nat)/\∃(v0:Unit),∃(v1:Nat),Nat.le v1 (128:Nat)/\((True/\(0:Int)=(↑v1:Int)/\True)/\[[]]=qc8 (Int.toNat n) v1/\True)/\∀(v2:Nat),Nat.le v2 (128:Nat)->(decide ((↑v2:Int)<(↑(List.length (qc8 (Int.toNat n) v2)):Int))=true->((0:Int)<=(↑v2:Int)/\(↑v2:Int)<(↑(List.length (qc8 (Int.toNat n) v2)):Int))/\Int.toNat (↑v2:Int)<List.length (qc8 (Int.toNat n) v2)/\(decide ((0:Int)<(↑(List.length (qa3 (Ty.list (Ty.int .i64)) (qc8 (Int.toNat n) v2) (Int.toNat (↑v2:Int)))):Int))=true->fits .i64 ((↑(List.length (qa3 (Ty.list (Ty.int .i64)) (qc8 (Int.toNat n) v2) (Int.toNat (↑v2:Int)))):Int)-(1:Int))/\((0:Int)<=(↑(List.length (qa3 (Ty.list (Ty.int .i64)) (qc8 (Int.toNat n) v2) (Int.toNat (↑v2:Int)))):Int)-(1:Int)/\(↑(List.length (qa3 (Ty.list (Ty.int .i64)) (qc8 (Int.toNat n) v2) (Int.toNat (↑v2:Int)))):Int)-(1:Int)<(↑(List.length (qa3 (Ty.list (Ty.int .i64)) (qc8 (Int.toNat n) v2) (Int.toNat (↑v2:Int)))):Int))/\fits .i64 (qa3 (Ty.int .i64) (qa3 (Ty.list (Ty.int .i64)) (qc8 (Int.toNat n) v2) (Int.toNat (↑v2:Int))) (Int.toNat ((↑(List.length (qa3 (Ty.list (Ty.int .i64)) (qc8 (Int.toNat n) v2) (Int.toNat (↑v2:Int)))):Int)-(1:Int)))+(1:Int))/\∃(v6:Nat),∃(v7:Nat),Nat.le v7 (List.length (qn2 (Int.toNat n) (nL (qc8 (Int.toNat n) v6) v6)))/\((True/\qa3 (Ty.int .i64) (qa3 (Ty.list (Ty.int .i64)) (qc8 (Int.toNat n) v2) (Int.toNat (↑v2:Int))) (Int.toNat ((↑(List.length (qa3 (Ty.list (Ty.int .i64)) (qc8 (Int.toNat n) v2) (Int.toNat (↑v2:Int)))):Int)-(1:Int)))+(1:Int)=qm8 (nL (qc8 (Int.toNat n) v6) v6)+(↑v7:Int)/\True)/\qc8 (Int.toNat n) v2=qc8 (Int.toNat n) v6++List.take v7 (qn2 (Int.toNat n) (nL (qc8 (Int.toNat n) v6) v6))/\True)/\∀(v8:Nat),Nat.le v8 (List.length (qn2 (Int.toNat n) (nL (qc8 (Int.toNat n) v6) v6)))->(decide (qm8 (nL (qc8 (Int.toNat n) v6) v6)+(↑v8:Int)<n)=true->Nat.le ((0:Nat)+List.length (qa3 (Ty.list (Ty.int .i64)) (qc8 (Int.toNat n) v2) (Int.toNat (↑v2:Int)))) (1000000:Nat)/\((0:Nat)<List.length [qm8 (nL (qc8 (Int.toNat n) v6) v6)+(↑v8:Int)]/\Nat.le (List.length ([]++qa3 (Ty.list (Ty.int .i64)) (qc8 (Int.toNat n) v2) (Int.toNat (↑v2:Int)))+List.length [qm8 (nL (qc8 (Int.toNat n) v6) v6)+(↑v8:Int)]) (1000000:Nat))/\((0:Nat)<List.length [[]++qa3 (Ty.list (Ty.int .i64)) (qc8 (Int.toNat n) v2) (Int.toNat (↑v2:Int))++[qm8 (nL (qc8 (Int.toNat n) v6) v6)+(↑v8:Int)]]/\Nat.le (List.length (qc8 (Int.toNat n) v6++List.take v8 (qn2 (Int.toNat n) (nL (qc8 (Int.toNat n) v6) v6)))+List.length [[]++qa3 (Ty.list (Ty.int .i64)) (qc8 (Int.toNat n) v2) (Int.toNat (↑v2:Int))++[qm8 (nL (qc8 (Int.toNat n) v6) v6)+(↑v8:Int)]]) (1000000:Nat))/\fits .i64 (qm8 (nL (qc8 (Int.toNat n) v6) v6)+(↑v8:Int)+(1:Int))/\∃(v11:Nat),Nat.le v11 (List.length (qn2 (Int.toNat n) (nL (qc8 (Int.toNat n) v6) v6)))/\List.length (qn2 (Int.toNat n) (nL (qc8 (Int.toNat n) v6) v6))-v11<List.length (qn2 (Int.toNat n) (nL (qc8 (Int.toNat n) v6) v6))-v8/\(True/\qm8 (nL (qc8 (Int.toNat n) v6) v6)+(↑v8:Int)+(1:Int)=qm8 (nL (qc8 (Int.toNat n) v6) v6)+(↑v11:Int)/\True)/\qc8 (Int.toNat n) v6++List.take v8 (qn2 (Int.toNat n) (nL (qc8 (Int.toNat n) v6) v6))++[[]++qa3 (Ty.list (Ty.int .i64)) (qc8 (Int.toNat n) v2) (Int.toNat (↑v2:Int))++[qm8 (nL (qc8 (Int.toNat n) v6) v6)+(↑v8:Int)]]=qc8 (Int.toNat n) v6++List.take v11 (qn2 (Int.toNat n) (nL (qc8 (Int.toNat n) v6) v6))/\True)/\(decide (qm8 (nL (qc8 (Int.toNat n) v6) v6)+(↑v8:Int)<n)=false->fits .i64 ((↑v2:Int)+(1:Int))/\∃(v11:Nat),Nat.le v11 (128:Nat)/\(128:Nat)-v11<(128:Nat)-v2/\(True/\(↑v2:Int)+(1:Int)=(↑v11:Int)/\True)/\qc8 (Int.toNat n) v6++List.take v8 (qn2 (Int.toNat n) (nL (qc8 (Int.toNat n) v6) v6))=qc8 (Int.toNat n) v11/\True))/\(decide ((0:Int)<(↑(List.length (qa3 (Ty.list (Ty.int .i64)) (qc8 (Int.toNat n) v2) (Int.toNat (↑v2:Int)))):Int))=false->∃(v6:Nat),∃(v7:Nat),Nat.le v7 (List.length (qn2 (Int.toNat n) (nL (qc8 (Int.toNat n) v6) v6)))/\((True/\(0:Int)=qm8 (nL (qc8 (Int.toNat n) v6) v6)+(↑v7:Int)/\True)/\qc8 (Int.toNat n) v2=qc8 (Int.toNat n) v6++List.take v7 (qn2 (Int.toNat n) (nL (qc8 (Int.toNat n) v6) v6))/\True)/\∀(v8:Nat),Nat.le v8 (List.length (qn2 (Int.toNat n) (nL (qc8 (Int.toNat n) v6) v6)))->(decide (qm8 (nL (qc8 (Int.toNat n) v6) v6)+(↑v8:Int)<n)=true->Nat.le ((0:Nat)+List.length (qa3 (Ty.list (Ty.int .i64)) (qc8 (Int.toNat n) v2) (Int.toNat (↑v2:Int)))) (1000000:Nat)/\((0:Nat)<List.length [qm8 (nL (qc8 (Int.toNat n) v6) v6)+(↑v8:Int)]/\Nat.le (List.length ([]++qa3 (Ty.list (Ty.int .i64)) (qc8 (Int.toNat n) v2) (Int.toNat (↑v2:Int)))+List.length [qm8 (nL (qc8 (Int.toNat n) v6) v6)+(↑v8:Int)]) (1000000:Nat))/\((0:Nat)<List.length [[]++qa3 (Ty.list (Ty.int .i64)) (qc8 (Int.toNat n) v2) (Int.toNat (↑v2:Int))++[qm8 (nL (qc8 (Int.toNat n) v6) v6)+(↑v8:Int)]]/\Nat.le (List.length (qc8 (Int.toNat n) v6++List.take v8 (qn2 (Int.toNat n) (nL (qc8 (Int.toNat n) v6) v6)))+List.length [[]++qa3 (Ty.list (Ty.int .i64)) (qc8 (Int.toNat n) v2) (Int.toNat (↑v2:Int))++[qm8 (nL (qc8 (Int.toNat n) v6) v6)+(↑v8:Int)]]) (1000000:Nat))/\fits .i64 (qm8 (nL (qc8 (Int.toNat n) v6) v6)+(↑v8:Int)+(1:Int))/\∃(v11:Nat),Nat.le v11 (List.length (qn2 (Int.toNat n) (nL (qc8 (Int.toNat n) v6) v6)))/\List.length (qn2 (Int.toNat n) (nL (qc8 (Int.toNat n) v6) v6))-v11<List.length (qn2 (Int.toNat n) (nL (qc8 (Int.toNat n) v6) v6))-v8/\(True/\qm8 (nL (qc8 (Int.toNat n) v6) v6)+(↑v8:Int)+(1:Int)=qm8 (nL (qc8 (Int.toNat n) v6) v6)+(↑v11:Int)/\True)/\qc8 (Int.toNat n) v6++List.take v8 (qn2 (Int.toNat n) (nL (qc8 (Int.toNat n) v6) v6))++[[]++qa3 (Ty.list (Ty.int .i64)) (qc8 (Int.toNat n) v2) (Int.toNat (↑v2:Int))++[qm8 (nL (qc8 (Int.toNat n) v6) v6)+(↑v8:Int)]]=qc8 (Int.toNat n) v6++List.take v11 (qn2 (Int.toNat n) (nL (qc8 (Int.toNat n) v6) v6))/\True)/\(decide (qm8 (nL (qc8 (Int.toNat n) v6) v6)+(↑v8:Int)<n)=false->fits .i64 ((↑v2:Int)+(1:Int))/\∃(v11:Nat),Nat.le v11 (128:Nat)/\(128:Nat)-v11<(128:Nat)-v2/\(True/\(↑v2:Int)+(1:Int)=(↑v11:Int)/\True)/\qc8 (Int.toNat n) v6++List.take v8 (qn2 (Int.toNat n) (nL (qc8 (Int.toNat n) v6) v6))=qc8 (Int.toNat n) v11/\True)))/\(decide ((↑v2:Int)<(↑(List.length (qc8 (Int.toNat n) v2)):Int))=false->qc8 (Int.toNat n) v2=qe0 (Int.toNat n))) (by kernel_rfl) ?_
 try simp only[z0,z1,z2,z3,z4,z5,z6,z7,z8,z9,z10,Int.reduceEq,z11,z12,z13,z14,z15,z16,z17,z18,z19,z20,z21,z22,z23,z24,z25,z26,z27,z28,z29,z30,Int.reduceLE,Int.reduceLT,z31,z32,z33,z34,qa4]
 try simp only[qb8,qb9,qd2,List.set_cons_zero,List.cons.injEq,and_true,true_and]
 obtain⟨hn0,hn7⟩:=h
 have hnn:((n.toNat:Nat):Int)=n:=by omega
 refine⟨(),0,Nat.zero_le _,⟨by first | rfl | trivial,by first | rfl | trivial⟩,λk hk=>⟨λhlt0=>?_,λhge=>?_⟩⟩
 ·have hall:=q3k (n:=n.toNat) (by omega) hk
  obtain⟨s,hs⟩:∃s,nL (qc8 n.toNat k) k=s:=⟨_,rfl⟩
  have hsm:=hall.2 s (by rw[<- hs,qm7 _ k hlt0]; exact List.getElem_mem hlt0)
  have hl1:=hall.1
  have hsl:=hsm.1
  simp only[hs]
  have hel:(qn2 n.toNat s).length=(n-qm8 s).toNat:=by simp[qn2,hnn]
  refine⟨hlt0,hlt0,λh0=>?_,λh0=>?_⟩
  ·have hx:=hsm.2 (nI s (s.length-1)) (by rw[qh9 s _ (by omega)]; exact List.getElem_mem _)
   have e1:((s.length:Int)-1).toNat=s.length-1:=by omega
   rw[e1]
   have hfr:qm8 s=nI s (s.length-1)+1:=by unfold qm8; rw[if_pos (by omega)]
   refine⟨qa8 (by omega) (by omega),⟨by omega,by omega⟩,qa8 (by omega) (by omega),?_⟩
   have hfb:0<=qm8 s/\qm8 s<=n:=by omega
   refine⟨k,0,?_⟩
   simp only[hs]
   refine⟨Nat.zero_le _,⟨by rw[hfr]; simp,by simp⟩,λt ht=>⟨λhlt=>⟨by omega,by omega,by rw[List.length_append,List.length_take]; omega,qa8 (by omega) (by omega),t+1,by omega,by omega,by omega,?_⟩,λhge=>?_⟩⟩
   ·rw[List.append_assoc,takeL_snoc _ t (by omega),qm7 (qn2 n.toNat s) t (by omega)]
    simp[qn2]
   ·have e:t=(qn2 n.toNat s).length:=by omega
    subst e
    refine⟨qa8 (by omega) (by omega),k+1,by omega,by omega,by omega,?_⟩
    rw[List.take_length,qc8,if_pos hlt0,hs]
  ·have hfr:qm8 s=0:=by unfold qm8; rw[if_neg (by omega)]
   have hfb:0<=qm8 s/\qm8 s<=n:=by omega
   refine⟨k,0,?_⟩
   simp only[hs]
   refine⟨Nat.zero_le _,⟨by rw[hfr]; simp,by simp⟩,λt ht=>⟨λhlt=>⟨by omega,by omega,by rw[List.length_append,List.length_take]; omega,qa8 (by omega) (by omega),t+1,by omega,by omega,by omega,?_⟩,λhge=>?_⟩⟩
   ·rw[List.append_assoc,takeL_snoc _ t (by omega),qm7 (qn2 n.toNat s) t (by omega)]
    simp[qn2]
   ·have e:t=(qn2 n.toNat s).length:=by omega
    subst e
    refine⟨qa8 (by omega) (by omega),k+1,by omega,by omega,by omega,?_⟩
    rw[List.take_length,qc8,if_pos hlt0,hs]
 ·have:=q62 (n:=n.toNat) (k:=k) (by omega) (128-k)
  rw[show k+(128-k)=128 by omega] at this
  exact this.symm
end Go.Proofs.Ytdibdlelmkcccaa
