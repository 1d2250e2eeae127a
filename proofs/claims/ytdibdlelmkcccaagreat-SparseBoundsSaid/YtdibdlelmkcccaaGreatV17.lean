/- The reference's sets; equal lists and fits: contracts by the engine. No condition. -/
import Derived.Test.YtdibdlelmkcccaaGreatV16
set_option linter.unusedVariables false
set_option linter.unusedSimpArgs false
namespace Go.Proofs.YtdibdlelmkcccaaGreat
open Go Go.RowKit Eng
def x07 (a b:List (Ty.den (.int .i64))):Nat->Option Inv
 | 0=>some (Inv.of [13] 0 (λk:Nat=>[(13,.lit (.int .i64 k))]) (λ_=>[]) (λk=>k<=a.length/\∀i,i<k->qa1 (.int .i64) a i=qa1 (.int .i64) b i) (λk=>a.length-k))
 | _=>none
abbrev x5i:qc0:=qf8 true none [.list (.int .i64),.list (.int .i64)] [.bool] (λx=>x.1.length<=1000000) (λx=>(decide (x.1=x.2.1),()))
theorem w36:qd3 Tryz.prog 34 x5i:=by
 refine meets (snd (SpecsOk.nil _)) Tryz.func34 rfl rfl (λx=>x07 x.1 x.2.1) (λ_=>by kernel_rfl) (by decide) ?_
 rintro⟨a,b,⟨⟩⟩ h
 revert a b
 intro(a:List (Ty.den (.int .i64))) (b:List (Ty.den (.int .i64))) (h:a.length<=1000000)
 refine @qd8 _ (let Q0:=List.length a; let Q1:=List.length b; (((↑Q0:Int) != (↑Q1:Int))=true->false=decide (a=b))/\(((↑Q0:Int) != (↑Q1:Int))=false->∃(v1:Unit),∃(v2:Nat),(v2<=List.length a/\∀(v3:Nat),Nat.le (Nat.succ v3) v2->qa1 (Ty.int .i64) a v3=qa1 (Ty.int .i64) b v3)/\(((0:Int)=(↑v2:Int)/\True)/\True)/\∀(v3:Nat),(v3<=List.length a/\∀(v5:Nat),Nat.le (Nat.succ v5) v3->qa1 (Ty.int .i64) a v5=qa1 (Ty.int .i64) b v5)->(decide ((↑v3:Int)<(↑Q0:Int))=true->((0:Int)<=(↑v3:Int)/\(↑v3:Int)<(↑Q0:Int))/\((0:Int)<=(↑v3:Int)/\(↑v3:Int)<(↑Q1:Int))/\((qa1 (Ty.int .i64) a (Int.toNat (↑v3:Int)) != qa1 (Ty.int .i64) b (Int.toNat (↑v3:Int)))=true->false=decide (a=b))/\((qa1 (Ty.int .i64) a (Int.toNat (↑v3:Int)) != qa1 (Ty.int .i64) b (Int.toNat (↑v3:Int)))=false->fits .i64 ((↑v3:Int)+(1:Int))/\∃(v7:Nat),(v7<=List.length a/\∀(v8:Nat),Nat.le (Nat.succ v8) v7->qa1 (Ty.int .i64) a v8=qa1 (Ty.int .i64) b v8)/\List.length a-v7<List.length a-v3/\((↑v3:Int)+(1:Int)=(↑v7:Int)/\True)/\True))/\(decide ((↑v3:Int)<(↑Q0:Int))=false->true=decide (a=b)))) (by kernel_rfl) ?_
 try simp only[z0,z1,z2,z3,z4,z5,z6,z7,z8,z9,z10,Int.reduceEq,z11,z12,z13,z14,z15,z16,z17,z18,z19,z20,z21,z22,z23,z24,z25,z26,z27,z28,z29,z30,Int.reduceLE,Int.reduceLT,z31,z32,z33,z34,qa4]
 try simp only[qb6,qb7,qc8,List.set_cons_zero,List.cons.injEq,and_true,true_and]
 refine⟨λhl=>?_,λhl=>?_⟩
 ·rw[decide_eq_false]; intro e; subst e; exact hl rfl
 ·refine⟨(),0,⟨Nat.zero_le _,λi hi=>absurd hi (by omega)⟩,rfl,λk ⟨hk,hall⟩=>⟨λhlt=>⟨hlt,by omega,λhne=>?_,λhe=>⟨qa7 (by omega) (by omega),k+1,⟨by omega,λi hi=>?_⟩,by omega,by omega⟩⟩,λhge=>?_⟩⟩
  ·rw[decide_eq_false]; intro e; subst e; first | exact hne rfl | (revert hne; simp)
  ·by_cases e:i=k
   ·subst e; first | exact he | (refine Prod.ext ?_ ?_ <;> simp_all)
   ·exact hall i (by omega)
  ·exact(decide_eq_true (w1d _ a b (by omega) λi hi=>hall i (by omega))).symm
def x08 (a b:List (Ty.den (.prod (.int .i64) (.int .i64)))):Nat->Option Inv
 | 0=>some (Inv.of [13] 0 (λk:Nat=>[(13,.lit (.int .i64 k))]) (λ_=>[]) (λk=>k<=a.length/\∀i,i<k->qa1 (.prod (.int .i64) (.int .i64)) a i=qa1 (.prod (.int .i64) (.int .i64)) b i) (λk=>a.length-k))
 | _=>none
abbrev x5j:qc0:=qf8 true none [.list (.prod (.int .i64) (.int .i64)),.list (.prod (.int .i64) (.int .i64))] [.bool] (λx=>x.1.length<=1000000) (λx=>(decide (x.1=x.2.1),()))
theorem q87:qd3 Tryz.prog 17 x5j:=by
 refine meets (snd (SpecsOk.nil _)) Tryz.func17 rfl rfl (λx=>x08 x.1 x.2.1) (λ_=>by kernel_rfl) (by decide) ?_
 rintro⟨a,b,⟨⟩⟩ h
 revert a b
 intro(a:List (Ty.den (.prod (.int .i64) (.int .i64)))) (b:List (Ty.den (.prod (.int .i64) (.int .i64)))) (h:a.length<=1000000)
 refine @qd8 _ (let Q0:=List.length a; let Q1:=List.length b; (((↑Q0:Int) != (↑Q1:Int))=true->false=decide (a=b))/\(((↑Q0:Int) != (↑Q1:Int))=false->∃(v1:Unit),∃(v2:Nat),(v2<=List.length a/\∀(v3:Nat),Nat.le (Nat.succ v3) v2->qa1 (Ty.prod (Ty.int .i64) (Ty.int .i64)) a v3=qa1 (Ty.prod (Ty.int .i64) (Ty.int .i64)) b v3)/\(((0:Int)=(↑v2:Int)/\True)/\True)/\∀(v3:Nat),(v3<=List.length a/\∀(v5:Nat),Nat.le (Nat.succ v5) v3->qa1 (Ty.prod (Ty.int .i64) (Ty.int .i64)) a v5=qa1 (Ty.prod (Ty.int .i64) (Ty.int .i64)) b v5)->(decide ((↑v3:Int)<(↑Q0:Int))=true->((0:Int)<=(↑v3:Int)/\(↑v3:Int)<(↑Q0:Int))/\((0:Int)<=(↑v3:Int)/\(↑v3:Int)<(↑Q1:Int))/\((!(Prod.fst (qa1 (Ty.prod (Ty.int .i64) (Ty.int .i64)) a (Int.toNat (↑v3:Int)))==Prod.fst (qa1 (Ty.prod (Ty.int .i64) (Ty.int .i64)) b (Int.toNat (↑v3:Int))) && Prod.snd (qa1 (Ty.prod (Ty.int .i64) (Ty.int .i64)) a (Int.toNat (↑v3:Int)))==Prod.snd (qa1 (Ty.prod (Ty.int .i64) (Ty.int .i64)) b (Int.toNat (↑v3:Int)))))=true->false=decide (a=b))/\((!(Prod.fst (qa1 (Ty.prod (Ty.int .i64) (Ty.int .i64)) a (Int.toNat (↑v3:Int)))==Prod.fst (qa1 (Ty.prod (Ty.int .i64) (Ty.int .i64)) b (Int.toNat (↑v3:Int))) && Prod.snd (qa1 (Ty.prod (Ty.int .i64) (Ty.int .i64)) a (Int.toNat (↑v3:Int)))==Prod.snd (qa1 (Ty.prod (Ty.int .i64) (Ty.int .i64)) b (Int.toNat (↑v3:Int)))))=false->fits .i64 ((↑v3:Int)+(1:Int))/\∃(v7:Nat),(v7<=List.length a/\∀(v8:Nat),Nat.le (Nat.succ v8) v7->qa1 (Ty.prod (Ty.int .i64) (Ty.int .i64)) a v8=qa1 (Ty.prod (Ty.int .i64) (Ty.int .i64)) b v8)/\List.length a-v7<List.length a-v3/\((↑v3:Int)+(1:Int)=(↑v7:Int)/\True)/\True))/\(decide ((↑v3:Int)<(↑Q0:Int))=false->true=decide (a=b)))) (by kernel_rfl) ?_
 try simp only[z0,z1,z2,z3,z4,z5,z6,z7,z8,z9,z10,Int.reduceEq,z11,z12,z13,z14,z15,z16,z17,z18,z19,z20,z21,z22,z23,z24,z25,z26,z27,z28,z29,z30,Int.reduceLE,Int.reduceLT,z31,z32,z33,z34,qa4]
 try simp only[qb6,qb7,qc8,List.set_cons_zero,List.cons.injEq,and_true,true_and]
 refine⟨λhl=>?_,λhl=>?_⟩
 ·rw[decide_eq_false]; intro e; subst e; exact hl rfl
 ·refine⟨(),0,⟨Nat.zero_le _,λi hi=>absurd hi (by omega)⟩,rfl,λk ⟨hk,hall⟩=>⟨λhlt=>⟨hlt,by omega,λhne=>?_,λhe=>⟨qa7 (by omega) (by omega),k+1,⟨by omega,λi hi=>?_⟩,by omega,by omega⟩⟩,λhge=>?_⟩⟩
  ·rw[decide_eq_false]; intro e; subst e; first | exact hne rfl | (revert hne; simp)
  ·by_cases e:i=k
   ·subst e; first | exact he | (refine Prod.ext ?_ ?_ <;> simp_all)
   ·exact hall i (by omega)
  ·exact(decide_eq_true (w1d _ a b (by omega) λi hi=>hall i (by omega))).symm
structure w7s (f:List Int × List (Int × Int)):Prop where
 pix:f.1.length<=1000000
 val:f.2.length<=1000000
def wu3 (f g:List Int × List (Int × Int)):Bool:=decide (f.1=g.1) && decide (f.2=g.2)
abbrev x1a:qc0:=qf8 true none [q5c,q5c] [.bool] (λx=>w7s x.1) (λx=>(wu3 x.1 x.2.1,()))
theorem wu4:qd3 Tryz.prog 35 x1a:=by
 refine meets (snd (SpecsOk.cons w36 (SpecsOk.cons q87 (SpecsOk.nil _)))) Tryz.func35 rfl rfl (λ_ _=>none) (λ_=>by kernel_rfl) (by decide) ?_
 rintro⟨f,g,⟨⟩⟩ h
 revert f g
 intro(f:List Int × List (Int × Int)) (g:List Int × List (Int × Int)) (h:w7s f)
 refine @qd8 _ (List.length (Prod.fst f)<=(1000000:Nat)/\(decide (Prod.fst f=Prod.fst g)=true->List.length (Prod.snd f)<=(1000000:Nat)/\decide (Prod.snd f=Prod.snd g)=wu3 f g)/\(decide (Prod.fst f=Prod.fst g)=false->false=wu3 f g)) (by kernel_rfl) ?_
 try simp only[z0,z1,z2,z3,z4,z5,z6,z7,z8,z9,z10,Int.reduceEq,z11,z12,z13,z14,z15,z16,z17,z18,z19,z20,z21,z22,z23,z24,z25,z26,z27,z28,z29,z30,Int.reduceLE,Int.reduceLT,z31,z32,z33,z34,qa4]
 try simp only[qb6,qb7,qc8,List.set_cons_zero,List.cons.injEq,and_true,true_and]
 exact⟨h.pix,λe=>⟨h.val,by simp[wu3,e]⟩,λe=>by simp[wu3,e]⟩
abbrev x5k:Ty:=.list (.prod (.list (.int .i64)) (.list (.prod (.int .i64) (.int .i64))))
def nF (l:List (List Int × List (Int × Int))) (i:Nat):List Int × List (Int × Int):=qa1 (.prod (.list (.int .i64)) (.list (.prod (.int .i64) (.int .i64)))) l i
def qm0 (s:List Int):Int:=if 0<s.length then nI s (s.length-1)+1 else 0
def qm5 (n:Nat) (s:List Int):List (List Int):=(List.range ((n:Int)-qm0 s).toNat).map λt:Nat=>s++[qm0 s+t]
def qb9 (n:Nat):Nat->List (List Int)
 | 0=>[[]]
 | k+1=>if k<(qb9 n k).length then qb9 n k++qm5 n (nL (qb9 n k) k) else qb9 n k
def qd7 (n:Nat):List (List Int):=qb9 n 128
theorem q88 (n k:Nat):∀j,∃t,qb9 n (k+j)=qb9 n k++t
 | 0=>⟨[],by simp⟩
 | j+1=>by
  obtain⟨t,ht⟩:=q88 n k j
  rw[<- Nat.add_assoc,qb9]
  split
  ·exact⟨t++qm5 n (nL (qb9 n (k+j)) (k+j)),by rw[<- List.append_assoc,<- ht]⟩
  ·exact⟨t,ht⟩
theorem q60 {n k:Nat} (h:(qb9 n k).length<=k):∀j,qb9 n (k+j)=qb9 n k
 | 0=>rfl
 | j+1=>by
  have:=q60 h j
  rw[<- Nat.add_assoc,qb9,this,if_neg (by omega)]
def w7t (n:Nat):Bool:=decide ((qb9 n 128).length<=128) && (qb9 n 128).all λs=>decide (s.length<=7) && s.all λx=>decide (0<=x) && decide (x<n)
theorem wu5:((List.range 8).all λn=>w7t n)=true:=by decide +kernel
theorem w37 {n:Nat} (h:n<=7):(qb9 n 128).length<=128/\∀s∈qb9 n 128,s.length<=7/\∀x∈s,0<=x/\x<n:=by
 have:=List.all_eq_true.1 wu5 n (List.mem_range.2 (by omega))
 unfold w7t at this
 rw[Bool.and_eq_true,decide_eq_true_eq,List.all_eq_true] at this
 refine⟨this.1,λs hs=>?_⟩
 have h2:=this.2 s hs
 rw[Bool.and_eq_true,decide_eq_true_eq,List.all_eq_true] at h2
 refine⟨h2.1,λx hx=>?_⟩
 have:=h2.2 x hx
 simpa using this
theorem q3d {n k:Nat} (h:n<=7) (hk:k<=128):(qb9 n k).length<=128/\∀s∈qb9 n k,s.length<=7/\∀x∈s,0<=x/\x<n:=by
 obtain⟨t,ht⟩:=q88 n k (128-k)
 rw[show k+(128-k)=128 by omega] at ht
 have:=w37 h
 rw[ht] at this
 refine⟨by have:=this.1; simp at this; omega,λs hs=>this.2 s (by simp[hs])⟩
abbrev x1b:qc0:=qf8 false none [tInt] [tMask] (λx=>0<=x.1/\x.1<=7) (λx=>(qd7 x.1.toNat,()))
def xs4 (n:Nat):Nat->Option Inv
 | 0=>some (Inv.of [3,4] 1 (λk:Nat=>[(3,.own 0),(4,.lit (.int .i64 k))]) (λk=>[.vec 24 (.list (.int .i64)) (qb9 n k)]) (λk=>k<=128) (λk=>128-k))
 | 1=>some (Eng.Inv.mk Nat Nat [3,7] 1 (λk t=>[(3,.own 0),(7,.lit (.int .i64 (qm0 (nL (qb9 n k) k)+t)))]) (λk t=>[.vec 24 (.list (.int .i64)) (qb9 n k++(qm5 n (nL (qb9 n k) k)).take t)]) (λk t=>t<=(qm5 n (nL (qb9 n k) k)).length) (λk t=>(qm5 n (nL (qb9 n k) k)).length-t))
 | _=>none
theorem wu6:qd3 Tryz.prog 140 x1b:=by
 refine meets (x0o [8] [38] (SpecsOk.nil _)) Tryz.func140 rfl rfl (λx=>xs4 x.1.toNat) (λ_=>by kernel_rfl) (by decide) ?_
 rintro⟨n,⟨⟩⟩ h
 revert n
 intro(n:Int) (h:0<=n/\n<=7)
 refine @qd8 _ (let Q0:=Int.toNat n; Value.slice none (0:Nat) (0:Nat)=Value.slice none (0:Nat) (0:Nat)/\∃(v0:Unit),∃(v1:Nat),Nat.le v1 (128:Nat)/\((True/\(0:Int)=(↑v1:Int)/\True)/\[[]]=qb9 Q0 v1/\True)/\∀(v2:Nat),Nat.le v2 (128:Nat)->(decide ((↑v2:Int)<(↑(List.length (qb9 Q0 v2)):Int))=true->((0:Int)<=(↑v2:Int)/\(↑v2:Int)<(↑(List.length (qb9 Q0 v2)):Int))/\Int.toNat (↑v2:Int)<List.length (qb9 Q0 v2)/\(decide ((0:Int)<(↑(List.length (qa1 (Ty.list (Ty.int .i64)) (qb9 Q0 v2) (Int.toNat (↑v2:Int)))):Int))=true->fits .i64 ((↑(List.length (qa1 (Ty.list (Ty.int .i64)) (qb9 Q0 v2) (Int.toNat (↑v2:Int)))):Int)-(1:Int))/\((0:Int)<=(↑(List.length (qa1 (Ty.list (Ty.int .i64)) (qb9 Q0 v2) (Int.toNat (↑v2:Int)))):Int)-(1:Int)/\(↑(List.length (qa1 (Ty.list (Ty.int .i64)) (qb9 Q0 v2) (Int.toNat (↑v2:Int)))):Int)-(1:Int)<(↑(List.length (qa1 (Ty.list (Ty.int .i64)) (qb9 Q0 v2) (Int.toNat (↑v2:Int)))):Int))/\fits .i64 (qa1 (Ty.int .i64) (qa1 (Ty.list (Ty.int .i64)) (qb9 Q0 v2) (Int.toNat (↑v2:Int))) (Int.toNat ((↑(List.length (qa1 (Ty.list (Ty.int .i64)) (qb9 Q0 v2) (Int.toNat (↑v2:Int)))):Int)-(1:Int)))+(1:Int))/\∃(v6:Nat),∃(v7:Nat),Nat.le v7 (List.length (qm5 Q0 (nL (qb9 Q0 v6) v6)))/\((True/\qa1 (Ty.int .i64) (qa1 (Ty.list (Ty.int .i64)) (qb9 Q0 v2) (Int.toNat (↑v2:Int))) (Int.toNat ((↑(List.length (qa1 (Ty.list (Ty.int .i64)) (qb9 Q0 v2) (Int.toNat (↑v2:Int)))):Int)-(1:Int)))+(1:Int)=qm0 (nL (qb9 Q0 v6) v6)+(↑v7:Int)/\True)/\qb9 Q0 v2=qb9 Q0 v6++List.take v7 (qm5 Q0 (nL (qb9 Q0 v6) v6))/\True)/\∀(v8:Nat),Nat.le v8 (List.length (qm5 Q0 (nL (qb9 Q0 v6) v6)))->(decide (qm0 (nL (qb9 Q0 v6) v6)+(↑v8:Int)<n)=true->Nat.le ((0:Nat)+List.length (qa1 (Ty.list (Ty.int .i64)) (qb9 Q0 v2) (Int.toNat (↑v2:Int)))) (1000000:Nat)/\((0:Nat)<List.length [qm0 (nL (qb9 Q0 v6) v6)+(↑v8:Int)]/\Nat.le (List.length ([]++qa1 (Ty.list (Ty.int .i64)) (qb9 Q0 v2) (Int.toNat (↑v2:Int)))+List.length [qm0 (nL (qb9 Q0 v6) v6)+(↑v8:Int)]) (1000000:Nat))/\((0:Nat)<List.length [[]++qa1 (Ty.list (Ty.int .i64)) (qb9 Q0 v2) (Int.toNat (↑v2:Int))++[qm0 (nL (qb9 Q0 v6) v6)+(↑v8:Int)]]/\Nat.le (List.length (qb9 Q0 v6++List.take v8 (qm5 Q0 (nL (qb9 Q0 v6) v6)))+List.length [[]++qa1 (Ty.list (Ty.int .i64)) (qb9 Q0 v2) (Int.toNat (↑v2:Int))++[qm0 (nL (qb9 Q0 v6) v6)+(↑v8:Int)]]) (1000000:Nat))/\fits .i64 (qm0 (nL (qb9 Q0 v6) v6)+(↑v8:Int)+(1:Int))/\∃(v11:Nat),Nat.le v11 (List.length (qm5 Q0 (nL (qb9 Q0 v6) v6)))/\List.length (qm5 Q0 (nL (qb9 Q0 v6) v6))-v11<List.length (qm5 Q0 (nL (qb9 Q0 v6) v6))-v8/\(True/\qm0 (nL (qb9 Q0 v6) v6)+(↑v8:Int)+(1:Int)=qm0 (nL (qb9 Q0 v6) v6)+(↑v11:Int)/\True)/\qb9 Q0 v6++List.take v8 (qm5 Q0 (nL (qb9 Q0 v6) v6))++[[]++qa1 (Ty.list (Ty.int .i64)) (qb9 Q0 v2) (Int.toNat (↑v2:Int))++[qm0 (nL (qb9 Q0 v6) v6)+(↑v8:Int)]]=qb9 Q0 v6++List.take v11 (qm5 Q0 (nL (qb9 Q0 v6) v6))/\True)/\(decide (qm0 (nL (qb9 Q0 v6) v6)+(↑v8:Int)<n)=false->fits .i64 ((↑v2:Int)+(1:Int))/\∃(v11:Nat),Nat.le v11 (128:Nat)/\(128:Nat)-v11<(128:Nat)-v2/\(True/\(↑v2:Int)+(1:Int)=(↑v11:Int)/\True)/\qb9 Q0 v6++List.take v8 (qm5 Q0 (nL (qb9 Q0 v6) v6))=qb9 Q0 v11/\True))/\(decide ((0:Int)<(↑(List.length (qa1 (Ty.list (Ty.int .i64)) (qb9 Q0 v2) (Int.toNat (↑v2:Int)))):Int))=false->∃(v6:Nat),∃(v7:Nat),Nat.le v7 (List.length (qm5 Q0 (nL (qb9 Q0 v6) v6)))/\((True/\(0:Int)=qm0 (nL (qb9 Q0 v6) v6)+(↑v7:Int)/\True)/\qb9 Q0 v2=qb9 Q0 v6++List.take v7 (qm5 Q0 (nL (qb9 Q0 v6) v6))/\True)/\∀(v8:Nat),Nat.le v8 (List.length (qm5 Q0 (nL (qb9 Q0 v6) v6)))->(decide (qm0 (nL (qb9 Q0 v6) v6)+(↑v8:Int)<n)=true->Nat.le ((0:Nat)+List.length (qa1 (Ty.list (Ty.int .i64)) (qb9 Q0 v2) (Int.toNat (↑v2:Int)))) (1000000:Nat)/\((0:Nat)<List.length [qm0 (nL (qb9 Q0 v6) v6)+(↑v8:Int)]/\Nat.le (List.length ([]++qa1 (Ty.list (Ty.int .i64)) (qb9 Q0 v2) (Int.toNat (↑v2:Int)))+List.length [qm0 (nL (qb9 Q0 v6) v6)+(↑v8:Int)]) (1000000:Nat))/\((0:Nat)<List.length [[]++qa1 (Ty.list (Ty.int .i64)) (qb9 Q0 v2) (Int.toNat (↑v2:Int))++[qm0 (nL (qb9 Q0 v6) v6)+(↑v8:Int)]]/\Nat.le (List.length (qb9 Q0 v6++List.take v8 (qm5 Q0 (nL (qb9 Q0 v6) v6)))+List.length [[]++qa1 (Ty.list (Ty.int .i64)) (qb9 Q0 v2) (Int.toNat (↑v2:Int))++[qm0 (nL (qb9 Q0 v6) v6)+(↑v8:Int)]]) (1000000:Nat))/\fits .i64 (qm0 (nL (qb9 Q0 v6) v6)+(↑v8:Int)+(1:Int))/\∃(v11:Nat),Nat.le v11 (List.length (qm5 Q0 (nL (qb9 Q0 v6) v6)))/\List.length (qm5 Q0 (nL (qb9 Q0 v6) v6))-v11<List.length (qm5 Q0 (nL (qb9 Q0 v6) v6))-v8/\(True/\qm0 (nL (qb9 Q0 v6) v6)+(↑v8:Int)+(1:Int)=qm0 (nL (qb9 Q0 v6) v6)+(↑v11:Int)/\True)/\qb9 Q0 v6++List.take v8 (qm5 Q0 (nL (qb9 Q0 v6) v6))++[[]++qa1 (Ty.list (Ty.int .i64)) (qb9 Q0 v2) (Int.toNat (↑v2:Int))++[qm0 (nL (qb9 Q0 v6) v6)+(↑v8:Int)]]=qb9 Q0 v6++List.take v11 (qm5 Q0 (nL (qb9 Q0 v6) v6))/\True)/\(decide (qm0 (nL (qb9 Q0 v6) v6)+(↑v8:Int)<n)=false->fits .i64 ((↑v2:Int)+(1:Int))/\∃(v11:Nat),Nat.le v11 (128:Nat)/\(128:Nat)-v11<(128:Nat)-v2/\(True/\(↑v2:Int)+(1:Int)=(↑v11:Int)/\True)/\qb9 Q0 v6++List.take v8 (qm5 Q0 (nL (qb9 Q0 v6) v6))=qb9 Q0 v11/\True)))/\(decide ((↑v2:Int)<(↑(List.length (qb9 Q0 v2)):Int))=false->qb9 Q0 v2=qd7 Q0)) (by kernel_rfl) ?_
 try simp only[z0,z1,z2,z3,z4,z5,z6,z7,z8,z9,z10,Int.reduceEq,z11,z12,z13,z14,z15,z16,z17,z18,z19,z20,z21,z22,z23,z24,z25,z26,z27,z28,z29,z30,Int.reduceLE,Int.reduceLT,z31,z32,z33,z34,qa4]
 try simp only[qb6,qb7,qc8,List.set_cons_zero,List.cons.injEq,and_true,true_and]
 obtain⟨hn0,hn7⟩:=h
 have hnn:((n.toNat:Nat):Int)=n:=by omega
 refine⟨(),0,Nat.zero_le _,⟨by first | rfl | trivial,by first | rfl | trivial⟩,λk hk=>⟨λhlt0=>?_,λhge=>?_⟩⟩
 ·have hall:=q3d (n:=n.toNat) (by omega) hk
  obtain⟨s,hs⟩:∃s,nL (qb9 n.toNat k) k=s:=⟨_,rfl⟩
  have hsm:=hall.2 s (by rw[<- hs,ql9 _ k hlt0]; exact List.getElem_mem hlt0)
  have hl1:=hall.1
  have hsl:=hsm.1
  simp only[hs]
  have hel:(qm5 n.toNat s).length=(n-qm0 s).toNat:=by simp[qm5,hnn]
  refine⟨hlt0,hlt0,λh0=>?_,λh0=>?_⟩
  ·have hx:=hsm.2 (nI s (s.length-1)) (by rw[qh7 s _ (by omega)]; exact List.getElem_mem _)
   have e1:((s.length:Int)-1).toNat=s.length-1:=by omega
   rw[e1]
   have hfr:qm0 s=nI s (s.length-1)+1:=by unfold qm0; rw[if_pos (by omega)]
   refine⟨qa7 (by omega) (by omega),⟨by omega,by omega⟩,qa7 (by omega) (by omega),?_⟩
   have hfb:0<=qm0 s/\qm0 s<=n:=by omega
   refine⟨k,0,?_⟩
   simp only[hs]
   refine⟨Nat.zero_le _,⟨by rw[hfr]; simp,by simp⟩,λt ht=>⟨λhlt=>⟨by omega,by omega,by rw[List.length_append,List.length_take]; omega,qa7 (by omega) (by omega),t+1,by omega,by omega,by omega,?_⟩,λhge=>?_⟩⟩
   ·rw[List.append_assoc,takeL_snoc _ t (by omega),ql9 (qm5 n.toNat s) t (by omega)]
    simp[qm5]
   ·have e:t=(qm5 n.toNat s).length:=by omega
    subst e
    refine⟨qa7 (by omega) (by omega),k+1,by omega,by omega,by omega,?_⟩
    rw[List.take_length,qb9,if_pos hlt0,hs]
  ·have hfr:qm0 s=0:=by unfold qm0; rw[if_neg (by omega)]
   have hfb:0<=qm0 s/\qm0 s<=n:=by omega
   refine⟨k,0,?_⟩
   simp only[hs]
   refine⟨Nat.zero_le _,⟨by rw[hfr]; simp,by simp⟩,λt ht=>⟨λhlt=>⟨by omega,by omega,by rw[List.length_append,List.length_take]; omega,qa7 (by omega) (by omega),t+1,by omega,by omega,by omega,?_⟩,λhge=>?_⟩⟩
   ·rw[List.append_assoc,takeL_snoc _ t (by omega),ql9 (qm5 n.toNat s) t (by omega)]
    simp[qm5]
   ·have e:t=(qm5 n.toNat s).length:=by omega
    subst e
    refine⟨qa7 (by omega) (by omega),k+1,by omega,by omega,by omega,?_⟩
    rw[List.take_length,qb9,if_pos hlt0,hs]
 ·have:=q60 (n:=n.toNat) (k:=k) (by omega) (128-k)
  rw[show k+(128-k)=128 by omega] at this
  exact this.symm
end Go.Proofs.YtdibdlelmkcccaaGreat
