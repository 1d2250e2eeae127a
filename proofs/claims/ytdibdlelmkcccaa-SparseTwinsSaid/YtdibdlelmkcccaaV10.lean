/- Sets, searches for a number, primitive vectors: contracts by the engine. No condition. -/
import Derived.Test.YtdibdlelmkcccaaV9
set_option linter.unusedVariables false
set_option linter.unusedSimpArgs false
namespace Go.Proofs.Ytdibdlelmkcccaa
open Go Go.RowKit Eng
abbrev xz6:qc9:=w8h false none [qg1,qg1] (λ_=>True) (λx=>.clo 110 (.cons (.imm (.cons (.lit (.int .i64 x.2.1)) .nil) 0) (.cons (.imm (.cons (.lit (.int .i64 x.1)) .nil) 0) .nil)))
theorem q8w:qe1 Try.prog 77 xz6:=by
 refine wx4 (snd (SpecsOk.nil _)) Try.func77 rfl rfl (λ_ _=>none) (λ_=>by kernel_rfl) (by decide) ?_
 rintro⟨n,k,⟨⟩⟩ -
 revert n k
 intro(n:Int) (k:Int)
 refine qe6 (B:=((k=k/\True)/\(0:Nat)=(0:Nat))/\((n=n/\True)/\(0:Nat)=(0:Nat))/\True) (by kernel_rfl) ?_
 try simp only[z0,z1,z2,z3,z4,z5,z6,z7,z8,z9,z10,Int.reduceEq,z11,z12,z13,z14,z15,z16,z17,z18,z19,z20,z21,z22,z23,z24,z25,z26,z27,z28,z29,z30,Int.reduceLE,Int.reduceLT,z31,z32,z33,z34,qa4]
 try simp only[qb8,qb9,qd2,List.set_cons_zero,List.cons.injEq,and_true,true_and]
def xz7 (l:List Int) (x:Int):Nat->Option Inv:=xu8 (.int .i64) l λe=>x==e
abbrev x36:qc9:=qh6 true none [qf6,qg1] [qg1] (λx=>x.1.length<=1000000) (λx=>(ixT (.int .i64) (λe=>x.2.1==e) x.1,()))
theorem w5j:qe1 Try.prog 150 x36:=by
 refine meets (snd (SpecsOk.nil _)) Try.func150 rfl rfl (λx=>xz7 x.1 x.2.1) (λ_=>by kernel_rfl) (by decide) ?_
 rintro⟨l,x,⟨⟩⟩ h
 revert l x
 intro(l:List Int) (x:Int) (h:l.length<=1000000)
 refine qe6 (B:=∃(v0:Unit),∃(v1:Nat),(v1<=List.length l/\∀(v2:Nat),Nat.le (Nat.succ v2) v1->(x==qa3 (Ty.int .i64) l v2)=false)/\(((0:Int)=(↑v1:Int)/\True)/\True)/\∀(v2:Nat),(v2<=List.length l/\∀(v4:Nat),Nat.le (Nat.succ v4) v2->(x==qa3 (Ty.int .i64) l v4)=false)->(decide ((↑v2:Int)<(↑(List.length l):Int))=true->((0:Int)<=(↑v2:Int)/\(↑v2:Int)<(↑(List.length l):Int))/\((x==qa3 (Ty.int .i64) l (Int.toNat (↑v2:Int)))=true->(↑v2:Int)=ixT (Ty.int .i64) (λ(v6:Int)=>x==v6) l)/\((x==qa3 (Ty.int .i64) l (Int.toNat (↑v2:Int)))=false->fits .i64 ((↑v2:Int)+(1:Int))/\∃(v6:Nat),(v6<=List.length l/\∀(v7:Nat),Nat.le (Nat.succ v7) v6->(x==qa3 (Ty.int .i64) l v7)=false)/\List.length l-v6<List.length l-v2/\((↑v2:Int)+(1:Int)=(↑v6:Int)/\True)/\True))/\(decide ((↑v2:Int)<(↑(List.length l):Int))=false->(-1:Int)=ixT (Ty.int .i64) (λ(v5:Int)=>x==v5) l)) (by kernel_rfl) ?_
 try simp only[z0,z1,z2,z3,z4,z5,z6,z7,z8,z9,z10,Int.reduceEq,z11,z12,z13,z14,z15,z16,z17,z18,z19,z20,z21,z22,z23,z24,z25,z26,z27,z28,z29,z30,Int.reduceLE,Int.reduceLT,z31,z32,z33,z34,qa4]
 try simp only[qb8,qb9,qd2,List.set_cons_zero,List.cons.injEq,and_true,true_and]
 refine⟨(),0,⟨Nat.zero_le _,λi hi=>absurd hi (by omega)⟩,rfl,λk ⟨hk,hall⟩=>?_⟩
 refine⟨λhlt=>⟨hlt,λhf=>(wi7 (.int .i64) (λe=>x==e) l k hlt (λi hi=>beq_false_of_ne λe=>hall i hi e) (beq_iff_eq.2 hf)).symm,λhf=>⟨qa8 (by omega) (by omega),k+1,⟨by omega,λi hi=>?_⟩,by omega,by omega⟩⟩,λhge=>(q5f (.int .i64) (λe=>x==e) l λi hi=>beq_false_of_ne λe=>hall i (by omega) e).symm⟩
 by_cases e:i=k
 ·subst e; exact hf
 ·exact hall i (by omega)
abbrev x37:qc9:=qh6 true none [qf6,qg1] [.bool] (λx=>x.1.length<=1000000) (λx=>(x.1.any λe=>x.2.1==e,()))
theorem wj7:qe1 Try.prog 125 x37:=by
 refine meets (snd (SpecsOk.cons w5j (SpecsOk.nil _))) Try.func125 rfl rfl (λ_ _=>none) (λ_=>by kernel_rfl) (by decide) ?_
 rintro⟨l,x,⟨⟩⟩ h
 revert l x
 intro(l:List Int) (x:Int) (h:l.length<=1000000)
 refine qe6 (B:=List.length l<=(1000000:Nat)/\decide ((0:Int)<=ixT (Ty.int .i64) (λ(v0:Int)=>x==v0) l)=List.any l λ(v0:Int)=>x==v0) (by kernel_rfl) ?_
 try simp only[z0,z1,z2,z3,z4,z5,z6,z7,z8,z9,z10,Int.reduceEq,z11,z12,z13,z14,z15,z16,z17,z18,z19,z20,z21,z22,z23,z24,z25,z26,z27,z28,z29,z30,Int.reduceLE,Int.reduceLT,z31,z32,z33,z34,qa4]
 try simp only[qb8,qb9,qd2,List.set_cons_zero,List.cons.injEq,and_true,true_and]
 exact⟨h,q1l (.int .i64) _ l⟩
abbrev xq1:qc9:=qh6 true none [qg1] [.bool] (λ_=>True) (λx=>(x.1 != 0,()))
theorem w1y:qe1 Try.prog 151 xq1:=by
 refine meets (snd (SpecsOk.nil _)) Try.func151 rfl rfl (λ_ _=>none) (λ_=>by kernel_rfl) (by decide) ?_
 rintro⟨n,⟨⟩⟩ -
 revert n
 intro(n:Int)
 refine qe6 (B:=(n != (0:Int))=(n != (0:Ty.den qg1))) (by kernel_rfl) ?_
 try simp only[z0,z1,z2,z3,z4,z5,z6,z7,z8,z9,z10,Int.reduceEq,z11,z12,z13,z14,z15,z16,z17,z18,z19,z20,z21,z22,z23,z24,z25,z26,z27,z28,z29,z30,Int.reduceLE,Int.reduceLT,z31,z32,z33,z34,qa4]
 try simp only[qb8,qb9,qd2,List.set_cons_zero,List.cons.injEq,and_true,true_and]
def qw1 (l:List Int):Int:=ixT (.int .i64) (λe=>e != 0) l
def q6x (l:List Int):List Int:=if 0<=qw1 (qe2 l)/\nI (qe2 l) (qw1 (qe2 l)).toNat<0 then w8r (qe2 l) else qe2 l
abbrev xz8:qn3:=w4m (wa2 []) false true 0 3 (.int .i64) (λrows _=>q3x (nL rows 0)) (λ_ _=>.tup .nil) (λrows _=>[q6x (nL rows 0)])
structure w8z (l:List Int) (i:Nat) (r:List Int):Prop where
 le:i<=l.length
 eq:r=ovr (.int .i64) (λq=>0-nI l q) l i
def xq2 (T:q7x) (l:List Int):Nat->Option Inv
 | 0=>some (Inv.of [0,20] 1 (λs:Nat × List Int=>[(0,.msl 0 (some 0)),(20,.lit (.int .i64 s.1))]) (λs=>[.mat 0 3 (.int .i64) [s.2] (some []) (some T)]) (λs=>w8z (qe2 l) s.1 s.2) (λs=>(qe2 l).length-s.1))
 | _=>none
theorem q8x {l:List Int} (h:q3x l):q3x (qe2 l):=by
 unfold qe2
 split
 ·refine⟨by simpa using h.1,λx hx=>?_⟩
  obtain⟨y,hy,rfl⟩:=List.mem_map.1 hx
  exact ql4 (h.2 y hy)
 ·exact h
theorem w1z:q0s Try.prog 126 xz8:=by
 refine wx8 (x1y (SpecsOk.cons (wi9 (fs:=[(151,xq1)]) (SpecsOk.cons w1y (SpecsOk.nil _))) (SpecsOk.nil _)) (MutsOk.cons q2i MutsOk.nil)) Try.func126 rfl rfl (q1j []) (λT rows _=>xq2 T (nL rows 0)) (λ_ _ _=>by kernel_rfl) (by decide) ?_ rfl
 rintro T rows ⟨⟩ h hone
 obtain⟨l,rfl⟩:∃l:List Int,rows=[l]:=by
  have h1:=hone rfl
  match rows,h1 with
  | [l],_=>exact⟨l,rfl⟩
 have h:q3x l:=h
 refine qe6 (B:=q3x (nL [qa3 (Ty.list (Ty.int .i64)) [l] (0:Nat)] (0:Nat))/\∃(v0:qa7 [Ty.int .i64]->Prop),∃(v1:qa7 [Ty.int .i64]->Bool),(∀(v2:Int × qa7._f [] PUnit.unit),v0 v2->True/\(Prod.fst v2 != (0:Ty.den qg1))=v1 v2)/\(List.length (qa3 (Ty.list (Ty.int .i64)) (List.set [l] (0:Nat) (qa3 (Ty.list (Ty.int .i64)) [qe2 (nL [qa3 (Ty.list (Ty.int .i64)) [l] (0:Nat)] (0:Nat))] (0:Nat))) (0:Nat))<=(1000000:Nat)/\∀(v2:Nat),v2<List.length (qa3 (Ty.list (Ty.int .i64)) (List.set [l] (0:Nat) (qa3 (Ty.list (Ty.int .i64)) [qe2 (nL [qa3 (Ty.list (Ty.int .i64)) [l] (0:Nat)] (0:Nat))] (0:Nat))) (0:Nat))->v0 (qa3 (Ty.int .i64) (qa3 (Ty.list (Ty.int .i64)) (List.set [l] (0:Nat) (qa3 (Ty.list (Ty.int .i64)) [qe2 (nL [qa3 (Ty.list (Ty.int .i64)) [l] (0:Nat)] (0:Nat))] (0:Nat))) (0:Nat)) v2,()))/\(decide ((0:Int)<=ixT (Ty.int .i64) (λ(v3:Int)=>v1 (v3,())) (qa3 (Ty.list (Ty.int .i64)) (List.set [l] (0:Nat) (qa3 (Ty.list (Ty.int .i64)) [qe2 (nL [qa3 (Ty.list (Ty.int .i64)) [l] (0:Nat)] (0:Nat))] (0:Nat))) (0:Nat)))=true->((0:Int)<=ixT (Ty.int .i64) (λ(v3:Int)=>v1 (v3,())) (qa3 (Ty.list (Ty.int .i64)) (List.set [l] (0:Nat) (qa3 (Ty.list (Ty.int .i64)) [qe2 (nL [qa3 (Ty.list (Ty.int .i64)) [l] (0:Nat)] (0:Nat))] (0:Nat))) (0:Nat))/\ixT (Ty.int .i64) (λ(v3:Int)=>v1 (v3,())) (qa3 (Ty.list (Ty.int .i64)) (List.set [l] (0:Nat) (qa3 (Ty.list (Ty.int .i64)) [qe2 (nL [qa3 (Ty.list (Ty.int .i64)) [l] (0:Nat)] (0:Nat))] (0:Nat))) (0:Nat))<(↑(List.length (qa3 (Ty.list (Ty.int .i64)) (List.set [l] (0:Nat) (qa3 (Ty.list (Ty.int .i64)) [qe2 (nL [qa3 (Ty.list (Ty.int .i64)) [l] (0:Nat)] (0:Nat))] (0:Nat))) (0:Nat))):Int))/\Int.toNat (ixT (Ty.int .i64) (λ(v3:Int)=>v1 (v3,())) (qa3 (Ty.list (Ty.int .i64)) (List.set [l] (0:Nat) (qa3 (Ty.list (Ty.int .i64)) [qe2 (nL [qa3 (Ty.list (Ty.int .i64)) [l] (0:Nat)] (0:Nat))] (0:Nat))) (0:Nat)))<List.length (qa3 (Ty.list (Ty.int .i64)) (List.set [l] (0:Nat) (qa3 (Ty.list (Ty.int .i64)) [qe2 (nL [qa3 (Ty.list (Ty.int .i64)) [l] (0:Nat)] (0:Nat))] (0:Nat))) (0:Nat))/\(decide (qa3 (Ty.int .i64) (qa3 (Ty.list (Ty.int .i64)) (List.set [l] (0:Nat) (qa3 (Ty.list (Ty.int .i64)) [qe2 (nL [qa3 (Ty.list (Ty.int .i64)) [l] (0:Nat)] (0:Nat))] (0:Nat))) (0:Nat)) (Int.toNat (ixT (Ty.int .i64) (λ(v4:Int)=>v1 (v4,())) (qa3 (Ty.list (Ty.int .i64)) (List.set [l] (0:Nat) (qa3 (Ty.list (Ty.int .i64)) [qe2 (nL [qa3 (Ty.list (Ty.int .i64)) [l] (0:Nat)] (0:Nat))] (0:Nat))) (0:Nat))))<(0:Int))=true->∃(v4:Unit),∃(v5:Nat × List Int),w8z (qe2 (nL [l] (0:Nat))) (Prod.fst v5) (Prod.snd v5)/\((some (0:Nat)=some (0:Nat)/\(0:Int)=(↑(Prod.fst v5):Int)/\True)/\(List.set [l] (0:Nat) (qa3 (Ty.list (Ty.int .i64)) [qe2 (nL [qa3 (Ty.list (Ty.int .i64)) [l] (0:Nat)] (0:Nat))] (0:Nat))=[Prod.snd v5]/\True/\T=T)/\True)/\∀(v6:Nat × List Int),w8z (qe2 (nL [l] (0:Nat))) (Prod.fst v6) (Prod.snd v6)->(decide ((↑(Prod.fst v6):Int)<(↑(List.length (qa3 (Ty.list (Ty.int .i64)) (List.set [l] (0:Nat) (qa3 (Ty.list (Ty.int .i64)) [qe2 (nL [qa3 (Ty.list (Ty.int .i64)) [l] (0:Nat)] (0:Nat))] (0:Nat))) (0:Nat))):Int))=true->((0:Int)<=(↑(Prod.fst v6):Int)/\(↑(Prod.fst v6):Int)<(↑(List.length (qa3 (Ty.list (Ty.int .i64)) [Prod.snd v6] (0:Nat))):Int))/\Int.toNat (↑(Prod.fst v6):Int)<List.length (qa3 (Ty.list (Ty.int .i64)) [Prod.snd v6] (0:Nat))/\fits .i64 ((0:Int)-qa3 (Ty.int .i64) (qa3 (Ty.list (Ty.int .i64)) [Prod.snd v6] (0:Nat)) (Int.toNat (↑(Prod.fst v6):Int)))/\((0:Int)<=(↑(Prod.fst v6):Int)/\(↑(Prod.fst v6):Int)<(↑(List.length (qa3 (Ty.list (Ty.int .i64)) [Prod.snd v6] (0:Nat))):Int))/\Int.toNat (↑(Prod.fst v6):Int)<List.length (qa3 (Ty.list (Ty.int .i64)) [Prod.snd v6] (0:Nat))/\fits .i64 ((↑(Prod.fst v6):Int)+(1:Int))/\∃(v9:Nat × List Int),w8z (qe2 (nL [l] (0:Nat))) (Prod.fst v9) (Prod.snd v9)/\List.length (qe2 (nL [l] (0:Nat)))-Prod.fst v9<List.length (qe2 (nL [l] (0:Nat)))-Prod.fst v6/\(some (0:Nat)=some (0:Nat)/\(↑(Prod.fst v6):Int)+(1:Int)=(↑(Prod.fst v9):Int)/\True)/\(List.set [Prod.snd v6] (0:Nat) (List.set (qa3 (Ty.list (Ty.int .i64)) [Prod.snd v6] (0:Nat)) (Int.toNat (↑(Prod.fst v6):Int)) ((0:Int)-qa3 (Ty.int .i64) (qa3 (Ty.list (Ty.int .i64)) [Prod.snd v6] (0:Nat)) (Int.toNat (↑(Prod.fst v6):Int))))=[Prod.snd v9]/\True/\T=T)/\True)/\(decide ((↑(Prod.fst v6):Int)<(↑(List.length (qa3 (Ty.list (Ty.int .i64)) (List.set [l] (0:Nat) (qa3 (Ty.list (Ty.int .i64)) [qe2 (nL [qa3 (Ty.list (Ty.int .i64)) [l] (0:Nat)] (0:Nat))] (0:Nat))) (0:Nat))):Int))=false->[Prod.snd v6]=[q6x (nL [l] (0:Nat))]/\T=T/\True/\(0:Nat)=(0:Nat)))/\(decide (qa3 (Ty.int .i64) (qa3 (Ty.list (Ty.int .i64)) (List.set [l] (0:Nat) (qa3 (Ty.list (Ty.int .i64)) [qe2 (nL [qa3 (Ty.list (Ty.int .i64)) [l] (0:Nat)] (0:Nat))] (0:Nat))) (0:Nat)) (Int.toNat (ixT (Ty.int .i64) (λ(v4:Int)=>v1 (v4,())) (qa3 (Ty.list (Ty.int .i64)) (List.set [l] (0:Nat) (qa3 (Ty.list (Ty.int .i64)) [qe2 (nL [qa3 (Ty.list (Ty.int .i64)) [l] (0:Nat)] (0:Nat))] (0:Nat))) (0:Nat))))<(0:Int))=false->List.set [l] (0:Nat) (qa3 (Ty.list (Ty.int .i64)) [qe2 (nL [qa3 (Ty.list (Ty.int .i64)) [l] (0:Nat)] (0:Nat))] (0:Nat))=[q6x (nL [l] (0:Nat))]/\T=T/\True/\(0:Nat)=(0:Nat)))/\(decide ((0:Int)<=ixT (Ty.int .i64) (λ(v3:Int)=>v1 (v3,())) (qa3 (Ty.list (Ty.int .i64)) (List.set [l] (0:Nat) (qa3 (Ty.list (Ty.int .i64)) [qe2 (nL [qa3 (Ty.list (Ty.int .i64)) [l] (0:Nat)] (0:Nat))] (0:Nat))) (0:Nat)))=false->List.set [l] (0:Nat) (qa3 (Ty.list (Ty.int .i64)) [qe2 (nL [qa3 (Ty.list (Ty.int .i64)) [l] (0:Nat)] (0:Nat))] (0:Nat))=[q6x (nL [l] (0:Nat))]/\T=T/\True/\(0:Nat)=(0:Nat))) (by kernel_rfl) ?_
 try simp only[z0,z1,z2,z3,z4,z5,z6,z7,z8,z9,z10,Int.reduceEq,z11,z12,z13,z14,z15,z16,z17,z18,z19,z20,z21,z22,z23,z24,z25,z26,z27,z28,z29,z30,Int.reduceLE,Int.reduceLT,z31,z32,z33,z34,qa4]
 try simp only[qb8,qb9,qd2,List.set_cons_zero,List.cons.injEq,and_true,true_and]
 have hs:=q8x h
 have hl:=hs.1
 refine⟨h,λ_=>True,λx=>x.1 != 0,λ_ _=>rfl,⟨by omega,λ_ _=>trivial⟩,λh1=>?_,λh1=>?_⟩
 ·have h1:0<=qw1 (qe2 l):=by first | exact of_decide_eq_true h1 | exact h1
  have h2:qw1 (qe2 l)<(qe2 l).length:=(xa5 (.int .i64) _ _).1
  refine⟨⟨h1,h2⟩,by show(qw1 (qe2 l)).toNat<_; omega,λh3=>?_,λh3=>?_⟩
  ·have h3:nI (qe2 l) (qw1 (qe2 l)).toNat<0:=by first | exact of_decide_eq_true h3 | exact h3
   have hp:q6x l=w8r (qe2 l):=by unfold q6x; rw[if_pos ⟨h1,h3⟩]
   refine⟨(),(0,qe2 l),⟨Nat.zero_le _,(qz3 (.int .i64) _ _).symm⟩,⟨rfl,rfl⟩,?_⟩
   rintro⟨i,r⟩ ⟨k1,k2⟩
   dsimp only at k1 k2 ⊢
   have hrl:r.length=(qe2 l).length:=by rw[k2]; exact qs5 (.int .i64) _ _ _
   refine⟨λhlt=>?_,λhge=>?_⟩
   ·have hv:nI r i=nI (qe2 l) i:=by
     rw[k2]
     exact(q4v (.int .i64) _ _ _ _ hlt).trans (if_neg (Nat.lt_irrefl _))
    have hb:=qz4 hs hlt
    unfold qf3 BIG at hb
    rw[hv]
    refine⟨by omega,by omega,qa8 (by omega) (by omega),by omega,by omega,qa8 (by omega) (by omega),(i+1,r.set i (0-nI (qe2 l) i)),⟨by dsimp only; omega,?_⟩,by dsimp only; omega,by dsimp only; omega,rfl⟩
    dsimp only
    rw[k2]
    exact qv5 (.int .i64) (λq=>0-nI (qe2 l) q) (qe2 l) i
   ·rw[hp,k2]
    exact q2h (.int .i64) _ _ _ (by omega)
  ·have h3:¬nI (qe2 l) (qw1 (qe2 l)).toNat<0:=by first | exact of_decide_eq_false h3 | exact h3 | exact Int.not_lt.2 h3
   unfold q6x; rw[if_neg λq=>h3 q.2]
 ·have h1:¬0<=qw1 (qe2 l):=by first | exact of_decide_eq_false h1 | exact h1 | exact Int.not_le.2 h1
  unfold q6x; rw[if_neg λq=>h1 q.1]
end Go.Proofs.Ytdibdlelmkcccaa
