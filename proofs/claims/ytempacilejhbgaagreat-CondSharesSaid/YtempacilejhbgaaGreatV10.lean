/- Sets, searches for a number, primitive vectors: contracts by the engine. No condition. -/
import Derived.Test.YtempacilejhbgaaGreatV9
set_option linter.unusedVariables false
set_option linter.unusedSimpArgs false
namespace Go.Proofs.YtempacilejhbgaaGreat
open Go Go.RowKit Eng
abbrev x0n:qc0:=w8j false none [qd6,qd6] (λ_=>True) (λx=>.clo 110 (.cons (.imm (.cons (.lit (.int .i64 x.2.1)) .nil) 0) (.cons (.imm (.cons (.lit (.int .i64 x.1)) .nil) 0) .nil)))
theorem w1x:qd7 Tryz.prog 73 x0n:=by
 refine ww4 (snd (SpecsOk.nil _)) Tryz.func73 rfl rfl (λ_ _=>none) (λ_=>by kernel_rfl) (by decide) ?_
 rintro⟨n,k,⟨⟩⟩ -
 revert n k
 intro(n:Int) (k:Int)
 refine @qe1 _ (((k=k/\True)/\(0:Nat)=(0:Nat))/\((n=n/\True)/\(0:Nat)=(0:Nat))/\True) (by kernel_rfl) ?_
 try simp only[z0,z1,z2,z3,z4,z5,z6,z7,z8,z9,z10,Int.reduceEq,z11,z12,z13,z14,z15,z16,z17,z18,z19,z20,z21,z22,z23,z24,z25,z26,z27,z28,z29,z30,Int.reduceLE,Int.reduceLT,z31,z32,z33,z34,qa4]
 try simp only[qb3,qb4,qb9,List.set_cons_zero,List.cons.injEq,and_true,true_and]
def x0o (l:List Int) (x:Int):Nat->Option Inv:=x0f (.int .i64) l λe=>x==e
abbrev x4m:qc0:=qg7 true none [qf2,qd6] [qd6] (λx=>x.1.length<=1000000) (λx=>(ixT (.int .i64) (λe=>x.2.1==e) x.1,()))
theorem w5d:qd7 Tryz.prog 157 x4m:=by
 refine meets (snd (SpecsOk.nil _)) Tryz.func157 rfl rfl (λx=>x0o x.1 x.2.1) (λ_=>by kernel_rfl) (by decide) ?_
 rintro⟨l,x,⟨⟩⟩ h
 revert l x
 intro(l:List Int) (x:Int) (h:l.length<=1000000)
 refine @qe1 _ (let Q0:=List.length l; ∃(v0:Unit),∃(v1:Nat),(v1<=List.length l/\∀(v2:Nat),Nat.le (Nat.succ v2) v1->(x==qa1 (Ty.int .i64) l v2)=false)/\(((0:Int)=(↑v1:Int)/\True)/\True)/\∀(v2:Nat),(v2<=List.length l/\∀(v4:Nat),Nat.le (Nat.succ v4) v2->(x==qa1 (Ty.int .i64) l v4)=false)->(decide ((↑v2:Int)<(↑Q0:Int))=true->((0:Int)<=(↑v2:Int)/\(↑v2:Int)<(↑Q0:Int))/\((x==qa1 (Ty.int .i64) l (Int.toNat (↑v2:Int)))=true->(↑v2:Int)=ixT (Ty.int .i64) (λ(v6:Int)=>x==v6) l)/\((x==qa1 (Ty.int .i64) l (Int.toNat (↑v2:Int)))=false->fits .i64 ((↑v2:Int)+(1:Int))/\∃(v6:Nat),(v6<=List.length l/\∀(v7:Nat),Nat.le (Nat.succ v7) v6->(x==qa1 (Ty.int .i64) l v7)=false)/\List.length l-v6<List.length l-v2/\((↑v2:Int)+(1:Int)=(↑v6:Int)/\True)/\True))/\(decide ((↑v2:Int)<(↑Q0:Int))=false->(-1:Int)=ixT (Ty.int .i64) (λ(v5:Int)=>x==v5) l)) (by kernel_rfl) ?_
 try simp only[z0,z1,z2,z3,z4,z5,z6,z7,z8,z9,z10,Int.reduceEq,z11,z12,z13,z14,z15,z16,z17,z18,z19,z20,z21,z22,z23,z24,z25,z26,z27,z28,z29,z30,Int.reduceLE,Int.reduceLT,z31,z32,z33,z34,qa4]
 try simp only[qb3,qb4,qb9,List.set_cons_zero,List.cons.injEq,and_true,true_and]
 refine⟨(),0,⟨Nat.zero_le _,λi hi=>absurd hi (by omega)⟩,rfl,λk ⟨hk,hall⟩=>?_⟩
 refine⟨λhlt=>⟨hlt,λhf=>(ww9 (.int .i64) (λe=>x==e) l k hlt (λi hi=>beq_false_of_ne λe=>hall i hi e) (beq_iff_eq.2 hf)).symm,λhf=>⟨qa7 (by omega) (by omega),k+1,⟨by omega,λi hi=>?_⟩,by omega,by omega⟩⟩,λhge=>(q9o (.int .i64) (λe=>x==e) l λi hi=>beq_false_of_ne λe=>hall i (by omega) e).symm⟩
 by_cases e:i=k
 ·subst e; exact hf
 ·exact hall i (by omega)
abbrev x4n:qc0:=qg7 true none [qf2,qd6] [.bool] (λx=>x.1.length<=1000000) (λx=>(x.1.any λe=>x.2.1==e,()))
theorem wi2:qd7 Tryz.prog 135 x4n:=by
 refine meets (snd (SpecsOk.cons w5d (SpecsOk.nil _))) Tryz.func135 rfl rfl (λ_ _=>none) (λ_=>by kernel_rfl) (by decide) ?_
 rintro⟨l,x,⟨⟩⟩ h
 revert l x
 intro(l:List Int) (x:Int) (h:l.length<=1000000)
 refine @qe1 _ (List.length l<=(1000000:Nat)/\decide ((0:Int)<=ixT (Ty.int .i64) (λ(v0:Int)=>x==v0) l)=List.any l λ(v0:Int)=>x==v0) (by kernel_rfl) ?_
 try simp only[z0,z1,z2,z3,z4,z5,z6,z7,z8,z9,z10,Int.reduceEq,z11,z12,z13,z14,z15,z16,z17,z18,z19,z20,z21,z22,z23,z24,z25,z26,z27,z28,z29,z30,Int.reduceLE,Int.reduceLT,z31,z32,z33,z34,qa4]
 try simp only[qb3,qb4,qb9,List.set_cons_zero,List.cons.injEq,and_true,true_and]
 exact⟨h,q3m (.int .i64) _ l⟩
abbrev xr9:qc0:=qg7 true none [qd6] [.bool] (λ_=>True) (λx=>(x.1 != 0,()))
theorem w1y:qd7 Tryz.prog 158 xr9:=by
 refine meets (snd (SpecsOk.nil _)) Tryz.func158 rfl rfl (λ_ _=>none) (λ_=>by kernel_rfl) (by decide) ?_
 rintro⟨n,⟨⟩⟩ -
 revert n
 intro(n:Int)
 refine @qe1 _ ((n != (0:Int))=(n != (0:Ty.den qd6))) (by kernel_rfl) ?_
 try simp only[z0,z1,z2,z3,z4,z5,z6,z7,z8,z9,z10,Int.reduceEq,z11,z12,z13,z14,z15,z16,z17,z18,z19,z20,z21,z22,z23,z24,z25,z26,z27,z28,z29,z30,Int.reduceLE,Int.reduceLT,z31,z32,z33,z34,qa4]
 try simp only[qb3,qb4,qb9,List.set_cons_zero,List.cons.injEq,and_true,true_and]
def qu9 (l:List Int):Int:=ixT (.int .i64) (λe=>e != 0) l
def q58 (l:List Int):List Int:=if 0<=qu9 (qd9 l)/\nI (qd9 l) (qu9 (qd9 l)).toNat<0 then w8u (qd9 l) else qd9 l
abbrev x0p:qo7:=wf7 (q5u []) false true 0 3 (.int .i64) (λrows _=>q3l (nL rows 0)) (λ_ _=>.tup .nil) (λrows _=>[q58 (nL rows 0)])
structure w82 (l:List Int) (i:Nat) (r:List Int):Prop where
 le:i<=l.length
 eq:r=ovr (.int .i64) (λq=>0-nI l q) l i
def xs0 (T:q45) (l:List Int):Nat->Option Inv
 | 0=>some (Inv.of [0,20] 1 (λs:Nat × List Int=>[(0,.msl 0 (some 0)),(20,.lit (.int .i64 s.1))]) (λs=>[.mat 0 3 (.int .i64) [s.2] (some []) (some T)]) (λs=>w82 (qd9 l) s.1 s.2) (λs=>(qd9 l).length-s.1))
 | _=>none
theorem q79 {l:List Int} (h:q3l l):q3l (qd9 l):=by
 unfold qd9
 split
 ·refine⟨by simpa using h.1,λx hx=>?_⟩
  obtain⟨y,hy,rfl⟩:=List.mem_map.1 hx
  exact qk4 (h.2 y hy)
 ·exact h
theorem w1z:qt9 Tryz.prog 136 x0p:=by
 refine q5x (xq6 (SpecsOk.cons (wh3 (fs:=[(158,xr9)]) (SpecsOk.cons w1y (SpecsOk.nil _))) (SpecsOk.nil _)) (MutsOk.cons q1x MutsOk.nil)) Tryz.func136 rfl rfl (qx8 []) (λT rows _=>xs0 T (nL rows 0)) (λ_ _ _=>by kernel_rfl) (by decide) ?_ rfl
 rintro T rows ⟨⟩ h hone
 obtain⟨l,rfl⟩:∃l:List Int,rows=[l]:=by
  have h1:=hone rfl
  match rows,h1 with
  | [l],_=>exact⟨l,rfl⟩
 have h:q3l l:=h
 refine @qe1 _ (q3l (nL [qa1 (Ty.list (Ty.int .i64)) [l] (0:Nat)] (0:Nat))/\∃(v0:qa6 [Ty.int .i64]->Prop),∃(v1:qa6 [Ty.int .i64]->Bool),(∀(v2:Int × qa6._f [] PUnit.unit),v0 v2->True/\(Prod.fst v2 != (0:Ty.den qd6))=v1 v2)/\(List.length (qa1 (Ty.list (Ty.int .i64)) (List.set [l] (0:Nat) (qa1 (Ty.list (Ty.int .i64)) [qd9 (nL [qa1 (Ty.list (Ty.int .i64)) [l] (0:Nat)] (0:Nat))] (0:Nat))) (0:Nat))<=(1000000:Nat)/\∀(v2:Nat),v2<List.length (qa1 (Ty.list (Ty.int .i64)) (List.set [l] (0:Nat) (qa1 (Ty.list (Ty.int .i64)) [qd9 (nL [qa1 (Ty.list (Ty.int .i64)) [l] (0:Nat)] (0:Nat))] (0:Nat))) (0:Nat))->v0 (qa1 (Ty.int .i64) (qa1 (Ty.list (Ty.int .i64)) (List.set [l] (0:Nat) (qa1 (Ty.list (Ty.int .i64)) [qd9 (nL [qa1 (Ty.list (Ty.int .i64)) [l] (0:Nat)] (0:Nat))] (0:Nat))) (0:Nat)) v2,()))/\(decide ((0:Int)<=ixT (Ty.int .i64) (λ(v3:Int)=>v1 (v3,())) (qa1 (Ty.list (Ty.int .i64)) (List.set [l] (0:Nat) (qa1 (Ty.list (Ty.int .i64)) [qd9 (nL [qa1 (Ty.list (Ty.int .i64)) [l] (0:Nat)] (0:Nat))] (0:Nat))) (0:Nat)))=true->((0:Int)<=ixT (Ty.int .i64) (λ(v3:Int)=>v1 (v3,())) (qa1 (Ty.list (Ty.int .i64)) (List.set [l] (0:Nat) (qa1 (Ty.list (Ty.int .i64)) [qd9 (nL [qa1 (Ty.list (Ty.int .i64)) [l] (0:Nat)] (0:Nat))] (0:Nat))) (0:Nat))/\ixT (Ty.int .i64) (λ(v3:Int)=>v1 (v3,())) (qa1 (Ty.list (Ty.int .i64)) (List.set [l] (0:Nat) (qa1 (Ty.list (Ty.int .i64)) [qd9 (nL [qa1 (Ty.list (Ty.int .i64)) [l] (0:Nat)] (0:Nat))] (0:Nat))) (0:Nat))<(↑(List.length (qa1 (Ty.list (Ty.int .i64)) (List.set [l] (0:Nat) (qa1 (Ty.list (Ty.int .i64)) [qd9 (nL [qa1 (Ty.list (Ty.int .i64)) [l] (0:Nat)] (0:Nat))] (0:Nat))) (0:Nat))):Int))/\Int.toNat (ixT (Ty.int .i64) (λ(v3:Int)=>v1 (v3,())) (qa1 (Ty.list (Ty.int .i64)) (List.set [l] (0:Nat) (qa1 (Ty.list (Ty.int .i64)) [qd9 (nL [qa1 (Ty.list (Ty.int .i64)) [l] (0:Nat)] (0:Nat))] (0:Nat))) (0:Nat)))<List.length (qa1 (Ty.list (Ty.int .i64)) (List.set [l] (0:Nat) (qa1 (Ty.list (Ty.int .i64)) [qd9 (nL [qa1 (Ty.list (Ty.int .i64)) [l] (0:Nat)] (0:Nat))] (0:Nat))) (0:Nat))/\(decide (qa1 (Ty.int .i64) (qa1 (Ty.list (Ty.int .i64)) (List.set [l] (0:Nat) (qa1 (Ty.list (Ty.int .i64)) [qd9 (nL [qa1 (Ty.list (Ty.int .i64)) [l] (0:Nat)] (0:Nat))] (0:Nat))) (0:Nat)) (Int.toNat (ixT (Ty.int .i64) (λ(v4:Int)=>v1 (v4,())) (qa1 (Ty.list (Ty.int .i64)) (List.set [l] (0:Nat) (qa1 (Ty.list (Ty.int .i64)) [qd9 (nL [qa1 (Ty.list (Ty.int .i64)) [l] (0:Nat)] (0:Nat))] (0:Nat))) (0:Nat))))<(0:Int))=true->∃(v4:Unit),∃(v5:Nat × List Int),w82 (qd9 (nL [l] (0:Nat))) (Prod.fst v5) (Prod.snd v5)/\((some (0:Nat)=some (0:Nat)/\(0:Int)=(↑(Prod.fst v5):Int)/\True)/\(List.set [l] (0:Nat) (qa1 (Ty.list (Ty.int .i64)) [qd9 (nL [qa1 (Ty.list (Ty.int .i64)) [l] (0:Nat)] (0:Nat))] (0:Nat))=[Prod.snd v5]/\True/\T=T)/\True)/\∀(v6:Nat × List Int),w82 (qd9 (nL [l] (0:Nat))) (Prod.fst v6) (Prod.snd v6)->(decide ((↑(Prod.fst v6):Int)<(↑(List.length (qa1 (Ty.list (Ty.int .i64)) (List.set [l] (0:Nat) (qa1 (Ty.list (Ty.int .i64)) [qd9 (nL [qa1 (Ty.list (Ty.int .i64)) [l] (0:Nat)] (0:Nat))] (0:Nat))) (0:Nat))):Int))=true->((0:Int)<=(↑(Prod.fst v6):Int)/\(↑(Prod.fst v6):Int)<(↑(List.length (qa1 (Ty.list (Ty.int .i64)) [Prod.snd v6] (0:Nat))):Int))/\Int.toNat (↑(Prod.fst v6):Int)<List.length (qa1 (Ty.list (Ty.int .i64)) [Prod.snd v6] (0:Nat))/\fits .i64 ((0:Int)-qa1 (Ty.int .i64) (qa1 (Ty.list (Ty.int .i64)) [Prod.snd v6] (0:Nat)) (Int.toNat (↑(Prod.fst v6):Int)))/\((0:Int)<=(↑(Prod.fst v6):Int)/\(↑(Prod.fst v6):Int)<(↑(List.length (qa1 (Ty.list (Ty.int .i64)) [Prod.snd v6] (0:Nat))):Int))/\Int.toNat (↑(Prod.fst v6):Int)<List.length (qa1 (Ty.list (Ty.int .i64)) [Prod.snd v6] (0:Nat))/\fits .i64 ((↑(Prod.fst v6):Int)+(1:Int))/\∃(v9:Nat × List Int),w82 (qd9 (nL [l] (0:Nat))) (Prod.fst v9) (Prod.snd v9)/\List.length (qd9 (nL [l] (0:Nat)))-Prod.fst v9<List.length (qd9 (nL [l] (0:Nat)))-Prod.fst v6/\(some (0:Nat)=some (0:Nat)/\(↑(Prod.fst v6):Int)+(1:Int)=(↑(Prod.fst v9):Int)/\True)/\(List.set [Prod.snd v6] (0:Nat) (List.set (qa1 (Ty.list (Ty.int .i64)) [Prod.snd v6] (0:Nat)) (Int.toNat (↑(Prod.fst v6):Int)) ((0:Int)-qa1 (Ty.int .i64) (qa1 (Ty.list (Ty.int .i64)) [Prod.snd v6] (0:Nat)) (Int.toNat (↑(Prod.fst v6):Int))))=[Prod.snd v9]/\True/\T=T)/\True)/\(decide ((↑(Prod.fst v6):Int)<(↑(List.length (qa1 (Ty.list (Ty.int .i64)) (List.set [l] (0:Nat) (qa1 (Ty.list (Ty.int .i64)) [qd9 (nL [qa1 (Ty.list (Ty.int .i64)) [l] (0:Nat)] (0:Nat))] (0:Nat))) (0:Nat))):Int))=false->[Prod.snd v6]=[q58 (nL [l] (0:Nat))]/\T=T/\True/\(0:Nat)=(0:Nat)))/\(decide (qa1 (Ty.int .i64) (qa1 (Ty.list (Ty.int .i64)) (List.set [l] (0:Nat) (qa1 (Ty.list (Ty.int .i64)) [qd9 (nL [qa1 (Ty.list (Ty.int .i64)) [l] (0:Nat)] (0:Nat))] (0:Nat))) (0:Nat)) (Int.toNat (ixT (Ty.int .i64) (λ(v4:Int)=>v1 (v4,())) (qa1 (Ty.list (Ty.int .i64)) (List.set [l] (0:Nat) (qa1 (Ty.list (Ty.int .i64)) [qd9 (nL [qa1 (Ty.list (Ty.int .i64)) [l] (0:Nat)] (0:Nat))] (0:Nat))) (0:Nat))))<(0:Int))=false->List.set [l] (0:Nat) (qa1 (Ty.list (Ty.int .i64)) [qd9 (nL [qa1 (Ty.list (Ty.int .i64)) [l] (0:Nat)] (0:Nat))] (0:Nat))=[q58 (nL [l] (0:Nat))]/\T=T/\True/\(0:Nat)=(0:Nat)))/\(decide ((0:Int)<=ixT (Ty.int .i64) (λ(v3:Int)=>v1 (v3,())) (qa1 (Ty.list (Ty.int .i64)) (List.set [l] (0:Nat) (qa1 (Ty.list (Ty.int .i64)) [qd9 (nL [qa1 (Ty.list (Ty.int .i64)) [l] (0:Nat)] (0:Nat))] (0:Nat))) (0:Nat)))=false->List.set [l] (0:Nat) (qa1 (Ty.list (Ty.int .i64)) [qd9 (nL [qa1 (Ty.list (Ty.int .i64)) [l] (0:Nat)] (0:Nat))] (0:Nat))=[q58 (nL [l] (0:Nat))]/\T=T/\True/\(0:Nat)=(0:Nat))) (by kernel_rfl) ?_
 try simp only[z0,z1,z2,z3,z4,z5,z6,z7,z8,z9,z10,Int.reduceEq,z11,z12,z13,z14,z15,z16,z17,z18,z19,z20,z21,z22,z23,z24,z25,z26,z27,z28,z29,z30,Int.reduceLE,Int.reduceLT,z31,z32,z33,z34,qa4]
 try simp only[qb3,qb4,qb9,List.set_cons_zero,List.cons.injEq,and_true,true_and]
 have hs:=q79 h
 have hl:=hs.1
 refine⟨h,λ_=>True,λx=>x.1 != 0,λ_ _=>rfl,⟨by omega,λ_ _=>trivial⟩,λh1=>?_,λh1=>?_⟩
 ·have h1:0<=qu9 (qd9 l):=by first | exact of_decide_eq_true h1 | exact h1
  have h2:qu9 (qd9 l)<(qd9 l).length:=(xb7 (.int .i64) _ _).1
  refine⟨⟨h1,h2⟩,by show(qu9 (qd9 l)).toNat<_; omega,λh3=>?_,λh3=>?_⟩
  ·have h3:nI (qd9 l) (qu9 (qd9 l)).toNat<0:=by first | exact of_decide_eq_true h3 | exact h3
   have hp:q58 l=w8u (qd9 l):=by unfold q58; rw[if_pos ⟨h1,h3⟩]
   refine⟨(),(0,qd9 l),⟨Nat.zero_le _,(qy1 (.int .i64) _ _).symm⟩,⟨rfl,rfl⟩,?_⟩
   rintro⟨i,r⟩ ⟨k1,k2⟩
   dsimp only at k1 k2 ⊢
   have hrl:r.length=(qd9 l).length:=by rw[k2]; exact qq7 (.int .i64) _ _ _
   refine⟨λhlt=>?_,λhge=>?_⟩
   ·have hv:nI r i=nI (qd9 l) i:=by
     rw[k2]
     exact(q4b (.int .i64) _ _ _ _ hlt).trans (if_neg (Nat.lt_irrefl _))
    have hb:=q0i hs hlt
    unfold qe8 BIG at hb
    rw[hv]
    refine⟨by omega,by omega,qa7 (by omega) (by omega),by omega,by omega,qa7 (by omega) (by omega),(i+1,r.set i (0-nI (qd9 l) i)),⟨by dsimp only; omega,?_⟩,by dsimp only; omega,by dsimp only; omega,rfl⟩
    dsimp only
    rw[k2]
    exact qu1 (.int .i64) (λq=>0-nI (qd9 l) q) (qd9 l) i
   ·rw[hp,k2]
    exact q1w (.int .i64) _ _ _ (by omega)
  ·have h3:¬nI (qd9 l) (qu9 (qd9 l)).toNat<0:=by first | exact of_decide_eq_false h3 | exact h3 | exact Int.not_lt.2 h3
   unfold q58; rw[if_neg λq=>h3 q.2]
 ·have h1:¬0<=qu9 (qd9 l):=by first | exact of_decide_eq_false h1 | exact h1 | exact Int.not_le.2 h1
  unfold q58; rw[if_neg λq=>h1 q.1]
end Go.Proofs.YtempacilejhbgaaGreat
