/- Sets, searches for a number, primitive vectors: contracts by the engine. No condition. -/
import Derived.Test.YtempacilejhbgaaV9
set_option linter.unusedVariables false
set_option linter.unusedSimpArgs false
namespace Go.Proofs.Ytempacilejhbgaa
open Go Go.RowKit Eng
abbrev xt1:qc7:=xd0 false none [qe4,qe4] (λ_=>True) (λx=>.clo 69 (.cons (.imm (.cons (.lit (.int .i64 x.2.1)) .nil) 0) (.cons (.imm (.cons (.lit (.int .i64 x.1)) .nil) 0) .nil)))
theorem w0r:qe7 Try.prog 50 xt1:=by
 refine w3d (snd (SpecsOk.nil _)) Try.func50 rfl rfl (λ_ _=>none) (λ_=>by kernel_rfl) (by decide) ?_
 rintro⟨n,k,⟨⟩⟩ -
 revert n k
 intro(n:Int) (k:Int)
 refine @qf1 _ (((k=k/\True)/\(0:Nat)=(0:Nat))/\((n=n/\True)/\(0:Nat)=(0:Nat))/\True) (by kernel_rfl) ?_
 try simp only[z0,z1,z2,z3,z4,z5,z6,z7,z8,z9,z10,Int.reduceEq,z11,z12,z13,z14,z15,z16,z17,z18,z19,z20,z21,z22,z23,z24,z25,z26,z27,z28,z29,z30,Int.reduceLE,Int.reduceLT,z31,z32,z33,z34,qa6]
 try simp only[qb6,qb7,qd0,List.set_cons_zero,List.cons.injEq,and_true,true_and]
def xt2 (l:List Int) (x:Int):Nat->Option Inv:=xs1 (.int .i64) l λe=>x==e
abbrev x1b:qc7:=qi1 true none [qf7,qe4] [qe4] (λx=>x.1.length<=1000000) (λx=>(ixT (.int .i64) (λe=>x.2.1==e) x.1,()))
theorem w38:qe7 Try.prog 72 x1b:=by
 refine meets (snd (SpecsOk.nil _)) Try.func72 rfl rfl (λx=>xt2 x.1 x.2.1) (λ_=>by kernel_rfl) (by decide) ?_
 rintro⟨l,x,⟨⟩⟩ h
 revert l x
 intro(l:List Int) (x:Int) (h:l.length<=1000000)
 refine @qf1 _ (let Q0:=List.length l; ∃(v0:Unit),∃(v1:Nat),(v1<=List.length l/\∀(v2:Nat),Nat.le (Nat.succ v2) v1->(x==qa3 (Ty.int .i64) l v2)=false)/\(((0:Int)=(↑v1:Int)/\True)/\True)/\∀(v2:Nat),(v2<=List.length l/\∀(v4:Nat),Nat.le (Nat.succ v4) v2->(x==qa3 (Ty.int .i64) l v4)=false)->(decide ((↑v2:Int)<(↑Q0:Int))=true->((0:Int)<=(↑v2:Int)/\(↑v2:Int)<(↑Q0:Int))/\((x==qa3 (Ty.int .i64) l (Int.toNat (↑v2:Int)))=true->(↑v2:Int)=ixT (Ty.int .i64) (λ(v6:Int)=>x==v6) l)/\((x==qa3 (Ty.int .i64) l (Int.toNat (↑v2:Int)))=false->fits .i64 ((↑v2:Int)+(1:Int))/\∃(v6:Nat),(v6<=List.length l/\∀(v7:Nat),Nat.le (Nat.succ v7) v6->(x==qa3 (Ty.int .i64) l v7)=false)/\List.length l-v6<List.length l-v2/\((↑v2:Int)+(1:Int)=(↑v6:Int)/\True)/\True))/\(decide ((↑v2:Int)<(↑Q0:Int))=false->(-1:Int)=ixT (Ty.int .i64) (λ(v5:Int)=>x==v5) l)) (by kernel_rfl) ?_
 try simp only[z0,z1,z2,z3,z4,z5,z6,z7,z8,z9,z10,Int.reduceEq,z11,z12,z13,z14,z15,z16,z17,z18,z19,z20,z21,z22,z23,z24,z25,z26,z27,z28,z29,z30,Int.reduceLE,Int.reduceLT,z31,z32,z33,z34,qa6]
 try simp only[qb6,qb7,qd0,List.set_cons_zero,List.cons.injEq,and_true,true_and]
 refine⟨(),0,⟨Nat.zero_le _,λi hi=>absurd hi (by omega)⟩,rfl,λk ⟨hk,hall⟩=>?_⟩
 refine⟨λhlt=>⟨hlt,λhf=>(ws4 (.int .i64) (λe=>x==e) l k hlt (λi hi=>beq_false_of_ne λe=>hall i hi e) (beq_iff_eq.2 hf)).symm,λhf=>⟨qb8 (by omega) (by omega),k+1,⟨by omega,λi hi=>?_⟩,by omega,by omega⟩⟩,λhge=>(q81 (.int .i64) (λe=>x==e) l λi hi=>beq_false_of_ne λe=>hall i (by omega) e).symm⟩
 by_cases e:i=k
 ·subst e; exact hf
 ·exact hall i (by omega)
abbrev x1c:qc7:=qi1 true none [qf7,qe4] [.bool] (λx=>x.1.length<=1000000) (λx=>(x.1.any λe=>x.2.1==e,()))
theorem we4:qe7 Try.prog 52 x1c:=by
 refine meets (snd (SpecsOk.cons w38 (SpecsOk.nil _))) Try.func52 rfl rfl (λ_ _=>none) (λ_=>by kernel_rfl) (by decide) ?_
 rintro⟨l,x,⟨⟩⟩ h
 revert l x
 intro(l:List Int) (x:Int) (h:l.length<=1000000)
 refine @qf1 _ (List.length l<=(1000000:Nat)/\decide ((0:Int)<=ixT (Ty.int .i64) (λ(v0:Int)=>x==v0) l)=List.any l λ(v0:Int)=>x==v0) (by kernel_rfl) ?_
 try simp only[z0,z1,z2,z3,z4,z5,z6,z7,z8,z9,z10,Int.reduceEq,z11,z12,z13,z14,z15,z16,z17,z18,z19,z20,z21,z22,z23,z24,z25,z26,z27,z28,z29,z30,Int.reduceLE,Int.reduceLT,z31,z32,z33,z34,qa6]
 try simp only[qb6,qb7,qd0,List.set_cons_zero,List.cons.injEq,and_true,true_and]
 exact⟨h,q21 (.int .i64) _ l⟩
abbrev xl6:qc7:=qi1 true none [qe4] [.bool] (λ_=>True) (λx=>(x.1 != 0,()))
theorem w0s:qe7 Try.prog 74 xl6:=by
 refine meets (snd (SpecsOk.nil _)) Try.func74 rfl rfl (λ_ _=>none) (λ_=>by kernel_rfl) (by decide) ?_
 rintro⟨n,⟨⟩⟩ -
 revert n
 intro(n:Int)
 refine @qf1 _ ((n != (0:Int))=(n != (0:Ty.den qe4))) (by kernel_rfl) ?_
 try simp only[z0,z1,z2,z3,z4,z5,z6,z7,z8,z9,z10,Int.reduceEq,z11,z12,z13,z14,z15,z16,z17,z18,z19,z20,z21,z22,z23,z24,z25,z26,z27,z28,z29,z30,Int.reduceLE,Int.reduceLT,z31,z32,z33,z34,qa6]
 try simp only[qb6,qb7,qd0,List.set_cons_zero,List.cons.injEq,and_true,true_and]
def qt4 (l:List Int):Int:=ixT (.int .i64) (λe=>e != 0) l
def q5n (l:List Int):List Int:=if 0<=qt4 (qd4 l)/\nI (qd4 l) (qt4 (qd4 l)).toNat<0 then w7r (qd4 l) else qd4 l
abbrev xt3:qm7:=wc2 (q2y []) false true 0 3 (.int .i64) (λrows _=>q9v (nL rows 0)) (λ_ _=>.tup .nil) (λrows _=>[q5n (nL rows 0)])
structure w7z (l:List Int) (i:Nat) (r:List Int):Prop where
 le:i<=l.length
 eq:r=ovr (.int .i64) (λq=>0-nI l q) l i
def xl7 (T:q4l) (l:List Int):Nat->Option Inv
 | 0=>some (Inv.of [0,20] 1 (λs:Nat × List Int=>[(0,.msl 0 (some 0)),(20,.lit (.int .i64 s.1))]) (λs=>[.mat 0 3 (.int .i64) [s.2] (some []) (some T)]) (λs=>w7z (qd4 l) s.1 s.2) (λs=>(qd4 l).length-s.1))
 | _=>none
theorem q7p {l:List Int} (h:q9v l):q9v (qd4 l):=by
 unfold qd4
 split
 ·refine⟨by simpa using h.1,λx hx=>?_⟩
  obtain⟨y,hy,rfl⟩:=List.mem_map.1 hx
  exact qo9 (h.2 y hy)
 ·exact h
theorem w0t:qs4 Try.prog 53 xt3:=by
 refine q5d (xk5 (SpecsOk.cons (wd1 (fs:=[(74,xl6)]) (SpecsOk.cons w0s (SpecsOk.nil _))) (SpecsOk.nil _)) (MutsOk.cons q1c MutsOk.nil)) Try.func53 rfl rfl (qp8 []) (λT rows _=>xl7 T (nL rows 0)) (λ_ _ _=>by kernel_rfl) (by decide) ?_ rfl
 rintro T rows ⟨⟩ h hone
 obtain⟨l,rfl⟩:∃l:List Int,rows=[l]:=by
  have h1:=hone rfl
  match rows,h1 with
  | [l],_=>exact⟨l,rfl⟩
 have h:q9v l:=h
 refine @qf1 _ (q9v (nL [qa3 (Ty.list (Ty.int .i64)) [l] (0:Nat)] (0:Nat))/\∃(v0:qa5 [Ty.int .i64]->Prop),∃(v1:qa5 [Ty.int .i64]->Bool),(∀(v2:Int × qa5._f [] PUnit.unit),v0 v2->True/\(Prod.fst v2 != (0:Ty.den qe4))=v1 v2)/\(List.length (qa3 (Ty.list (Ty.int .i64)) (List.set [l] (0:Nat) (qa3 (Ty.list (Ty.int .i64)) [qd4 (nL [qa3 (Ty.list (Ty.int .i64)) [l] (0:Nat)] (0:Nat))] (0:Nat))) (0:Nat))<=(1000000:Nat)/\∀(v2:Nat),v2<List.length (qa3 (Ty.list (Ty.int .i64)) (List.set [l] (0:Nat) (qa3 (Ty.list (Ty.int .i64)) [qd4 (nL [qa3 (Ty.list (Ty.int .i64)) [l] (0:Nat)] (0:Nat))] (0:Nat))) (0:Nat))->v0 (qa3 (Ty.int .i64) (qa3 (Ty.list (Ty.int .i64)) (List.set [l] (0:Nat) (qa3 (Ty.list (Ty.int .i64)) [qd4 (nL [qa3 (Ty.list (Ty.int .i64)) [l] (0:Nat)] (0:Nat))] (0:Nat))) (0:Nat)) v2,()))/\(decide ((0:Int)<=ixT (Ty.int .i64) (λ(v3:Int)=>v1 (v3,())) (qa3 (Ty.list (Ty.int .i64)) (List.set [l] (0:Nat) (qa3 (Ty.list (Ty.int .i64)) [qd4 (nL [qa3 (Ty.list (Ty.int .i64)) [l] (0:Nat)] (0:Nat))] (0:Nat))) (0:Nat)))=true->((0:Int)<=ixT (Ty.int .i64) (λ(v3:Int)=>v1 (v3,())) (qa3 (Ty.list (Ty.int .i64)) (List.set [l] (0:Nat) (qa3 (Ty.list (Ty.int .i64)) [qd4 (nL [qa3 (Ty.list (Ty.int .i64)) [l] (0:Nat)] (0:Nat))] (0:Nat))) (0:Nat))/\ixT (Ty.int .i64) (λ(v3:Int)=>v1 (v3,())) (qa3 (Ty.list (Ty.int .i64)) (List.set [l] (0:Nat) (qa3 (Ty.list (Ty.int .i64)) [qd4 (nL [qa3 (Ty.list (Ty.int .i64)) [l] (0:Nat)] (0:Nat))] (0:Nat))) (0:Nat))<(↑(List.length (qa3 (Ty.list (Ty.int .i64)) (List.set [l] (0:Nat) (qa3 (Ty.list (Ty.int .i64)) [qd4 (nL [qa3 (Ty.list (Ty.int .i64)) [l] (0:Nat)] (0:Nat))] (0:Nat))) (0:Nat))):Int))/\Int.toNat (ixT (Ty.int .i64) (λ(v3:Int)=>v1 (v3,())) (qa3 (Ty.list (Ty.int .i64)) (List.set [l] (0:Nat) (qa3 (Ty.list (Ty.int .i64)) [qd4 (nL [qa3 (Ty.list (Ty.int .i64)) [l] (0:Nat)] (0:Nat))] (0:Nat))) (0:Nat)))<List.length (qa3 (Ty.list (Ty.int .i64)) (List.set [l] (0:Nat) (qa3 (Ty.list (Ty.int .i64)) [qd4 (nL [qa3 (Ty.list (Ty.int .i64)) [l] (0:Nat)] (0:Nat))] (0:Nat))) (0:Nat))/\(decide (qa3 (Ty.int .i64) (qa3 (Ty.list (Ty.int .i64)) (List.set [l] (0:Nat) (qa3 (Ty.list (Ty.int .i64)) [qd4 (nL [qa3 (Ty.list (Ty.int .i64)) [l] (0:Nat)] (0:Nat))] (0:Nat))) (0:Nat)) (Int.toNat (ixT (Ty.int .i64) (λ(v4:Int)=>v1 (v4,())) (qa3 (Ty.list (Ty.int .i64)) (List.set [l] (0:Nat) (qa3 (Ty.list (Ty.int .i64)) [qd4 (nL [qa3 (Ty.list (Ty.int .i64)) [l] (0:Nat)] (0:Nat))] (0:Nat))) (0:Nat))))<(0:Int))=true->∃(v4:Unit),∃(v5:Nat × List Int),w7z (qd4 (nL [l] (0:Nat))) (Prod.fst v5) (Prod.snd v5)/\((some (0:Nat)=some (0:Nat)/\(0:Int)=(↑(Prod.fst v5):Int)/\True)/\(List.set [l] (0:Nat) (qa3 (Ty.list (Ty.int .i64)) [qd4 (nL [qa3 (Ty.list (Ty.int .i64)) [l] (0:Nat)] (0:Nat))] (0:Nat))=[Prod.snd v5]/\True/\T=T)/\True)/\∀(v6:Nat × List Int),w7z (qd4 (nL [l] (0:Nat))) (Prod.fst v6) (Prod.snd v6)->(decide ((↑(Prod.fst v6):Int)<(↑(List.length (qa3 (Ty.list (Ty.int .i64)) (List.set [l] (0:Nat) (qa3 (Ty.list (Ty.int .i64)) [qd4 (nL [qa3 (Ty.list (Ty.int .i64)) [l] (0:Nat)] (0:Nat))] (0:Nat))) (0:Nat))):Int))=true->((0:Int)<=(↑(Prod.fst v6):Int)/\(↑(Prod.fst v6):Int)<(↑(List.length (qa3 (Ty.list (Ty.int .i64)) [Prod.snd v6] (0:Nat))):Int))/\Int.toNat (↑(Prod.fst v6):Int)<List.length (qa3 (Ty.list (Ty.int .i64)) [Prod.snd v6] (0:Nat))/\fits .i64 ((0:Int)-qa3 (Ty.int .i64) (qa3 (Ty.list (Ty.int .i64)) [Prod.snd v6] (0:Nat)) (Int.toNat (↑(Prod.fst v6):Int)))/\((0:Int)<=(↑(Prod.fst v6):Int)/\(↑(Prod.fst v6):Int)<(↑(List.length (qa3 (Ty.list (Ty.int .i64)) [Prod.snd v6] (0:Nat))):Int))/\Int.toNat (↑(Prod.fst v6):Int)<List.length (qa3 (Ty.list (Ty.int .i64)) [Prod.snd v6] (0:Nat))/\fits .i64 ((↑(Prod.fst v6):Int)+(1:Int))/\∃(v9:Nat × List Int),w7z (qd4 (nL [l] (0:Nat))) (Prod.fst v9) (Prod.snd v9)/\List.length (qd4 (nL [l] (0:Nat)))-Prod.fst v9<List.length (qd4 (nL [l] (0:Nat)))-Prod.fst v6/\(some (0:Nat)=some (0:Nat)/\(↑(Prod.fst v6):Int)+(1:Int)=(↑(Prod.fst v9):Int)/\True)/\(List.set [Prod.snd v6] (0:Nat) (List.set (qa3 (Ty.list (Ty.int .i64)) [Prod.snd v6] (0:Nat)) (Int.toNat (↑(Prod.fst v6):Int)) ((0:Int)-qa3 (Ty.int .i64) (qa3 (Ty.list (Ty.int .i64)) [Prod.snd v6] (0:Nat)) (Int.toNat (↑(Prod.fst v6):Int))))=[Prod.snd v9]/\True/\T=T)/\True)/\(decide ((↑(Prod.fst v6):Int)<(↑(List.length (qa3 (Ty.list (Ty.int .i64)) (List.set [l] (0:Nat) (qa3 (Ty.list (Ty.int .i64)) [qd4 (nL [qa3 (Ty.list (Ty.int .i64)) [l] (0:Nat)] (0:Nat))] (0:Nat))) (0:Nat))):Int))=false->[Prod.snd v6]=[q5n (nL [l] (0:Nat))]/\T=T/\True/\(0:Nat)=(0:Nat)))/\(decide (qa3 (Ty.int .i64) (qa3 (Ty.list (Ty.int .i64)) (List.set [l] (0:Nat) (qa3 (Ty.list (Ty.int .i64)) [qd4 (nL [qa3 (Ty.list (Ty.int .i64)) [l] (0:Nat)] (0:Nat))] (0:Nat))) (0:Nat)) (Int.toNat (ixT (Ty.int .i64) (λ(v4:Int)=>v1 (v4,())) (qa3 (Ty.list (Ty.int .i64)) (List.set [l] (0:Nat) (qa3 (Ty.list (Ty.int .i64)) [qd4 (nL [qa3 (Ty.list (Ty.int .i64)) [l] (0:Nat)] (0:Nat))] (0:Nat))) (0:Nat))))<(0:Int))=false->List.set [l] (0:Nat) (qa3 (Ty.list (Ty.int .i64)) [qd4 (nL [qa3 (Ty.list (Ty.int .i64)) [l] (0:Nat)] (0:Nat))] (0:Nat))=[q5n (nL [l] (0:Nat))]/\T=T/\True/\(0:Nat)=(0:Nat)))/\(decide ((0:Int)<=ixT (Ty.int .i64) (λ(v3:Int)=>v1 (v3,())) (qa3 (Ty.list (Ty.int .i64)) (List.set [l] (0:Nat) (qa3 (Ty.list (Ty.int .i64)) [qd4 (nL [qa3 (Ty.list (Ty.int .i64)) [l] (0:Nat)] (0:Nat))] (0:Nat))) (0:Nat)))=false->List.set [l] (0:Nat) (qa3 (Ty.list (Ty.int .i64)) [qd4 (nL [qa3 (Ty.list (Ty.int .i64)) [l] (0:Nat)] (0:Nat))] (0:Nat))=[q5n (nL [l] (0:Nat))]/\T=T/\True/\(0:Nat)=(0:Nat))) (by kernel_rfl) ?_
 try simp only[z0,z1,z2,z3,z4,z5,z6,z7,z8,z9,z10,Int.reduceEq,z11,z12,z13,z14,z15,z16,z17,z18,z19,z20,z21,z22,z23,z24,z25,z26,z27,z28,z29,z30,Int.reduceLE,Int.reduceLT,z31,z32,z33,z34,qa6]
 try simp only[qb6,qb7,qd0,List.set_cons_zero,List.cons.injEq,and_true,true_and]
 have hs:=q7p h
 have hl:=hs.1
 refine⟨h,λ_=>True,λx=>x.1 != 0,λ_ _=>rfl,⟨by omega,λ_ _=>trivial⟩,λh1=>?_,λh1=>?_⟩
 ·have h1:0<=qt4 (qd4 l):=by first | exact of_decide_eq_true h1 | exact h1
  have h2:qt4 (qd4 l)<(qd4 l).length:=(w9e (.int .i64) _ _).1
  refine⟨⟨h1,h2⟩,by show(qt4 (qd4 l)).toNat<_; omega,λh3=>?_,λh3=>?_⟩
  ·have h3:nI (qd4 l) (qt4 (qd4 l)).toNat<0:=by first | exact of_decide_eq_true h3 | exact h3
   have hp:q5n l=w7r (qd4 l):=by unfold q5n; rw[if_pos ⟨h1,h3⟩]
   refine⟨(),(0,qd4 l),⟨Nat.zero_le _,(q0j (.int .i64) _ _).symm⟩,⟨rfl,rfl⟩,?_⟩
   rintro⟨i,r⟩ ⟨k1,k2⟩
   dsimp only at k1 k2 ⊢
   have hrl:r.length=(qd4 l).length:=by rw[k2]; exact qr3 (.int .i64) _ _ _
   refine⟨λhlt=>?_,λhge=>?_⟩
   ·have hv:nI r i=nI (qd4 l) i:=by
     rw[k2]
     exact(q5e (.int .i64) _ _ _ _ hlt).trans (if_neg (Nat.lt_irrefl _))
    have hb:=q5g hs hlt
    unfold qj0 BIG at hb
    rw[hv]
    refine⟨by omega,by omega,qb8 (by omega) (by omega),by omega,by omega,qb8 (by omega) (by omega),(i+1,r.set i (0-nI (qd4 l) i)),⟨by dsimp only; omega,?_⟩,by dsimp only; omega,by dsimp only; omega,rfl⟩
    dsimp only
    rw[k2]
    exact qw7 (.int .i64) (λq=>0-nI (qd4 l) q) (qd4 l) i
   ·rw[hp,k2]
    exact q20 (.int .i64) _ _ _ (by omega)
  ·have h3:¬nI (qd4 l) (qt4 (qd4 l)).toNat<0:=by first | exact of_decide_eq_false h3 | exact h3 | exact Int.not_lt.2 h3
   unfold q5n; rw[if_neg λq=>h3 q.2]
 ·have h1:¬0<=qt4 (qd4 l):=by first | exact of_decide_eq_false h1 | exact h1 | exact Int.not_le.2 h1
  unfold q5n; rw[if_neg λq=>h1 q.1]
end Go.Proofs.Ytempacilejhbgaa
