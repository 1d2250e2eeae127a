/- Sets, searches for a number, primitive vectors: contracts by the engine. No condition. -/
import Derived.Test.YtempacilejhbgaaGreatDoorV9
set_option linter.unusedVariables false
set_option linter.unusedSimpArgs false
namespace Go.Proofs.YtempacilejhbgaaGreatDoor
open Go Go.RowKit Eng
abbrev x0y:qb9:=w4z false none [tInt,tInt] (λ_=>True) (λx=>.clo 67 (.cons (.imm (.cons (.lit (.int .i64 x.2.1)) .nil) 0) (.cons (.imm (.cons (.lit (.int .i64 x.1)) .nil) 0) .nil)))
theorem w2d:Meets Tryz.prog 42 x0y:=by
 refine wx5 (snd (SpecsOk.nil _)) Tryz.func42 rfl rfl (λ_ _=>none) (λ_=>by kernel_rfl) (by decide) ?_
 rintro⟨n,k,⟨⟩⟩ -
 revert n k
 intro(n:Int) (k:Int)
 refine @qe7 _ (((k=k/\True)/\(0:Nat)=(0:Nat))/\((n=n/\True)/\(0:Nat)=(0:Nat))/\True) (by kernel_rfl) ?_
 try simp only[z0,z1,z2,z3,z4,z5,z6,z7,z8,z9,z10,Int.reduceEq,z11,z12,z13,z14,z15,z16,z17,z18,z19,z20,z21,z22,z23,z24,z25,z26,z27,z28,z29,z30,Int.reduceLE,Int.reduceLT,z31,z32,z33,z34,qa3]
 try simp only[qb6,qb7,qc7,z31,z32,z2,z1]
def x0z (l:List Int) (x:Int):Nat->Option Inv:=x0p (.int .i64) l λe=>x==e
abbrev x4w:qb9:=qg6 true none [tInts,tInt] [tInt] (λx=>x.1.length<=1000000) (λx=>(ixT (.int .i64) (λe=>x.2.1==e) x.1,()))
theorem w5r:Meets Tryz.prog 70 x4w:=by
 refine meets (snd (SpecsOk.nil _)) Tryz.func70 rfl rfl (λx=>x0z x.1 x.2.1) (λ_=>by kernel_rfl) (by decide) ?_
 rintro⟨l,x,⟨⟩⟩ h
 revert l x
 intro(l:List Int) (x:Int) (h:l.length<=1000000)
 refine @qe7 _ (∃(v0:Unit),∃(v1:Nat),(v1<=l.length/\∀(v2:Nat),Nat.le (Nat.succ v2) v1->(x==nI l v2)=false)/\(((0:Int)=(↑v1:Int)/\True)/\True)/\∀(v2:Nat),(v2<=l.length/\∀(v4:Nat),Nat.le (Nat.succ v4) v2->(x==nI l v4)=false)->(decide ((↑v2:Int)<(↑l.length:Int))=true->((0:Int)<=(↑v2:Int)/\(↑v2:Int)<(↑l.length:Int))/\((x==nI l v2)=true->(↑v2:Int)=ixT (Ty.int .i64) (λ(v6:Int)=>x==v6) l)/\((x==nI l v2)=false->fits .i64 ((↑v2:Int)+(1:Int))/\∃(v6:Nat),(v6<=l.length/\∀(v7:Nat),Nat.le (Nat.succ v7) v6->(x==nI l v7)=false)/\l.length-v6<l.length-v2/\((↑v2:Int)+(1:Int)=(↑v6:Int)/\True)/\True))/\(decide ((↑v2:Int)<(↑l.length:Int))=false->(-1:Int)=ixT (Ty.int .i64) (λ(v5:Int)=>x==v5) l)) (by kernel_rfl) ?_
 try simp only[z0,z1,z2,z3,z4,z5,z6,z7,z8,z9,z10,Int.reduceEq,z11,z12,z13,z14,z15,z16,z17,z18,z19,z20,z21,z22,z23,z24,z25,z26,z27,z28,z29,z30,Int.reduceLE,Int.reduceLT,z31,z32,z33,z34,qa3]
 try simp only[qb6,qb7,qc7,z31,z32,z2,z1]
 refine⟨(),0,⟨Nat.zero_le _,λi hi=>absurd hi (by omega)⟩,rfl,λk ⟨hk,hall⟩=>?_⟩
 refine⟨λhlt=>⟨hlt,λhf=>(wx9 (.int .i64) (λe=>x==e) l k hlt (λi hi=>beq_false_of_ne λe=>hall i hi e) (beq_iff_eq.2 hf)).symm,λhf=>⟨qa7 (by omega) (by omega),k+1,⟨by omega,λi hi=>?_⟩,by omega,by omega⟩⟩,λhge=>(q90 (.int .i64) (λe=>x==e) l λi hi=>beq_false_of_ne λe=>hall i (by omega) e).symm⟩
 by_cases e:i=k
 ·subst e; exact hf
 ·exact hall i (by omega)
abbrev x4x:qb9:=qg6 true none [tInts,tInt] [.bool] (λx=>x.1.length<=1000000) (λx=>(x.1.any λe=>x.2.1==e,()))
theorem wi5:Meets Tryz.prog 44 x4x:=by
 refine meets (snd (SpecsOk.cons w5r (SpecsOk.nil _))) Tryz.func44 rfl rfl (λ_ _=>none) (λ_=>by kernel_rfl) (by decide) ?_
 rintro⟨l,x,⟨⟩⟩ h
 revert l x
 intro(l:List Int) (x:Int) (h:l.length<=1000000)
 refine @qe7 _ (l.length<=(1000000:Nat)/\decide ((0:Int)<=ixT (Ty.int .i64) (λ(v0:Int)=>x==v0) l)=List.any l λ(v0:Int)=>x==v0) (by kernel_rfl) ?_
 try simp only[z0,z1,z2,z3,z4,z5,z6,z7,z8,z9,z10,Int.reduceEq,z11,z12,z13,z14,z15,z16,z17,z18,z19,z20,z21,z22,z23,z24,z25,z26,z27,z28,z29,z30,Int.reduceLE,Int.reduceLT,z31,z32,z33,z34,qa3]
 try simp only[qb6,qb7,qc7,z31,z32,z2,z1]
 exact⟨h,q3t (.int .i64) _ l⟩
abbrev xt0:qb9:=qg6 true none [tInt] [.bool] (λ_=>True) (λx=>(x.1 != 0,()))
theorem w2e:Meets Tryz.prog 72 xt0:=by
 refine meets (snd (SpecsOk.nil _)) Tryz.func72 rfl rfl (λ_ _=>none) (λ_=>by kernel_rfl) (by decide) ?_
 rintro⟨n,⟨⟩⟩ -
 revert n
 intro(n:Int)
 refine @qe7 _ ((n != (0:Int))=(n != (0:Ty.den tInt))) (by kernel_rfl) ?_
 try simp only[z0,z1,z2,z3,z4,z5,z6,z7,z8,z9,z10,Int.reduceEq,z11,z12,z13,z14,z15,z16,z17,z18,z19,z20,z21,z22,z23,z24,z25,z26,z27,z28,z29,z30,Int.reduceLE,Int.reduceLT,z31,z32,z33,z34,qa3]
 try simp only[qb6,qb7,qc7,z31,z32,z2,z1]
def qu9 (l:List Int):Int:=ixT (.int .i64) (λe=>e != 0) l
def q6d (l:List Int):List Int:=if 0<=qu9 (qd8 l)/\nI (qd8 l) (qu9 (qd8 l)).toNat<0 then w87 (qd8 l) else qd8 l
abbrev x00:qo6:=wg9 (q4l []) false true 0 3 (.int .i64) (λrows _=>q3s (nL rows 0)) (λ_ _=>.tup .nil) (λrows _=>[q6d (nL rows 0)])
structure w9f (l:List Int) (i:Nat) (r:List Int):Prop where
 le:i<=l.length
 eq:r=ovr (.int .i64) (λq=>0-nI l q) l i
def xt1 (T:q5b) (l:List Int):Nat->Option Inv
 | 0=>some (Inv.of [0,20] 1 (λs:Nat × List Int=>[(0,.msl 0 (some 0)),(20,.lit (.int .i64 s.1))]) (λs=>[.mat 0 3 (.int .i64) [s.2] (some []) (some T)]) (λs=>w9f (qd8 l) s.1 s.2) (λs=>(qd8 l).length-s.1))
 | _=>none
theorem q8l {l:List Int} (h:q3s l):q3s (qd8 l):=by
 unfold qd8
 split
 ·refine⟨by simpa using h.1,λx hx=>?_⟩
  obtain⟨y,hy,rfl⟩:=List.mem_map.1 hx
  exact qj9 (h.2 y hy)
 ·exact h
theorem w2f:qq8 Tryz.prog 45 x00:=by
 refine q52 (xr4 (SpecsOk.cons (wh8 (fs:=[(72,xt0)]) (SpecsOk.cons w2e (SpecsOk.nil _))) (SpecsOk.nil _)) (MutsOk.cons q17 MutsOk.nil)) Tryz.func45 rfl rfl (qu0 []) (λT rows _=>xt1 T (nL rows 0)) (λ_ _ _=>by kernel_rfl) (by decide) ?_ rfl
 rintro T rows ⟨⟩ h hone
 obtain⟨l,rfl⟩:∃l:List Int,rows=[l]:=by
  have h1:=hone rfl
  match rows,h1 with
  | [l],_=>exact⟨l,rfl⟩
 have h:q3s l:=h
 refine @qe7 _ (q3s (nL [nL [l] (0:Nat)] (0:Nat))/\∃(v0:qa4 [Ty.int .i64]->Prop),∃(v1:qa4 [Ty.int .i64]->Bool),(∀(v2:Int × qa4._f [] PUnit.unit),v0 v2->True/\(v2.1 != (0:Ty.den tInt))=v1 v2)/\((nL (List.set [l] (0:Nat) (nL [qd8 (nL [nL [l] (0:Nat)] (0:Nat))] (0:Nat))) (0:Nat)).length<=(1000000:Nat)/\∀(v2:Nat),v2<(nL (List.set [l] (0:Nat) (nL [qd8 (nL [nL [l] (0:Nat)] (0:Nat))] (0:Nat))) (0:Nat)).length->v0 (nI (nL (List.set [l] (0:Nat) (nL [qd8 (nL [nL [l] (0:Nat)] (0:Nat))] (0:Nat))) (0:Nat)) v2,()))/\(decide ((0:Int)<=ixT (Ty.int .i64) (λ(v3:Int)=>v1 (v3,())) (nL (List.set [l] (0:Nat) (nL [qd8 (nL [nL [l] (0:Nat)] (0:Nat))] (0:Nat))) (0:Nat)))=true->((0:Int)<=ixT (Ty.int .i64) (λ(v3:Int)=>v1 (v3,())) (nL (List.set [l] (0:Nat) (nL [qd8 (nL [nL [l] (0:Nat)] (0:Nat))] (0:Nat))) (0:Nat))/\ixT (Ty.int .i64) (λ(v3:Int)=>v1 (v3,())) (nL (List.set [l] (0:Nat) (nL [qd8 (nL [nL [l] (0:Nat)] (0:Nat))] (0:Nat))) (0:Nat))<(↑(nL (List.set [l] (0:Nat) (nL [qd8 (nL [nL [l] (0:Nat)] (0:Nat))] (0:Nat))) (0:Nat)).length:Int))/\(ixT (Ty.int .i64) (λ(v3:Int)=>v1 (v3,())) (nL (List.set [l] (0:Nat) (nL [qd8 (nL [nL [l] (0:Nat)] (0:Nat))] (0:Nat))) (0:Nat))).toNat<(nL (List.set [l] (0:Nat) (nL [qd8 (nL [nL [l] (0:Nat)] (0:Nat))] (0:Nat))) (0:Nat)).length/\(decide (nI (nL (List.set [l] (0:Nat) (nL [qd8 (nL [nL [l] (0:Nat)] (0:Nat))] (0:Nat))) (0:Nat)) (ixT (Ty.int .i64) (λ(v4:Int)=>v1 (v4,())) (nL (List.set [l] (0:Nat) (nL [qd8 (nL [nL [l] (0:Nat)] (0:Nat))] (0:Nat))) (0:Nat))).toNat<(0:Int))=true->∃(v4:Unit),∃(v5:Nat × List Int),w9f (qd8 (nL [l] (0:Nat))) v5.1 v5.2/\((some (0:Nat)=some (0:Nat)/\(0:Int)=(↑v5.1:Int)/\True)/\(List.set [l] (0:Nat) (nL [qd8 (nL [nL [l] (0:Nat)] (0:Nat))] (0:Nat))=[v5.2]/\True/\T=T)/\True)/\∀(v6:Nat × List Int),w9f (qd8 (nL [l] (0:Nat))) v6.1 v6.2->(decide ((↑v6.1:Int)<(↑(nL (List.set [l] (0:Nat) (nL [qd8 (nL [nL [l] (0:Nat)] (0:Nat))] (0:Nat))) (0:Nat)).length:Int))=true->((0:Int)<=(↑v6.1:Int)/\(↑v6.1:Int)<(↑(nL [v6.2] (0:Nat)).length:Int))/\(↑v6.1:Int).toNat<(nL [v6.2] (0:Nat)).length/\fits .i64 ((0:Int)-nI (nL [v6.2] (0:Nat)) (↑v6.1:Int).toNat)/\((0:Int)<=(↑v6.1:Int)/\(↑v6.1:Int)<(↑(nL [v6.2] (0:Nat)).length:Int))/\(↑v6.1:Int).toNat<(nL [v6.2] (0:Nat)).length/\fits .i64 ((↑v6.1:Int)+(1:Int))/\∃(v9:Nat × List Int),w9f (qd8 (nL [l] (0:Nat))) v9.1 v9.2/\(qd8 (nL [l] (0:Nat))).length-v9.1<(qd8 (nL [l] (0:Nat))).length-v6.1/\(some (0:Nat)=some (0:Nat)/\(↑v6.1:Int)+(1:Int)=(↑v9.1:Int)/\True)/\(List.set [v6.2] (0:Nat) (List.set (nL [v6.2] (0:Nat)) (↑v6.1:Int).toNat ((0:Int)-nI (nL [v6.2] (0:Nat)) (↑v6.1:Int).toNat))=[v9.2]/\True/\T=T)/\True)/\(decide ((↑v6.1:Int)<(↑(nL (List.set [l] (0:Nat) (nL [qd8 (nL [nL [l] (0:Nat)] (0:Nat))] (0:Nat))) (0:Nat)).length:Int))=false->[v6.2]=[q6d (nL [l] (0:Nat))]/\T=T/\True/\(0:Nat)=(0:Nat)))/\(decide (nI (nL (List.set [l] (0:Nat) (nL [qd8 (nL [nL [l] (0:Nat)] (0:Nat))] (0:Nat))) (0:Nat)) (ixT (Ty.int .i64) (λ(v4:Int)=>v1 (v4,())) (nL (List.set [l] (0:Nat) (nL [qd8 (nL [nL [l] (0:Nat)] (0:Nat))] (0:Nat))) (0:Nat))).toNat<(0:Int))=false->List.set [l] (0:Nat) (nL [qd8 (nL [nL [l] (0:Nat)] (0:Nat))] (0:Nat))=[q6d (nL [l] (0:Nat))]/\T=T/\True/\(0:Nat)=(0:Nat)))/\(decide ((0:Int)<=ixT (Ty.int .i64) (λ(v3:Int)=>v1 (v3,())) (nL (List.set [l] (0:Nat) (nL [qd8 (nL [nL [l] (0:Nat)] (0:Nat))] (0:Nat))) (0:Nat)))=false->List.set [l] (0:Nat) (nL [qd8 (nL [nL [l] (0:Nat)] (0:Nat))] (0:Nat))=[q6d (nL [l] (0:Nat))]/\T=T/\True/\(0:Nat)=(0:Nat))) (by kernel_rfl) ?_
 try simp only[z0,z1,z2,z3,z4,z5,z6,z7,z8,z9,z10,Int.reduceEq,z11,z12,z13,z14,z15,z16,z17,z18,z19,z20,z21,z22,z23,z24,z25,z26,z27,z28,z29,z30,Int.reduceLE,Int.reduceLT,z31,z32,z33,z34,qa3]
 try simp only[qb6,qb7,qc7,z31,z32,z2,z1]
 have hs:=q8l h
 have hl:=hs.1
 refine⟨h,λ_=>True,λx=>x.1 != 0,λ_ _=>rfl,⟨by omega,λ_ _=>trivial⟩,λh1=>?_,λh1=>?_⟩
 ·have h1:0<=qu9 (qd8 l):=by first | exact of_decide_eq_true h1 | exact h1
  have h2:qu9 (qd8 l)<(qd8 l).length:=(xd2 (.int .i64) _ _).1
  refine⟨⟨h1,h2⟩,by show(qu9 (qd8 l)).toNat<_; omega,λh3=>?_,λh3=>?_⟩
  ·have h3:nI (qd8 l) (qu9 (qd8 l)).toNat<0:=by first | exact of_decide_eq_true h3 | exact h3
   have hp:q6d l=w87 (qd8 l):=by unfold q6d; rw[if_pos ⟨h1,h3⟩]
   refine⟨(),(0,qd8 l),⟨Nat.zero_le _,(qx8 (.int .i64) _ _).symm⟩,⟨rfl,rfl⟩,?_⟩
   rintro⟨i,r⟩ ⟨k1,k2⟩
   dsimp only at k1 k2 ⊢
   have hrl:r.length=(qd8 l).length:=by rw[k2]; exact qq4 (.int .i64) _ _ _
   refine⟨λhlt=>?_,λhge=>?_⟩
   ·have hv:nI r i=nI (qd8 l) i:=by
     rw[k2]
     exact(q4h (.int .i64) _ _ _ _ hlt).trans (if_neg (Nat.lt_irrefl _))
    have hb:=q0i hs hlt
    unfold qf3 BIG at hb
    rw[hv]
    refine⟨by omega,by omega,qa7 (by omega) (by omega),by omega,by omega,qa7 (by omega) (by omega),(i+1,r.set i (0-nI (qd8 l) i)),⟨by dsimp only; omega,?_⟩,by dsimp only; omega,by dsimp only; omega,rfl⟩
    dsimp only
    rw[k2]
    exact qu1 (.int .i64) (λq=>0-nI (qd8 l) q) (qd8 l) i
   ·rw[hp,k2]
    exact q15 (.int .i64) _ _ _ (by omega)
  ·have h3:¬nI (qd8 l) (qu9 (qd8 l)).toNat<0:=by first | exact of_decide_eq_false h3 | exact h3 | exact Int.not_lt.2 h3
   unfold q6d; rw[if_neg λq=>h3 q.2]
 ·have h1:¬0<=qu9 (qd8 l):=by first | exact of_decide_eq_false h1 | exact h1 | exact Int.not_le.2 h1
  unfold q6d; rw[if_neg λq=>h1 q.1]
end Go.Proofs.YtempacilejhbgaaGreatDoor
