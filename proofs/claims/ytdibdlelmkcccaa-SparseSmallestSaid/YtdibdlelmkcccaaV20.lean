/- The spark, sure numbers, twins: contracts by the engine. No condition. -/
import Derived.Test.YtdibdlelmkcccaaV19
set_option linter.unusedVariables false
set_option linter.unusedSimpArgs false
namespace Go.Proofs.Ytdibdlelmkcccaa
open Go Go.RowKit Eng
def qj2 (m:List (List Int)):List Int × Int:=if(q6d m).2≠0 then([],(q6d m).2) else if(q6d m).1=[] then([],8) else(nL (q6d m).1 0,0)
abbrev x2y:qc7:=qg3 false none [ql6] [qf7,qg4] (λx=>qe7 x.1=true->wp2 x.1) (λx=>((qj2 x.1).1,(qj2 x.1).2,()))
theorem w2q:qd8 Try.prog 64 x2y:=by
 refine meets (snd (SpecsOk.cons w6h (SpecsOk.nil _))) Try.func64 rfl rfl (λ_ _=>none) (λ_=>by kernel_rfl) (by decide) ?_
 rintro⟨m,⟨⟩⟩ h
 revert m
 intro(m:List (List Int)) (h:qe7 m=true->wp2 m)
 refine @qe0 _ ((qe7 m=true->wp2 m)/\((Prod.snd (q6d m) != (0:Int))=true->Prod.fst (qj2 m)=[]/\Prod.snd (q6d m)=Prod.snd (qj2 m)/\True)/\((Prod.snd (q6d m) != (0:Int))=false->(((↑(List.length (Prod.fst (q6d m))):Int)==(0:Int))=true->Prod.fst (qj2 m)=[]/\(8:Int)=Prod.snd (qj2 m)/\True)/\(((↑(List.length (Prod.fst (q6d m))):Int)==(0:Int))=false->((0:Int)<=(0:Int)/\(0:Int)<(↑(List.length (Prod.fst (q6d m))):Int))/\qa1 (Ty.list (Ty.int .i64)) (Prod.fst (q6d m)) (0:Nat)=Prod.fst (qj2 m)/\(0:Int)=Prod.snd (qj2 m)/\True))) (by kernel_rfl) ?_
 try simp only[z0,z1,z2,z3,z4,z5,z6,z7,z8,z9,z10,Int.reduceEq,z11,z12,z13,z14,z15,z16,z17,z18,z19,z20,z21,z22,z23,z24,z25,z26,z27,z28,z29,z30,Int.reduceLE,Int.reduceLT,z31,z32,z33,z34,qa3]
 try simp only[qb3,qb4,qc8,List.set_cons_zero,List.cons.injEq,and_true,true_and]
 refine⟨h,λhe=>by simp[qj2,he],λhe=>⟨λh0=>?_,λh0=>?_⟩⟩
 ·have e:(q6d m).1=[]:=List.eq_nil_of_length_eq_zero (by omega)
  simp[qj2,he,e]
 ·have e:¬(q6d m).1=[]:=λe=>by rw[e] at h0; exact h0 rfl
  unfold qj2
  rw[if_neg (λq=>q he),if_neg e]
  exact⟨by omega,rfl,rfl⟩
def wm1 (l:List Int):Nat->Nat
 | 0=>0
 | k+1=>if nI l k≠0 then wm1 l k+1 else wm1 l k
theorem wp4 (l:List Int):∀k,wm1 l k<=k
 | 0=>Nat.le_refl _
 | k+1=>by have:=wp4 l k; rw[wm1]; split <;> omega
def ql7 (m:List (List Int)):Int × Int:=((wm1 (qj2 m).1 (qj2 m).1.length:Int),(qj2 m).2)
structure wp5 (m:List (List Int)):Prop where
 cir:qe7 m=true->wp2 m
 len:(qj2 m).1.length<=1000
abbrev xw2:qc7:=qg3 true none [ql6] [qg4,qg4] (λx=>wp5 x.1) (λx=>((ql7 x.1).1,(ql7 x.1).2,()))
def xl7 (l:List Int):Nat->Option Inv
 | 0=>some (Inv.of [6,16] 0 (λk:Nat=>[(6,.lit (.int .i64 (wm1 l k))),(16,.lit (.int .i64 k))]) (λ_=>[]) (λk=>k<=l.length) (λk=>l.length-k))
 | _=>none
theorem wp6:qd8 Try.prog 66 xw2:=by
 refine meets (snd (SpecsOk.cons w2q (SpecsOk.nil _))) Try.func66 rfl rfl (λx=>xl7 (qj2 x.1).1) (λ_=>by kernel_rfl) (by decide) ?_
 rintro⟨m,⟨⟩⟩ h
 revert m
 intro(m:List (List Int)) (h:wp5 m)
 refine @qe0 _ ((qe7 m=true->wp2 m)/\∃(v0:Unit),∃(v1:Nat),Nat.le v1 (List.length (Prod.fst (qj2 m)))/\(((0:Int)=(↑(wm1 (Prod.fst (qj2 m)) v1):Int)/\(0:Int)=(↑v1:Int)/\True)/\True)/\∀(v2:Nat),Nat.le v2 (List.length (Prod.fst (qj2 m)))->(decide ((↑v2:Int)<(↑(List.length (Prod.fst (qj2 m))):Int))=true->((0:Int)<=(↑v2:Int)/\(↑v2:Int)<(↑(List.length (Prod.fst (qj2 m))):Int))/\((qa1 (Ty.int .i64) (Prod.fst (qj2 m)) (Int.toNat (↑v2:Int)) != (0:Int))=true->fits .i64 ((↑(wm1 (Prod.fst (qj2 m)) v2):Int)+(1:Int))/\fits .i64 ((↑v2:Int)+(1:Int))/\∃(v6:Nat),Nat.le v6 (List.length (Prod.fst (qj2 m)))/\List.length (Prod.fst (qj2 m))-v6<List.length (Prod.fst (qj2 m))-v2/\((↑(wm1 (Prod.fst (qj2 m)) v2):Int)+(1:Int)=(↑(wm1 (Prod.fst (qj2 m)) v6):Int)/\(↑v2:Int)+(1:Int)=(↑v6:Int)/\True)/\True)/\((qa1 (Ty.int .i64) (Prod.fst (qj2 m)) (Int.toNat (↑v2:Int)) != (0:Int))=false->fits .i64 ((↑v2:Int)+(1:Int))/\∃(v6:Nat),Nat.le v6 (List.length (Prod.fst (qj2 m)))/\List.length (Prod.fst (qj2 m))-v6<List.length (Prod.fst (qj2 m))-v2/\((↑(wm1 (Prod.fst (qj2 m)) v2):Int)=(↑(wm1 (Prod.fst (qj2 m)) v6):Int)/\(↑v2:Int)+(1:Int)=(↑v6:Int)/\True)/\True))/\(decide ((↑v2:Int)<(↑(List.length (Prod.fst (qj2 m))):Int))=false->(↑(wm1 (Prod.fst (qj2 m)) v2):Int)=Prod.fst (ql7 m)/\Prod.snd (qj2 m)=Prod.snd (ql7 m)/\True)) (by kernel_rfl) ?_
 try simp only[z0,z1,z2,z3,z4,z5,z6,z7,z8,z9,z10,Int.reduceEq,z11,z12,z13,z14,z15,z16,z17,z18,z19,z20,z21,z22,z23,z24,z25,z26,z27,z28,z29,z30,Int.reduceLE,Int.reduceLT,z31,z32,z33,z34,qa3]
 try simp only[qb3,qb4,qc8,List.set_cons_zero,List.cons.injEq,and_true,true_and]
 have hl:=h.len
 refine⟨h.cir,(),0,Nat.zero_le _,⟨rfl,rfl⟩,λi hi=>⟨λhlt=>?_,λhge=>?_⟩⟩
 ·have:=wp4 (qj2 m).1 i
  exact⟨hlt,λhz=>⟨qb9 (by omega) (by omega),qb9 (by omega) (by omega),i+1,hlt,by omega,by rw[wm1,if_pos hz]; omega,by omega⟩,λhz=>⟨qb9 (by omega) (by omega),i+1,hlt,by omega,by rw[wm1,if_neg (λq=>q hz)],by omega⟩⟩
 ·obtain rfl:i=(qj2 m).1.length:=by omega
  exact⟨rfl,rfl⟩
def q6h (m:List (List Int)):Int × Int:=if(ql7 m).2=0 then(((ql7 m).1-1).tdiv 2,0) else if(ql7 m).2=8 then((nL m 0).length,0) else(0,(ql7 m).2)
abbrev x2z:qc7:=qg3 true none [ql6] [qg4,qg4] (λx=>wp5 x.1) (λx=>((q6h x.1).1,(q6h x.1).2,()))
theorem w2r:qd8 Try.prog 34 x2z:=by
 refine meets (snd (SpecsOk.cons wp6 (SpecsOk.nil _))) Try.func34 rfl rfl (λ_ _=>none) (λ_=>by kernel_rfl) (by decide) ?_
 rintro⟨m,⟨⟩⟩ h
 revert m
 intro(m:List (List Int)) (h:wp5 m)
 refine @qe0 _ (wp5 m/\((Prod.snd (ql7 m)==(0:Int))=true->fits .i64 (Prod.fst (ql7 m)-(1:Int))/\(2:Int)≠(0:Int)/\fits .i64 (Int.tdiv (Prod.fst (ql7 m)-(1:Int)) (2:Int))/\Int.tdiv (Prod.fst (ql7 m)-(1:Int)) (2:Int)=Prod.fst (q6h m)/\(0:Int)=Prod.snd (q6h m)/\True)/\((Prod.snd (ql7 m)==(0:Int))=false->((Prod.snd (ql7 m)==(8:Int))=true->((0:Int)<=(0:Int)/\(0:Int)<(↑(List.length m):Int))/\(↑(List.length (qa1 (Ty.list (Ty.int .i64)) m (0:Nat))):Int)=Prod.fst (q6h m)/\(0:Int)=Prod.snd (q6h m)/\True)/\((Prod.snd (ql7 m)==(8:Int))=false->(0:Int)=Prod.fst (q6h m)/\Prod.snd (ql7 m)=Prod.snd (q6h m)/\True))) (by kernel_rfl) ?_
 try simp only[z0,z1,z2,z3,z4,z5,z6,z7,z8,z9,z10,Int.reduceEq,z11,z12,z13,z14,z15,z16,z17,z18,z19,z20,z21,z22,z23,z24,z25,z26,z27,z28,z29,z30,Int.reduceLE,Int.reduceLT,z31,z32,z33,z34,qa3]
 try simp only[qb3,qb4,qc8,List.set_cons_zero,List.cons.injEq,and_true,true_and]
 have hl:=h.len
 have hn:=wp4 (qj2 m).1 (qj2 m).1.length
 have e1:(ql7 m).1=(wm1 (qj2 m).1 (qj2 m).1.length:Int):=rfl
 have hb:qd2 1000 ((ql7 m).1-1):=by unfold qd2; rw[e1]; omega
 have hb2:qd2 1000 (((ql7 m).1-1).tdiv 2):=qo6 hb
 unfold qd2 at hb hb2
 refine⟨h,λhe=>⟨qb9 (by omega) (by omega),qb9 (by omega) (by omega),by simp[q6h,he]⟩,λhe=>⟨λh8=>⟨?_,by simp[q6h,h8]⟩,λh8=>by simp[q6h,he,h8]⟩⟩
 have hv:qe7 m=true:=by
  cases e:qe7 m with
  | true=>rfl
  | false=>
   have e2:(ql7 m).2=1:=by simp[ql7,qj2,q6d,e]
   rw[e2] at h8; cases h8
 have:=(Mk.of hv).rows1
 omega
end Go.Proofs.Ytdibdlelmkcccaa
