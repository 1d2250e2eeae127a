/- The spark, sure numbers, twins: contracts by the engine. No condition. -/
import Derived.Test.YtdibdlelmkcccaaV19
set_option linter.unusedVariables false
set_option linter.unusedSimpArgs false
namespace Go.Proofs.Ytdibdlelmkcccaa
open Go Go.RowKit Eng
def qb4 (m:List (List Int)):List Int × Int:=if(q1x m).2≠0 then([],(q1x m).2) else if(q1x m).1=[] then([],8) else(nL (q1x m).1 0,0)
abbrev x0t:qc9:=qh6 false none [qk0] [qf6,qg1] (λx=>qd3 x.1=true->wb4 x.1) (λx=>((qb4 x.1).1,(qb4 x.1).2,()))
theorem q83:qe1 Try.prog 64 x0t:=by
 refine meets (snd (SpecsOk.cons w5x (SpecsOk.nil _))) Try.func64 rfl rfl (λ_ _=>none) (λ_=>by kernel_rfl) (by decide) ?_
 rintro⟨m,⟨⟩⟩ h
 revert m
 intro(m:List (List Int)) (h:qd3 m=true->wb4 m)
 refine qe6 (B:=(qd3 m=true->wb4 m)/\((Prod.snd (q1x m) != (0:Int))=true->Prod.fst (qb4 m)=[]/\Prod.snd (q1x m)=Prod.snd (qb4 m)/\True)/\((Prod.snd (q1x m) != (0:Int))=false->(((↑(List.length (Prod.fst (q1x m))):Int)==(0:Int))=true->Prod.fst (qb4 m)=[]/\(8:Int)=Prod.snd (qb4 m)/\True)/\(((↑(List.length (Prod.fst (q1x m))):Int)==(0:Int))=false->((0:Int)<=(0:Int)/\(0:Int)<(↑(List.length (Prod.fst (q1x m))):Int))/\qa3 (Ty.list (Ty.int .i64)) (Prod.fst (q1x m)) (0:Nat)=Prod.fst (qb4 m)/\(0:Int)=Prod.snd (qb4 m)/\True))) (by kernel_rfl) ?_
 try simp only[z0,z1,z2,z3,z4,z5,z6,z7,z8,z9,z10,Int.reduceEq,z11,z12,z13,z14,z15,z16,z17,z18,z19,z20,z21,z22,z23,z24,z25,z26,z27,z28,z29,z30,Int.reduceLE,Int.reduceLT,z31,z32,z33,z34,qa4]
 try simp only[qb8,qb9,qd2,List.set_cons_zero,List.cons.injEq,and_true,true_and]
 refine⟨h,λhe=>by simp[qb4,he],λhe=>⟨λh0=>?_,λh0=>?_⟩⟩
 ·have e:(q1x m).1=[]:=List.eq_nil_of_length_eq_zero (by omega)
  simp[qb4,he,e]
 ·have e:¬(q1x m).1=[]:=λe=>by rw[e] at h0; exact h0 rfl
  unfold qb4
  rw[if_neg (λq=>q he),if_neg e]
  exact⟨by omega,rfl,rfl⟩
def nzTo (l:List Int):Nat->Nat
 | 0=>0
 | k+1=>if nI l k≠0 then nzTo l k+1 else nzTo l k
theorem q04 (l:List Int):∀k,nzTo l k<=k
 | 0=>Nat.le_refl _
 | k+1=>by have:=q04 l k; rw[nzTo]; split <;> omega
def qh5 (m:List (List Int)):Int × Int:=((nzTo (qb4 m).1 (qb4 m).1.length:Int),(qb4 m).2)
structure q45 (m:List (List Int)):Prop where
 cir:qd3 m=true->wb4 m
 len:(qb4 m).1.length<=1000
abbrev xr0:qc9:=qh6 true none [qk0] [qg1,qg1] (λx=>q45 x.1) (λx=>((qh5 x.1).1,(qh5 x.1).2,()))
def xh6 (l:List Int):Nat->Option Inv
 | 0=>some (Inv.of [6,16] 0 (λk:Nat=>[(6,.lit (.int .i64 (nzTo l k))),(16,.lit (.int .i64 k))]) (λ_=>[]) (λk=>k<=l.length) (λk=>l.length-k))
 | _=>none
theorem wq0:qe1 Try.prog 66 xr0:=by
 refine meets (snd (SpecsOk.cons q83 (SpecsOk.nil _))) Try.func66 rfl rfl (λx=>xh6 (qb4 x.1).1) (λ_=>by kernel_rfl) (by decide) ?_
 rintro⟨m,⟨⟩⟩ h
 revert m
 intro(m:List (List Int)) (h:q45 m)
 refine qe6 (B:=(qd3 m=true->wb4 m)/\∃(v0:Unit),∃(v1:Nat),Nat.le v1 (List.length (Prod.fst (qb4 m)))/\(((0:Int)=(↑(nzTo (Prod.fst (qb4 m)) v1):Int)/\(0:Int)=(↑v1:Int)/\True)/\True)/\∀(v2:Nat),Nat.le v2 (List.length (Prod.fst (qb4 m)))->(decide ((↑v2:Int)<(↑(List.length (Prod.fst (qb4 m))):Int))=true->((0:Int)<=(↑v2:Int)/\(↑v2:Int)<(↑(List.length (Prod.fst (qb4 m))):Int))/\((qa3 (Ty.int .i64) (Prod.fst (qb4 m)) (Int.toNat (↑v2:Int)) != (0:Int))=true->fits .i64 ((↑(nzTo (Prod.fst (qb4 m)) v2):Int)+(1:Int))/\fits .i64 ((↑v2:Int)+(1:Int))/\∃(v6:Nat),Nat.le v6 (List.length (Prod.fst (qb4 m)))/\List.length (Prod.fst (qb4 m))-v6<List.length (Prod.fst (qb4 m))-v2/\((↑(nzTo (Prod.fst (qb4 m)) v2):Int)+(1:Int)=(↑(nzTo (Prod.fst (qb4 m)) v6):Int)/\(↑v2:Int)+(1:Int)=(↑v6:Int)/\True)/\True)/\((qa3 (Ty.int .i64) (Prod.fst (qb4 m)) (Int.toNat (↑v2:Int)) != (0:Int))=false->fits .i64 ((↑v2:Int)+(1:Int))/\∃(v6:Nat),Nat.le v6 (List.length (Prod.fst (qb4 m)))/\List.length (Prod.fst (qb4 m))-v6<List.length (Prod.fst (qb4 m))-v2/\((↑(nzTo (Prod.fst (qb4 m)) v2):Int)=(↑(nzTo (Prod.fst (qb4 m)) v6):Int)/\(↑v2:Int)+(1:Int)=(↑v6:Int)/\True)/\True))/\(decide ((↑v2:Int)<(↑(List.length (Prod.fst (qb4 m))):Int))=false->(↑(nzTo (Prod.fst (qb4 m)) v2):Int)=Prod.fst (qh5 m)/\Prod.snd (qb4 m)=Prod.snd (qh5 m)/\True)) (by kernel_rfl) ?_
 try simp only[z0,z1,z2,z3,z4,z5,z6,z7,z8,z9,z10,Int.reduceEq,z11,z12,z13,z14,z15,z16,z17,z18,z19,z20,z21,z22,z23,z24,z25,z26,z27,z28,z29,z30,Int.reduceLE,Int.reduceLT,z31,z32,z33,z34,qa4]
 try simp only[qb8,qb9,qd2,List.set_cons_zero,List.cons.injEq,and_true,true_and]
 have hl:=h.len
 refine⟨h.cir,(),0,Nat.zero_le _,⟨rfl,rfl⟩,λi hi=>⟨λhlt=>?_,λhge=>?_⟩⟩
 ·have:=q04 (qb4 m).1 i
  exact⟨hlt,λhz=>⟨qa8 (by omega) (by omega),qa8 (by omega) (by omega),i+1,hlt,by omega,by rw[nzTo,if_pos hz]; omega,by omega⟩,λhz=>⟨qa8 (by omega) (by omega),i+1,hlt,by omega,by rw[nzTo,if_neg (λq=>q hz)],by omega⟩⟩
 ·obtain rfl:i=(qb4 m).1.length:=by omega
  exact⟨rfl,rfl⟩
def qi3 (m:List (List Int)):Int × Int:=if(qh5 m).2=0 then(((qh5 m).1-1).tdiv 2,0) else if(qh5 m).2=8 then((nL m 0).length,0) else(0,(qh5 m).2)
abbrev x0u:qc9:=qh6 true none [qk0] [qg1,qg1] (λx=>q45 x.1) (λx=>((qi3 x.1).1,(qi3 x.1).2,()))
theorem q84:qe1 Try.prog 34 x0u:=by
 refine meets (snd (SpecsOk.cons wq0 (SpecsOk.nil _))) Try.func34 rfl rfl (λ_ _=>none) (λ_=>by kernel_rfl) (by decide) ?_
 rintro⟨m,⟨⟩⟩ h
 revert m
 intro(m:List (List Int)) (h:q45 m)
 refine qe6 (B:=q45 m/\((Prod.snd (qh5 m)==(0:Int))=true->fits .i64 (Prod.fst (qh5 m)-(1:Int))/\(2:Int)≠(0:Int)/\fits .i64 (Int.tdiv (Prod.fst (qh5 m)-(1:Int)) (2:Int))/\Int.tdiv (Prod.fst (qh5 m)-(1:Int)) (2:Int)=Prod.fst (qi3 m)/\(0:Int)=Prod.snd (qi3 m)/\True)/\((Prod.snd (qh5 m)==(0:Int))=false->((Prod.snd (qh5 m)==(8:Int))=true->((0:Int)<=(0:Int)/\(0:Int)<(↑(List.length m):Int))/\(↑(List.length (qa3 (Ty.list (Ty.int .i64)) m (0:Nat))):Int)=Prod.fst (qi3 m)/\(0:Int)=Prod.snd (qi3 m)/\True)/\((Prod.snd (qh5 m)==(8:Int))=false->(0:Int)=Prod.fst (qi3 m)/\Prod.snd (qh5 m)=Prod.snd (qi3 m)/\True))) (by kernel_rfl) ?_
 try simp only[z0,z1,z2,z3,z4,z5,z6,z7,z8,z9,z10,Int.reduceEq,z11,z12,z13,z14,z15,z16,z17,z18,z19,z20,z21,z22,z23,z24,z25,z26,z27,z28,z29,z30,Int.reduceLE,Int.reduceLT,z31,z32,z33,z34,qa4]
 try simp only[qb8,qb9,qd2,List.set_cons_zero,List.cons.injEq,and_true,true_and]
 have hl:=h.len
 have hn:=q04 (qb4 m).1 (qb4 m).1.length
 have e1:(qh5 m).1=(nzTo (qb4 m).1 (qb4 m).1.length:Int):=rfl
 have hb:qf3 1000 ((qh5 m).1-1):=by unfold qf3; rw[e1]; omega
 have hb2:qf3 1000 (((qh5 m).1-1).tdiv 2):=ql4 hb
 unfold qf3 at hb hb2
 refine⟨h,λhe=>⟨qa8 (by omega) (by omega),qa8 (by omega) (by omega),by simp[qi3,he]⟩,λhe=>⟨λh8=>⟨?_,by simp[qi3,h8]⟩,λh8=>by simp[qi3,he,h8]⟩⟩
 have hv:qd3 m=true:=by
  cases e:qd3 m with
  | true=>rfl
  | false=>
   have e2:(qh5 m).2=1:=by simp[qh5,qb4,q1x,e]
   rw[e2] at h8; cases h8
 have:=(Mk.of hv).rows1
 omega
def fstTo (h:List Int) (k:Int):Nat->Nat
 | 0=>0
 | i+1=>if nI h i≠0/\(fstTo h k i:Int)<k then fstTo h k i+1 else fstTo h k i
def twA (h:List Int) (k:Int):Nat->List Int
 | 0=>List.replicate h.length 0
 | i+1=>if nI h i≠0/\(fstTo h k i:Int)<k then(twA h k i).set i (nI h i) else twA h k i
def twB (h:List Int) (k:Int):Nat->List Int
 | 0=>List.replicate h.length 0
 | i+1=>if nI h i≠0/\(fstTo h k i:Int)<k then twB h k i else(twB h k i).set i (0-nI h i)
def q0d (m:List (List Int)) (k:Int):Int:=if(qb4 m).2=1 then 1 else if inB k 1 10=false then 7 else if(qb4 m).2≠0\/2*k<(nzTo (qb4 m).1 (qb4 m).1.length:Int) then 8 else 0
def qd1 (m:List (List Int)) (k:Int):List Int × List Int × Int:=if q0d m k=0 then(twA (qb4 m).1 k (qb4 m).1.length,twB (qb4 m).1 k (qb4 m).1.length,0) else([],[],q0d m k)
structure xh7 (m:List (List Int)):Prop where
 spk:q45 m
 big:q3x (qb4 m).1
theorem wy5 (h:List Int) (k:Int):∀i,fstTo h k i<=i
 | 0=>Nat.le_refl _
 | i+1=>by have:=wy5 h k i; rw[fstTo]; split <;> omega
theorem q67 (h:List Int) (k:Int):∀i,(twA h k i).length=h.length
 | 0=>by simp[twA]
 | i+1=>by rw[twA]; split <;> simp[q67 h k i]
theorem q68 (h:List Int) (k:Int):∀i,(twB h k i).length=h.length
 | 0=>by simp[twB]
 | i+1=>by rw[twB]; split <;> simp[q68 h k i]
abbrev sTw:qc9:=qh6 true none [qk0,qg1] [qf6,qf6,qg1] (λx=>xh7 x.1) (λx=>((qd1 x.1 x.2.1).1,(qd1 x.1 x.2.1).2.1,(qd1 x.1 x.2.1).2.2,()))
def x4k (l:List Int) (k:Int):Nat->Option Inv
 | 0=>some (Inv.of [8,21] 0 (λi:Nat=>[(8,.lit (.int .i64 (nzTo l i))),(21,.lit (.int .i64 i))]) (λ_=>[]) (λi=>i<=l.length) (λi=>l.length-i))
 | 1=>some (Inv.of [4,5,11,55] 8 (λi:Nat=>[(4,.own 2),(5,.own 5),(11,.lit (.int .i64 (fstTo l k i))),(55,.lit (.int .i64 i))]) (λi=>[.dead,.dead,.vec 3 (.int .i64) (twA l k i),.dead,.dead,.vec 3 (.int .i64) (twB l k i),.dead,.dead]) (λi=>i<=l.length) (λi=>l.length-i))
 | _=>none
theorem w89:qe1 Try.prog 32 sTw:=by
 refine meets (snd (SpecsOk.cons q83 (SpecsOk.cons qt5 (SpecsOk.nil _)))) Try.func32 rfl rfl (λx=>x4k (qb4 x.1).1 x.2.1) (λ_=>by kernel_rfl) (by decide) ?_
 rintro⟨m,k,⟨⟩⟩ h
 revert m k
 intro(m:List (List Int)) (k:Int) (h:xh7 m)
 refine qe6 (B:=(qd3 m=true->wb4 m)/\∃(v0:Unit),∃(v1:Nat),Nat.le v1 (List.length (Prod.fst (qb4 m)))/\(((0:Int)=(↑(nzTo (Prod.fst (qb4 m)) v1):Int)/\(0:Int)=(↑v1:Int)/\True)/\True)/\∀(v2:Nat),Nat.le v2 (List.length (Prod.fst (qb4 m)))->(decide ((↑v2:Int)<(↑(List.length (Prod.fst (qb4 m))):Int))=true->((0:Int)<=(↑v2:Int)/\(↑v2:Int)<(↑(List.length (Prod.fst (qb4 m))):Int))/\((qa3 (Ty.int .i64) (Prod.fst (qb4 m)) (Int.toNat (↑v2:Int)) != (0:Int))=true->fits .i64 ((↑(nzTo (Prod.fst (qb4 m)) v2):Int)+(1:Int))/\fits .i64 ((↑v2:Int)+(1:Int))/\∃(v6:Nat),Nat.le v6 (List.length (Prod.fst (qb4 m)))/\List.length (Prod.fst (qb4 m))-v6<List.length (Prod.fst (qb4 m))-v2/\((↑(nzTo (Prod.fst (qb4 m)) v2):Int)+(1:Int)=(↑(nzTo (Prod.fst (qb4 m)) v6):Int)/\(↑v2:Int)+(1:Int)=(↑v6:Int)/\True)/\True)/\((qa3 (Ty.int .i64) (Prod.fst (qb4 m)) (Int.toNat (↑v2:Int)) != (0:Int))=false->fits .i64 ((↑v2:Int)+(1:Int))/\∃(v6:Nat),Nat.le v6 (List.length (Prod.fst (qb4 m)))/\List.length (Prod.fst (qb4 m))-v6<List.length (Prod.fst (qb4 m))-v2/\((↑(nzTo (Prod.fst (qb4 m)) v2):Int)=(↑(nzTo (Prod.fst (qb4 m)) v6):Int)/\(↑v2:Int)+(1:Int)=(↑v6:Int)/\True)/\True))/\(decide ((↑v2:Int)<(↑(List.length (Prod.fst (qb4 m))):Int))=false->((Prod.snd (qb4 m)==(1:Int))=true->Prod.fst (qd1 m k)=[]/\Prod.fst (Prod.snd (qd1 m k))=[]/\Prod.snd (qb4 m)=Prod.snd (Prod.snd (qd1 m k))/\True)/\((Prod.snd (qb4 m)==(1:Int))=false->True/\((!inB k (1:Int) (10:Int))=true->Prod.fst (qd1 m k)=[]/\Prod.fst (Prod.snd (qd1 m k))=[]/\(7:Int)=Prod.snd (Prod.snd (qd1 m k))/\True)/\((!inB k (1:Int) (10:Int))=false->((Prod.snd (qb4 m) != (0:Int))=true->Prod.fst (qd1 m k)=[]/\Prod.fst (Prod.snd (qd1 m k))=[]/\(8:Int)=Prod.snd (Prod.snd (qd1 m k))/\True)/\((Prod.snd (qb4 m) != (0:Int))=false->fits .i64 ((2:Int)*k)/\(decide ((2:Int)*k<(↑(nzTo (Prod.fst (qb4 m)) v2):Int))=true->Prod.fst (qd1 m k)=[]/\Prod.fst (Prod.snd (qd1 m k))=[]/\(8:Int)=Prod.snd (Prod.snd (qd1 m k))/\True)/\(decide ((2:Int)*k<(↑(nzTo (Prod.fst (qb4 m)) v2):Int))=false->((↑(List.length (Prod.fst (qb4 m))):Int)=(↑(List.length (Prod.fst (qb4 m))):Int)/\(0:Int)<=(↑(List.length (Prod.fst (qb4 m))):Int)/\(↑(List.length (Prod.fst (qb4 m))):Int)<=(1000000:Int))/\((↑(List.length (Prod.fst (qb4 m))):Int)=(↑(List.length (Prod.fst (qb4 m))):Int)/\(0:Int)<=(↑(List.length (Prod.fst (qb4 m))):Int)/\(↑(List.length (Prod.fst (qb4 m))):Int)<=(1000000:Int))/\∃(v9:Unit),∃(v10:Nat),Nat.le v10 (List.length (Prod.fst (qb4 m)))/\((True/\True/\(0:Int)=(↑(fstTo (Prod.fst (qb4 m)) k v10):Int)/\(0:Int)=(↑v10:Int)/\True)/\True/\True/\List.replicate (Int.toNat (↑(List.length (Prod.fst (qb4 m))):Int)) (Ty.dflt (TI.ty T3))=twA (Prod.fst (qb4 m)) k v10/\True/\True/\List.replicate (Int.toNat (↑(List.length (Prod.fst (qb4 m))):Int)) (Ty.dflt (TI.ty T3))=twB (Prod.fst (qb4 m)) k v10/\True/\True/\True)/\∀(v11:Nat),Nat.le v11 (List.length (Prod.fst (qb4 m)))->(decide ((↑v11:Int)<(↑(List.length (Prod.fst (qb4 m))):Int))=true->((0:Int)<=(↑v11:Int)/\(↑v11:Int)<(↑(List.length (Prod.fst (qb4 m))):Int))/\((qa3 (Ty.int .i64) (Prod.fst (qb4 m)) (Int.toNat (↑v11:Int)) != (0:Int))=true->(decide ((↑(fstTo (Prod.fst (qb4 m)) k v11):Int)<k)=true->((0:Int)<=(↑v11:Int)/\(↑v11:Int)<(↑(List.length (twA (Prod.fst (qb4 m)) k v11)):Int))/\Int.toNat (↑v11:Int)<List.length (twA (Prod.fst (qb4 m)) k v11)/\fits .i64 ((↑(fstTo (Prod.fst (qb4 m)) k v11):Int)+(1:Int))/\fits .i64 ((↑v11:Int)+(1:Int))/\∃(v16:Nat),Nat.le v16 (List.length (Prod.fst (qb4 m)))/\List.length (Prod.fst (qb4 m))-v16<List.length (Prod.fst (qb4 m))-v11/\(True/\True/\(↑(fstTo (Prod.fst (qb4 m)) k v11):Int)+(1:Int)=(↑(fstTo (Prod.fst (qb4 m)) k v16):Int)/\(↑v11:Int)+(1:Int)=(↑v16:Int)/\True)/\True/\True/\List.set (twA (Prod.fst (qb4 m)) k v11) (Int.toNat (↑v11:Int)) (qa3 (Ty.int .i64) (Prod.fst (qb4 m)) (Int.toNat (↑v11:Int)))=twA (Prod.fst (qb4 m)) k v16/\True/\True/\twB (Prod.fst (qb4 m)) k v11=twB (Prod.fst (qb4 m)) k v16/\True/\True/\True)/\(decide ((↑(fstTo (Prod.fst (qb4 m)) k v11):Int)<k)=false->fits .i64 ((0:Int)-qa3 (Ty.int .i64) (Prod.fst (qb4 m)) (Int.toNat (↑v11:Int)))/\((0:Int)<=(↑v11:Int)/\(↑v11:Int)<(↑(List.length (twB (Prod.fst (qb4 m)) k v11)):Int))/\Int.toNat (↑v11:Int)<List.length (twB (Prod.fst (qb4 m)) k v11)/\fits .i64 ((↑v11:Int)+(1:Int))/\∃(v16:Nat),Nat.le v16 (List.length (Prod.fst (qb4 m)))/\List.length (Prod.fst (qb4 m))-v16<List.length (Prod.fst (qb4 m))-v11/\(True/\True/\(↑(fstTo (Prod.fst (qb4 m)) k v11):Int)=(↑(fstTo (Prod.fst (qb4 m)) k v16):Int)/\(↑v11:Int)+(1:Int)=(↑v16:Int)/\True)/\True/\True/\twA (Prod.fst (qb4 m)) k v11=twA (Prod.fst (qb4 m)) k v16/\True/\True/\List.set (twB (Prod.fst (qb4 m)) k v11) (Int.toNat (↑v11:Int)) ((0:Int)-qa3 (Ty.int .i64) (Prod.fst (qb4 m)) (Int.toNat (↑v11:Int)))=twB (Prod.fst (qb4 m)) k v16/\True/\True/\True))/\((qa3 (Ty.int .i64) (Prod.fst (qb4 m)) (Int.toNat (↑v11:Int)) != (0:Int))=false->fits .i64 ((0:Int)-qa3 (Ty.int .i64) (Prod.fst (qb4 m)) (Int.toNat (↑v11:Int)))/\((0:Int)<=(↑v11:Int)/\(↑v11:Int)<(↑(List.length (twB (Prod.fst (qb4 m)) k v11)):Int))/\Int.toNat (↑v11:Int)<List.length (twB (Prod.fst (qb4 m)) k v11)/\fits .i64 ((↑v11:Int)+(1:Int))/\∃(v15:Nat),Nat.le v15 (List.length (Prod.fst (qb4 m)))/\List.length (Prod.fst (qb4 m))-v15<List.length (Prod.fst (qb4 m))-v11/\(True/\True/\(↑(fstTo (Prod.fst (qb4 m)) k v11):Int)=(↑(fstTo (Prod.fst (qb4 m)) k v15):Int)/\(↑v11:Int)+(1:Int)=(↑v15:Int)/\True)/\True/\True/\twA (Prod.fst (qb4 m)) k v11=twA (Prod.fst (qb4 m)) k v15/\True/\True/\List.set (twB (Prod.fst (qb4 m)) k v11) (Int.toNat (↑v11:Int)) ((0:Int)-qa3 (Ty.int .i64) (Prod.fst (qb4 m)) (Int.toNat (↑v11:Int)))=twB (Prod.fst (qb4 m)) k v15/\True/\True/\True))/\(decide ((↑v11:Int)<(↑(List.length (Prod.fst (qb4 m))):Int))=false->twA (Prod.fst (qb4 m)) k v11=Prod.fst (qd1 m k)/\twB (Prod.fst (qb4 m)) k v11=Prod.fst (Prod.snd (qd1 m k))/\(0:Int)=Prod.snd (Prod.snd (qd1 m k))/\True))))))) (by kernel_rfl) ?_
 try simp only[z0,z1,z2,z3,z4,z5,z6,z7,z8,z9,z10,Int.reduceEq,z11,z12,z13,z14,z15,z16,z17,z18,z19,z20,z21,z22,z23,z24,z25,z26,z27,z28,z29,z30,Int.reduceLE,Int.reduceLT,z31,z32,z33,z34,qa4]
 try simp only[qb8,qb9,qd2,List.set_cons_zero,List.cons.injEq,and_true,true_and]
 have hl:=h.spk.len
 have hbig:=h.big
 have hE:q0d m k=if(qb4 m).2=1 then 1 else if inB k 1 10=false then 7 else if(qb4 m).2≠0\/2*k<(nzTo (qb4 m).1 (qb4 m).1.length:Int) then 8 else 0:=rfl
 refine⟨h.spk.cir,(),0,Nat.zero_le _,⟨rfl,rfl⟩,λi hi=>⟨λhlt=>?_,λhge=>?_⟩⟩
 ·have:=q04 (qb4 m).1 i
  exact⟨hlt,λhz=>⟨qa8 (by omega) (by omega),qa8 (by omega) (by omega),i+1,hlt,by omega,by rw[nzTo,if_pos hz]; omega,by omega⟩,λhz=>⟨qa8 (by omega) (by omega),i+1,hlt,by omega,by rw[nzTo,if_neg (λq=>q hz)],by omega⟩⟩
 ·obtain rfl:i=(qb4 m).1.length:=by omega
  refine⟨λh1=>?_,λh1=>⟨λh2=>?_,λh2=>⟨λh3=>?_,λh3=>?_⟩⟩⟩
  ·have e:q0d m k=1:=by rw[hE,if_pos h1]
   simp[qd1,e,h1]
  ·have e:q0d m k=7:=by rw[hE,if_neg h1,if_pos h2]
   simp[qd1,e]
  ·have e:q0d m k=8:=by rw[hE,if_neg h1,if_neg (by rw[h2]; decide),if_pos (.inl h3)]
   simp[qd1,e]
  ·have hk:=qp5.1 h2
   refine⟨qa8 (by omega) (by omega),λh4=>?_,λh4=>?_⟩
   ·have e:q0d m k=8:=by rw[hE,if_neg h1,if_neg (by rw[h2]; decide),if_pos (.inr h4)]
    simp[qd1,e]
   ·have e:q0d m k=0:=by rw[hE,if_neg h1,if_neg (by rw[h2]; decide),if_neg (by omega)]
    have eR:qd1 m k=(twA (qb4 m).1 k (qb4 m).1.length,twB (qb4 m).1 k (qb4 m).1.length,0):=by simp[qd1,e]
    rw[eR]
    clear hE e eR hi hge h4
    generalize(qb4 m).1=l at *
    refine⟨by omega,by omega,(),0,Nat.zero_le _,⟨⟨rfl,rfl⟩,rfl,rfl⟩,λi hi=>⟨λhlt=>?_,λhge=>?_⟩⟩
    ·have hf:=wy5 l k i
     have ha:=q67 l k i
     have hb:=q68 l k i
     have hx:=qz4 hbig hlt
     unfold qf3 BIG at hx
     refine⟨hlt,λhz=>⟨λhk=>?_,λhk=>?_⟩,λhz=>?_⟩
     ·exact⟨by omega,by omega,qa8 (by omega) (by omega),qa8 (by omega) (by omega),i+1,hlt,by omega,⟨by rw[fstTo,if_pos ⟨hz,hk⟩]; omega,by omega⟩,by rw[twA,if_pos ⟨hz,hk⟩],by rw[twB,if_pos ⟨hz,hk⟩]⟩
     ·have hn:¬(nI l i≠0/\(fstTo l k i:Int)<k):=λq=>absurd q.2 (by omega)
      exact⟨qa8 (by omega) (by omega),by omega,by omega,qa8 (by omega) (by omega),i+1,hlt,by omega,⟨by rw[fstTo,if_neg hn],by omega⟩,by rw[twA,if_neg hn],by rw[twB,if_neg hn]⟩
     ·have hn:¬(nI l i≠0/\(fstTo l k i:Int)<k):=λq=>q.1 hz
      exact⟨qa8 (by omega) (by omega),by omega,by omega,qa8 (by omega) (by omega),i+1,hlt,by omega,⟨by rw[fstTo,if_neg hn],by omega⟩,by rw[twA,if_neg hn],by rw[twB,if_neg hn]⟩
    ·obtain rfl:i=l.length:=by omega
     exact⟨rfl,rfl,rfl⟩
end Go.Proofs.Ytdibdlelmkcccaa
