/- The rest of a reading after columns were chosen, by the program: contract by the engine. No condition. -/
import Derived.Test.YtmijnbjlhnpokaaGreatZ4
set_option linter.unusedVariables false
set_option linter.unusedSimpArgs false
namespace Go.Proofs.YtmijnbjlhnpokaaGreat
open Go Go.RowKit Eng
def x1r:Nat->List AObj
 | 0=>[]
 | n+1=>.dead :: x1r n
theorem xh3 (r:List (List Int)) (n k:Nat):(nI (nL r k) k).tdiv (qe2 (nI (nL r k) k) (nI (nL r k) n))=q0e r n k:=rfl
theorem xh4 (r:List (List Int)) (n k:Nat):(nI (nL r k) n).tdiv (qe2 (nI (nL r k) k) (nI (nL r k) n))=q8d r n k:=rfl
structure wv9 (m:List (List Int)) (y C:List Int):Prop where
 ind:wo9 m C
 n6:(qf0 m C).length<=6
 m6:m.length<=6
 ylen:y.length=m.length
 col:∀q,q<(qf0 m C).length->qw2 m (nI (qf0 m C) q)
 dot:∀a b,a<(qf0 m C).length->b<(qf0 m C).length->qw3 (qi1 m (nI (qf0 m C) a).toNat) (qi1 m (nI (qf0 m C) b).toNat)
 doty:∀a,a<(qf0 m C).length->qw3 (qi1 m (nI (qf0 m C) a).toNat) y
 red:q08 (qd0 m y (qf0 m C)) (qf0 m C).length ((qf0 m C).length+1)
 nz:∀k,k<(qf0 m C).length->nI (nL (gP m y C) k) k≠0
 big:∀k,k<(qf0 m C).length->∀c,c<(qf0 m C).length+1->qc8 BIG (nI (nL (gP m y C) k) c)
 tms:∀k,k<=(qf0 m C).length->qc8 BIG (qi2 (gP m y C) (qf0 m C).length k)/\qi2 (gP m y C) (qf0 m C).length k≠0
 dnz:∀k,k<(qf0 m C).length->q0e (gP m y C) (qf0 m C).length k≠0
 mul:∀k,k<(qf0 m C).length->qc8 BIG ((qh0 m y C).tdiv (q0e (gP m y C) (qf0 m C).length k)*q8d (gP m y C) (qf0 m C).length k)
 out:∀i,i<y.length->qc8 BIG (nI y i*qh0 m y C)
 sub:∀k,k<(qf0 m C).length->∀i,i<y.length->qc8 BIG (nI (qi1 m (nI (qf0 m C) k).toNat) i*((qh0 m y C).tdiv (q0e (gP m y C) (qf0 m C).length k)*q8d (gP m y C) (qf0 m C).length k))/\qc8 BIG (rsE m y (qf0 m C) (gP m y C) (qh0 m y C) (k+1) i)
def xu4 (m:List (List Int)) (y C:List Int):Nat->Option Inv
 | 0=>some (Inv.of [5,27] 2 (λk:Nat=>[(5,.msl 1 .none),(27,.lit (.int .i64 k))]) (λk=>[pBox m y C,.mat 34 3 (.int .i64) ((qd0 m y (qf0 m C)).take k) .none .none]) (λk=>k<=(qf0 m C).length) (λk=>(qf0 m C).length-k))
 | 1=>some (Eng.Inv.mk Nat Nat [5,8,33] 3 (λ_ j=>[(5,.msl 1 .none),(8,.own 2),(33,.lit (.int .i64 j))]) (λk j=>[pBox m y C,.mat 34 3 (.int .i64) ((qd0 m y (qf0 m C)).take k) .none .none,.vec 3 (.int .i64) ((gRow m y (qf0 m C) k).take j)]) (λ_ j=>j<=(qf0 m C).length) (λ_ j=>(qf0 m C).length-j))
 | 2=>some (Inv.of [5,11,66,68] 2 (λk:Nat=>[(5,.msl 1 .none),(11,.lit (.int .i64 (qi2 (gP m y C) (qf0 m C).length k))),(66,.msl 1 .none),(68,.lit (.int .i64 k))]) (λk=>[pBox m y C,.mat 34 3 (.int .i64) (gP m y C) .none .none]) (λk=>k<=(qf0 m C).length) (λk=>(qf0 m C).length-k))
 | 3=>some (Inv.of [5,15,100] 3 (λk:Nat=>[(5,.msl 1 .none),(15,.own 2),(100,.lit (.int .i64 k))]) (λk=>[pBox m y C,.mat 34 3 (.int .i64) (gP m y C) .none .none,.vec 3 (.int .i64) ((rsL m y (qf0 m C) (gP m y C) (qh0 m y C) 0).take k)]) (λk=>k<=y.length) (λk=>y.length-k))
 | 4=>some (Inv.of [5,15,113] 3 (λk:Nat=>[(5,.msl 1 .none),(15,.own 2),(113,.lit (.int .i64 k))]) (λk=>[pBox m y C,.mat 34 3 (.int .i64) (gP m y C) .none .none,.vec 3 (.int .i64) (rsL m y (qf0 m C) (gP m y C) (qh0 m y C) k)]) (λk=>k<=(qf0 m C).length) (λk=>(qf0 m C).length-k))
 | 5=>some (Eng.Inv.mk Nat Nat [5,15,174] 56 (λ_ t=>[(5,.msl 1 .none),(15,.own 2),(174,.lit (.int .i64 t))]) (λk t=>pBox m y C :: .mat 34 3 (.int .i64) (gP m y C) .none .none :: .vec 3 (.int .i64) (ovr (.int .i64) (rsE m y (qf0 m C) (gP m y C) (qh0 m y C) (k+1)) (rsL m y (qf0 m C) (gP m y C) (qh0 m y C) k) t) :: x1r 53) (λ_ t=>t<=m.length) (λ_ t=>m.length-t))
 | _=>none
abbrev x1s:qc9:=qg4 true none [tP] [qf1,qg0] (λx=>wv9 x.1.1.1 x.1.1.2 x.1.2) (λx=>(qe8 x.1.1.1 x.1.1.2 x.1.2,qh0 x.1.1.1 x.1.1.2 x.1.2,()))
theorem q73:Meets Tryz.prog 79 x1s:=by
 refine meets (w7k [59] [58] (SpecsOk.cons w38 (SpecsOk.cons q9v (SpecsOk.cons q9w (SpecsOk.cons qp6 (SpecsOk.nil _))))) (MutsOk.cons q09 MutsOk.nil)) Tryz.func79 rfl rfl (λx=>xu4 x.1.1.1 x.1.1.2 x.1.2) (λ_=>by kernel_rfl) (by decide) ?_
 rintro⟨p,⟨⟩⟩ h
 revert p
 intro(p:(List (List Int) × List Int) × List Int) (h:wv9 p.1.1 p.1.2 p.2)
 refine @qe1 _ (let Q0:=gP p.1.1 p.1.2 p.2; let Q1:=qf0 p.1.1 p.2; let Q2:=qh0 p.1.1 p.1.2 p.2; let Q3:=qd0 p.1.1 p.1.2 Q1; let Q4:=qe7 Q0.length none; wo9 p.1.1 p.2/\∃(v0:Unit),∃(v1:Nat),Nat.le v1 Q1.length/\((True/\(0:Int)=(↑v1:Int)/\True)/\(p.1.1=p.1.1/\p.1.2=p.1.2/\p.2=p.2/\True)/\List.take v1 Q3=[]/\True)/\∀(v2:Nat),Nat.le v2 Q1.length->(decide ((↑v2:Int)<(↑Q1.length:Int))=true->((0:Int)<=(↑v2:Int)/\(↑v2:Int)<(↑Q1.length:Int))/\∃(v5:Nat),∃(v6:Nat),Nat.le v6 Q1.length/\((True/\True/\(0:Int)=(↑v6:Int)/\True)/\(p.1.1=p.1.1/\p.1.2=p.1.2/\p.2=p.2/\True)/\(List.take v2 Q3=List.take v5 Q3/\True/\True)/\List.take v6 (gRow p.1.1 p.1.2 Q1 v5)=[]/\True)/\∀(v7:Nat),Nat.le v7 Q1.length->(decide ((↑v7:Int)<(↑Q1.length:Int))=true->((0:Int)<=(↑v7:Int)/\(↑v7:Int)<(↑Q1.length:Int))/\qw2 p.1.1 (nI Q1 v2)/\qw2 p.1.1 (nI Q1 v7)/\qw3 (qi1 p.1.1 (nI Q1 v2).toNat) (qi1 p.1.1 (nI Q1 v7).toNat)/\((0:Nat)<List.length [ql0 (qi1 p.1.1 (nI Q1 v2).toNat) (qi1 p.1.1 (nI Q1 v7).toNat) (qi1 p.1.1 (nI Q1 v2).toNat).length]/\Nat.le ((List.take v7 (gRow p.1.1 p.1.2 Q1 v5)).length+List.length [ql0 (qi1 p.1.1 (nI Q1 v2).toNat) (qi1 p.1.1 (nI Q1 v7).toNat) (qi1 p.1.1 (nI Q1 v2).toNat).length]) (1000000:Nat))/\fits .i64 ((↑v7:Int)+(1:Int))/\∃(v10:Nat),Nat.le v10 Q1.length/\Q1.length-v10<Q1.length-v7/\(True/\True/\(↑v7:Int)+(1:Int)=(↑v10:Int)/\True)/\(p.1.1=p.1.1/\p.1.2=p.1.2/\p.2=p.2/\True)/\(List.take v5 Q3=List.take v5 Q3/\True/\True)/\List.take v7 (gRow p.1.1 p.1.2 Q1 v5)++[ql0 (qi1 p.1.1 (nI Q1 v2).toNat) (qi1 p.1.1 (nI Q1 v7).toNat) (qi1 p.1.1 (nI Q1 v2).toNat).length]=List.take v10 (gRow p.1.1 p.1.2 Q1 v5)/\True)/\(decide ((↑v7:Int)<(↑Q1.length:Int))=false->qw2 p.1.1 (nI Q1 v2)/\qw3 (qi1 p.1.1 (nI Q1 v2).toNat) p.1.2/\Nat.le ((List.take v7 (gRow p.1.1 p.1.2 Q1 v5)).length+List.length [ql0 (qi1 p.1.1 (nI Q1 v2).toNat) p.1.2 (qi1 p.1.1 (nI Q1 v2).toNat).length]) (1000000:Nat)/\((0:Nat)<(0:Nat)+(1:Nat)/\(List.take v5 Q3).length+((0:Nat)+(1:Nat))<=(1000000:Nat))/\fits .i64 ((↑v2:Int)+(1:Int))/\∃(v10:Nat),Nat.le v10 Q1.length/\Q1.length-v10<Q1.length-v2/\(True/\(↑v2:Int)+(1:Int)=(↑v10:Int)/\True)/\(p.1.1=p.1.1/\p.1.2=p.1.2/\p.2=p.2/\True)/\(List.take v5 Q3++[List.take v7 (gRow p.1.1 p.1.2 Q1 v5)++[ql0 (qi1 p.1.1 (nI Q1 v2).toNat) p.1.2 (qi1 p.1.1 (nI Q1 v2).toNat).length]]=List.take v10 Q3/\True/\True)/\True))/\(decide ((↑v2:Int)<(↑Q1.length:Int))=false->((0:Ty.den qg0)<=(↑Q1.length:Int)/\∃(v5:Nat),q08 (List.take v2 Q3) (↑Q1.length:Int).toNat v5)/\∃(v5:Unit),∃(v6:Nat),Nat.le v6 Q1.length/\((True/\(1:Int)=qi2 Q0 Q1.length v6/\True/\(0:Int)=(↑v6:Int)/\True)/\(p.1.1=p.1.1/\p.1.2=p.1.2/\p.2=p.2/\True)/\((qa6 (List.take v2 Q3) (↑Q1.length:Int).toNat).1=gP p.1.1 p.1.2 p.2/\True/\True)/\True)/\∀(v7:Nat),Nat.le v7 Q1.length->(decide ((↑v7:Int)<(↑(qe7 (qa6 (List.take v2 Q3) (↑Q1.length:Int).toNat).1.length none):Int))=true->((0:Int)<=(↑v7:Int)/\(↑v7:Int)<(↑Q4:Int))/\v7<qe7 Q0.length none/\((0:Int)<=(↑v7:Int)/\(↑v7:Int)<(↑(nL Q0 (qd4 none v7)).length:Int))/\v7<(nL Q0 (qd4 none v7)).length/\((0:Int)<=(↑v7:Int)/\(↑v7:Int)<(↑(nL Q0 (qd4 none v7)).length:Int))/\v7<(nL Q0 (qd4 none v7)).length/\((0:Int)<=(↑Q1.length:Int)/\(↑Q1.length:Int)<(↑(nL Q0 (qd4 none v7)).length:Int))/\(↑Q1.length:Int).toNat<(nL Q0 (qd4 none v7)).length/\(((-4000000000000000000:Int)<=nI (nL Q0 (qd4 none v7)) v7/\nI (nL Q0 (qd4 none v7)) v7<=BIG)/\(-4000000000000000000:Int)<=nI (nL Q0 (qd4 none v7)) (↑Q1.length:Int).toNat/\nI (nL Q0 (qd4 none v7)) (↑Q1.length:Int).toNat<=BIG)/\qe2 (nI (nL Q0 (qd4 none v7)) v7) (nI (nL Q0 (qd4 none v7)) (↑Q1.length:Int).toNat)≠(0:Int)/\fits .i64 (Int.tdiv (nI (nL Q0 (qd4 none v7)) v7) (qe2 (nI (nL Q0 (qd4 none v7)) v7) (nI (nL Q0 (qd4 none v7)) (↑Q1.length:Int).toNat)))/\(((-4000000000000000000:Int)<=qi2 Q0 Q1.length v7/\qi2 Q0 Q1.length v7<=BIG)/\(-4000000000000000000:Int)<=Int.tdiv (nI (nL Q0 (qd4 none v7)) v7) (qe2 (nI (nL Q0 (qd4 none v7)) v7) (nI (nL Q0 (qd4 none v7)) (↑Q1.length:Int).toNat))/\Int.tdiv (nI (nL Q0 (qd4 none v7)) v7) (qe2 (nI (nL Q0 (qd4 none v7)) v7) (nI (nL Q0 (qd4 none v7)) (↑Q1.length:Int).toNat))<=BIG)/\qe2 (qi2 Q0 Q1.length v7) (Int.tdiv (nI (nL Q0 (qd4 none v7)) v7) (qe2 (nI (nL Q0 (qd4 none v7)) v7) (nI (nL Q0 (qd4 none v7)) (↑Q1.length:Int).toNat)))≠(0:Int)/\fits .i64 (Int.tdiv (Int.tdiv (nI (nL Q0 (qd4 none v7)) v7) (qe2 (nI (nL Q0 (qd4 none v7)) v7) (nI (nL Q0 (qd4 none v7)) (↑Q1.length:Int).toNat))) (qe2 (qi2 Q0 Q1.length v7) (Int.tdiv (nI (nL Q0 (qd4 none v7)) v7) (qe2 (nI (nL Q0 (qd4 none v7)) v7) (nI (nL Q0 (qd4 none v7)) (↑Q1.length:Int).toNat)))))/\fits .i64 (qi2 Q0 Q1.length v7*Int.tdiv (Int.tdiv (nI (nL Q0 (qd4 none v7)) v7) (qe2 (nI (nL Q0 (qd4 none v7)) v7) (nI (nL Q0 (qd4 none v7)) (↑Q1.length:Int).toNat))) (qe2 (qi2 Q0 Q1.length v7) (Int.tdiv (nI (nL Q0 (qd4 none v7)) v7) (qe2 (nI (nL Q0 (qd4 none v7)) v7) (nI (nL Q0 (qd4 none v7)) (↑Q1.length:Int).toNat)))))/\fits .i64 ((↑v7:Int)+(1:Int))/\∃(v10:Nat),Nat.le v10 Q1.length/\Q1.length-v10<Q1.length-v7/\(True/\qi2 Q0 Q1.length v7*Int.tdiv (Int.tdiv (nI (nL Q0 (qd4 none v7)) v7) (qe2 (nI (nL Q0 (qd4 none v7)) v7) (nI (nL Q0 (qd4 none v7)) (↑Q1.length:Int).toNat))) (qe2 (qi2 Q0 Q1.length v7) (Int.tdiv (nI (nL Q0 (qd4 none v7)) v7) (qe2 (nI (nL Q0 (qd4 none v7)) v7) (nI (nL Q0 (qd4 none v7)) (↑Q1.length:Int).toNat))))=qi2 Q0 Q1.length v10/\True/\(↑v7:Int)+(1:Int)=(↑v10:Int)/\True)/\(p.1.1=p.1.1/\p.1.2=p.1.2/\p.2=p.2/\True)/\(gP p.1.1 p.1.2 p.2=gP p.1.1 p.1.2 p.2/\True/\True)/\True)/\(decide ((↑v7:Int)<(↑(qe7 (qa6 (List.take v2 Q3) (↑Q1.length:Int).toNat).1.length none):Int))=false->∃(v10:Unit),∃(v11:Nat),Nat.le v11 p.1.2.length/\((True/\True/\(0:Int)=(↑v11:Int)/\True)/\(p.1.1=p.1.1/\p.1.2=p.1.2/\p.2=p.2/\True)/\(gP p.1.1 p.1.2 p.2=gP p.1.1 p.1.2 p.2/\True/\True)/\List.take v11 (rsL p.1.1 p.1.2 Q1 Q0 Q2 (0:Nat))=[]/\True)/\∀(v12:Nat),Nat.le v12 p.1.2.length->(decide ((↑v12:Int)<(↑p.1.2.length:Int))=true->((0:Int)<=(↑v12:Int)/\(↑v12:Int)<(↑p.1.2.length:Int))/\fits .i64 (nI p.1.2 v12*qi2 Q0 Q1.length v7)/\((0:Nat)<List.length [nI p.1.2 v12*qi2 Q0 Q1.length v7]/\Nat.le ((List.take v12 (rsL p.1.1 p.1.2 Q1 Q0 Q2 (0:Nat))).length+List.length [nI p.1.2 v12*qi2 Q0 Q1.length v7]) (1000000:Nat))/\fits .i64 ((↑v12:Int)+(1:Int))/\∃(v15:Nat),Nat.le v15 p.1.2.length/\p.1.2.length-v15<p.1.2.length-v12/\(True/\True/\(↑v12:Int)+(1:Int)=(↑v15:Int)/\True)/\(p.1.1=p.1.1/\p.1.2=p.1.2/\p.2=p.2/\True)/\(gP p.1.1 p.1.2 p.2=gP p.1.1 p.1.2 p.2/\True/\True)/\List.take v12 (rsL p.1.1 p.1.2 Q1 Q0 Q2 (0:Nat))++[nI p.1.2 v12*qi2 Q0 Q1.length v7]=List.take v15 (rsL p.1.1 p.1.2 Q1 Q0 Q2 (0:Nat))/\True)/\(decide ((↑v12:Int)<(↑p.1.2.length:Int))=false->∃(v15:Unit),∃(v16:Nat),Nat.le v16 Q1.length/\((True/\True/\(0:Int)=(↑v16:Int)/\True)/\(p.1.1=p.1.1/\p.1.2=p.1.2/\p.2=p.2/\True)/\(gP p.1.1 p.1.2 p.2=gP p.1.1 p.1.2 p.2/\True/\True)/\List.take v12 (rsL p.1.1 p.1.2 Q1 Q0 Q2 (0:Nat))=rsL p.1.1 p.1.2 Q1 Q0 Q2 v16/\True)/\∀(v17:Nat),Nat.le v17 Q1.length->(decide ((↑v17:Int)<(↑Q1.length:Int))=true->((0:Int)<=(↑v17:Int)/\(↑v17:Int)<(↑Q1.length:Int))/\((0:Int)<=(↑v17:Int)/\(↑v17:Int)<(↑Q4:Int))/\v17<qe7 Q0.length none/\((0:Int)<=(↑v17:Int)/\(↑v17:Int)<(↑(nL Q0 (qd4 none v17)).length:Int))/\v17<(nL Q0 (qd4 none v17)).length/\((0:Int)<=(↑v17:Int)/\(↑v17:Int)<(↑Q4:Int))/\v17<qe7 Q0.length none/\((0:Int)<=(↑v17:Int)/\(↑v17:Int)<(↑(nL Q0 (qd4 none v17)).length:Int))/\v17<(nL Q0 (qd4 none v17)).length/\((0:Int)<=(↑v17:Int)/\(↑v17:Int)<(↑Q4:Int))/\v17<qe7 Q0.length none/\((0:Int)<=(↑Q1.length:Int)/\(↑Q1.length:Int)<(↑(nL Q0 (qd4 none v17)).length:Int))/\(↑Q1.length:Int).toNat<(nL Q0 (qd4 none v17)).length/\(((-4000000000000000000:Int)<=nI (nL Q0 (qd4 none v17)) v17/\nI (nL Q0 (qd4 none v17)) v17<=BIG)/\(-4000000000000000000:Int)<=nI (nL Q0 (qd4 none v17)) (↑Q1.length:Int).toNat/\nI (nL Q0 (qd4 none v17)) (↑Q1.length:Int).toNat<=BIG)/\qe2 (nI (nL Q0 (qd4 none v17)) v17) (nI (nL Q0 (qd4 none v17)) (↑Q1.length:Int).toNat)≠(0:Int)/\fits .i64 (Int.tdiv (nI (nL Q0 (qd4 none v17)) v17) (qe2 (nI (nL Q0 (qd4 none v17)) v17) (nI (nL Q0 (qd4 none v17)) (↑Q1.length:Int).toNat)))/\Int.tdiv (nI (nL Q0 (qd4 none v17)) v17) (qe2 (nI (nL Q0 (qd4 none v17)) v17) (nI (nL Q0 (qd4 none v17)) (↑Q1.length:Int).toNat))≠(0:Int)/\fits .i64 (Int.tdiv (qi2 Q0 Q1.length v7) (Int.tdiv (nI (nL Q0 (qd4 none v17)) v17) (qe2 (nI (nL Q0 (qd4 none v17)) v17) (nI (nL Q0 (qd4 none v17)) (↑Q1.length:Int).toNat))))/\((0:Int)<=(↑v17:Int)/\(↑v17:Int)<(↑Q4:Int))/\v17<qe7 Q0.length none/\((0:Int)<=(↑Q1.length:Int)/\(↑Q1.length:Int)<(↑(nL Q0 (qd4 none v17)).length:Int))/\(↑Q1.length:Int).toNat<(nL Q0 (qd4 none v17)).length/\((0:Int)<=(↑v17:Int)/\(↑v17:Int)<(↑Q4:Int))/\v17<qe7 Q0.length none/\((0:Int)<=(↑v17:Int)/\(↑v17:Int)<(↑(nL Q0 (qd4 none v17)).length:Int))/\v17<(nL Q0 (qd4 none v17)).length/\((0:Int)<=(↑v17:Int)/\(↑v17:Int)<(↑Q4:Int))/\v17<qe7 Q0.length none/\((0:Int)<=(↑Q1.length:Int)/\(↑Q1.length:Int)<(↑(nL Q0 (qd4 none v17)).length:Int))/\(↑Q1.length:Int).toNat<(nL Q0 (qd4 none v17)).length/\(((-4000000000000000000:Int)<=nI (nL Q0 (qd4 none v17)) v17/\nI (nL Q0 (qd4 none v17)) v17<=BIG)/\(-4000000000000000000:Int)<=nI (nL Q0 (qd4 none v17)) (↑Q1.length:Int).toNat/\nI (nL Q0 (qd4 none v17)) (↑Q1.length:Int).toNat<=BIG)/\qe2 (nI (nL Q0 (qd4 none v17)) v17) (nI (nL Q0 (qd4 none v17)) (↑Q1.length:Int).toNat)≠(0:Int)/\fits .i64 (Int.tdiv (nI (nL Q0 (qd4 none v17)) (↑Q1.length:Int).toNat) (qe2 (nI (nL Q0 (qd4 none v17)) v17) (nI (nL Q0 (qd4 none v17)) (↑Q1.length:Int).toNat)))/\fits .i64 (Int.tdiv (qi2 Q0 Q1.length v7) (Int.tdiv (nI (nL Q0 (qd4 none v17)) v17) (qe2 (nI (nL Q0 (qd4 none v17)) v17) (nI (nL Q0 (qd4 none v17)) (↑Q1.length:Int).toNat)))*Int.tdiv (nI (nL Q0 (qd4 none v17)) (↑Q1.length:Int).toNat) (qe2 (nI (nL Q0 (qd4 none v17)) v17) (nI (nL Q0 (qd4 none v17)) (↑Q1.length:Int).toNat)))/\qw2 p.1.1 (nI Q1 v17)/\∃(v20:Nat),∃(v21:Nat),Nat.le v21 p.1.1.length/\((True/\True/\(0:Int)=(↑v21:Int)/\True)/\(p.1.1=p.1.1/\p.1.2=p.1.2/\p.2=p.2/\True)/\(gP p.1.1 p.1.2 p.2=gP p.1.1 p.1.2 p.2/\True/\True)/\rsL p.1.1 p.1.2 Q1 Q0 Q2 v17=ovr (Ty.int .i64) (rsE p.1.1 p.1.2 Q1 Q0 Q2 (v20+(1:Nat))) (rsL p.1.1 p.1.2 Q1 Q0 Q2 v20) v21/\True/\True/\True/\True/\True/\True/\True/\True/\True/\True/\True/\True/\True/\True/\True/\True/\True/\True/\True/\True/\True/\True/\True/\True/\True/\True/\True/\True/\True/\True/\True/\True/\True/\True/\True/\True/\True/\True/\True/\True/\True/\True/\True/\True/\True/\True/\True/\True/\True/\True/\True/\True/\True/\True)/\∀(v22:Nat),Nat.le v22 p.1.1.length->(decide ((↑v22:Int)<(↑(qi1 p.1.1 (nI Q1 v17).toNat).length:Int))=true->((0:Int)<=(↑v22:Int)/\(↑v22:Int)<(↑(qi1 p.1.1 (nI Q1 v17).toNat).length:Int))/\((0:Int)<=(↑v22:Int)/\(↑v22:Int)<(↑(ovr (Ty.int .i64) (rsE p.1.1 p.1.2 Q1 Q0 Q2 (v20+(1:Nat))) (rsL p.1.1 p.1.2 Q1 Q0 Q2 v20) v22).length:Int))/\v22<(ovr (Ty.int .i64) (rsE p.1.1 p.1.2 Q1 Q0 Q2 (v20+(1:Nat))) (rsL p.1.1 p.1.2 Q1 Q0 Q2 v20) v22).length/\fits .i64 (nI (qi1 p.1.1 (nI Q1 v17).toNat) v22*(Int.tdiv (qi2 Q0 Q1.length v7) (Int.tdiv (nI (nL Q0 (qd4 none v17)) v17) (qe2 (nI (nL Q0 (qd4 none v17)) v17) (nI (nL Q0 (qd4 none v17)) (↑Q1.length:Int).toNat)))*Int.tdiv (nI (nL Q0 (qd4 none v17)) (↑Q1.length:Int).toNat) (qe2 (nI (nL Q0 (qd4 none v17)) v17) (nI (nL Q0 (qd4 none v17)) (↑Q1.length:Int).toNat))))/\fits .i64 (nI (ovr (Ty.int .i64) (rsE p.1.1 p.1.2 Q1 Q0 Q2 (v20+(1:Nat))) (rsL p.1.1 p.1.2 Q1 Q0 Q2 v20) v22) v22-nI (qi1 p.1.1 (nI Q1 v17).toNat) v22*(Int.tdiv (qi2 Q0 Q1.length v7) (Int.tdiv (nI (nL Q0 (qd4 none v17)) v17) (qe2 (nI (nL Q0 (qd4 none v17)) v17) (nI (nL Q0 (qd4 none v17)) (↑Q1.length:Int).toNat)))*Int.tdiv (nI (nL Q0 (qd4 none v17)) (↑Q1.length:Int).toNat) (qe2 (nI (nL Q0 (qd4 none v17)) v17) (nI (nL Q0 (qd4 none v17)) (↑Q1.length:Int).toNat))))/\((0:Int)<=(↑v22:Int)/\(↑v22:Int)<(↑(ovr (Ty.int .i64) (rsE p.1.1 p.1.2 Q1 Q0 Q2 (v20+(1:Nat))) (rsL p.1.1 p.1.2 Q1 Q0 Q2 v20) v22).length:Int))/\v22<(ovr (Ty.int .i64) (rsE p.1.1 p.1.2 Q1 Q0 Q2 (v20+(1:Nat))) (rsL p.1.1 p.1.2 Q1 Q0 Q2 v20) v22).length/\fits .i64 ((↑v22:Int)+(1:Int))/\∃(v25:Nat),Nat.le v25 p.1.1.length/\p.1.1.length-v25<p.1.1.length-v22/\(True/\True/\(↑v22:Int)+(1:Int)=(↑v25:Int)/\True)/\(p.1.1=p.1.1/\p.1.2=p.1.2/\p.2=p.2/\True)/\(gP p.1.1 p.1.2 p.2=gP p.1.1 p.1.2 p.2/\True/\True)/\List.set (ovr (Ty.int .i64) (rsE p.1.1 p.1.2 Q1 Q0 Q2 (v20+(1:Nat))) (rsL p.1.1 p.1.2 Q1 Q0 Q2 v20) v22) v22 (nI (ovr (Ty.int .i64) (rsE p.1.1 p.1.2 Q1 Q0 Q2 (v20+(1:Nat))) (rsL p.1.1 p.1.2 Q1 Q0 Q2 v20) v22) v22-nI (qi1 p.1.1 (nI Q1 v17).toNat) v22*(Int.tdiv (qi2 Q0 Q1.length v7) (Int.tdiv (nI (nL Q0 (qd4 none v17)) v17) (qe2 (nI (nL Q0 (qd4 none v17)) v17) (nI (nL Q0 (qd4 none v17)) (↑Q1.length:Int).toNat)))*Int.tdiv (nI (nL Q0 (qd4 none v17)) (↑Q1.length:Int).toNat) (qe2 (nI (nL Q0 (qd4 none v17)) v17) (nI (nL Q0 (qd4 none v17)) (↑Q1.length:Int).toNat))))=ovr (Ty.int .i64) (rsE p.1.1 p.1.2 Q1 Q0 Q2 (v20+(1:Nat))) (rsL p.1.1 p.1.2 Q1 Q0 Q2 v20) v25/\True/\True/\True/\True/\True/\True/\True/\True/\True/\True/\True/\True/\True/\True/\True/\True/\True/\True/\True/\True/\True/\True/\True/\True/\True/\True/\True/\True/\True/\True/\True/\True/\True/\True/\True/\True/\True/\True/\True/\True/\True/\True/\True/\True/\True/\True/\True/\True/\True/\True/\True/\True/\True/\True)/\(decide ((↑v22:Int)<(↑(qi1 p.1.1 (nI Q1 v17).toNat).length:Int))=false->fits .i64 ((↑v17:Int)+(1:Int))/\∃(v25:Nat),Nat.le v25 Q1.length/\Q1.length-v25<Q1.length-v17/\(True/\True/\(↑v17:Int)+(1:Int)=(↑v25:Int)/\True)/\(p.1.1=p.1.1/\p.1.2=p.1.2/\p.2=p.2/\True)/\(gP p.1.1 p.1.2 p.2=gP p.1.1 p.1.2 p.2/\True/\True)/\ovr (Ty.int .i64) (rsE p.1.1 p.1.2 Q1 Q0 Q2 (v20+(1:Nat))) (rsL p.1.1 p.1.2 Q1 Q0 Q2 v20) v22=rsL p.1.1 p.1.2 Q1 Q0 Q2 v25/\True))/\(decide ((↑v17:Int)<(↑Q1.length:Int))=false->rsL p.1.1 p.1.2 Q1 Q0 Q2 v17=qe8 p.1.1 p.1.2 p.2/\qi2 Q0 Q1.length v7=qh0 p.1.1 p.1.2 p.2/\True))))) (by kernel_rfl) ?_
 try simp only[z0,z1,z2,z3,z4,z5,z6,z7,z8,z9,z10,Int.reduceEq,z11,z12,z13,z14,z15,z16,z17,z18,z19,z20,z21,z22,z23,z24,z25,z26,z27,z28,z29,z30,Int.reduceLE,Int.reduceLT,z31,z32,z33,z34,qa1]
 try simp only[qb5,qb6,qd2,z31,z32,z2,z1]
 obtain⟨⟨m,y⟩,C⟩:=p
 dsimp only at h ⊢
 simp only[q1y,q31]
 have hn6:=h.n6
 have hm6:=h.m6
 have hyl:=h.ylen
 have hgl:(qd0 m y (qf0 m C)).length=(qf0 m C).length:=by simp[qd0]
 have hga:∀k,k<(qf0 m C).length->nL (qd0 m y (qf0 m C)) k=gRow m y (qf0 m C) k:=λk hk=>by
  rw[qn4 _ _ (by rw[hgl]; exact hk)]; simp[qd0]
 have hrl:∀k,(gRow m y (qf0 m C) k).length=(qf0 m C).length+1:=λk=>by simp[gRow]
 have hr1:∀k j,j<(qf0 m C).length->nI (gRow m y (qf0 m C) k) j=ql0 (qi1 m (nI (qf0 m C) k).toNat) (qi1 m (nI (qf0 m C) j).toNat) m.length:=λk j hj=>by
  unfold gRow
  rw[qh7 _ _ (by simp; omega),List.getElem_append_left (by simp; exact hj)]; simp
 have hr2:∀k,nI (gRow m y (qf0 m C) k) (qf0 m C).length=ql0 (qi1 m (nI (qf0 m C) k).toNat) y m.length:=λk=>by
  unfold gRow
  rw[qh7 _ _ (by simp),List.getElem_append_right (by simp)]; simp
 have hsh:=qv8 h.red (qf0 m C).length
 have hGl:(gP m y C).length=(qf0 m C).length:=hsh.cnt.trans hgl
 have hGe:∀k,k<(qf0 m C).length->(nL (gP m y C) k).length=(qf0 m C).length+1:=λk hk=>hsh.each k (by omega)
 have hB:BIG=4000000000000000000:=rfl
 refine⟨h.ind,(),0,Nat.zero_le _,⟨rfl,rfl⟩,λk hk=>⟨λhlt=>⟨hlt,k,0,Nat.zero_le _,⟨rfl,rfl,rfl⟩,λj hj=>⟨λhlj=>?_,λhgj=>?_⟩⟩,λhge=>?_⟩⟩
 ·refine⟨hlj,h.col k hlt,h.col j hlj,h.dot k j hlt hlj,by rw[List.length_take,hrl]; omega,qa7 (by omega) (by omega),j+1,by omega,by omega,by omega,?_⟩
  rw[q0c _ j (by rw[hrl]; omega),hr1 k j hlj,qi7]
 ·obtain rfl:j=(qf0 m C).length:=by omega
  refine⟨h.col k hlt,h.doty k hlt,by rw[List.length_take,hrl]; omega,by rw[List.length_take,hgl]; omega,qa7 (by omega) (by omega),k+1,by omega,by omega,by omega,?_⟩
  rw[takeL_snoc _ k (by omega),hga k hlt,qi7,<- hr2,<- q0c _ _ (by rw[hrl]; omega),List.take_of_length_le (l:=gRow m y (qf0 m C) k) (by rw[hrl]; exact Nat.le_refl _)]
 obtain rfl:k=(qf0 m C).length:=by omega
 have hT:(qd0 m y (qf0 m C)).take (qf0 m C).length=qd0 m y (qf0 m C):=List.take_of_length_le (by omega)
 rw[hT]
 change(∃v,q08 _ _ v)/\∃v5 v6,v6<=_/\(_/\gP m y C=gP m y C)/\_
 have hPl:(qa6 (qd0 m y (qf0 m C)) (qf0 m C).length).1.length=(qf0 m C).length:=hGl
 rw[hPl]
 simp only[xh3,xh4]
 have hT0:qi2 (gP m y C) (qf0 m C).length (qf0 m C).length=qh0 m y C:=rfl
 have hz0:∀t,(rsL m y (qf0 m C) (gP m y C) (qh0 m y C) t).length=y.length:=λt=>by simp[rsL]
 have hza:∀t i,i<y.length->nI (rsL m y (qf0 m C) (gP m y C) (qh0 m y C) t) i=rsE m y (qf0 m C) (gP m y C) (qh0 m y C) t i:=λt i hi=>by
  rw[qh7 _ _ (by rw[hz0]; exact hi)]; simp[rsL]
 refine⟨⟨_,h.red⟩,(),0,Nat.zero_le _,⟨⟨rfl,rfl⟩,trivial⟩,λk hk=>⟨λhlt=>?_,λhge2=>?_⟩⟩
 ·have hrow:=hGe k hlt
  have b1:=h.big k hlt k (by omega)
  have b2:=h.big k hlt (qf0 m C).length (by omega)
  have nz:=h.nz k hlt
  have g1:=qm8 (a:=nI (nL (gP m y C) k) k) (b:=nI (nL (gP m y C) k) (qf0 m C).length) (Or.inl nz)
  have t1:=h.tms k (by omega)
  have t2:=(h.tms (k+1) (by omega)).1
  have hd:qc8 BIG (q0e (gP m y C) (qf0 m C).length k):=ql3 b1
  have g2:=qm8 (a:=qi2 (gP m y C) (qf0 m C).length k) (b:=q0e (gP m y C) (qf0 m C).length k) (Or.inl t1.2)
  have hq:qc8 BIG ((q0e (gP m y C) (qf0 m C).length k).tdiv (qe2 (qi2 (gP m y C) (qf0 m C).length k) (q0e (gP m y C) (qf0 m C).length k))):=ql3 hd
  have e2:qi2 (gP m y C) (qf0 m C).length k*(q0e (gP m y C) (qf0 m C).length k).tdiv (qe2 (qi2 (gP m y C) (qf0 m C).length k) (q0e (gP m y C) (qf0 m C).length k))=qi2 (gP m y C) (qf0 m C).length (k+1):=rfl
  rw[e2]
  unfold qc8 at *
  repeat' refine And.intro ?_ ?_
  all_goals first
   | omega
   | exact qa7 (by omega) (by omega)
   | exact b1.2
   | exact b2.2
   | exact t1.1.2
   | exact hd.2
   | exact⟨k+1,by omega,by omega,rfl,by omega⟩
 obtain rfl:k=(qf0 m C).length:=by omega
 rw[hT0]
 refine⟨(),0,Nat.zero_le _,⟨rfl,rfl⟩,λi hi=>⟨λhlt=>?_,λhge3=>?_⟩⟩
 ·have b1:=h.out i hlt
  unfold qc8 at b1
  refine⟨hlt,qa7 (by omega) (by omega),by rw[List.length_take,hz0]; omega,qa7 (by omega) (by omega),i+1,by omega,by omega,by omega,?_⟩
  rw[q0c _ i (by rw[hz0]; exact hlt),hza 0 i hlt]
  rfl
 obtain rfl:i=y.length:=by omega
 refine⟨(),0,Nat.zero_le _,⟨rfl,List.take_of_length_le (by rw[hz0]; exact Nat.le_refl _)⟩,λk hk2=>⟨λhlt=>?_,λhge4=>by
  obtain rfl:k=(qf0 m C).length:=by omega
  exact⟨rfl,rfl⟩⟩⟩
 have hrow:=hGe k hlt
 have b1:=h.big k hlt k (by omega)
 have b2:=h.big k hlt (qf0 m C).length (by omega)
 have nz:=h.nz k hlt
 have dz:=h.dnz k hlt
 have g1:=qm8 (a:=nI (nL (gP m y C) k) k) (b:=nI (nL (gP m y C) k) (qf0 m C).length) (Or.inl nz)
 have t1:=(h.tms (qf0 m C).length (Nat.le_refl _)).1
 rw[hT0] at t1
 have hq:qc8 BIG ((qh0 m y C).tdiv (q0e (gP m y C) (qf0 m C).length k)):=ql3 t1
 have hd:qc8 BIG (q0e (gP m y C) (qf0 m C).length k):=ql3 b1
 have hn:qc8 BIG (q8d (gP m y C) (qf0 m C).length k):=ql3 b2
 have hm:=h.mul k hlt
 have hcl:(qi1 m (nI (qf0 m C) k).toNat).length=m.length:=qi7 _ _
 have hfin:∃v20:Unit,∃v21:Nat,True:=⟨(),0,trivial⟩
 unfold qc8 at b1 b2 t1 hq hd hn hm
 repeat' refine And.intro ?_ ?_
 all_goals first
  | omega
  | exact qa7 (by omega) (by omega)
  | exact b1.2
  | exact b2.2
  | exact h.col k hlt
  | skip
 refine⟨k,0,Nat.zero_le _,⟨rfl,(qv5 (.int .i64) _ _).symm⟩,λt ht=>⟨λhlt2=>?_,λhge5=>?_⟩⟩
 ·rw[hcl] at hlt2
  have hol:(ovr (.int .i64) (rsE m y (qf0 m C) (gP m y C) (qh0 m y C) (k+1)) (rsL m y (qf0 m C) (gP m y C) (qh0 m y C) k) t).length=m.length:=by rw[qq5]; exact(hz0 k).trans hyl
  have hat:nI (ovr (.int .i64) (rsE m y (qf0 m C) (gP m y C) (qh0 m y C) (k+1)) (rsL m y (qf0 m C) (gP m y C) (qh0 m y C) k) t) t=rsE m y (qf0 m C) (gP m y C) (qh0 m y C) k t:=
   ((q3t (.int .i64) _ _ _ _ (by rw[hz0]; omega)).trans (if_neg (Nat.lt_irrefl _))).trans (hza k t (by omega))
  obtain⟨s1,s2⟩:=h.sub k hlt t (by omega)
  have e:rsE m y (qf0 m C) (gP m y C) (qh0 m y C) (k+1) t=rsE m y (qf0 m C) (gP m y C) (qh0 m y C) k t-nI (qi1 m (nI (qf0 m C) k).toNat) t*((qh0 m y C).tdiv (q0e (gP m y C) (qf0 m C).length k)*q8d (gP m y C) (qf0 m C).length k):=rfl
  rw[hat,<- e,hcl,hol]
  unfold qc8 at s1 s2
  exact⟨hlt2,hlt2,hlt2,qa7 (by omega) (by omega),qa7 (by omega) (by omega),hlt2,hlt2,qa7 (by omega) (by omega),t+1,hlt2,by omega,by omega,qt4 (.int .i64) _ _ _⟩
 ·obtain rfl:t=m.length:=by omega
  refine⟨qa7 (by omega) (by omega),k+1,by omega,by omega,by omega,?_⟩
  rw[q07 (.int .i64) _ _ _ (by rw[hz0]; omega),hz0]
  rfl
end Go.Proofs.YtmijnbjlhnpokaaGreat
