/- Lengths of a slice of slices. No condition. -/
import Derived.Test.YtmijnbjlhnpokaaGreatW29
import Derived.Test.YtmijnbjlhnpokaaGreatZ4
import Derived.Test.YtmijnbjlhnpokaaGreatRows
import Derived.Test.YtmijnbjlhnpokaaGreatCore
import Derived.ProofKit
import Derived.OpenShut
import Derived.ShutString
import Derived.ChangeOld
import Derived.Below
import Derived.Deep.Matrix
set_option linter.unusedVariables false
set_option linter.unusedSimpArgs false
namespace Go.Proofs.YtmijnbjlhnpokaaGreat
open Go Go.RowKit Eng
def qb9 (C:List Int) (q:Int):Nat->List Int × Bool
 | 0=>([],false)
 | k+1=>if q<=nI C k/\(qb9 C q k).2=false then(if q<nI C k then(qb9 C q k).1++[q]++[nI C k] else(qb9 C q k).1++[nI C k],true) else((qb9 C q k).1++[nI C k],(qb9 C q k).2)
def wp7 (C:List Int) (q:Int):List Int:=if(qb9 C q C.length).2=false then(qb9 C q C.length).1++[q] else(qb9 C q C.length).1
theorem q4h (C:List Int) (q:Int):∀k,(qb9 C q k).1.length<=2*k
 | 0=>Nat.le_refl _
 | k+1=>by
  have:=q4h C q k
  rw[qb9]
  split
  ·split
   ·simp; omega
   ·simp; omega
  ·simp; omega
theorem w9j (C:List Int) (q:Int):∀k,∀a,a<k->nI C a∈(qb9 C q k).1
 | 0,a,h=>absurd h (Nat.not_lt_zero _)
 | k+1,a,h=>by
  have ih:=w9j C q k
  rw[qb9]
  rcases Nat.lt_succ_iff_lt_or_eq.1 h with e | e
  ·have:=ih a e
   split
   ·split
    ·exact List.mem_append_left _ (List.mem_append_left _ this)
    ·exact List.mem_append_left _ this
   ·exact List.mem_append_left _ this
  ·rw[e]
   split
   ·split
    ·exact List.mem_append_right _ (List.mem_singleton.2 rfl)
    ·exact List.mem_append_right _ (List.mem_singleton.2 rfl)
   ·exact List.mem_append_right _ (List.mem_singleton.2 rfl)
theorem xi8 (C:List Int) (q:Int):∀a,a<C.length->∃k,k<(wp7 C q).length/\nI (wp7 C q) k=nI C a:=λa ha=>by
 have h:=w9j C q C.length a ha
 have h2:nI C a∈wp7 C q:=by
  unfold wp7
  split
  ·exact List.mem_append_left _ h
  ·exact h
 obtain⟨k,h3,h4⟩:=q5k h2
 exact⟨k,h3,h4.symm⟩
theorem xi9 (C:List Int) (q:Int):(wp7 C q).length<=2*C.length+1:=by
 have:=q4h C q C.length
 unfold wp7
 split
 ·simp; omega
 ·omega
theorem q4i {m:List (List Int)} {y C:List Int} (h:(qd6 m y C).2=0):qs5 m y C=0/\(qd6 m y C).1=qj6 m y C:=by
 unfold qd6 at h ⊢
 split at h
 ·rename_i e; exact⟨e,by rw[if_pos e]⟩
 ·rename_i e; exact absurd h e
theorem AskC.sqOk {m:List (List Int)} {y C:List Int} (h:AskC m y C):wq3 (qj6 m y C):=by
 have h6:=h.msk.rows6
 have hy:=h.ylen
 refine⟨by rw[qy4]; omega,λj hj=>?_⟩
 rw[qy4] at hj
 have:=h.fracB (i:=j) (by omega)
 exact⟨this.1,this.2.1⟩
theorem AskC.sqVal {m:List (List Int)} {y C:List Int} (h:AskC m y C):q0m (qk3 (qj6 m y C) (qj6 m y C).length)*(qh0 m y C*qh0 m y C)=q0o (qk3 (qj6 m y C) (qj6 m y C).length)*(sm m.length λi=>nI (qe8 m y C) i*nI (qe8 m y C) i)/\0<q0o (qk3 (qj6 m y C) (qj6 m y C).length):=by
 have h1:=h.t1
 have hy:=h.ylen
 have hu:∀i,∃u:Int,i<m.length->qh0 m y C=(nR (qj6 m y C) i).2*u/\nI (qe8 m y C) i=(nR (qj6 m y C) i).1*u:=λi=>by
  by_cases hi:i<m.length
  ·obtain⟨_,_,_,u,d,e⟩:=wg9 (nI (qe8 m y C) i) h1.1
   exact⟨u,λ_=>by rw[h.frac hi]; exact⟨d,e⟩⟩
  ·exact⟨0,λq=>absurd q hi⟩
 obtain⟨u,hu⟩:=Classical.axiomOfChoice hu
 have:=xm2 (x:=qj6 m y C) (L:=qh0 m y C) (r:=nI (qe8 m y C)) (u:=u) m.length λj hj=>by
  have hb:=h.fracB hj
  exact⟨by omega,hu j hj⟩
 rw[qy4,hy]
 exact this
structure WidOk (m:List (List Int)) (y C W:List Int):Prop where
 pre:q2f m y W
 sq:(qd6 m y W).2=0->wq3 (qd6 m y W).1
 sq1:wq3 (qd6 m y C).1
 rx:(qd6 m y W).2=0->RxOk 300 (qk3 (qd6 m y W).1 (qd6 m y W).1.length)/\RxOk 300 (qk3 (qd6 m y C).1 (qd6 m y C).1.length)
 le:(qd6 m y W).2=0->q5u (qk3 (qd6 m y W).1 (qd6 m y W).1.length) (qk3 (qd6 m y C).1 (qd6 m y C).1.length)<=0
theorem x6m {m:List (List Int)} {y C:List Int} (q:Int) (hl:C.length<=100) (he:(qd6 m y C).2=0):WidOk m y C (wp7 C q):=by
 have hw:=xi9 C q
 obtain⟨c1,c2⟩:=q4i he
 have hA:=AskC.of c1
 have rx:∀D,AskC m y D->RxOk 300 (qk3 (qj6 m y D) (qj6 m y D).length):=λD hD=>by
  have h6:=hD.msk.rows6
  have hy:=hD.ylen
  have:=ww4 hD.sqOk (qj6 m y D).length (Nat.le_refl _)
  rw[qy4] at this ⊢
  exact this.up
 refine⟨xl9 (by omega),λh=>?_,by rw[c2]; exact hA.sqOk,λh=>?_,λh=>?_⟩
 ·obtain⟨d1,d2⟩:=q4i h
  rw[d2]; exact(AskC.of d1).sqOk
 ·obtain⟨d1,d2⟩:=q4i h
  rw[d2,c2]; exact⟨rx _ (AskC.of d1),rx _ hA⟩
 ·obtain⟨d1,d2⟩:=q4i h
  have hB:=AskC.of d1
  rw[d2,c2]
  refine x2m ?_
  obtain⟨n1,p1⟩:=hB.sqVal
  obtain⟨n2,p2⟩:=hA.sqVal
  have t1:=hA.t1.1
  have t2:=hB.t1.1
  have hp:=w9i hA hB (xi8 C q)
  generalize q0m (qk3 (qj6 m y (wp7 C q)) (qj6 m y (wp7 C q)).length)=N1 at n1 ⊢
  generalize q0o (qk3 (qj6 m y (wp7 C q)) (qj6 m y (wp7 C q)).length)=D1 at n1 p1 ⊢
  generalize q0m (qk3 (qj6 m y C) (qj6 m y C).length)=N2 at n2 ⊢
  generalize q0o (qk3 (qj6 m y C) (qj6 m y C).length)=D2 at n2 p2 ⊢
  generalize qh0 m y (wp7 C q)=T1 at *
  generalize qh0 m y C=T2 at *
  generalize(sm m.length λi=>nI (qe8 m y (wp7 C q)) i*nI (qe8 m y (wp7 C q)) i)=S1 at *
  generalize(sm m.length λi=>nI (qe8 m y C) i*nI (qe8 m y C) i)=S2 at *
  have hT1:0<T1*T1:=Int.mul_pos t2 t2
  have hT2:0<T2*T2:=Int.mul_pos t1 t1
  refine Int.le_of_mul_le_mul_right (a:=(T1*T1)*(T2*T2)) ?_ (Int.mul_pos hT1 hT2)
  have e1:N1*D2*(T1*T1*(T2*T2))=(D1*D2)*(S1*(T2*T2)):=by
   calc N1*D2*(T1*T1*(T2*T2))=(N1*(T1*T1))*D2*(T2*T2):=by grind
    _=(D1*S1)*D2*(T2*T2):=by rw[n1]
    _=_:=by grind
  have e2:N2*D1*(T1*T1*(T2*T2))=(D1*D2)*(S2*(T1*T1)):=by
   calc N2*D1*(T1*T1*(T2*T2))=(N2*(T2*T2))*D1*(T1*T1):=by grind
    _=(D2*S2)*D1*(T1*T1):=by rw[n2]
    _=_:=by grind
  rw[e1,e2]
  exact Int.mul_le_mul_of_nonneg_left hp (Int.le_of_lt (Int.mul_pos p1 p2))
theorem xj0 {C:List Int} {q:Int} {k:Nat} (hl:C.length<=100) (hlt:k<C.length):(q<=nI C k->((qb9 C q k).2=false->(q<nI C k->(qb9 C q k).1.length+1<=1000000/\((qb9 C q k).1++[q]).length+1<=1000000/\fits IntKind.i64 ((k:Int)+1)/\∃v:Nat,v<=C.length/\C.length-v<C.length-k/\(true=(qb9 C q v).2/\(k:Int)+1=(v:Int))/\(qb9 C q k).1++[q]++[nI C k]=(qb9 C q v).1) /\
  (nI C k<=q->(qb9 C q k).1.length+1<=1000000/\fits IntKind.i64 ((k:Int)+1)/\∃v:Nat,v<=C.length/\C.length-v<C.length-k/\(true=(qb9 C q v).2/\(k:Int)+1=(v:Int))/\(qb9 C q k).1++[nI C k]=(qb9 C q v).1)) /\
  ((qb9 C q k).2=true->(qb9 C q k).1.length+1<=1000000/\fits IntKind.i64 ((k:Int)+1)/\∃v:Nat,v<=C.length/\C.length-v<C.length-k/\((qb9 C q k).2=(qb9 C q v).2/\(k:Int)+1=(v:Int))/\(qb9 C q k).1++[nI C k]=(qb9 C q v).1)) /\
  (nI C k<q->(qb9 C q k).1.length+1<=1000000/\fits IntKind.i64 ((k:Int)+1)/\∃v:Nat,v<=C.length/\C.length-v<C.length-k/\((qb9 C q k).2=(qb9 C q v).2/\(k:Int)+1=(v:Int))/\(qb9 C q k).1++[nI C k]=(qb9 C q v).1):=by
 have hw:=q4h C q k
 have hf:fits IntKind.i64 ((k:Int)+1):=qa7 (by omega) (by omega)
 refine⟨λh1=>⟨λh2=>⟨λh3=>⟨by omega,by rw[List.length_append,List.length_singleton]; omega,hf,k+1,by omega,by omega,?_⟩,λh3=>⟨by omega,hf,k+1,by omega,by omega,?_⟩⟩,λh2=>⟨by omega,hf,k+1,by omega,by omega,?_⟩⟩,λh1=>⟨by omega,hf,k+1,by omega,by omega,?_⟩⟩
 ·rw[qb9,if_pos ⟨h1,h2⟩,if_pos h3]; exact⟨⟨rfl,by omega⟩,rfl⟩
 ·rw[qb9,if_pos ⟨h1,h2⟩,if_neg (by omega)]; exact⟨⟨rfl,by omega⟩,rfl⟩
 ·rw[qb9,if_neg λe=>by rw[h2] at e; exact absurd e.2 (by decide)]; exact⟨⟨rfl,by omega⟩,rfl⟩
 ·rw[qb9,if_neg λe=>by have:=e.1; omega]; exact⟨⟨rfl,by omega⟩,rfl⟩
theorem WidOk.end_ {m:List (List Int)} {y C W:List Int} (h:WidOk m y C W):q2f m y W/\((qd6 m y W).2=0->wq3 (qd6 m y W).1/\wq3 (qd6 m y C).1/\(RxOk 300 (qk3 (qd6 m y W).1 (qd6 m y W).1.length)/\RxOk 300 (qk3 (qd6 m y C).1 (qd6 m y C).1.length))/\(0<q5u (qk3 (qd6 m y W).1 (qd6 m y W).1.length) (qk3 (qd6 m y C).1 (qd6 m y C).1.length)->false=true)):=
 ⟨h.pre,λh0=>⟨h.sq h0,h.sq1,h.rx h0,λq=>absurd (h.le h0) (by omega)⟩⟩
def x6n (m:List (List Int)) (y C:List Int) (q:Int):Nat->Option Inv
 | 0=>some (Inv.of [54] 0 (λk:Nat=>[(54,.lit (.int .i64 k))]) (λ_=>[]) (λk=>k<=(qj6 m y C).length) (λk=>(qj6 m y C).length-k))
 | 1=>some (Inv.of [69] 0 (λk:Nat=>[(69,.lit (.int .i64 k))]) (λ_=>[]) (λk=>k<=C.length) (λk=>C.length-k))
 | 2=>some (Inv.of [21,22,115] 1 (λk:Nat=>[(21,.own 0),(22,.lit (.bool (qb9 C q k).2)),(115,.lit (.int .i64 k))]) (λk=>[.vec 3 (.int .i64) (qb9 C q k).1]) (λk=>k<=C.length) (λk=>C.length-k))
 | _=>none
abbrev x6o:qc9:=qg4 true none [qo2,qf1,qf1,qg0] [.bool] (λx=>wh2 x.1) (λ_=>(true,()))
theorem q2d:Meets Tryz.prog 6 x6o:=by
 refine meets (snd (SpecsOk.cons w30 (SpecsOk.cons wo7 (SpecsOk.cons w8w (SpecsOk.cons w8y (SpecsOk.cons w4j (SpecsOk.cons q79 (SpecsOk.cons w4i (SpecsOk.cons w9d (SpecsOk.cons w9h (SpecsOk.cons w9f (SpecsOk.nil _)))))))))))) Tryz.func6 rfl rfl (λx=>x6n x.1 x.2.1 x.2.2.1 x.2.2.2.1) (λ_=>by kernel_rfl) (by decide) ?_
 rintro⟨m,y,C,q,⟨⟩⟩ h
 revert m y C q
 intro(m:List (List Int)) (y:List Int) (C:List Int) (q:Int) (h:wh2 m)
 refine @qe1 _ (let Q0:=((qk3 (qd6 m y C).1 (qd6 m y C).1.length).1,(qk3 (qd6 m y C).1 (qd6 m y C).1.length).2.1,(qk3 (qd6 m y C).1 (qd6 m y C).1.length).2.2); let Q1:=qd6 m y C; let Q2:=qj6 m y C; let Q3:=w4n m y; List.length [y,C]<=(1000:Nat)/\(we7 [y,C]=true->True/\true=true)/\(we7 [y,C]=false->(decide ((100:Int)<(↑m.length:Int))=true->True/\true=true)/\(decide ((100:Int)<(↑m.length:Int))=false->q2f m y C/\((Q1.2 != (0:Int))=true->True/\true=true)/\((Q1.2 != (0:Int))=false->(((↑Q1.1.length:Int) != (↑m.length:Int))=true->false=true)/\(((↑Q1.1.length:Int) != (↑m.length:Int))=false->∃(v4:Unit),∃(v5:Nat),Nat.le v5 Q2.length/\(((0:Int)=(↑v5:Int)/\True)/\True)/\∀(v6:Nat),Nat.le v6 Q2.length->(decide ((↑v6:Int)<(↑Q1.1.length:Int))=true->((0:Int)<=(↑v6:Int)/\(↑v6:Int)<(↑Q1.1.length:Int))/\(decide ((qd1 (Ty.prod (Ty.int .i64) (Ty.int .i64)) Q1.1 v6).2<(1:Int))=true->false=true)/\(decide ((qd1 (Ty.prod (Ty.int .i64) (Ty.int .i64)) Q1.1 v6).2<(1:Int))=false->(decide ((50000:Int)<(qd1 (Ty.prod (Ty.int .i64) (Ty.int .i64)) Q1.1 v6).2)=true->false=true)/\(decide ((50000:Int)<(qd1 (Ty.prod (Ty.int .i64) (Ty.int .i64)) Q1.1 v6).2)=false->fits .i64 ((↑v6:Int)+(1:Int))/\∃(v11:Nat),Nat.le v11 Q2.length/\Q2.length-v11<Q2.length-v6/\((↑v6:Int)+(1:Int)=(↑v11:Int)/\True)/\True)))/\(decide ((↑v6:Int)<(↑Q1.1.length:Int))=false->∃(v9:Unit),∃(v10:Nat),Nat.le v10 C.length/\(((0:Int)=(↑v10:Int)/\True)/\True)/\∀(v11:Nat),Nat.le v11 C.length->(decide ((↑v11:Int)<(↑C.length:Int))=true->((0:Int)<=(↑v11:Int)/\(↑v11:Int)<(↑C.length:Int))/\xu7 m (nI C v11)/\(((q4j m (nI C v11)).2 != (0:Int))=true->false=true)/\(((q4j m (nI C v11)).2 != (0:Int))=false->w9c (q4j m (nI C v11)).1 Q1.1/\qc8 BIG (0:Int)/\(RxOk (300:Nat) ((qe6 (q4j m (nI C v11)).1 Q1.1 (q4j m (nI C v11)).1.length).1,(qe6 (q4j m (nI C v11)).1 Q1.1 (q4j m (nI C v11)).1.length).2.1,(qe6 (q4j m (nI C v11)).1 Q1.1 (q4j m (nI C v11)).1.length).2.2)/\RxOk (300:Nat) ((qc7 (0:Int) (1:Int)).1,(qc7 (0:Int) (1:Int)).2.1,(qc7 (0:Int) (1:Int)).2.2))/\((q5u ((qe6 (q4j m (nI C v11)).1 Q1.1 (q4j m (nI C v11)).1.length).1,(qe6 (q4j m (nI C v11)).1 Q1.1 (q4j m (nI C v11)).1.length).2.1,(qe6 (q4j m (nI C v11)).1 Q1.1 (q4j m (nI C v11)).1.length).2.2) ((qc7 (0:Int) (1:Int)).1,(qc7 (0:Int) (1:Int)).2.1,(qc7 (0:Int) (1:Int)).2.2) != (0:Int))=true->false=true)/\((q5u ((qe6 (q4j m (nI C v11)).1 Q1.1 (q4j m (nI C v11)).1.length).1,(qe6 (q4j m (nI C v11)).1 Q1.1 (q4j m (nI C v11)).1.length).2.1,(qe6 (q4j m (nI C v11)).1 Q1.1 (q4j m (nI C v11)).1.length).2.2) ((qc7 (0:Int) (1:Int)).1,(qc7 (0:Int) (1:Int)).2.1,(qc7 (0:Int) (1:Int)).2.2) != (0:Int))=false->fits .i64 ((↑v11:Int)+(1:Int))/\∃(v16:Nat),Nat.le v16 C.length/\C.length-v16<C.length-v11/\((↑v11:Int)+(1:Int)=(↑v16:Int)/\True)/\True)))/\(decide ((↑v11:Int)<(↑C.length:Int))=false->True/\w9g m/\(((q4g m).2 != (0:Int))=true->false=true)/\(((q4g m).2 != (0:Int))=false->((Q3.2==(0:Int))=true->(decide ((q4g m).1<(↑Q3.1.length:Int))=true->false=true)/\(decide ((q4g m).1<(↑Q3.1.length:Int))=false->∃(v17:Unit),∃(v18:Nat),Nat.le v18 C.length/\((True/\false=(qb9 C q v18).2/\(0:Int)=(↑v18:Int)/\True)/\(qb9 C q v18).1=[]/\True)/\∀(v19:Nat),Nat.le v19 C.length->(decide ((↑v19:Int)<(↑C.length:Int))=true->((0:Int)<=(↑v19:Int)/\(↑v19:Int)<(↑C.length:Int))/\(decide (q<=nI C v19)=true->((!(qb9 C q v19).2)=true->(decide (q<nI C v19)=true->((0:Nat)<List.length [q]/\Nat.le ((qb9 C q v19).1.length+List.length [q]) (1000000:Nat))/\((0:Nat)<List.length [nI C v19]/\Nat.le (((qb9 C q v19).1++[q]).length+List.length [nI C v19]) (1000000:Nat))/\fits .i64 ((↑v19:Int)+(1:Int))/\∃(v25:Nat),Nat.le v25 C.length/\C.length-v25<C.length-v19/\(True/\true=(qb9 C q v25).2/\(↑v19:Int)+(1:Int)=(↑v25:Int)/\True)/\(qb9 C q v19).1++[q]++[nI C v19]=(qb9 C q v25).1/\True)/\(decide (q<nI C v19)=false->((0:Nat)<List.length [nI C v19]/\Nat.le ((qb9 C q v19).1.length+List.length [nI C v19]) (1000000:Nat))/\fits .i64 ((↑v19:Int)+(1:Int))/\∃(v25:Nat),Nat.le v25 C.length/\C.length-v25<C.length-v19/\(True/\true=(qb9 C q v25).2/\(↑v19:Int)+(1:Int)=(↑v25:Int)/\True)/\(qb9 C q v19).1++[nI C v19]=(qb9 C q v25).1/\True))/\((!(qb9 C q v19).2)=false->((0:Nat)<List.length [nI C v19]/\Nat.le ((qb9 C q v19).1.length+List.length [nI C v19]) (1000000:Nat))/\fits .i64 ((↑v19:Int)+(1:Int))/\∃(v24:Nat),Nat.le v24 C.length/\C.length-v24<C.length-v19/\(True/\(qb9 C q v19).2=(qb9 C q v24).2/\(↑v19:Int)+(1:Int)=(↑v24:Int)/\True)/\(qb9 C q v19).1++[nI C v19]=(qb9 C q v24).1/\True))/\(decide (q<=nI C v19)=false->((0:Nat)<List.length [nI C v19]/\Nat.le ((qb9 C q v19).1.length+List.length [nI C v19]) (1000000:Nat))/\fits .i64 ((↑v19:Int)+(1:Int))/\∃(v23:Nat),Nat.le v23 C.length/\C.length-v23<C.length-v19/\(True/\(qb9 C q v19).2=(qb9 C q v23).2/\(↑v19:Int)+(1:Int)=(↑v23:Int)/\True)/\(qb9 C q v19).1++[nI C v19]=(qb9 C q v23).1/\True))/\(decide ((↑v19:Int)<(↑C.length:Int))=false->((!(qb9 C q v19).2)=true->((0:Nat)<List.length [q]/\Nat.le ((qb9 C q v19).1.length+List.length [q]) (1000000:Nat))/\q2f m y ((qb9 C q v19).1++[q])/\(((qd6 m y ((qb9 C q v19).1++[q])).2 != (0:Int))=true->True/\true=true)/\(((qd6 m y ((qb9 C q v19).1++[q])).2 != (0:Int))=false->wq3 (qd6 m y ((qb9 C q v19).1++[q])).1/\wq3 Q1.1/\(RxOk (300:Nat) ((qk3 (qd6 m y ((qb9 C q v19).1++[q])).1 (qd6 m y ((qb9 C q v19).1++[q])).1.length).1,(qk3 (qd6 m y ((qb9 C q v19).1++[q])).1 (qd6 m y ((qb9 C q v19).1++[q])).1.length).2.1,(qk3 (qd6 m y ((qb9 C q v19).1++[q])).1 (qd6 m y ((qb9 C q v19).1++[q])).1.length).2.2)/\RxOk (300:Nat) Q0)/\(decide (q5u ((qk3 (qd6 m y ((qb9 C q v19).1++[q])).1 (qd6 m y ((qb9 C q v19).1++[q])).1.length).1,(qk3 (qd6 m y ((qb9 C q v19).1++[q])).1 (qd6 m y ((qb9 C q v19).1++[q])).1.length).2.1,(qk3 (qd6 m y ((qb9 C q v19).1++[q])).1 (qd6 m y ((qb9 C q v19).1++[q])).1.length).2.2) Q0<=(0:Int))=true->True/\true=true)/\(decide (q5u ((qk3 (qd6 m y ((qb9 C q v19).1++[q])).1 (qd6 m y ((qb9 C q v19).1++[q])).1.length).1,(qk3 (qd6 m y ((qb9 C q v19).1++[q])).1 (qd6 m y ((qb9 C q v19).1++[q])).1.length).2.1,(qk3 (qd6 m y ((qb9 C q v19).1++[q])).1 (qd6 m y ((qb9 C q v19).1++[q])).1.length).2.2) Q0<=(0:Int))=false->false=true)))/\((!(qb9 C q v19).2)=false->q2f m y (qb9 C q v19).1/\(((qd6 m y (qb9 C q v19).1).2 != (0:Int))=true->True/\true=true)/\(((qd6 m y (qb9 C q v19).1).2 != (0:Int))=false->wq3 (qd6 m y (qb9 C q v19).1).1/\wq3 Q1.1/\(RxOk (300:Nat) ((qk3 (qd6 m y (qb9 C q v19).1).1 (qd6 m y (qb9 C q v19).1).1.length).1,(qk3 (qd6 m y (qb9 C q v19).1).1 (qd6 m y (qb9 C q v19).1).1.length).2.1,(qk3 (qd6 m y (qb9 C q v19).1).1 (qd6 m y (qb9 C q v19).1).1.length).2.2)/\RxOk (300:Nat) Q0)/\(decide (q5u ((qk3 (qd6 m y (qb9 C q v19).1).1 (qd6 m y (qb9 C q v19).1).1.length).1,(qk3 (qd6 m y (qb9 C q v19).1).1 (qd6 m y (qb9 C q v19).1).1.length).2.1,(qk3 (qd6 m y (qb9 C q v19).1).1 (qd6 m y (qb9 C q v19).1).1.length).2.2) Q0<=(0:Int))=true->True/\true=true)/\(decide (q5u ((qk3 (qd6 m y (qb9 C q v19).1).1 (qd6 m y (qb9 C q v19).1).1.length).1,(qk3 (qd6 m y (qb9 C q v19).1).1 (qd6 m y (qb9 C q v19).1).1.length).2.1,(qk3 (qd6 m y (qb9 C q v19).1).1 (qd6 m y (qb9 C q v19).1).1.length).2.2) Q0<=(0:Int))=false->false=true))))))/\((Q3.2==(0:Int))=false->∃(v16:Unit),∃(v17:Nat),Nat.le v17 C.length/\((True/\false=(qb9 C q v17).2/\(0:Int)=(↑v17:Int)/\True)/\(qb9 C q v17).1=[]/\True)/\∀(v18:Nat),Nat.le v18 C.length->(decide ((↑v18:Int)<(↑C.length:Int))=true->((0:Int)<=(↑v18:Int)/\(↑v18:Int)<(↑C.length:Int))/\(decide (q<=nI C v18)=true->((!(qb9 C q v18).2)=true->(decide (q<nI C v18)=true->((0:Nat)<List.length [q]/\Nat.le ((qb9 C q v18).1.length+List.length [q]) (1000000:Nat))/\((0:Nat)<List.length [nI C v18]/\Nat.le (((qb9 C q v18).1++[q]).length+List.length [nI C v18]) (1000000:Nat))/\fits .i64 ((↑v18:Int)+(1:Int))/\∃(v24:Nat),Nat.le v24 C.length/\C.length-v24<C.length-v18/\(True/\true=(qb9 C q v24).2/\(↑v18:Int)+(1:Int)=(↑v24:Int)/\True)/\(qb9 C q v18).1++[q]++[nI C v18]=(qb9 C q v24).1/\True)/\(decide (q<nI C v18)=false->((0:Nat)<List.length [nI C v18]/\Nat.le ((qb9 C q v18).1.length+List.length [nI C v18]) (1000000:Nat))/\fits .i64 ((↑v18:Int)+(1:Int))/\∃(v24:Nat),Nat.le v24 C.length/\C.length-v24<C.length-v18/\(True/\true=(qb9 C q v24).2/\(↑v18:Int)+(1:Int)=(↑v24:Int)/\True)/\(qb9 C q v18).1++[nI C v18]=(qb9 C q v24).1/\True))/\((!(qb9 C q v18).2)=false->((0:Nat)<List.length [nI C v18]/\Nat.le ((qb9 C q v18).1.length+List.length [nI C v18]) (1000000:Nat))/\fits .i64 ((↑v18:Int)+(1:Int))/\∃(v23:Nat),Nat.le v23 C.length/\C.length-v23<C.length-v18/\(True/\(qb9 C q v18).2=(qb9 C q v23).2/\(↑v18:Int)+(1:Int)=(↑v23:Int)/\True)/\(qb9 C q v18).1++[nI C v18]=(qb9 C q v23).1/\True))/\(decide (q<=nI C v18)=false->((0:Nat)<List.length [nI C v18]/\Nat.le ((qb9 C q v18).1.length+List.length [nI C v18]) (1000000:Nat))/\fits .i64 ((↑v18:Int)+(1:Int))/\∃(v22:Nat),Nat.le v22 C.length/\C.length-v22<C.length-v18/\(True/\(qb9 C q v18).2=(qb9 C q v22).2/\(↑v18:Int)+(1:Int)=(↑v22:Int)/\True)/\(qb9 C q v18).1++[nI C v18]=(qb9 C q v22).1/\True))/\(decide ((↑v18:Int)<(↑C.length:Int))=false->((!(qb9 C q v18).2)=true->((0:Nat)<List.length [q]/\Nat.le ((qb9 C q v18).1.length+List.length [q]) (1000000:Nat))/\q2f m y ((qb9 C q v18).1++[q])/\(((qd6 m y ((qb9 C q v18).1++[q])).2 != (0:Int))=true->True/\true=true)/\(((qd6 m y ((qb9 C q v18).1++[q])).2 != (0:Int))=false->wq3 (qd6 m y ((qb9 C q v18).1++[q])).1/\wq3 Q1.1/\(RxOk (300:Nat) ((qk3 (qd6 m y ((qb9 C q v18).1++[q])).1 (qd6 m y ((qb9 C q v18).1++[q])).1.length).1,(qk3 (qd6 m y ((qb9 C q v18).1++[q])).1 (qd6 m y ((qb9 C q v18).1++[q])).1.length).2.1,(qk3 (qd6 m y ((qb9 C q v18).1++[q])).1 (qd6 m y ((qb9 C q v18).1++[q])).1.length).2.2)/\RxOk (300:Nat) Q0)/\(decide (q5u ((qk3 (qd6 m y ((qb9 C q v18).1++[q])).1 (qd6 m y ((qb9 C q v18).1++[q])).1.length).1,(qk3 (qd6 m y ((qb9 C q v18).1++[q])).1 (qd6 m y ((qb9 C q v18).1++[q])).1.length).2.1,(qk3 (qd6 m y ((qb9 C q v18).1++[q])).1 (qd6 m y ((qb9 C q v18).1++[q])).1.length).2.2) Q0<=(0:Int))=true->True/\true=true)/\(decide (q5u ((qk3 (qd6 m y ((qb9 C q v18).1++[q])).1 (qd6 m y ((qb9 C q v18).1++[q])).1.length).1,(qk3 (qd6 m y ((qb9 C q v18).1++[q])).1 (qd6 m y ((qb9 C q v18).1++[q])).1.length).2.1,(qk3 (qd6 m y ((qb9 C q v18).1++[q])).1 (qd6 m y ((qb9 C q v18).1++[q])).1.length).2.2) Q0<=(0:Int))=false->false=true)))/\((!(qb9 C q v18).2)=false->q2f m y (qb9 C q v18).1/\(((qd6 m y (qb9 C q v18).1).2 != (0:Int))=true->True/\true=true)/\(((qd6 m y (qb9 C q v18).1).2 != (0:Int))=false->wq3 (qd6 m y (qb9 C q v18).1).1/\wq3 Q1.1/\(RxOk (300:Nat) ((qk3 (qd6 m y (qb9 C q v18).1).1 (qd6 m y (qb9 C q v18).1).1.length).1,(qk3 (qd6 m y (qb9 C q v18).1).1 (qd6 m y (qb9 C q v18).1).1.length).2.1,(qk3 (qd6 m y (qb9 C q v18).1).1 (qd6 m y (qb9 C q v18).1).1.length).2.2)/\RxOk (300:Nat) Q0)/\(decide (q5u ((qk3 (qd6 m y (qb9 C q v18).1).1 (qd6 m y (qb9 C q v18).1).1.length).1,(qk3 (qd6 m y (qb9 C q v18).1).1 (qd6 m y (qb9 C q v18).1).1.length).2.1,(qk3 (qd6 m y (qb9 C q v18).1).1 (qd6 m y (qb9 C q v18).1).1.length).2.2) Q0<=(0:Int))=true->True/\true=true)/\(decide (q5u ((qk3 (qd6 m y (qb9 C q v18).1).1 (qd6 m y (qb9 C q v18).1).1.length).1,(qk3 (qd6 m y (qb9 C q v18).1).1 (qd6 m y (qb9 C q v18).1).1.length).2.1,(qk3 (qd6 m y (qb9 C q v18).1).1 (qd6 m y (qb9 C q v18).1).1.length).2.2) Q0<=(0:Int))=false->false=true))))))))))))) (by kernel_rfl) ?_
 try simp only[z0,z1,z2,z3,z4,z5,z6,z7,z8,z9,z10,Int.reduceEq,z11,z12,z13,z14,z15,z16,z17,z18,z19,z20,z21,z22,z23,z24,z25,z26,z27,z28,z29,z30,Int.reduceLE,Int.reduceLT,z31,z32,z33,z34,qa1]
 try simp only[qb5,qb6,qd2,z31,z32,z2,z1]
 refine⟨by decide,λhg hm100=>?_⟩
 have hb:y.length<=100/\C.length<=100:=by
  unfold we7 at hg
  rw[List.any_eq_false] at hg
  have h1:=hg y (by simp)
  have h2:=hg C (by simp)
  exact⟨by simpa using h1,by simpa using h2⟩
 refine⟨xl9 (by omega),λhe=>?_⟩
 obtain⟨hc,hF⟩:=q4i he
 have hA:=AskC.of hc
 have hM:=hA.msk
 have h6:=hM.rows6
 have hyl:=hA.ylen
 have hfl:=qy4 m y C
 have hW:=(x6m q hb.2 he).end_
 rw[hF] at hW
 rw[hF]
 refine⟨λhn=>absurd (by rw[hfl,hyl]) hn,λ_=>⟨(),0,Nat.zero_le _,rfl,λk hk=>⟨λhlt=>?_,λhge=>⟨(),0,Nat.zero_le _,rfl,λj hj=>⟨λhlj=>?_,λhgj=>?_⟩⟩⟩⟩⟩
 ·have hfb:=hA.fracB (i:=k) (by omega)
  change _/\((nR (qj6 m y C) k).2<1->_)/\(1<=(nR (qj6 m y C) k).2->(50000<(nR (qj6 m y C) k).2->_)/\((nR (qj6 m y C) k).2<=50000->_))
  exact⟨hlt,λh1=>absurd hfb.2.2.1 (Int.not_le.2 h1),λ_=>⟨λh1=>absurd hfb.2.2.2 (Int.not_le.2 h1),λ_=>⟨qa7 (by omega) (by omega),k+1,by omega,by omega,by omega⟩⟩⟩
 ·have hin:=hA.inw.at_ j hlj
  have hn2:ww0 m [nI C j]=0:=by
   unfold ww0
   rw[if_neg (by rw[hA.val]; decide),if_neg]
   rw[w1x λi hi=>?_]; decide
   have:i=0:=by simpa using hi
   subst this
   show inB (nI C j) 0 _=true
   rw[qz9]; omega
  have hcE:q4j m (nI C j)=(qi1 m (nI C j).toNat,0):=by unfold q4j; rw[if_pos hn2]
  rw[hcE]
  have hsee:w9c (qi1 m (nI C j).toNat) (qj6 m y C):=by
   refine⟨by rw[qi7]; omega,by rw[qi7,hfl]; omega,λi hi=>?_,λi hi=>?_⟩
   ·rw[qi7] at hi
    have:=q90 hM hin hi
    unfold qc8; omega
   ·rw[qi7] at hi
    have:=hA.fracB hi
    exact⟨this.1,this.2.1⟩
  have hrx:=ww3 hsee (qi1 m (nI C j).toNat).length (Nat.le_refl _)
  have h0:=hA.sees0 hlj
  have hB:BIG=4000000000000000000:=rfl
  refine⟨hlj,⟨h,λ_=>w8z hM hin⟩,λq=>absurd rfl q,λ_=>⟨hsee,by unfold qc8; omega,⟨?_,(q0f (n:=0) (d:=1) (by unfold qc8; omega) (by unfold qc8; omega)).up⟩,λq=>absurd h0 q,λ_=>⟨qa7 (by omega) (by omega),j+1,by omega,by omega,by omega⟩⟩⟩
  rw[qi7] at hrx ⊢
  exact hrx.up
 ·have hrk:q4g m=(((qd8 m).2.length:Int),0):=by unfold q4g; rw[if_pos hA.val]
  have hI0:InW (nL m 0).length []:=⟨λj hj=>absurd hj (Nat.not_lt_zero _),by decide⟩
  have hrd:=(w2b hM hI0 λz _ c hc=>absurd hc (Nat.not_lt_zero _)).1
  have hpl:(w4n m y).2=0->(w4n m y).1.length<=(qd8 m).2.length:=λhp=>by
   have hc0:qs5 m y []=0:=by
    have e:w4n m y=if qs5 m y []=0 then w1y m y 8 [] else([],qs5 m y []):=rfl
    rw[e] at hp
    split at hp
    ·rename_i q; exact q
    ·rename_i q; exact absurd hp q
   have e:w4n m y=w1y m y 8 []:=by unfold w4n; rw[if_pos hc0]
   rw[e] at hp ⊢
   rcases PurI.all 7 [] (PurI.start hc0) rfl with⟨_,q,_⟩ | q
   ·exact(w2b hM q.ask.inw q.ind).2
   ·rw[q] at hp; cases hp
  rw[hrk]
  refine⟨⟨h,λ_=>hrd⟩,λq=>absurd rfl q,λ_=>⟨λhp=>⟨λhlt=>?_,λ_=>?_⟩,λhp=>?_⟩⟩
  ·have:=hpl hp
   omega
  all_goals refine⟨(),0,Nat.zero_le _,⟨⟨rfl,rfl⟩,rfl⟩,λk hk=>⟨λhlt=>⟨hlt,xj0 hb.2 hlt⟩,λhge=>?_⟩⟩
  all_goals have hwl:=q4h C q k
  all_goals obtain rfl:k=C.length:=by omega
  all_goals refine⟨λhf=>?_,λhf=>?_⟩
  all_goals first
   | exact⟨by rw[show wp7 C q=(qb9 C q C.length).1++[q] from if_pos hf] at hW; omega,by rw[show wp7 C q=(qb9 C q C.length).1++[q] from if_pos hf] at hW; exact hW⟩
   | (rw[show wp7 C q=(qb9 C q C.length).1 from if_neg (by rw[hf]; decide)] at hW; exact hW)
open Go.ChangeShapes Go.WideShapes Go.ChangeAt Go.RowKit Go.Deep Ls
theorem own:ownKnob Tryz.prog.godebug=none:=by kernel_rfl
theorem laidOut:laidOutB Tryz.prog=true:=by kernel_rfl
theorem x2n {H:Type} {enc:TypeId × Value->H} {W:World} {t e:TypeId} {v:Value} {d:DataW H} {p:List MemPlace} (ht:Tryz.prog.underlying t=some (.slice e)) (he:Tryz.prog.underlying e=some (.int .i64)) (ce:Tryz.prog.cellsOf e=1)
  (hv:∃a l c,v=.slice a l c) (h:DataW.Trod enc Tryz.prog W 0 (λ_=>true) true t v d p):∃a l c zs,v=.slice a l c/\SI W a l c zs:=by
 obtain⟨a,l,c,rfl⟩:=hv
 obtain⟨fuel,hf⟩:=h
 rcases open_ints ht he ce hf with⟨hcs,_⟩ | ⟨x,l',c',zs,hcs,_,hl,hm,hz,_,hcell,hwz⟩
 ·simp[Value.cells] at hcs
  obtain⟨rfl,rfl,rfl⟩:=hcs
  exact⟨_,_,_,[],rfl,SI.nil W⟩
 ·simp[Value.cells] at hcs
  obtain⟨rfl,rfl,rfl⟩:=hcs
  have hz':zs.length=c:=by simpa using hz
  refine⟨_,_,_,zs.take l,rfl,by simp; omega,hl,hm,λ_=>⟨x,rfl,λk hk=>?_⟩⟩
  rw[hcell k (by omega)]
  simp[nth,hk]
theorem x6p {H:Type} {enc:TypeId × Value->H} {W:World} {t e q:TypeId} {v:Value} {d:DataW H} {p:List MemPlace} (ht:Tryz.prog.underlying t=some (.slice e)) (he:Tryz.prog.underlying e=some (.slice q)) (hq:Tryz.prog.underlying q=some (.int .i64))
  (ce:Tryz.prog.cellsOf e=1) (cq:Tryz.prog.cellsOf q=1)
  (hv:∃a l c,v=.slice a l c) (h:DataW.Trod enc Tryz.prog W 0 (λ_=>true) true t v d p):∃a l c m,v=.slice a l c/\SM W a l c m:=by
 obtain⟨a,l,c,rfl⟩:=hv
 obtain⟨fuel,hf⟩:=h
 rcases open_int_rows ht he hq ce cq hf with⟨hcs,_⟩ | ⟨x,l',c',A,L,C,Z,hcs,_,hl,hm,_,hr⟩
 ·simp[Value.cells] at hcs
  obtain⟨rfl,rfl,rfl⟩:=hcs
  exact⟨_,_,_,[],rfl,SM.nil W⟩
 ·simp[Value.cells] at hcs
  obtain⟨rfl,rfl,rfl⟩:=hcs
  refine⟨_,_,_,(List.range l).map (λr=>(Z r).take (L r)),rfl,by simp,hl,hm,λ_=>⟨x,rfl,λk hk=>?_⟩⟩
  obtain⟨h1,h2,h3,h4,_,h6,h7⟩:=hr k (by omega)
  have e0:nthL ((List.range l).map (λr=>(Z r).take (L r))) k=(Z k).take (L k):=by simp[nthL,hk]
  have e1:((Z k).take (L k)).length=L k:=by simp; omega
  rw[e0,e1]
  refine⟨A k,C k,h1,e1,h2,h3,λhp=>?_⟩
  cases hA:A k with
  | none=>have:=h6 hA; omega
  | some a'=>
   refine⟨a',rfl,λj hj=>?_⟩
   rw[(h7 a' hA).2 j (by omega)]
   simp[nth,hj]
open Go Go.RowKit Eng Ls
theorem xv9 {w:World} {A:Option Addr} {n c:Nat} {m:List (List Int)} (s:SM w A n c m):wh2 m:=by
 have hl:=s.len
 have hn:=s.nmax
 refine⟨by omega,λi hi=>?_⟩
 obtain⟨ad,_,h⟩:=s.at_ (by omega)
 obtain⟨A',c',_,h2⟩:=h i (by omega)
 have e:nL m i=nthL m i:=by
  rw[qn4 m i hi]
  unfold nthL
  rw[List.getD_eq_getElem?_getD,List.getElem?_eq_getElem hi]
  rfl
 rw[e]
 exact h2.nmax
end Go.Proofs.YtmijnbjlhnpokaaGreat
