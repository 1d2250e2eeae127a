/- Fits collected, the sparsest ones, whole ones: contracts by the engine. No condition. -/
import Derived.Test.YtdibdlelmkcccaaGreatV23
set_option linter.unusedVariables false
set_option linter.unusedSimpArgs false
namespace Go.Proofs.YtdibdlelmkcccaaGreat
open Go Go.RowKit Eng
def ya0 (wr:List Nat) (specs:List (Nat × qc0)):Ctx:={ specs:=specs,tys:=tys,wr:=wr }
theorem ya1 (wr:List Nat) {specs:List (Nat × qc0)} (h:SpecsOk Tryz.prog specs):Sound Tryz.prog (ya0 wr specs):=SpecsOk.sound h q1o (by kernel_rfl)
def wd1 (m:List (List Int)):Nat->Int
 | 0=>0
 | k+1=>IntKind.i64.wrap (wd1 m k+IntKind.i64.wrap ((nL m k).length+1))
def wd5 (l:List Int):Bool:=decide (7<l.length) && decide (l.length<=10)
def ql0 (m:List (List Int)):Bool:=!(m.any wd5) && decide (wd1 m m.length<=200)
theorem q5j {m:List (List Int)} (hl:ql0 m=true) (hM:Mk m):(nL m 0).length<=7:=by
 unfold ql0 at hl
 rw[Bool.and_eq_true,Bool.not_eq_true',List.any_eq_false] at hl
 have h1:=hl.1 (nL m 0) (qn8 m 0 (by have:=hM.rows1; omega))
 have h2:=hM.pix10
 unfold wd5 at h1
 rw[Bool.and_eq_true,decide_eq_true_eq,decide_eq_true_eq] at h1
 omega
structure w7w (m:List (List Int)) (k:Nat):Prop where
 le:k<=m.length
 ok:∀i,i<k->wd5 (nL m i)=false
abbrev ya2:qc0:=qf8 true none [tMask] [.bool] (λx=>q77 x.1) (λx=>(ql0 x.1,()))
def x5r (m:List (List Int)):Nat->Option Inv
 | 0=>some (Inv.of [3,8] 0 (λk:Nat=>[(3,.lit (.int .i64 (wd1 m k))),(8,.lit (.int .i64 k))]) (λ_=>[]) (λk=>w7w m k) (λk=>m.length-k))
 | _=>none
theorem w7x:qd3 Tryz.prog 8 ya2:=by
 refine meets (ya1 [15,16] (SpecsOk.nil _)) Tryz.func8 rfl rfl (λx=>x5r x.1) (λ_=>by kernel_rfl) (by decide) ?_
 rintro⟨m,⟨⟩⟩ h
 revert m
 intro(m:List (List Int)) (h:q77 m)
 refine @qd8 _ (let Q0:=List.length m; ∃(v0:Unit),∃(v1:Nat),w7w m v1/\(((0:Int)=wd1 m v1/\(0:Int)=(↑v1:Int)/\True)/\True)/\∀(v2:Nat),w7w m v2->(decide ((↑v2:Int)<(↑Q0:Int))=true->((0:Int)<=(↑v2:Int)/\(↑v2:Int)<(↑Q0:Int))/\(decide ((7:Int)<(↑(List.length (qa1 (Ty.list (Ty.int .i64)) m (Int.toNat (↑v2:Int)))):Int))=true->(decide ((↑(List.length (qa1 (Ty.list (Ty.int .i64)) m (Int.toNat (↑v2:Int)))):Int)<=(10:Int))=true->false=ql0 m)/\(decide ((↑(List.length (qa1 (Ty.list (Ty.int .i64)) m (Int.toNat (↑v2:Int)))):Int)<=(10:Int))=false->fits .i64 ((↑v2:Int)+(1:Int))/\∃(v7:Nat),w7w m v7/\List.length m-v7<List.length m-v2/\(IntKind.wrap IntKind.i64 (wd1 m v2+IntKind.wrap IntKind.i64 ((↑(List.length (qa1 (Ty.list (Ty.int .i64)) m (Int.toNat (↑v2:Int)))):Int)+(1:Int)))=wd1 m v7/\(↑v2:Int)+(1:Int)=(↑v7:Int)/\True)/\True))/\(decide ((7:Int)<(↑(List.length (qa1 (Ty.list (Ty.int .i64)) m (Int.toNat (↑v2:Int)))):Int))=false->fits .i64 ((↑v2:Int)+(1:Int))/\∃(v6:Nat),w7w m v6/\List.length m-v6<List.length m-v2/\(IntKind.wrap IntKind.i64 (wd1 m v2+IntKind.wrap IntKind.i64 ((↑(List.length (qa1 (Ty.list (Ty.int .i64)) m (Int.toNat (↑v2:Int)))):Int)+(1:Int)))=wd1 m v6/\(↑v2:Int)+(1:Int)=(↑v6:Int)/\True)/\True))/\(decide ((↑v2:Int)<(↑Q0:Int))=false->decide (wd1 m v2<=(200:Int))=ql0 m)) (by kernel_rfl) ?_
 try simp only[z0,z1,z2,z3,z4,z5,z6,z7,z8,z9,z10,Int.reduceEq,z11,z12,z13,z14,z15,z16,z17,z18,z19,z20,z21,z22,z23,z24,z25,z26,z27,z28,z29,z30,Int.reduceLE,Int.reduceLT,z31,z32,z33,z34,qa4]
 try simp only[qb6,qb7,qc8,List.set_cons_zero,List.cons.injEq,and_true,true_and]
 have hr:=h.rows
 have dk:∀k,k<m.length->wd5 (nL m k)=true->ql0 m=false:=λk hk hd=>by
  have:m.any wd5=true:=List.any_eq_true.2 ⟨_,qn8 m k hk,hd⟩
  simp[ql0,this]
 refine⟨(),0,⟨Nat.zero_le _,λi hi=>absurd hi (Nat.not_lt_zero _)⟩,⟨rfl,rfl⟩,λk hk=>⟨λhlt=>⟨hlt,λh7=>⟨λh10=>?_,λh10=>⟨qa7 (by omega) (by omega),k+1,⟨hlt,λi hi=>?_⟩,by omega,rfl,by omega⟩⟩,λh7=>⟨qa7 (by omega) (by omega),k+1,⟨hlt,λi hi=>?_⟩,by omega,rfl,by omega⟩⟩,λhge=>?_⟩⟩
 ·refine(dk k hlt ?_).symm
  unfold wd5
  rw[Bool.and_eq_true,decide_eq_true_eq,decide_eq_true_eq]
  omega
 ·by_cases e:i=k
  ·subst e
   have:¬(nL m i).length<=10:=by omega
   simp[wd5,this]
  ·exact hk.ok i (by omega)
 ·by_cases e:i=k
  ·subst e
   have:¬7<(nL m i).length:=by omega
   simp[wd5,this]
  ·exact hk.ok i (by omega)
 ·obtain rfl:k=m.length:=by have:=hk.le; omega
  have:m.any wd5=false:=by
   rw[List.any_eq_false]
   intro x hx
   obtain⟨i,hi,rfl⟩:=List.getElem_of_mem hx
   rw[<- ql9 m i hi,hk.ok i hi]; decide
  simp[ql0,this]
def longB (l:List (List Int)):Bool:=l.any λx=>decide (100<x.length)
abbrev x5s:qc0:=qf8 true none [tMask] [.bool] (λx=>x.1.length<=1000) (λx=>(longB x.1,()))
structure xf7 (l:List (List Int)) (k:Nat):Prop where
 le:k<=l.length
 ok:∀i,i<k->(nL l i).length<=100
def x1e (l:List (List Int)):Nat->Option Inv
 | 0=>some (Inv.of [7] 0 (λk:Nat=>[(7,.lit (.int .i64 k))]) (λ_=>[]) (λk=>xf7 l k) (λk=>l.length-k))
 | _=>none
theorem w39:qd3 Tryz.prog 9 x5s:=by
 refine meets (snd (SpecsOk.nil _)) Tryz.func9 rfl rfl (λx=>x1e x.1) (λ_=>by kernel_rfl) (by decide) ?_
 rintro⟨l,⟨⟩⟩ h
 revert l
 intro(l:List (List Int)) (h:l.length<=1000)
 refine @qd8 _ (let Q0:=List.length l; ∃(v0:Unit),∃(v1:Nat),xf7 l v1/\(((0:Int)=(↑v1:Int)/\True)/\True)/\∀(v2:Nat),xf7 l v2->(decide ((↑v2:Int)<(↑Q0:Int))=true->((0:Int)<=(↑v2:Int)/\(↑v2:Int)<(↑Q0:Int))/\(decide ((100:Int)<(↑(List.length (qa1 (Ty.list (Ty.int .i64)) l (Int.toNat (↑v2:Int)))):Int))=true->true=longB l)/\(decide ((100:Int)<(↑(List.length (qa1 (Ty.list (Ty.int .i64)) l (Int.toNat (↑v2:Int)))):Int))=false->fits .i64 ((↑v2:Int)+(1:Int))/\∃(v6:Nat),xf7 l v6/\List.length l-v6<List.length l-v2/\((↑v2:Int)+(1:Int)=(↑v6:Int)/\True)/\True))/\(decide ((↑v2:Int)<(↑Q0:Int))=false->false=longB l)) (by kernel_rfl) ?_
 try simp only[z0,z1,z2,z3,z4,z5,z6,z7,z8,z9,z10,Int.reduceEq,z11,z12,z13,z14,z15,z16,z17,z18,z19,z20,z21,z22,z23,z24,z25,z26,z27,z28,z29,z30,Int.reduceLE,Int.reduceLT,z31,z32,z33,z34,qa4]
 try simp only[qb6,qb7,qc8,List.set_cons_zero,List.cons.injEq,and_true,true_and]
 refine⟨(),0,⟨Nat.zero_le _,λi hi=>absurd hi (Nat.not_lt_zero _)⟩,rfl,λk hk=>⟨λhlt=>⟨hlt,λh1=>?_,λh1=>⟨qa7 (by omega) (by omega),k+1,⟨hlt,λi hi=>?_⟩,by omega,by omega⟩⟩,λhge=>?_⟩⟩
 ·have:longB l=true:=List.any_eq_true.2 ⟨_,qn8 l k hlt,decide_eq_true (by omega)⟩
  exact this.symm
 ·by_cases e:i=k
  ·subst e; omega
  ·exact hk.ok i (by omega)
 ·obtain rfl:k=l.length:=by have:=hk.le; omega
  have:longB l=false:=by
   unfold longB
   rw[List.any_eq_false]
   intro x hx
   obtain⟨i,hi,rfl⟩:=List.getElem_of_mem hx
   have:=hk.ok i hi
   rw[ql9 l i hi] at this
   simp; omega
  exact this.symm
def q9c:List (List Int):=[[1,1,0],[0,1,1]]
abbrev ya3:qc0:=qf8 false none [] [tMask] (λ_=>True) (λ_=>(q9c,()))
theorem w7y:qd3 Tryz.prog 43 ya3:=by
 refine meets (snd (SpecsOk.nil _)) Tryz.func43 rfl rfl (λ_ _=>none) (λ_=>by kernel_rfl) (by decide) ?_
 rintro⟨⟩ -
 refine @qd8 _ ([[(1:Int),(1:Int),(0:Int)],[(0:Int),(1:Int),(1:Int)]]=q9c) (by kernel_rfl) ?_
 try simp only[z0,z1,z2,z3,z4,z5,z6,z7,z8,z9,z10,Int.reduceEq,z11,z12,z13,z14,z15,z16,z17,z18,z19,z20,z21,z22,z23,z24,z25,z26,z27,z28,z29,z30,Int.reduceLE,Int.reduceLT,z31,z32,z33,z34,qa4]
 try simp only[qb6,qb7,qc8,List.set_cons_zero,List.cons.injEq,and_true,true_and]
 rfl
abbrev Fit:=List Int × List (Int × Int)
def qg7 (m:List (List Int)) (y:List Int) (s:List (List Int)):List Fit:=s.filterMap λpix=>if(q4c m y pix).2=true then some (q4c m y pix).1 else none
def qj3 (m:List (List Int)) (y:List Int):Nat->List Fit
 | 0=>[]
 | k+1=>qj3 m y k++qg7 m y (qe6 (nL m 0).length k)
def fitsN (m:List (List Int)) (k:Int):Nat:=(min (min k (nL m 0).length) m.length+1).toNat
def qk2 (m:List (List Int)) (y:List Int) (k:Int):List Fit:=qj3 m y (fitsN m k)
structure wd6 (m:List (List Int)) (y:List Int) (k:Int):Prop where
 k0:0<=k
 k1:k<=1000
 one:0<m.length
 rows:m.length<=1000
 pix:(nL m 0).length<=1000
 sets:∀j:Nat,j<fitsN m k->∀s∈qe6 (nL m 0).length j,q3b m s y/\s.length<=100000
abbrev x1f:qz3:=xc8 [tInt,tQ] [q5c] (λx=>wd6 x.2.1.1 x.2.1.2 x.1) (λx=>(qk2 x.2.1.1 x.2.1.2 x.1).map λf=>(f,()))
def x1g:List AObj:=[.dead,.dead,.dead,.dead,.dead,.dead,.dead,.dead,.dead]
def x1h (m:List (List Int)) (y:List Int) (k:Int):Nat->Option Inv
 | 0=>some (Eng.Inv.mk Nat Nat [16] 11 (λ_ s=>[(16,.lit (.int .i64 s))]) (λl s=>.cnt (some (qj3 m y s).length) :: .box 64 (.cons (.lit (.func (.yield l) #[] #[])) .nil) :: x1g) (λ_ s=>s<=fitsN m k) (λ_ s=>fitsN m k-s))
 | 1=>some (Eng.Inv.mk (Nat × Nat) Nat [] 11 (λ_ _=>[]) (λq c=>.cnt (some ((qj3 m y q.2).length+(qg7 m y ((qe6 (nL m 0).length q.2).take c)).length)) :: .box 64 (.cons (.lit (.func (.yield q.1) #[] #[])) .nil) :: x1g) (λq c=>c<=(qe6 (nL m 0).length q.2).length) (λ_ c=>c))
 | _=>none
theorem q9d (m:List (List Int)) (y:List Int) (a:Nat):∀j,∃t,qj3 m y (a+j)=qj3 m y a++t
 | 0=>⟨[],by simp⟩
 | j+1=>by
  obtain⟨t,ht⟩:=q9d m y a j
  exact⟨t++qg7 m y (qe6 (nL m 0).length (a+j:Nat)),by rw[<- Nat.add_assoc,qj3,ht,List.append_assoc]⟩
theorem q0p (m:List (List Int)) (y:List Int) {s:List (List Int)} {c:Nat} {p:List Int} (h:s[c]? = some p):qg7 m y (s.take (c+1))=qg7 m y (s.take c)++if(q4c m y p).2=true then[(q4c m y p).1] else[]:=by
 rw[List.take_add_one,h]
 unfold qg7
 rw[List.filterMap_append]
 congr 1
 simp only[Option.toList_some,List.filterMap_cons,List.filterMap_nil]
 by_cases hf:(q4c m y p).2=true
 ·rw[if_pos hf,if_pos hf]
 ·rw[if_neg hf,if_neg hf]
theorem w4a (m:List (List Int)) (y:List Int) {s:List (List Int)} {c:Nat} {p:List Int} (h:s[c]? = some p) (hf:(q4c m y p).2=true):∃t,qg7 m y s=qg7 m y (s.take c)++(q4c m y p).1 :: t:=by
 have e:s=s.take (c+1)++s.drop (c+1):=(List.take_append_drop _ _).symm
 have h1:qg7 m y s=qg7 m y (s.take (c+1))++qg7 m y (s.drop (c+1)):=by
  unfold qg7
  rw[<- List.filterMap_append,List.take_append_drop]
 rw[h1,q0p m y h,if_pos hf]
 exact⟨qg7 m y (s.drop (c+1)),by simp⟩
theorem w4b:q1m Tryz.prog 166 x1f:=by
 refine says (x4m (SpecsOk.cons w34 (SpecsOk.cons w7o (SpecsOk.cons q83 (SpecsOk.nil _)))) (ItsOk.cons q82 ItsOk.nil)) Tryz.func166 rfl rfl rfl [32] (λx=>x1h x.2.1.1 x.2.1.2 x.1) (λ_=>by kernel_rfl) (by decide) ?_
 rintro⟨k,q,⟨⟩⟩ l h
 revert k q
 intro(k:Int) (q:List (List Int) × List Int) (h:wd6 q.1 q.2 k)
 refine @qd8 _ (let Q0:=Prod.fst q; let Q1:=Prod.snd q; let Q2:=(k,q,PUnit.unit); let Q3:=List.length Q0; let Q4:=qk2 Q0 Q1 k; let Q5:=fitsN Q0 k; let Q6:=Int × Int; (0:Nat)<List.length Q0/\fits .i64 (max2 false (max2 false k (↑(List.length (nL Q0 (0:Nat))):Int)) (↑Q3:Int)+(1:Int))/\∃(v0:Nat),∃(v1:Nat),Nat.le v1 Q5/\(((0:Int)=(↑v1:Int)/\True)/\some (0:Nat)=some (List.length (qj3 Q0 Q1 v1))/\(Value.func (Fn.yield l) #[] #[]=Value.func (Fn.yield v0) #[] #[]/\True)/\True/\True/\True/\True/\True/\True/\True/\True/\True/\True)/\∀(v2:Nat),Nat.le v2 Q5->(decide ((↑v2:Int)<max2 false (max2 false k (↑(List.length (nL Q0 (0:Nat))):Int)) (↑Q3:Int)+(1:Int))=true->(0:Nat)<List.length Q0/\True/\(((0:Ty.den tInt)<=(↑v2:Int)/\(↑v2:Int)<=(1000:Ty.den tInt))/\(0:Ty.den tInt)<=(↑(List.length (nL Q0 (0:Nat))):Int)/\(↑(List.length (nL Q0 (0:Nat))):Int)<=(1000:Ty.den tInt))/\∃(v5:Nat × Nat),∃(v6:Nat),Nat.le v6 (List.length (qe6 (↑(List.length (nL Q0 (0:Nat))):Int) (↑(Prod.snd v5):Int)))/\v6=(0:Nat)/\(some (List.length (qj3 Q0 Q1 v2))=some (List.length (qj3 Q0 Q1 (Prod.snd v5))+List.length (qg7 Q0 Q1 (List.take v6 (qe6 (↑(List.length (nL Q0 (0:Nat))):Int) (↑(Prod.snd v5):Int)))))/\(Value.func (Fn.yield v0) #[] #[]=Value.func (Fn.yield (Prod.fst v5)) #[] #[]/\True)/\True/\True/\True/\True/\True/\True/\True/\True/\True/\True)/\∀(v7:Nat),Nat.le v7 (List.length (qe6 (↑(List.length (nL Q0 (0:Nat))):Int) (↑(Prod.snd v5):Int)))->(∀(v9:List Int × qa5._f [] PUnit.unit),(List.map (λ(v11:List Int)=>(v11,())) (qe6 (↑(List.length (nL Q0 (0:Nat))):Int) (↑v2:Int)))[v7]?=some v9->∀(v11:q7y),(q3b Q0 (qa1 (Ty.list (Ty.int .i64)) [Prod.fst v9] (0:Nat)) Q1/\List.length (qa1 (Ty.list (Ty.int .i64)) [Prod.fst v9] (0:Nat))<=(100000:Nat))/\[Prod.fst v9]=[Prod.fst v9]/\v11=v11/\True/\(Prod.snd (q4c Q0 Q1 (qa1 (Ty.list (Ty.int .i64)) [Prod.fst v9] (0:Nat)))=true->Value.func (Fn.yield (Prod.fst v5)) #[] #[]=Value.func (Fn.yield (qj8.l (q34 [tInt,tQ] [q5c] [(32:Nat)] Q2 (List.map (λ(v13:List Int × List Q6)=>(v13,())) Q4) l))) #[] #[]/\(qj8.L (q34 [tInt,tQ] [q5c] [(32:Nat)] Q2 (List.map (λ(v13:List Int × List Q6)=>(v13,())) Q4) l))[List.length (qj3 Q0 Q1 (Prod.snd v5))+List.length (qg7 Q0 Q1 (List.take v7 (qe6 (↑(List.length (nL Q0 (0:Nat))):Int) (↑(Prod.snd v5):Int))))]?=some ((Prod.fst (Prod.fst (q4c Q0 Q1 (qa1 (Ty.list (Ty.int .i64)) [Prod.fst v9] (0:Nat)))),Prod.snd (Prod.fst (q4c Q0 Q1 (qa1 (Ty.list (Ty.int .i64)) [Prod.fst v9] (0:Nat))))),())/\(∃(v13:Nat),Nat.le v13 (List.length (qe6 (↑(List.length (nL Q0 (0:Nat))):Int) (↑(Prod.snd v5):Int)))/\v13=v7+(1:Nat)/\some (List.length (qj3 Q0 Q1 (Prod.snd v5))+List.length (qg7 Q0 Q1 (List.take v7 (qe6 (↑(List.length (nL Q0 (0:Nat))):Int) (↑(Prod.snd v5):Int))))+(1:Nat))=some (List.length (qj3 Q0 Q1 (Prod.snd v5))+List.length (qg7 Q0 Q1 (List.take v13 (qe6 (↑(List.length (nL Q0 (0:Nat))):Int) (↑(Prod.snd v5):Int)))))/\(Value.func (Fn.yield (Prod.fst v5)) #[] #[]=Value.func (Fn.yield (Prod.fst v5)) #[] #[]/\True)/\True/\True/\True/\True/\True/\True/\True/\True/\True/\True)/\True)/\(Prod.snd (q4c Q0 Q1 (qa1 (Ty.list (Ty.int .i64)) [Prod.fst v9] (0:Nat)))=false->∃(v13:Nat),Nat.le v13 (List.length (qe6 (↑(List.length (nL Q0 (0:Nat))):Int) (↑(Prod.snd v5):Int)))/\v13=v7+(1:Nat)/\some (List.length (qj3 Q0 Q1 (Prod.snd v5))+List.length (qg7 Q0 Q1 (List.take v7 (qe6 (↑(List.length (nL Q0 (0:Nat))):Int) (↑(Prod.snd v5):Int)))))=some (List.length (qj3 Q0 Q1 (Prod.snd v5))+List.length (qg7 Q0 Q1 (List.take v13 (qe6 (↑(List.length (nL Q0 (0:Nat))):Int) (↑(Prod.snd v5):Int)))))/\(Value.func (Fn.yield (Prod.fst v5)) #[] #[]=Value.func (Fn.yield (Prod.fst v5)) #[] #[]/\True)/\True/\True/\True/\True/\True/\True/\True/\True/\True/\True))/\(v7=List.length (List.map (λ(v10:List Int)=>(v10,())) (qe6 (↑(List.length (nL Q0 (0:Nat))):Int) (↑v2:Int)))->fits .i64 ((↑v2:Int)+(1:Int))/\∃(v10:Nat),Nat.le v10 Q5/\fitsN Q0 k-v10<fitsN Q0 k-v2/\((↑v2:Int)+(1:Int)=(↑v10:Int)/\True)/\some (List.length (qj3 Q0 Q1 (Prod.snd v5))+List.length (qg7 Q0 Q1 (List.take v7 (qe6 (↑(List.length (nL Q0 (0:Nat))):Int) (↑(Prod.snd v5):Int)))))=some (List.length (qj3 Q0 Q1 v10))/\(Value.func (Fn.yield (Prod.fst v5)) #[] #[]=Value.func (Fn.yield v0) #[] #[]/\True)/\True/\True/\True/\True/\True/\True/\True/\True/\True/\True))/\(decide ((↑v2:Int)<max2 false (max2 false k (↑(List.length (nL Q0 (0:Nat))):Int)) (↑Q3:Int)+(1:Int))=false->List.length (qj3 Q0 Q1 v2)=List.length (qj8.L (q34 [tInt,tQ] [q5c] [(32:Nat)] Q2 (List.map (λ(v5:List Int × List Q6)=>(v5,())) Q4) l)))) (by kernel_rfl) ?_
 try simp only[z0,z1,z2,z3,z4,z5,z6,z7,z8,z9,z10,Int.reduceEq,z11,z12,z13,z14,z15,z16,z17,z18,z19,z20,z21,z22,z23,z24,z25,z26,z27,z28,z29,z30,Int.reduceLE,Int.reduceLT,z31,z32,z33,z34,qa4]
 try simp only[qb6,qb7,qc8,List.set_cons_zero,List.cons.injEq,and_true,true_and]
 have hk0:=h.k0
 have hk1:=h.k1
 have hone:=h.one
 have hrows:=h.rows
 have hpix:=h.pix
 have hN:(fitsN q.1 k:Int)=min (min k (nL q.1 0).length) q.1.length+1:=by unfold fitsN; omega
 have hM:max2 false (max2 false k ((nL q.1 0).length:Int)) (q.1.length:Int)=min (min k (nL q.1 0).length) q.1.length:=rfl
 rw[hM]
 refine⟨hone,qa7 (by omega) (by omega),l,0,Nat.zero_le _,⟨rfl,rfl,rfl⟩,λs hs=>⟨λhlt=>?_,λhge=>?_⟩⟩
 ·have hsN:s<fitsN q.1 k:=by omega
  refine⟨hone,by omega,(l,s),0,Nat.zero_le _,rfl,⟨by simp[qg7],rfl⟩,λc hc=>⟨?_,λhfin=>?_⟩⟩
  ·rintro⟨p,⟨⟩⟩ hp -
   have hp2:(qe6 (nL q.1 0).length s)[c]? = some p:=by
    rw[List.getElem?_map] at hp
    obtain⟨p',h1,h2⟩:=Option.map_eq_some_iff.1 hp
    rw[h1]
    exact congrArg some (congrArg Prod.fst h2)
   have hcl:=(List.getElem?_eq_some_iff.1 hp2).1
   dsimp only
   refine⟨h.sets s hsN p (List.mem_of_getElem? hp2),λhf=>⟨rfl,?_,c+1,hcl,rfl,?_⟩,λhf=>⟨c+1,hcl,rfl,?_⟩⟩
   ·show((qk2 q.1 q.2 k).map λf=>((f,()):qa5 [q5c]))[(qj3 q.1 q.2 s).length+(qg7 q.1 q.2 ((qe6 (nL q.1 0).length s).take c)).length]? = some ((q4c q.1 q.2 p).1,())
    obtain⟨t,ht⟩:=q9d q.1 q.2 (s+1) (fitsN q.1 k-(s+1))
    rw[show s+1+(fitsN q.1 k-(s+1))=fitsN q.1 k by omega,qj3] at ht
    obtain⟨t2,ht2⟩:=w4a q.1 q.2 hp2 hf
    rw[List.getElem?_map]
    unfold qk2
    rw[ht,ht2,List.append_assoc,List.append_assoc,List.getElem?_append_right (by omega),Nat.add_sub_cancel_left,List.getElem?_append_right (Nat.le_refl _),Nat.sub_self]
    rfl
   ·rw[q0p q.1 q.2 hp2,if_pos hf,List.length_append]
    rfl
   ·rw[q0p q.1 q.2 hp2,if_neg (by rw[hf]; decide),List.append_nil]
  ·rw[List.length_map] at hfin
   refine⟨qa7 (by omega) (by omega),s+1,hsN,by omega,by omega,?_,rfl⟩
   dsimp only
   rw[hfin,List.take_length,qj3,List.length_append]
 ·have e:s=fitsN q.1 k:=by omega
  show(qj3 q.1 q.2 s).length=((qk2 q.1 q.2 k).map λf=>((f,()):qa5 [q5c])).length
  rw[List.length_map,e]
  rfl
abbrev x1i:qc0:=w6l false none [tQ,tInt] (λ_=>True) (λx=>.clo 166 (.cons (.imm (.cons (.lit (.int .i64 x.2.1)) .nil) 0) (.cons (.imm (.cons (.dat (.list (.int .i64)) x.1.1) (.cons (.dat (.int .i64) x.1.2) .nil)) 0) .nil)))
theorem wv3:qd3 Tryz.prog 124 x1i:=by
 refine wk9 (snd (SpecsOk.nil _)) Tryz.func124 rfl rfl (λ_ _=>none) (λ_=>by kernel_rfl) (by decide) ?_
 rintro⟨q,k,⟨⟩⟩ -
 revert q k
 intro(q:List (List Int) × List Int) (k:Int)
 refine @qd8 _ (((k=k/\True)/\(0:Nat)=(0:Nat))/\((Prod.fst q=Prod.fst q/\Prod.snd q=Prod.snd q/\True)/\(0:Nat)=(0:Nat))/\True) (by kernel_rfl) ?_
 try simp only[z0,z1,z2,z3,z4,z5,z6,z7,z8,z9,z10,Int.reduceEq,z11,z12,z13,z14,z15,z16,z17,z18,z19,z20,z21,z22,z23,z24,z25,z26,z27,z28,z29,z30,Int.reduceLE,Int.reduceLT,z31,z32,z33,z34,qa4]
 try simp only[qb6,qb7,qc8,List.set_cons_zero,List.cons.injEq,and_true,true_and]
structure w1h (m:List (List Int)) (y:List Int) (k:Int):Prop where
 pre:wd6 m y k
 len:(qk2 m y k).length<=1000000
def spL (L:List Fit):List Fit:=L.takeWhile λf=>decide (f.1.length<=(nF L 0).1.length)
def q1j (m:List (List Int)) (y:List Int):List Fit × Int:=if q1i m y []=0 then(if qk2 m y 10=[] then([],10) else(spL (qk2 m y 10),0)) else([],q1i m y [])
structure q67 (m:List (List Int)) (y:List Int):Prop where
 ok:q1i m y []=0->w1h m y 10
structure w4c (L:List Fit) (c:Nat):Prop where
 le:c<=L.length
 all:∀i,i<c->(nF L i).1.length<=(nF L 0).1.length
abbrev x5t:qc0:=qf8 false none [tMask,tInts] [x5k,tInt] (λx=>q67 x.1 x.2.1) (λx=>((q1j x.1 x.2.1).1,(q1j x.1 x.2.1).2,()))
def x1j (L:List Fit):Nat->Option Inv
 | 0=>some (Inv.of [] 2 (λ_=>[]) (λc:Nat=>[.box 97 (.cons (.own 1) .nil),.vec 27 q5c (L.take c)]) (λc=>w4c L c) (λc=>c))
 | _=>none
theorem w7z {α:Type} (p:α->Bool):∀(l:List α) (c:Nat),c<=l.length->(∀(i:Nat) (h:i<l.length),i<c->p l[i]=true)->(∀h:c<l.length,p l[c]=false)->l.takeWhile p=l.take c
 | [],c,h,_,_=>by simp
 | x :: l,0,_,_,h2=>by
  have:=h2 (by simp)
  simp only[List.getElem_cons_zero] at this
  simp[List.takeWhile_cons,this]
 | x :: l,c+1,h,h1,h2=>by
  have hx:=h1 0 (by simp) (by omega)
  simp only[List.getElem_cons_zero] at hx
  rw[List.takeWhile_cons,hx,if_pos rfl,List.take_succ_cons,w7z p l c (by simpa using h) (λi hi hc=>h1 (i+1) (by simpa using hi) (by omega)) (λhc=>h2 (by simpa using hc))]
theorem xf8 (l:List Fit) (i:Nat) (h:i<l.length):nF l i=l[i]:=qn0 (t:=q5c) l i h
theorem w1i {L:List Fit} {c:Nat} (h:w4c L c) (hs:∀h:c<L.length,(nF L 0).1.length<(nF L c).1.length):spL L=L.take c:=by
 refine w7z _ L c h.le (λi hi hc=>?_) λhc=>?_
 ·have:=h.all i hc
  rw[xf8 L i hi] at this
  exact decide_eq_true this
 ·have:=hs hc
  rw[xf8 L c hc] at this
  exact decide_eq_false (by omega)
theorem w4d:qd3 Tryz.prog 80 x5t:=by
 refine meets (x4m (SpecsOk.cons wm0 (SpecsOk.cons wv3 (SpecsOk.nil _))) (ItsOk.cons w4b ItsOk.nil)) Tryz.func80 rfl rfl (λx=>x1j (qk2 x.1 x.2.1 10)) (λ_=>by kernel_rfl) (by decide) ?_
 rintro⟨m,y,⟨⟩⟩ h
 revert m y
 intro(m:List (List Int)) (y:List Int) (h:q67 m y)
 refine @qd8 _ (let Q0:=q1j m y; Value.slice none (0:Nat) (0:Nat)=Value.slice none (0:Nat) (0:Nat)/\(0:Nat)<=(1000000:Nat)/\((q1i m y [] != (0:Int))=true->Prod.fst Q0=[]/\q1i m y []=Prod.snd Q0/\True)/\((q1i m y [] != (0:Int))=false->True/\wd6 m y (10:Int)/\∃(v1:Unit),∃(v2:Nat),w4c (qk2 m y (10:Int)) v2/\v2=(0:Nat)/\((True/\True)/\List.take v2 (qk2 m y (10:Int))=[]/\True)/\∀(v3:Nat),w4c (qk2 m y (10:Int)) v3->(∀(v5:(List Int × List (Int × Int)) × qa5._f [] PUnit.unit),(List.map (λ(v7:List Int × List (Int × Int))=>(v7,())) (qk2 m y (10:Int)))[v3]?=some v5->(decide ((0:Int)<(↑(List.length (List.take v3 (qk2 m y (10:Int)))):Int))=true->((0:Int)<=(0:Int)/\(0:Int)<(↑(List.length (List.take v3 (qk2 m y (10:Int)))):Int))/\(0:Nat)<List.length (List.take v3 (qk2 m y (10:Int)))/\(decide ((↑(List.length (Prod.fst (qa1 q5c (List.take v3 (qk2 m y (10:Int))) (0:Nat)))):Int)<(↑(List.length (Prod.fst (Prod.fst v5))):Int))=true->(((↑(List.length (List.take v3 (qk2 m y (10:Int)))):Int)==(0:Int))=true->Prod.fst Q0=[]/\(10:Int)=Prod.snd Q0/\True)/\(((↑(List.length (List.take v3 (qk2 m y (10:Int)))):Int)==(0:Int))=false->List.take v3 (qk2 m y (10:Int))=Prod.fst Q0/\(0:Int)=Prod.snd Q0/\True))/\(decide ((↑(List.length (Prod.fst (qa1 q5c (List.take v3 (qk2 m y (10:Int))) (0:Nat)))):Int)<(↑(List.length (Prod.fst (Prod.fst v5))):Int))=false->((0:Nat)<List.length [(Prod.fst (Prod.fst v5),Prod.snd (Prod.fst v5))]/\Nat.le (List.length (List.take v3 (qk2 m y (10:Int)))+List.length [(Prod.fst (Prod.fst v5),Prod.snd (Prod.fst v5))]) (1000000:Nat))/\∃(v9:Nat),w4c (qk2 m y (10:Int)) v9/\v9=v3+(1:Nat)/\(True/\True)/\List.take v3 (qk2 m y (10:Int))++[(Prod.fst (Prod.fst v5),Prod.snd (Prod.fst v5))]=List.take v9 (qk2 m y (10:Int))/\True))/\(decide ((0:Int)<(↑(List.length (List.take v3 (qk2 m y (10:Int)))):Int))=false->((0:Nat)<List.length [(Prod.fst (Prod.fst v5),Prod.snd (Prod.fst v5))]/\Nat.le (List.length (List.take v3 (qk2 m y (10:Int)))+List.length [(Prod.fst (Prod.fst v5),Prod.snd (Prod.fst v5))]) (1000000:Nat))/\∃(v8:Nat),w4c (qk2 m y (10:Int)) v8/\v8=v3+(1:Nat)/\(True/\True)/\List.take v3 (qk2 m y (10:Int))++[(Prod.fst (Prod.fst v5),Prod.snd (Prod.fst v5))]=List.take v8 (qk2 m y (10:Int))/\True))/\(v3=List.length (List.map (λ(v6:List Int × List (Int × Int))=>(v6,())) (qk2 m y (10:Int)))->(((↑(List.length (List.take v3 (qk2 m y (10:Int)))):Int)==(0:Int))=true->Prod.fst Q0=[]/\(10:Int)=Prod.snd Q0/\True)/\(((↑(List.length (List.take v3 (qk2 m y (10:Int)))):Int)==(0:Int))=false->List.take v3 (qk2 m y (10:Int))=Prod.fst Q0/\(0:Int)=Prod.snd Q0/\True)))) (by kernel_rfl) ?_
 try simp only[z0,z1,z2,z3,z4,z5,z6,z7,z8,z9,z10,Int.reduceEq,z11,z12,z13,z14,z15,z16,z17,z18,z19,z20,z21,z22,z23,z24,z25,z26,z27,z28,z29,z30,Int.reduceLE,Int.reduceLT,z31,z32,z33,z34,qa4]
 try simp only[qb6,qb7,qc8,List.set_cons_zero,List.cons.injEq,and_true,true_and]
 refine⟨by omega,λhe=>by simp[q1j,he],λhe=>?_⟩
 have hp:=h.ok he
 have hR:q1j m y=if qk2 m y 10=[] then([],10) else(spL (qk2 m y 10),0):=by rw[q1j,if_pos he]
 have hlen:=hp.len
 refine⟨hp.pre,(),0,⟨Nat.zero_le _,λi hi=>absurd hi (by omega)⟩,rfl,rfl,?_⟩
 generalize qk2 m y 10=L at hR hlen ⊢
 rw[hR]
 rintro c hc
 have hcl:=hc.le
 have htl:(L.take c).length=c:=by rw[List.length_take]; omega
 rw[htl]
 refine⟨?_,λhfin=>?_⟩
 ·rintro⟨f,⟨⟩⟩ hf
  rw[List.getElem?_map] at hf
  obtain⟨f',h1,h2⟩:=Option.map_eq_some_iff.1 hf
  obtain rfl:f'=f:=congrArg Prod.fst h2
  have hlt:=(List.getElem?_eq_some_iff.1 h1).1
  have hLne:L≠[]:=λe=>by rw[e] at hlt; exact absurd hlt (by simp)
  have hfe:nF L c=f':=by rw[xf8 L c hlt]; exact(List.getElem?_eq_some_iff.1 h1).2
  have hnx:L.take c++[(f'.1,f'.2)]=L.take (c+1):=by rw[List.take_add_one,h1]; rfl
  refine⟨λh0=>?_,λh0=>?_⟩
  ·have h0:0<c:=by omega
   have hn0:qa1 q5c (L.take c) 0=nF L 0:=by
    rw[qn0 (t:=q5c) _ 0 (by rw[htl]; exact h0),xf8 L 0 (by omega)]
    simp
   rw[hn0]
   refine⟨by omega,h0,λhbr=>⟨λhz=>by omega,λ_=>?_⟩,λhbr=>⟨by omega,c+1,⟨hlt,λi hi=>?_⟩,rfl,hnx⟩⟩
   ·rw[if_neg hLne,w1i hc λ_=>by rw[hfe]; exact hbr]
    exact⟨rfl,rfl⟩
   ·by_cases e:i=c
    ·have hbr:¬(nF L 0).1.length<f'.1.length:=hbr
     subst e; rw[hfe]; omega
    ·exact hc.all i (by omega)
  ·have h0:c=0:=by omega
   subst h0
   exact⟨by omega,1,⟨hlt,λi hi=>(by have e:i=0:=(by omega); subst e; exact Nat.le_refl _)⟩,rfl,hnx⟩
 ·rw[List.length_map] at hfin
  refine⟨λhz=>?_,λhz=>?_⟩
  ·have e:L=[]:=List.eq_nil_of_length_eq_zero (by omega)
   rw[if_pos e]
   exact⟨rfl,rfl⟩
  ·have e:L≠[]:=λe=>by rw[e] at hfin; simp at hfin; omega
   rw[if_neg e,w1i hc λh=>by omega]
   exact⟨rfl,rfl⟩
def x1k:Fit:=([],[])
def w1j (m:List (List Int)) (y:List Int):Fit × Int:=if(q1j m y).2=0 then(nF (q1j m y).1 0,0) else(x1k,(q1j m y).2)
theorem x1l {L:List Fit} (h:L≠[]):0<(spL L).length:=by
 cases L with
 | nil=>exact absurd rfl h
 | cons f l=>
  unfold spL
  rw[List.takeWhile_cons,if_pos]
  ·simp
  ·exact decide_eq_true (Nat.le_refl _)
theorem xf9 {m:List (List Int)} {y:List Int} (h:(q1j m y).2=0):0<(q1j m y).1.length:=by
 unfold q1j at h ⊢
 split
 ·rename_i he
  rw[if_pos he] at h
  split
  ·rename_i e; rw[if_pos e] at h; cases h
  ·rename_i e; exact x1l e
 ·rename_i he
  rw[if_neg he] at h
  exact absurd h he
abbrev ya4:qc0:=qf8 false none [tMask,tInts] [q5c,tInt] (λx=>q67 x.1 x.2.1) (λx=>((w1j x.1 x.2.1).1,(w1j x.1 x.2.1).2,()))
theorem w70:qd3 Tryz.prog 42 ya4:=by
 refine meets (snd (SpecsOk.cons w4d (SpecsOk.nil _))) Tryz.func42 rfl rfl (λ_ _=>none) (λ_=>by kernel_rfl) (by decide) ?_
 rintro⟨m,y,⟨⟩⟩ h
 revert m y
 intro(m:List (List Int)) (y:List Int) (h:q67 m y)
 refine @qd8 _ (let Q0:=Prod.fst (w1j m y); let Q1:=Prod.fst (q1j m y); q67 m y/\((Prod.snd (q1j m y) != (0:Int))=true->(Prod.fst Q0=[]/\Prod.snd Q0=[]/\True)/\Prod.snd (q1j m y)=Prod.snd (w1j m y)/\True)/\((Prod.snd (q1j m y) != (0:Int))=false->((0:Int)<=(0:Int)/\(0:Int)<(↑(List.length Q1):Int))/\(Prod.fst (qa1 (Ty.prod (Ty.list (Ty.int .i64)) (Ty.list (Ty.prod (Ty.int .i64) (Ty.int .i64)))) Q1 (0:Nat))=Prod.fst Q0/\Prod.snd (qa1 (Ty.prod (Ty.list (Ty.int .i64)) (Ty.list (Ty.prod (Ty.int .i64) (Ty.int .i64)))) Q1 (0:Nat))=Prod.snd Q0/\True)/\(0:Int)=Prod.snd (w1j m y)/\True)) (by kernel_rfl) ?_
 try simp only[z0,z1,z2,z3,z4,z5,z6,z7,z8,z9,z10,Int.reduceEq,z11,z12,z13,z14,z15,z16,z17,z18,z19,z20,z21,z22,z23,z24,z25,z26,z27,z28,z29,z30,Int.reduceLE,Int.reduceLT,z31,z32,z33,z34,qa4]
 try simp only[qb6,qb7,qc8,List.set_cons_zero,List.cons.injEq,and_true,true_and]
 refine⟨h,λhe=>?_,λhe=>⟨by have:=xf9 he; omega,?_⟩⟩
 ·rw[w1j,if_neg (by omega)]; exact⟨⟨rfl,rfl⟩,rfl⟩
 ·rw[w1j,if_pos (by omega)]; exact⟨⟨rfl,rfl⟩,rfl⟩
end Go.Proofs.YtdibdlelmkcccaaGreat
