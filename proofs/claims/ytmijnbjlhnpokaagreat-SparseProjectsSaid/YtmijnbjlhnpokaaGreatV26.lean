/- Fits collected, the sparsest ones, whole ones: contracts by the engine. No condition. -/
import Derived.Test.YtmijnbjlhnpokaaGreatV19
set_option linter.unusedVariables false
set_option linter.unusedSimpArgs false
namespace Go.Proofs.YtmijnbjlhnpokaaGreat
open Go Go.RowKit Eng
def qk6 (m:List (List Int)):List Int × Int:=if(q7n m).2≠0 then([],(q7n m).2) else if(q7n m).1=[] then([],8) else(nL (q7n m).1 0,0)
abbrev x5l:qc9:=qg4 false none [qo2] [qf1,qg0] (λx=>qe9 x.1=true->wu1 x.1) (λx=>((qk6 x.1).1,(qk6 x.1).2,()))
theorem w3y:Meets Tryz.prog 16 x5l:=by
 refine meets (snd (SpecsOk.cons w7z (SpecsOk.nil _))) Tryz.func16 rfl rfl (λ_ _=>none) (λ_=>by kernel_rfl) (by decide) ?_
 rintro⟨m,⟨⟩⟩ h
 revert m
 intro(m:List (List Int)) (h:qe9 m=true->wu1 m)
 refine @qe1 _ ((qe9 m=true->wu1 m)/\(((q7n m).2 != (0:Int))=true->(qk6 m).1=[]/\(q7n m).2=(qk6 m).2/\True)/\(((q7n m).2 != (0:Int))=false->(((↑(q7n m).1.length:Int)==(0:Int))=true->(qk6 m).1=[]/\(8:Int)=(qk6 m).2/\True)/\(((↑(q7n m).1.length:Int)==(0:Int))=false->((0:Int)<=(0:Int)/\(0:Int)<(↑(q7n m).1.length:Int))/\nL (q7n m).1 (0:Nat)=(qk6 m).1/\(0:Int)=(qk6 m).2/\True))) (by kernel_rfl) ?_
 try simp only[z0,z1,z2,z3,z4,z5,z6,z7,z8,z9,z10,Int.reduceEq,z11,z12,z13,z14,z15,z16,z17,z18,z19,z20,z21,z22,z23,z24,z25,z26,z27,z28,z29,z30,Int.reduceLE,Int.reduceLT,z31,z32,z33,z34,qa1]
 try simp only[qb5,qb6,qd2,z31,z32,z2,z1]
 refine⟨h,λhe=>by simp[qk6,he],λhe=>⟨λh0=>?_,λh0=>?_⟩⟩
 ·have e:(q7n m).1=[]:=List.eq_nil_of_length_eq_zero (by omega)
  simp[qk6,he,e]
 ·have e:¬(q7n m).1=[]:=λe=>by rw[e] at h0; exact h0 rfl
  unfold qk6
  rw[if_neg (λq=>q he),if_neg e]
  exact⟨by omega,rfl,rfl⟩
def wq0 (l:List Int):Nat->Nat
 | 0=>0
 | k+1=>if nI l k≠0 then wq0 l k+1 else wq0 l k
theorem wu4 (l:List Int):∀k,wq0 l k<=k
 | 0=>Nat.le_refl _
 | k+1=>by have:=wu4 l k; rw[wq0]; split <;> omega
def qw0 (m:List (List Int)):Int × Int:=((wq0 (qk6 m).1 (qk6 m).1.length:Int),(qk6 m).2)
structure wu5 (m:List (List Int)):Prop where
 cir:qe9 m=true->wu1 m
 len:(qk6 m).1.length<=1000
abbrev x00:qc9:=qg4 true none [qo2] [qg0,qg0] (λx=>wu5 x.1) (λx=>((qw0 x.1).1,(qw0 x.1).2,()))
def xs2 (l:List Int):Nat->Option Inv
 | 0=>some (Inv.of [6,16] 0 (λk:Nat=>[(6,.lit (.int .i64 (wq0 l k))),(16,.lit (.int .i64 k))]) (λ_=>[]) (λk=>k<=l.length) (λk=>l.length-k))
 | _=>none
theorem wu6:Meets Tryz.prog 17 x00:=by
 refine meets (snd (SpecsOk.cons w3y (SpecsOk.nil _))) Tryz.func17 rfl rfl (λx=>xs2 (qk6 x.1).1) (λ_=>by kernel_rfl) (by decide) ?_
 rintro⟨m,⟨⟩⟩ h
 revert m
 intro(m:List (List Int)) (h:wu5 m)
 refine @qe1 _ ((qe9 m=true->wu1 m)/\∃(v0:Unit),∃(v1:Nat),Nat.le v1 (qk6 m).1.length/\(((0:Int)=(↑(wq0 (qk6 m).1 v1):Int)/\(0:Int)=(↑v1:Int)/\True)/\True)/\∀(v2:Nat),Nat.le v2 (qk6 m).1.length->(decide ((↑v2:Int)<(↑(qk6 m).1.length:Int))=true->((0:Int)<=(↑v2:Int)/\(↑v2:Int)<(↑(qk6 m).1.length:Int))/\((nI (qk6 m).1 v2 != (0:Int))=true->fits .i64 ((↑(wq0 (qk6 m).1 v2):Int)+(1:Int))/\fits .i64 ((↑v2:Int)+(1:Int))/\∃(v6:Nat),Nat.le v6 (qk6 m).1.length/\(qk6 m).1.length-v6<(qk6 m).1.length-v2/\((↑(wq0 (qk6 m).1 v2):Int)+(1:Int)=(↑(wq0 (qk6 m).1 v6):Int)/\(↑v2:Int)+(1:Int)=(↑v6:Int)/\True)/\True)/\((nI (qk6 m).1 v2 != (0:Int))=false->fits .i64 ((↑v2:Int)+(1:Int))/\∃(v6:Nat),Nat.le v6 (qk6 m).1.length/\(qk6 m).1.length-v6<(qk6 m).1.length-v2/\((↑(wq0 (qk6 m).1 v2):Int)=(↑(wq0 (qk6 m).1 v6):Int)/\(↑v2:Int)+(1:Int)=(↑v6:Int)/\True)/\True))/\(decide ((↑v2:Int)<(↑(qk6 m).1.length:Int))=false->(↑(wq0 (qk6 m).1 v2):Int)=(qw0 m).1/\(qk6 m).2=(qw0 m).2/\True)) (by kernel_rfl) ?_
 try simp only[z0,z1,z2,z3,z4,z5,z6,z7,z8,z9,z10,Int.reduceEq,z11,z12,z13,z14,z15,z16,z17,z18,z19,z20,z21,z22,z23,z24,z25,z26,z27,z28,z29,z30,Int.reduceLE,Int.reduceLT,z31,z32,z33,z34,qa1]
 try simp only[qb5,qb6,qd2,z31,z32,z2,z1]
 have hl:=h.len
 refine⟨h.cir,(),0,Nat.zero_le _,⟨rfl,rfl⟩,λi hi=>⟨λhlt=>?_,λhge=>?_⟩⟩
 ·have:=wu4 (qk6 m).1 i
  exact⟨hlt,λhz=>⟨qa7 (by omega) (by omega),qa7 (by omega) (by omega),i+1,hlt,by omega,by rw[wq0,if_pos hz]; omega,by omega⟩,λhz=>⟨qa7 (by omega) (by omega),i+1,hlt,by omega,by rw[wq0,if_neg (λq=>q hz)],by omega⟩⟩
 ·obtain rfl:i=(qk6 m).1.length:=by omega
  exact⟨rfl,rfl⟩
def q7r (m:List (List Int)):Int × Int:=if(qw0 m).2=0 then(((qw0 m).1-1).tdiv 2,0) else if(qw0 m).2=8 then((nL m 0).length,0) else(0,(qw0 m).2)
abbrev x5m:qc9:=qg4 true none [qo2] [qg0,qg0] (λx=>wu5 x.1) (λx=>((q7r x.1).1,(q7r x.1).2,()))
theorem w3z:Meets Tryz.prog 46 x5m:=by
 refine meets (snd (SpecsOk.cons wu6 (SpecsOk.nil _))) Tryz.func46 rfl rfl (λ_ _=>none) (λ_=>by kernel_rfl) (by decide) ?_
 rintro⟨m,⟨⟩⟩ h
 revert m
 intro(m:List (List Int)) (h:wu5 m)
 refine @qe1 _ (let Q0:=qw0 m; wu5 m/\((Q0.2==(0:Int))=true->fits .i64 (Q0.1-(1:Int))/\(2:Int)≠(0:Int)/\fits .i64 (Int.tdiv (Q0.1-(1:Int)) (2:Int))/\Int.tdiv (Q0.1-(1:Int)) (2:Int)=(q7r m).1/\(0:Int)=(q7r m).2/\True)/\((Q0.2==(0:Int))=false->((Q0.2==(8:Int))=true->((0:Int)<=(0:Int)/\(0:Int)<(↑m.length:Int))/\(↑(nL m (0:Nat)).length:Int)=(q7r m).1/\(0:Int)=(q7r m).2/\True)/\((Q0.2==(8:Int))=false->(0:Int)=(q7r m).1/\Q0.2=(q7r m).2/\True))) (by kernel_rfl) ?_
 try simp only[z0,z1,z2,z3,z4,z5,z6,z7,z8,z9,z10,Int.reduceEq,z11,z12,z13,z14,z15,z16,z17,z18,z19,z20,z21,z22,z23,z24,z25,z26,z27,z28,z29,z30,Int.reduceLE,Int.reduceLT,z31,z32,z33,z34,qa1]
 try simp only[qb5,qb6,qd2,z31,z32,z2,z1]
 have hl:=h.len
 have hn:=wu4 (qk6 m).1 (qk6 m).1.length
 have e1:(qw0 m).1=(wq0 (qk6 m).1 (qk6 m).1.length:Int):=rfl
 have hb:qc8 1000 ((qw0 m).1-1):=by unfold qc8; rw[e1]; omega
 have hb2:qc8 1000 (((qw0 m).1-1).tdiv 2):=ql3 hb
 unfold qc8 at hb hb2
 refine⟨h,λhe=>⟨qa7 (by omega) (by omega),qa7 (by omega) (by omega),by simp[q7r,he]⟩,λhe=>⟨λh8=>⟨?_,by simp[q7r,h8]⟩,λh8=>by simp[q7r,he,h8]⟩⟩
 have hv:qe9 m=true:=by
  cases e:qe9 m with
  | true=>rfl
  | false=>
   have e2:(qw0 m).2=1:=by simp[qw0,qk6,q7n,e]
   rw[e2] at h8; cases h8
 have:=(Mk.of hv).rows1
 omega
def ql0 (a b:List Int):Nat->Int
 | 0=>0
 | k+1=>ql0 a b k+nI a k*nI b k
structure DotOk (a b:List Int):Prop where
 len:a.length<=10
 le:a.length<=b.length
 sa:∀i,i<a.length->-1<=nI a i/\nI a i<=1
 sb:∀i,i<a.length->qc8 1000000 (nI b i)
theorem wn5 {x y K:Int} (hx:-1<=x/\x<=1) (hy:qc8 K y):qc8 K (x*y):=by
 unfold qc8 at *
 rcases(show x=-1\/x=0\/x=1 by omega) with rfl | rfl | rfl
 ·rw[show(-1:Int)*y=-y by omega]; omega
 ·rw[Int.zero_mul]; omega
 ·rw[Int.one_mul]; exact hy
def x7m (m:List (List Int)) (l:List Int) (n k:Int):Int:=if qe9 m=false then 1 else if(l.length:Int)≠n then 9 else if(l.all λe=>inB e (0-k) k)=false then 7 else 0
def x7n (m:List (List Int)) (x:List Int):Int:=x7m m x (nL m 0).length 1000000
structure Shw (m:List (List Int)) (x:List Int):Prop where
 msk:Mk m
 val:qe9 m=true
 len:x.length=(nL m 0).length
 bd:∀i,i<x.length->qc8 1000000 (nI x i)
theorem Shw.of {m:List (List Int)} {x:List Int} (h:x7n m x=0):Shw m x:=by
 unfold x7n x7m at h
 split at h
 ·cases h
 ·rename_i hv
  have hv:qe9 m=true:=by cases e:qe9 m with | true=>rfl | false=>exact absurd e hv
  split at h
  ·cases h
  ·rename_i hl
   split at h
   ·cases h
   ·rename_i ha
    have ha:(x.all λe=>inB e (0-1000000) 1000000)=true:=by simpa using ha
    refine⟨Mk.of hv,hv,by omega,λi hi=>?_⟩
    have:=qz9.1 (List.all_eq_true.1 ha (nI x i) (by rw[qh7 x i hi]; exact List.getElem_mem hi))
    unfold qc8; omega
theorem Shw.dot {m:List (List Int)} {x:List Int} (h:Shw m x) (k:Nat) (hk:k<m.length):DotOk (nL m k) x:=by
 have h1:=h.msk.each k hk
 have h2:=h.msk.pix10
 have h3:=h.len
 exact⟨by omega,by omega,λi hi=>h.msk.small k hk i (by omega),λi hi=>h.bd i (by omega)⟩
def ya2 (wr:List Nat) (specs:List (Nat × qc9)):Ctx:={ specs:=specs,tys:=tys,wr:=wr }
theorem x7o (wr:List Nat) {specs:List (Nat × qc9)} (h:SpecsOk Tryz.prog specs):Sound Tryz.prog (ya2 wr specs):=SpecsOk.sound h q3s (by kernel_rfl)
def x01 (m:List (List Int)):Nat->Int
 | 0=>0
 | k+1=>IntKind.i64.wrap (x01 m k+IntKind.i64.wrap ((nL m k).length+1))
def x02 (l:List Int):Bool:=decide (7<l.length) && decide (l.length<=10)
def w1b (m:List (List Int)):Bool:=!(m.any x02) && decide (x01 m m.length<=200)
theorem xg0 {m:List (List Int)} (hl:w1b m=true) (hM:Mk m):(nL m 0).length<=7:=by
 unfold w1b at hl
 rw[Bool.and_eq_true,Bool.not_eq_true',List.any_eq_false] at hl
 have h1:=hl.1 (nL m 0) (qx8 m 0 (by have:=hM.rows1; omega))
 have h2:=hM.pix10
 unfold x02 at h1
 rw[Bool.and_eq_true,decide_eq_true_eq,decide_eq_true_eq] at h1
 omega
def we7 (l:List (List Int)):Bool:=l.any λx=>decide (100<x.length)
abbrev x5n:qc9:=qg4 true none [qo2] [.bool] (λx=>x.1.length<=1000) (λx=>(we7 x.1,()))
structure xg1 (l:List (List Int)) (k:Nat):Prop where
 le:k<=l.length
 ok:∀i,i<k->(nL l i).length<=100
def x03 (l:List (List Int)):Nat->Option Inv
 | 0=>some (Inv.of [7] 0 (λk:Nat=>[(7,.lit (.int .i64 k))]) (λ_=>[]) (λk=>xg1 l k) (λk=>l.length-k))
 | _=>none
theorem w30:Meets Tryz.prog 24 x5n:=by
 refine meets (snd (SpecsOk.nil _)) Tryz.func24 rfl rfl (λx=>x03 x.1) (λ_=>by kernel_rfl) (by decide) ?_
 rintro⟨l,⟨⟩⟩ h
 revert l
 intro(l:List (List Int)) (h:l.length<=1000)
 refine @qe1 _ (∃(v0:Unit),∃(v1:Nat),xg1 l v1/\(((0:Int)=(↑v1:Int)/\True)/\True)/\∀(v2:Nat),xg1 l v2->(decide ((↑v2:Int)<(↑l.length:Int))=true->((0:Int)<=(↑v2:Int)/\(↑v2:Int)<(↑l.length:Int))/\(decide ((100:Int)<(↑(nL l v2).length:Int))=true->true=we7 l)/\(decide ((100:Int)<(↑(nL l v2).length:Int))=false->fits .i64 ((↑v2:Int)+(1:Int))/\∃(v6:Nat),xg1 l v6/\l.length-v6<l.length-v2/\((↑v2:Int)+(1:Int)=(↑v6:Int)/\True)/\True))/\(decide ((↑v2:Int)<(↑l.length:Int))=false->false=we7 l)) (by kernel_rfl) ?_
 try simp only[z0,z1,z2,z3,z4,z5,z6,z7,z8,z9,z10,Int.reduceEq,z11,z12,z13,z14,z15,z16,z17,z18,z19,z20,z21,z22,z23,z24,z25,z26,z27,z28,z29,z30,Int.reduceLE,Int.reduceLT,z31,z32,z33,z34,qa1]
 try simp only[qb5,qb6,qd2,z31,z32,z2,z1]
 refine⟨(),0,⟨Nat.zero_le _,λi hi=>absurd hi (Nat.not_lt_zero _)⟩,rfl,λk hk=>⟨λhlt=>⟨hlt,λh1=>?_,λh1=>⟨qa7 (by omega) (by omega),k+1,⟨hlt,λi hi=>?_⟩,by omega,by omega⟩⟩,λhge=>?_⟩⟩
 ·have:we7 l=true:=List.any_eq_true.2 ⟨_,qx8 l k hlt,decide_eq_true (by omega)⟩
  exact this.symm
 ·by_cases e:i=k
  ·subst e; omega
  ·exact hk.ok i (by omega)
 ·obtain rfl:k=l.length:=by have:=hk.le; omega
  have:we7 l=false:=by
   unfold we7
   rw[List.any_eq_false]
   intro x hx
   obtain⟨i,hi,rfl⟩:=List.getElem_of_mem hx
   have:=hk.ok i hi
   rw[qn4 l i hi] at this
   simp; omega
  exact this.symm
def q9m:List (List Int):=[[1,1,0],[0,1,1]]
abbrev ya3:qc9:=qg4 false none [] [qo2] (λ_=>True) (λ_=>(q9m,()))
theorem w70:Meets Tryz.prog 77 ya3:=by
 refine meets (snd (SpecsOk.nil _)) Tryz.func77 rfl rfl (λ_ _=>none) (λ_=>by kernel_rfl) (by decide) ?_
 rintro⟨⟩ -
 refine @qe1 _ ([[(1:Int),(1:Int),(0:Int)],[(0:Int),(1:Int),(1:Int)]]=q9m) (by kernel_rfl) ?_
 try simp only[z0,z1,z2,z3,z4,z5,z6,z7,z8,z9,z10,Int.reduceEq,z11,z12,z13,z14,z15,z16,z17,z18,z19,z20,z21,z22,z23,z24,z25,z26,z27,z28,z29,z30,Int.reduceLE,Int.reduceLT,z31,z32,z33,z34,qa1]
 try simp only[qb5,qb6,qd2,z31,z32,z2,z1]
 rfl
abbrev Fit:=List Int × List (Int × Int)
def qh9 (m:List (List Int)) (y:List Int) (s:List (List Int)):List Fit:=s.filterMap λpix=>if(q43 m y pix).2=true then some (q43 m y pix).1 else none
def qk7 (m:List (List Int)) (y:List Int):Nat->List Fit
 | 0=>[]
 | k+1=>qk7 m y k++qh9 m y (qg1 (nL m 0).length k)
def fitsN (m:List (List Int)) (k:Int):Nat:=(min (min k (nL m 0).length) m.length+1).toNat
def ql4 (m:List (List Int)) (y:List Int) (k:Int):List Fit:=qk7 m y (fitsN m k)
structure we8 (m:List (List Int)) (y:List Int) (k:Int):Prop where
 k0:0<=k
 k1:k<=1000
 one:0<m.length
 rows:m.length<=1000
 pix:(nL m 0).length<=1000
 sets:∀j:Nat,j<fitsN m k->∀s∈qg1 (nL m 0).length j,q38 m s y/\s.length<=100000
abbrev x04:q2h:=xq3 [qg0,tQ] [wp9] (λx=>we8 x.2.1.1 x.2.1.2 x.1) (λx=>(ql4 x.2.1.1 x.2.1.2 x.1).map λf=>(f,()))
def x05:List AObj:=[.dead,.dead,.dead,.dead,.dead,.dead,.dead,.dead,.dead]
def x06 (m:List (List Int)) (y:List Int) (k:Int):Nat->Option Inv
 | 0=>some (Eng.Inv.mk Nat Nat [16] 11 (λ_ s=>[(16,.lit (.int .i64 s))]) (λl s=>.cnt (some (qk7 m y s).length) :: .box 226 (.cons (.lit (.func (.yield l) #[] #[])) .nil) :: x05) (λ_ s=>s<=fitsN m k) (λ_ s=>fitsN m k-s))
 | 1=>some (Eng.Inv.mk (Nat × Nat) Nat [] 11 (λ_ _=>[]) (λq c=>.cnt (some ((qk7 m y q.2).length+(qh9 m y ((qg1 (nL m 0).length q.2).take c)).length)) :: .box 226 (.cons (.lit (.func (.yield q.1) #[] #[])) .nil) :: x05) (λq c=>c<=(qg1 (nL m 0).length q.2).length) (λ_ c=>c))
 | _=>none
theorem q9n (m:List (List Int)) (y:List Int) (a:Nat):∀j,∃t,qk7 m y (a+j)=qk7 m y a++t
 | 0=>⟨[],by simp⟩
 | j+1=>by
  obtain⟨t,ht⟩:=q9n m y a j
  exact⟨t++qh9 m y (qg1 (nL m 0).length (a+j:Nat)),by rw[<- Nat.add_assoc,qk7,ht,List.append_assoc]⟩
theorem q1d (m:List (List Int)) (y:List Int) {s:List (List Int)} {c:Nat} {p:List Int} (h:s[c]? = some p):qh9 m y (s.take (c+1))=qh9 m y (s.take c)++if(q43 m y p).2=true then[(q43 m y p).1] else[]:=by
 rw[List.take_add_one,h]
 unfold qh9
 rw[List.filterMap_append]
 congr 1
 simp only[Option.toList_some,List.filterMap_cons,List.filterMap_nil]
 by_cases hf:(q43 m y p).2=true
 ·rw[if_pos hf,if_pos hf]
 ·rw[if_neg hf,if_neg hf]
theorem w31 (m:List (List Int)) (y:List Int) {s:List (List Int)} {c:Nat} {p:List Int} (h:s[c]? = some p) (hf:(q43 m y p).2=true):∃t,qh9 m y s=qh9 m y (s.take c)++(q43 m y p).1 :: t:=by
 have e:s=s.take (c+1)++s.drop (c+1):=(List.take_append_drop _ _).symm
 have h1:qh9 m y s=qh9 m y (s.take (c+1))++qh9 m y (s.drop (c+1)):=by
  unfold qh9
  rw[<- List.filterMap_append,List.take_append_drop]
 rw[h1,q1d m y h,if_pos hf]
 exact⟨qh9 m y (s.drop (c+1)),by simp⟩
theorem w33:q00 Tryz.prog 214 x04:=by
 refine says (x7j (SpecsOk.cons q9k (SpecsOk.cons w7q (SpecsOk.cons q9h (SpecsOk.nil _)))) (ItsOk.cons q9g ItsOk.nil)) Tryz.func214 rfl rfl rfl [32] (λx=>x06 x.2.1.1 x.2.1.2 x.1) (λ_=>by kernel_rfl) (by decide) ?_
 rintro⟨k,q,⟨⟩⟩ l h
 revert k q
 intro(k:Int) (q:List (List Int) × List Int) (h:we8 q.1 q.2 k)
 refine @qe1 _ (let Q0:=ql4 q.1 q.2 k; let Q1:=(k,q,PUnit.unit); let Q2:=fitsN q.1 k; let Q3:=Int × Int; (0:Nat)<q.1.length/\fits .i64 (max2 false (max2 false k (↑(nL q.1 (0:Nat)).length:Int)) (↑q.1.length:Int)+(1:Int))/\∃(v0:Nat),∃(v1:Nat),Nat.le v1 Q2/\(((0:Int)=(↑v1:Int)/\True)/\some (0:Nat)=some (qk7 q.1 q.2 v1).length/\(Value.func (Fn.yield l) #[] #[]=Value.func (Fn.yield v0) #[] #[]/\True)/\True/\True/\True/\True/\True/\True/\True/\True/\True/\True)/\∀(v2:Nat),Nat.le v2 Q2->(decide ((↑v2:Int)<max2 false (max2 false k (↑(nL q.1 (0:Nat)).length:Int)) (↑q.1.length:Int)+(1:Int))=true->(0:Nat)<q.1.length/\True/\(((0:Ty.den qg0)<=(↑v2:Int)/\(↑v2:Int)<=(1000:Ty.den qg0))/\(0:Ty.den qg0)<=(↑(nL q.1 (0:Nat)).length:Int)/\(↑(nL q.1 (0:Nat)).length:Int)<=(1000:Ty.den qg0))/\∃(v5:Nat × Nat),∃(v6:Nat),Nat.le v6 (qg1 (↑(nL q.1 (0:Nat)).length:Int) (↑v5.2:Int)).length/\v6=(0:Nat)/\(some (qk7 q.1 q.2 v2).length=some ((qk7 q.1 q.2 v5.2).length+(qh9 q.1 q.2 (List.take v6 (qg1 (↑(nL q.1 (0:Nat)).length:Int) (↑v5.2:Int)))).length)/\(Value.func (Fn.yield v0) #[] #[]=Value.func (Fn.yield v5.1) #[] #[]/\True)/\True/\True/\True/\True/\True/\True/\True/\True/\True/\True)/\∀(v7:Nat),Nat.le v7 (qg1 (↑(nL q.1 (0:Nat)).length:Int) (↑v5.2:Int)).length->(∀(v9:List Int × qa5._f [] PUnit.unit),(List.map (λ(v11:List Int)=>(v11,())) (qg1 (↑(nL q.1 (0:Nat)).length:Int) (↑v2:Int)))[v7]?=some v9->∀(v11:q8a),(q38 q.1 (nL [v9.1] (0:Nat)) q.2/\(nL [v9.1] (0:Nat)).length<=(100000:Nat))/\[v9.1]=[v9.1]/\v11=v11/\True/\((q43 q.1 q.2 (nL [v9.1] (0:Nat))).2=true->Value.func (Fn.yield v5.1) #[] #[]=Value.func (Fn.yield (ql5.l (q8i [qg0,tQ] [wp9] [(32:Nat)] Q1 (List.map (λ(v13:List Int × List Q3)=>(v13,())) Q0) l))) #[] #[]/\(ql5.L (q8i [qg0,tQ] [wp9] [(32:Nat)] Q1 (List.map (λ(v13:List Int × List Q3)=>(v13,())) Q0) l))[(qk7 q.1 q.2 v5.2).length+(qh9 q.1 q.2 (List.take v7 (qg1 (↑(nL q.1 (0:Nat)).length:Int) (↑v5.2:Int)))).length]?=some (((q43 q.1 q.2 (nL [v9.1] (0:Nat))).1.1,(q43 q.1 q.2 (nL [v9.1] (0:Nat))).1.2),())/\(∃(v13:Nat),Nat.le v13 (qg1 (↑(nL q.1 (0:Nat)).length:Int) (↑v5.2:Int)).length/\v13=v7+(1:Nat)/\some ((qk7 q.1 q.2 v5.2).length+(qh9 q.1 q.2 (List.take v7 (qg1 (↑(nL q.1 (0:Nat)).length:Int) (↑v5.2:Int)))).length+(1:Nat))=some ((qk7 q.1 q.2 v5.2).length+(qh9 q.1 q.2 (List.take v13 (qg1 (↑(nL q.1 (0:Nat)).length:Int) (↑v5.2:Int)))).length)/\(Value.func (Fn.yield v5.1) #[] #[]=Value.func (Fn.yield v5.1) #[] #[]/\True)/\True/\True/\True/\True/\True/\True/\True/\True/\True/\True)/\True)/\((q43 q.1 q.2 (nL [v9.1] (0:Nat))).2=false->∃(v13:Nat),Nat.le v13 (qg1 (↑(nL q.1 (0:Nat)).length:Int) (↑v5.2:Int)).length/\v13=v7+(1:Nat)/\some ((qk7 q.1 q.2 v5.2).length+(qh9 q.1 q.2 (List.take v7 (qg1 (↑(nL q.1 (0:Nat)).length:Int) (↑v5.2:Int)))).length)=some ((qk7 q.1 q.2 v5.2).length+(qh9 q.1 q.2 (List.take v13 (qg1 (↑(nL q.1 (0:Nat)).length:Int) (↑v5.2:Int)))).length)/\(Value.func (Fn.yield v5.1) #[] #[]=Value.func (Fn.yield v5.1) #[] #[]/\True)/\True/\True/\True/\True/\True/\True/\True/\True/\True/\True))/\(v7=(List.map (λ(v10:List Int)=>(v10,())) (qg1 (↑(nL q.1 (0:Nat)).length:Int) (↑v2:Int))).length->fits .i64 ((↑v2:Int)+(1:Int))/\∃(v10:Nat),Nat.le v10 Q2/\fitsN q.1 k-v10<fitsN q.1 k-v2/\((↑v2:Int)+(1:Int)=(↑v10:Int)/\True)/\some ((qk7 q.1 q.2 v5.2).length+(qh9 q.1 q.2 (List.take v7 (qg1 (↑(nL q.1 (0:Nat)).length:Int) (↑v5.2:Int)))).length)=some (qk7 q.1 q.2 v10).length/\(Value.func (Fn.yield v5.1) #[] #[]=Value.func (Fn.yield v0) #[] #[]/\True)/\True/\True/\True/\True/\True/\True/\True/\True/\True/\True))/\(decide ((↑v2:Int)<max2 false (max2 false k (↑(nL q.1 (0:Nat)).length:Int)) (↑q.1.length:Int)+(1:Int))=false->(qk7 q.1 q.2 v2).length=(ql5.L (q8i [qg0,tQ] [wp9] [(32:Nat)] Q1 (List.map (λ(v5:List Int × List Q3)=>(v5,())) Q0) l)).length)) (by kernel_rfl) ?_
 try simp only[z0,z1,z2,z3,z4,z5,z6,z7,z8,z9,z10,Int.reduceEq,z11,z12,z13,z14,z15,z16,z17,z18,z19,z20,z21,z22,z23,z24,z25,z26,z27,z28,z29,z30,Int.reduceLE,Int.reduceLT,z31,z32,z33,z34,qa1]
 try simp only[qb5,qb6,qd2,z31,z32,z2,z1]
 have hk0:=h.k0
 have hk1:=h.k1
 have hone:=h.one
 have hrows:=h.rows
 have hpix:=h.pix
 have hN:(fitsN q.1 k:Int)=min (min k (nL q.1 0).length) q.1.length+1:=by unfold fitsN; omega
 have hM:max2 false (max2 false k ((nL q.1 0).length:Int)) (q.1.length:Int)=min (min k (nL q.1 0).length) q.1.length:=rfl
 rw[hM]
 refine⟨hone,qa7 (by omega) (by omega),l,0,Nat.zero_le _,⟨rfl,rfl,rfl⟩,λs hs=>⟨λhlt=>?_,λhge=>?_⟩⟩
 ·have hsN:s<fitsN q.1 k:=by omega
  refine⟨hone,by omega,(l,s),0,Nat.zero_le _,rfl,⟨by simp[qh9],rfl⟩,λc hc=>⟨?_,λhfin=>?_⟩⟩
  ·rintro⟨p,⟨⟩⟩ hp -
   have hp2:(qg1 (nL q.1 0).length s)[c]? = some p:=by
    rw[List.getElem?_map] at hp
    obtain⟨p',h1,h2⟩:=Option.map_eq_some_iff.1 hp
    rw[h1]
    exact congrArg some (congrArg Prod.fst h2)
   have hcl:=(List.getElem?_eq_some_iff.1 hp2).1
   dsimp only
   refine⟨h.sets s hsN p (List.mem_of_getElem? hp2),λhf=>⟨rfl,?_,c+1,hcl,rfl,?_⟩,λhf=>⟨c+1,hcl,rfl,?_⟩⟩
   ·show((ql4 q.1 q.2 k).map λf=>((f,()):qa5 [wp9]))[(qk7 q.1 q.2 s).length+(qh9 q.1 q.2 ((qg1 (nL q.1 0).length s).take c)).length]? = some ((q43 q.1 q.2 p).1,())
    obtain⟨t,ht⟩:=q9n q.1 q.2 (s+1) (fitsN q.1 k-(s+1))
    rw[show s+1+(fitsN q.1 k-(s+1))=fitsN q.1 k by omega,qk7] at ht
    obtain⟨t2,ht2⟩:=w31 q.1 q.2 hp2 hf
    rw[List.getElem?_map]
    unfold ql4
    rw[ht,ht2,List.append_assoc,List.append_assoc,List.getElem?_append_right (by omega),Nat.add_sub_cancel_left,List.getElem?_append_right (Nat.le_refl _),Nat.sub_self]
    rfl
   ·rw[q1d q.1 q.2 hp2,if_pos hf,List.length_append]
    rfl
   ·rw[q1d q.1 q.2 hp2,if_neg (by rw[hf]; decide),List.append_nil]
  ·rw[List.length_map] at hfin
   refine⟨qa7 (by omega) (by omega),s+1,hsN,by omega,by omega,?_,rfl⟩
   dsimp only
   rw[hfin,List.take_length,qk7,List.length_append]
 ·have e:s=fitsN q.1 k:=by omega
  show(qk7 q.1 q.2 s).length=((ql4 q.1 q.2 k).map λf=>((f,()):qa5 [wp9])).length
  rw[List.length_map,e]
  rfl
abbrev x07:qc9:=xc2 false none [tQ,qg0] (λ_=>True) (λx=>.clo 214 (.cons (.imm (.cons (.lit (.int .i64 x.2.1)) .nil) 0) (.cons (.imm (.cons (.dat (.list (.int .i64)) x.1.1) (.cons (.dat (.int .i64) x.1.2) .nil)) 0) .nil)))
theorem wu7:Meets Tryz.prog 159 x07:=by
 refine w0o (snd (SpecsOk.nil _)) Tryz.func159 rfl rfl (λ_ _=>none) (λ_=>by kernel_rfl) (by decide) ?_
 rintro⟨q,k,⟨⟩⟩ -
 revert q k
 intro(q:List (List Int) × List Int) (k:Int)
 refine @qe1 _ (((k=k/\True)/\(0:Nat)=(0:Nat))/\((q.1=q.1/\q.2=q.2/\True)/\(0:Nat)=(0:Nat))/\True) (by kernel_rfl) ?_
 try simp only[z0,z1,z2,z3,z4,z5,z6,z7,z8,z9,z10,Int.reduceEq,z11,z12,z13,z14,z15,z16,z17,z18,z19,z20,z21,z22,z23,z24,z25,z26,z27,z28,z29,z30,Int.reduceLE,Int.reduceLT,z31,z32,z33,z34,qa1]
 try simp only[qb5,qb6,qd2,z31,z32,z2,z1]
structure w1c (m:List (List Int)) (y:List Int) (k:Int):Prop where
 pre:we8 m y k
 len:(ql4 m y k).length<=1000000
def spL (L:List Fit):List Fit:=L.takeWhile λf=>decide (f.1.length<=(nF L 0).1.length)
def q45 (m:List (List Int)) (y:List Int):List Fit × Int:=if qs5 m y []=0 then(if ql4 m y 10=[] then([],10) else(spL (ql4 m y 10),0)) else([],qs5 m y [])
structure q7s (m:List (List Int)) (y:List Int):Prop where
 ok:qs5 m y []=0->w1c m y 10
structure w34 (L:List Fit) (c:Nat):Prop where
 le:c<=L.length
 all:∀i,i<c->(nF L i).1.length<=(nF L 0).1.length
abbrev x5o:qc9:=qg4 false none [qo2,qf1] [x5h,qg0] (λx=>q7s x.1 x.2.1) (λx=>((q45 x.1 x.2.1).1,(q45 x.1 x.2.1).2,()))
def x08 (L:List Fit):Nat->Option Inv
 | 0=>some (Inv.of [] 2 (λ_=>[]) (λc:Nat=>[.box 127 (.cons (.own 1) .nil),.vec 72 wp9 (L.take c)]) (λc=>w34 L c) (λc=>c))
 | _=>none
theorem w71 {α:Type} (p:α->Bool):∀(l:List α) (c:Nat),c<=l.length->(∀(i:Nat) (h:i<l.length),i<c->p l[i]=true)->(∀h:c<l.length,p l[c]=false)->l.takeWhile p=l.take c
 | [],c,h,_,_=>by simp
 | x :: l,0,_,_,h2=>by
  have:=h2 (by simp)
  simp only[List.getElem_cons_zero] at this
  simp[List.takeWhile_cons,this]
 | x :: l,c+1,h,h1,h2=>by
  have hx:=h1 0 (by simp) (by omega)
  simp only[List.getElem_cons_zero] at hx
  rw[List.takeWhile_cons,hx,if_pos rfl,List.take_succ_cons,w71 p l c (by simpa using h) (λi hi hc=>h1 (i+1) (by simpa using hi) (by omega)) (λhc=>h2 (by simpa using hc))]
theorem xg2 (l:List Fit) (i:Nat) (h:i<l.length):nF l i=l[i]:=ql9 (t:=wp9) l i h
theorem w1d {L:List Fit} {c:Nat} (h:w34 L c) (hs:∀h:c<L.length,(nF L 0).1.length<(nF L c).1.length):spL L=L.take c:=by
 refine w71 _ L c h.le (λi hi hc=>?_) λhc=>?_
 ·have:=h.all i hc
  rw[xg2 L i hi] at this
  exact decide_eq_true this
 ·have:=hs hc
  rw[xg2 L c hc] at this
  exact decide_eq_false (by omega)
theorem w35:Meets Tryz.prog 99 x5o:=by
 refine meets (x7j (SpecsOk.cons q3x (SpecsOk.cons wu7 (SpecsOk.nil _))) (ItsOk.cons w33 ItsOk.nil)) Tryz.func99 rfl rfl (λx=>x08 (ql4 x.1 x.2.1 10)) (λ_=>by kernel_rfl) (by decide) ?_
 rintro⟨m,y,⟨⟩⟩ h
 revert m y
 intro(m:List (List Int)) (y:List Int) (h:q7s m y)
 refine @qe1 _ (let Q0:=q45 m y; Value.slice none (0:Nat) (0:Nat)=Value.slice none (0:Nat) (0:Nat)/\(0:Nat)<=(1000000:Nat)/\((qs5 m y [] != (0:Int))=true->Q0.1=[]/\qs5 m y []=Q0.2/\True)/\((qs5 m y [] != (0:Int))=false->True/\we8 m y (10:Int)/\∃(v1:Unit),∃(v2:Nat),w34 (ql4 m y (10:Int)) v2/\v2=(0:Nat)/\((True/\True)/\List.take v2 (ql4 m y (10:Int))=[]/\True)/\∀(v3:Nat),w34 (ql4 m y (10:Int)) v3->(∀(v5:(List Int × List (Int × Int)) × qa5._f [] PUnit.unit),(List.map (λ(v7:List Int × List (Int × Int))=>(v7,())) (ql4 m y (10:Int)))[v3]?=some v5->(decide ((0:Int)<(↑(List.take v3 (ql4 m y (10:Int))).length:Int))=true->((0:Int)<=(0:Int)/\(0:Int)<(↑(List.take v3 (ql4 m y (10:Int))).length:Int))/\(0:Nat)<(List.take v3 (ql4 m y (10:Int))).length/\(decide ((↑(qd1 wp9 (List.take v3 (ql4 m y (10:Int))) (0:Nat)).1.length:Int)<(↑v5.1.1.length:Int))=true->(((↑(List.take v3 (ql4 m y (10:Int))).length:Int)==(0:Int))=true->Q0.1=[]/\(10:Int)=Q0.2/\True)/\(((↑(List.take v3 (ql4 m y (10:Int))).length:Int)==(0:Int))=false->List.take v3 (ql4 m y (10:Int))=Q0.1/\(0:Int)=Q0.2/\True))/\(decide ((↑(qd1 wp9 (List.take v3 (ql4 m y (10:Int))) (0:Nat)).1.length:Int)<(↑v5.1.1.length:Int))=false->((0:Nat)<List.length [(v5.1.1,v5.1.2)]/\Nat.le ((List.take v3 (ql4 m y (10:Int))).length+List.length [(v5.1.1,v5.1.2)]) (1000000:Nat))/\∃(v9:Nat),w34 (ql4 m y (10:Int)) v9/\v9=v3+(1:Nat)/\(True/\True)/\List.take v3 (ql4 m y (10:Int))++[(v5.1.1,v5.1.2)]=List.take v9 (ql4 m y (10:Int))/\True))/\(decide ((0:Int)<(↑(List.take v3 (ql4 m y (10:Int))).length:Int))=false->((0:Nat)<List.length [(v5.1.1,v5.1.2)]/\Nat.le ((List.take v3 (ql4 m y (10:Int))).length+List.length [(v5.1.1,v5.1.2)]) (1000000:Nat))/\∃(v8:Nat),w34 (ql4 m y (10:Int)) v8/\v8=v3+(1:Nat)/\(True/\True)/\List.take v3 (ql4 m y (10:Int))++[(v5.1.1,v5.1.2)]=List.take v8 (ql4 m y (10:Int))/\True))/\(v3=(List.map (λ(v6:List Int × List (Int × Int))=>(v6,())) (ql4 m y (10:Int))).length->(((↑(List.take v3 (ql4 m y (10:Int))).length:Int)==(0:Int))=true->Q0.1=[]/\(10:Int)=Q0.2/\True)/\(((↑(List.take v3 (ql4 m y (10:Int))).length:Int)==(0:Int))=false->List.take v3 (ql4 m y (10:Int))=Q0.1/\(0:Int)=Q0.2/\True)))) (by kernel_rfl) ?_
 try simp only[z0,z1,z2,z3,z4,z5,z6,z7,z8,z9,z10,Int.reduceEq,z11,z12,z13,z14,z15,z16,z17,z18,z19,z20,z21,z22,z23,z24,z25,z26,z27,z28,z29,z30,Int.reduceLE,Int.reduceLT,z31,z32,z33,z34,qa1]
 try simp only[qb5,qb6,qd2,z31,z32,z2,z1]
 refine⟨by omega,λhe=>by simp[q45,he],λhe=>?_⟩
 have hp:=h.ok he
 have hR:q45 m y=if ql4 m y 10=[] then([],10) else(spL (ql4 m y 10),0):=by rw[q45,if_pos he]
 have hlen:=hp.len
 refine⟨hp.pre,(),0,⟨Nat.zero_le _,λi hi=>absurd hi (by omega)⟩,rfl,rfl,?_⟩
 generalize ql4 m y 10=L at hR hlen ⊢
 rw[hR]
 rintro c hc
 have hcl:=hc.le
 have htl:(L.take c).length=c:=by rw[List.length_take]; omega
 rw[htl]
 refine⟨?_,λhfin=>?_⟩
 ·rintro⟨f,⟨⟩⟩ hf
  rw[List.getElem?_map] at hf
  obtain⟨f',h1,h2⟩:=Option.map_eq_some_iff.1 hf
  obtain rfl:f'=f:=congrArg Prod.fst h2
  have hlt:=(List.getElem?_eq_some_iff.1 h1).1
  have hLne:L≠[]:=λe=>by rw[e] at hlt; exact absurd hlt (by simp)
  have hfe:nF L c=f':=by rw[xg2 L c hlt]; exact(List.getElem?_eq_some_iff.1 h1).2
  have hnx:L.take c++[(f'.1,f'.2)]=L.take (c+1):=by rw[List.take_add_one,h1]; rfl
  refine⟨λh0=>?_,λh0=>?_⟩
  ·have h0:0<c:=by omega
   have hn0:qd1 wp9 (L.take c) 0=nF L 0:=by
    rw[ql9 (t:=wp9) _ 0 (by rw[htl]; exact h0),xg2 L 0 (by omega)]
    simp
   rw[hn0]
   refine⟨by omega,h0,λhbr=>⟨λhz=>by omega,λ_=>?_⟩,λhbr=>⟨by omega,c+1,⟨hlt,λi hi=>?_⟩,rfl,hnx⟩⟩
   ·rw[if_neg hLne,w1d hc λ_=>by rw[hfe]; exact hbr]
    exact⟨rfl,rfl⟩
   ·by_cases e:i=c
    ·have hbr:¬(nF L 0).1.length<f'.1.length:=hbr
     subst e; rw[hfe]; omega
    ·exact hc.all i (by omega)
  ·have h0:c=0:=by omega
   subst h0
   exact⟨by omega,1,⟨hlt,λi hi=>(by have e:i=0:=(by omega); subst e; exact Nat.le_refl _)⟩,rfl,hnx⟩
 ·rw[List.length_map] at hfin
  refine⟨λhz=>?_,λhz=>?_⟩
  ·have e:L=[]:=List.eq_nil_of_length_eq_zero (by omega)
   rw[if_pos e]
   exact⟨rfl,rfl⟩
  ·have e:L≠[]:=λe=>by rw[e] at hfin; simp at hfin; omega
   rw[if_neg e,w1d hc λh=>by omega]
   exact⟨rfl,rfl⟩
def x1a:Fit:=([],[])
def w4m (m:List (List Int)) (y:List Int):Fit × Int:=if(q45 m y).2=0 then(nF (q45 m y).1 0,0) else(x1a,(q45 m y).2)
theorem x1b {L:List Fit} (h:L≠[]):0<(spL L).length:=by
 cases L with
 | nil=>exact absurd rfl h
 | cons f l=>
  unfold spL
  rw[List.takeWhile_cons,if_pos]
  ·simp
  ·exact decide_eq_true (Nat.le_refl _)
theorem xg3 {m:List (List Int)} {y:List Int} (h:(q45 m y).2=0):0<(q45 m y).1.length:=by
 unfold q45 at h ⊢
 split
 ·rename_i he
  rw[if_pos he] at h
  split
  ·rename_i e; rw[if_pos e] at h; cases h
  ·rename_i e; exact x1b e
 ·rename_i he
  rw[if_neg he] at h
  exact absurd h he
abbrev ya4:qc9:=qg4 false none [qo2,qf1] [wp9,qg0] (λx=>q7s x.1 x.2.1) (λx=>((w4m x.1 x.2.1).1,(w4m x.1 x.2.1).2,()))
theorem w72:Meets Tryz.prog 76 ya4:=by
 refine meets (snd (SpecsOk.cons w35 (SpecsOk.nil _))) Tryz.func76 rfl rfl (λ_ _=>none) (λ_=>by kernel_rfl) (by decide) ?_
 rintro⟨m,y,⟨⟩⟩ h
 revert m y
 intro(m:List (List Int)) (y:List Int) (h:q7s m y)
 refine @qe1 _ (let Q0:=q45 m y; let Q1:=w4m m y; q7s m y/\((Q0.2 != (0:Int))=true->(Q1.1.1=[]/\Q1.1.2=[]/\True)/\Q0.2=Q1.2/\True)/\((Q0.2 != (0:Int))=false->((0:Int)<=(0:Int)/\(0:Int)<(↑Q0.1.length:Int))/\((qd1 (Ty.prod (Ty.list (Ty.int .i64)) (Ty.list (Ty.prod (Ty.int .i64) (Ty.int .i64)))) Q0.1 (0:Nat)).1=Q1.1.1/\(qd1 (Ty.prod (Ty.list (Ty.int .i64)) (Ty.list (Ty.prod (Ty.int .i64) (Ty.int .i64)))) Q0.1 (0:Nat)).2=Q1.1.2/\True)/\(0:Int)=Q1.2/\True)) (by kernel_rfl) ?_
 try simp only[z0,z1,z2,z3,z4,z5,z6,z7,z8,z9,z10,Int.reduceEq,z11,z12,z13,z14,z15,z16,z17,z18,z19,z20,z21,z22,z23,z24,z25,z26,z27,z28,z29,z30,Int.reduceLE,Int.reduceLT,z31,z32,z33,z34,qa1]
 try simp only[qb5,qb6,qd2,z31,z32,z2,z1]
 refine⟨h,λhe=>?_,λhe=>⟨by have:=xg3 he; omega,?_⟩⟩
 ·rw[w4m,if_neg (by omega)]; exact⟨⟨rfl,rfl⟩,rfl⟩
 ·rw[w4m,if_pos (by omega)]; exact⟨⟨rfl,rfl⟩,rfl⟩
end Go.Proofs.YtmijnbjlhnpokaaGreat
