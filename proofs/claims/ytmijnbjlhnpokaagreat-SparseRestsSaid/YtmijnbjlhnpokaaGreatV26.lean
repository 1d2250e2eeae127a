/- Fits collected, the sparsest ones, whole ones: contracts by the engine. No condition. -/
import Derived.Test.YtmijnbjlhnpokaaGreatV24
set_option linter.unusedVariables false
set_option linter.unusedSimpArgs false
namespace Go.Proofs.YtmijnbjlhnpokaaGreat
open Go Go.RowKit Eng
abbrev Fit:=List Int × List (Int × Int)
def qh3 (m:List (List Int)) (y:List Int) (s:List (List Int)):List Fit:=s.filterMap λpix=>if(q4i m y pix).2=true then some (q4i m y pix).1 else none
def qk0 (m:List (List Int)) (y:List Int):Nat->List Fit
 | 0=>[]
 | k+1=>qk0 m y k++qh3 m y (qf4 (nL m 0).length k)
def fitsN (m:List (List Int)) (k:Int):Nat:=(min (min k (nL m 0).length) m.length+1).toNat
def qk7 (m:List (List Int)) (y:List Int) (k:Int):List Fit:=qk0 m y (fitsN m k)
structure wc9 (m:List (List Int)) (y:List Int) (k:Int):Prop where
 k0:0<=k
 k1:k<=1000
 one:0<m.length
 rows:m.length<=1000
 pix:(nL m 0).length<=1000
 sets:∀j:Nat,j<fitsN m k->∀s∈qf4 (nL m 0).length j,q3l m s y/\s.length<=100000
abbrev xw4:q1w:=xk7 [qf8,tQ] [wn8] (λx=>wc9 x.2.1.1 x.2.1.2 x.1) (λx=>(qk7 x.2.1.1 x.2.1.2 x.1).map λf=>(f,()))
def xw5:List AObj:=[.dead,.dead,.dead,.dead,.dead,.dead,.dead,.dead,.dead]
def xw6 (m:List (List Int)) (y:List Int) (k:Int):Nat->Option Inv
 | 0=>some (Eng.Inv.mk Nat Nat [16] 11 (λ_ s=>[(16,.lit (.int .i64 s))]) (λl s=>.cnt (some (qk0 m y s).length) :: .box 226 (.cons (.lit (.func (.yield l) #[] #[])) .nil) :: xw5) (λ_ s=>s<=fitsN m k) (λ_ s=>fitsN m k-s))
 | 1=>some (Eng.Inv.mk (Nat × Nat) Nat [] 11 (λ_ _=>[]) (λq c=>.cnt (some ((qk0 m y q.2).length+(qh3 m y ((qf4 (nL m 0).length q.2).take c)).length)) :: .box 226 (.cons (.lit (.func (.yield q.1) #[] #[])) .nil) :: xw5) (λq c=>c<=(qf4 (nL m 0).length q.2).length) (λ_ c=>c))
 | _=>none
theorem q87 (m:List (List Int)) (y:List Int) (a:Nat):∀j,∃t,qk0 m y (a+j)=qk0 m y a++t
 | 0=>⟨[],by simp⟩
 | j+1=>by
  obtain⟨t,ht⟩:=q87 m y a j
  exact⟨t++qh3 m y (qf4 (nL m 0).length (a+j:Nat)),by rw[<- Nat.add_assoc,qk0,ht,List.append_assoc]⟩
theorem q03 (m:List (List Int)) (y:List Int) {s:List (List Int)} {c:Nat} {p:List Int} (h:s[c]? = some p):qh3 m y (s.take (c+1))=qh3 m y (s.take c)++if(q4i m y p).2=true then[(q4i m y p).1] else[]:=by
 rw[List.take_add_one,h]
 unfold qh3
 rw[List.filterMap_append]
 congr 1
 simp only[Option.toList_some,List.filterMap_cons,List.filterMap_nil]
 by_cases hf:(q4i m y p).2=true
 ·rw[if_pos hf,if_pos hf]
 ·rw[if_neg hf,if_neg hf]
theorem w2w (m:List (List Int)) (y:List Int) {s:List (List Int)} {c:Nat} {p:List Int} (h:s[c]? = some p) (hf:(q4i m y p).2=true):∃t,qh3 m y s=qh3 m y (s.take c)++(q4i m y p).1 :: t:=by
 have e:s=s.take (c+1)++s.drop (c+1):=(List.take_append_drop _ _).symm
 have h1:qh3 m y s=qh3 m y (s.take (c+1))++qh3 m y (s.drop (c+1)):=by
  unfold qh3
  rw[<- List.filterMap_append,List.take_append_drop]
 rw[h1,q03 m y h,if_pos hf]
 exact⟨qh3 m y (s.drop (c+1)),by simp⟩
theorem w2x:q0o Tryz.prog 214 xw4:=by
 refine says (x4w (SpecsOk.cons q83 (SpecsOk.cons w6m (SpecsOk.cons q80 (SpecsOk.nil _)))) (ItsOk.cons q8z ItsOk.nil)) Tryz.func214 rfl rfl rfl [32] (λx=>xw6 x.2.1.1 x.2.1.2 x.1) (λ_=>by kernel_rfl) (by decide) ?_
 rintro⟨k,q,⟨⟩⟩ l h
 revert k q
 intro(k:Int) (q:List (List Int) × List Int) (h:wc9 q.1 q.2 k)
 refine @qe0 _ (let Q0:=qk7 q.1 q.2 k; let Q1:=(k,q,PUnit.unit); let Q2:=fitsN q.1 k; let Q3:=Int × Int; (0:Nat)<q.1.length/\fits .i64 (max2 false (max2 false k (↑(nL q.1 (0:Nat)).length:Int)) (↑q.1.length:Int)+(1:Int))/\∃(v0:Nat),∃(v1:Nat),Nat.le v1 Q2/\(((0:Int)=(↑v1:Int)/\True)/\some (0:Nat)=some (qk0 q.1 q.2 v1).length/\(Value.func (Fn.yield l) #[] #[]=Value.func (Fn.yield v0) #[] #[]/\True)/\True/\True/\True/\True/\True/\True/\True/\True/\True/\True)/\∀(v2:Nat),Nat.le v2 Q2->(decide ((↑v2:Int)<max2 false (max2 false k (↑(nL q.1 (0:Nat)).length:Int)) (↑q.1.length:Int)+(1:Int))=true->(0:Nat)<q.1.length/\True/\(((0:Ty.den qf8)<=(↑v2:Int)/\(↑v2:Int)<=(1000:Ty.den qf8))/\(0:Ty.den qf8)<=(↑(nL q.1 (0:Nat)).length:Int)/\(↑(nL q.1 (0:Nat)).length:Int)<=(1000:Ty.den qf8))/\∃(v5:Nat × Nat),∃(v6:Nat),Nat.le v6 (qf4 (↑(nL q.1 (0:Nat)).length:Int) (↑v5.2:Int)).length/\v6=(0:Nat)/\(some (qk0 q.1 q.2 v2).length=some ((qk0 q.1 q.2 v5.2).length+(qh3 q.1 q.2 (List.take v6 (qf4 (↑(nL q.1 (0:Nat)).length:Int) (↑v5.2:Int)))).length)/\(Value.func (Fn.yield v0) #[] #[]=Value.func (Fn.yield v5.1) #[] #[]/\True)/\True/\True/\True/\True/\True/\True/\True/\True/\True/\True)/\∀(v7:Nat),Nat.le v7 (qf4 (↑(nL q.1 (0:Nat)).length:Int) (↑v5.2:Int)).length->(∀(v9:List Int × qa5._f [] PUnit.unit),(List.map (λ(v11:List Int)=>(v11,())) (qf4 (↑(nL q.1 (0:Nat)).length:Int) (↑v2:Int)))[v7]?=some v9->∀(v11:q7s),(q3l q.1 (nL [v9.1] (0:Nat)) q.2/\(nL [v9.1] (0:Nat)).length<=(100000:Nat))/\[v9.1]=[v9.1]/\v11=v11/\True/\((q4i q.1 q.2 (nL [v9.1] (0:Nat))).2=true->Value.func (Fn.yield v5.1) #[] #[]=Value.func (Fn.yield (qk8.l (q7y [qf8,tQ] [wn8] [(32:Nat)] Q1 (List.map (λ(v13:List Int × List Q3)=>(v13,())) Q0) l))) #[] #[]/\(qk8.L (q7y [qf8,tQ] [wn8] [(32:Nat)] Q1 (List.map (λ(v13:List Int × List Q3)=>(v13,())) Q0) l))[(qk0 q.1 q.2 v5.2).length+(qh3 q.1 q.2 (List.take v7 (qf4 (↑(nL q.1 (0:Nat)).length:Int) (↑v5.2:Int)))).length]?=some (((q4i q.1 q.2 (nL [v9.1] (0:Nat))).1.1,(q4i q.1 q.2 (nL [v9.1] (0:Nat))).1.2),())/\(∃(v13:Nat),Nat.le v13 (qf4 (↑(nL q.1 (0:Nat)).length:Int) (↑v5.2:Int)).length/\v13=v7+(1:Nat)/\some ((qk0 q.1 q.2 v5.2).length+(qh3 q.1 q.2 (List.take v7 (qf4 (↑(nL q.1 (0:Nat)).length:Int) (↑v5.2:Int)))).length+(1:Nat))=some ((qk0 q.1 q.2 v5.2).length+(qh3 q.1 q.2 (List.take v13 (qf4 (↑(nL q.1 (0:Nat)).length:Int) (↑v5.2:Int)))).length)/\(Value.func (Fn.yield v5.1) #[] #[]=Value.func (Fn.yield v5.1) #[] #[]/\True)/\True/\True/\True/\True/\True/\True/\True/\True/\True/\True)/\True)/\((q4i q.1 q.2 (nL [v9.1] (0:Nat))).2=false->∃(v13:Nat),Nat.le v13 (qf4 (↑(nL q.1 (0:Nat)).length:Int) (↑v5.2:Int)).length/\v13=v7+(1:Nat)/\some ((qk0 q.1 q.2 v5.2).length+(qh3 q.1 q.2 (List.take v7 (qf4 (↑(nL q.1 (0:Nat)).length:Int) (↑v5.2:Int)))).length)=some ((qk0 q.1 q.2 v5.2).length+(qh3 q.1 q.2 (List.take v13 (qf4 (↑(nL q.1 (0:Nat)).length:Int) (↑v5.2:Int)))).length)/\(Value.func (Fn.yield v5.1) #[] #[]=Value.func (Fn.yield v5.1) #[] #[]/\True)/\True/\True/\True/\True/\True/\True/\True/\True/\True/\True))/\(v7=(List.map (λ(v10:List Int)=>(v10,())) (qf4 (↑(nL q.1 (0:Nat)).length:Int) (↑v2:Int))).length->fits .i64 ((↑v2:Int)+(1:Int))/\∃(v10:Nat),Nat.le v10 Q2/\fitsN q.1 k-v10<fitsN q.1 k-v2/\((↑v2:Int)+(1:Int)=(↑v10:Int)/\True)/\some ((qk0 q.1 q.2 v5.2).length+(qh3 q.1 q.2 (List.take v7 (qf4 (↑(nL q.1 (0:Nat)).length:Int) (↑v5.2:Int)))).length)=some (qk0 q.1 q.2 v10).length/\(Value.func (Fn.yield v5.1) #[] #[]=Value.func (Fn.yield v0) #[] #[]/\True)/\True/\True/\True/\True/\True/\True/\True/\True/\True/\True))/\(decide ((↑v2:Int)<max2 false (max2 false k (↑(nL q.1 (0:Nat)).length:Int)) (↑q.1.length:Int)+(1:Int))=false->(qk0 q.1 q.2 v2).length=(qk8.L (q7y [qf8,tQ] [wn8] [(32:Nat)] Q1 (List.map (λ(v5:List Int × List Q3)=>(v5,())) Q0) l)).length)) (by kernel_rfl) ?_
 try simp only[z0,z1,z2,z3,z4,z5,z6,z7,z8,z9,z10,Int.reduceEq,z11,z12,z13,z14,z15,z16,z17,z18,z19,z20,z21,z22,z23,z24,z25,z26,z27,z28,z29,z30,Int.reduceLE,Int.reduceLT,z31,z32,z33,z34,qa1]
 try simp only[qb4,qb5,qc8,z31,z32,z2,z1]
 have hk0:=h.k0
 have hk1:=h.k1
 have hone:=h.one
 have hrows:=h.rows
 have hpix:=h.pix
 have hN:(fitsN q.1 k:Int)=min (min k (nL q.1 0).length) q.1.length+1:=by unfold fitsN; omega
 have hM:max2 false (max2 false k ((nL q.1 0).length:Int)) (q.1.length:Int)=min (min k (nL q.1 0).length) q.1.length:=rfl
 rw[hM]
 refine⟨hone,qa7 (by omega) (by omega),l,0,Nat.zero_le _,⟨rfl,rfl,rfl⟩,λs hs=>⟨λhlt=>?_,λhge=>?_⟩⟩
 ·have hsN:s<fitsN q.1 k:=by omega
  refine⟨hone,by omega,(l,s),0,Nat.zero_le _,rfl,⟨by simp[qh3],rfl⟩,λc hc=>⟨?_,λhfin=>?_⟩⟩
  ·rintro⟨p,⟨⟩⟩ hp -
   have hp2:(qf4 (nL q.1 0).length s)[c]? = some p:=by
    rw[List.getElem?_map] at hp
    obtain⟨p',h1,h2⟩:=Option.map_eq_some_iff.1 hp
    rw[h1]
    exact congrArg some (congrArg Prod.fst h2)
   have hcl:=(List.getElem?_eq_some_iff.1 hp2).1
   dsimp only
   refine⟨h.sets s hsN p (List.mem_of_getElem? hp2),λhf=>⟨rfl,?_,c+1,hcl,rfl,?_⟩,λhf=>⟨c+1,hcl,rfl,?_⟩⟩
   ·show((qk7 q.1 q.2 k).map λf=>((f,()):qa5 [wn8]))[(qk0 q.1 q.2 s).length+(qh3 q.1 q.2 ((qf4 (nL q.1 0).length s).take c)).length]? = some ((q4i q.1 q.2 p).1,())
    obtain⟨t,ht⟩:=q87 q.1 q.2 (s+1) (fitsN q.1 k-(s+1))
    rw[show s+1+(fitsN q.1 k-(s+1))=fitsN q.1 k by omega,qk0] at ht
    obtain⟨t2,ht2⟩:=w2w q.1 q.2 hp2 hf
    rw[List.getElem?_map]
    unfold qk7
    rw[ht,ht2,List.append_assoc,List.append_assoc,List.getElem?_append_right (by omega),Nat.add_sub_cancel_left,List.getElem?_append_right (Nat.le_refl _),Nat.sub_self]
    rfl
   ·rw[q03 q.1 q.2 hp2,if_pos hf,List.length_append]
    rfl
   ·rw[q03 q.1 q.2 hp2,if_neg (by rw[hf]; decide),List.append_nil]
  ·rw[List.length_map] at hfin
   refine⟨qa7 (by omega) (by omega),s+1,hsN,by omega,by omega,?_,rfl⟩
   dsimp only
   rw[hfin,List.take_length,qk0,List.length_append]
 ·have e:s=fitsN q.1 k:=by omega
  show(qk0 q.1 q.2 s).length=((qk7 q.1 q.2 k).map λf=>((f,()):qa5 [wn8])).length
  rw[List.length_map,e]
  rfl
abbrev xw7:qc7:=w9m false none [tQ,qf8] (λ_=>True) (λx=>.clo 214 (.cons (.imm (.cons (.lit (.int .i64 x.2.1)) .nil) 0) (.cons (.imm (.cons (.dat (.list (.int .i64)) x.1.1) (.cons (.dat (.int .i64) x.1.2) .nil)) 0) .nil)))
theorem ws4:Meets Tryz.prog 159 xw7:=by
 refine wy7 (snd (SpecsOk.nil _)) Tryz.func159 rfl rfl (λ_ _=>none) (λ_=>by kernel_rfl) (by decide) ?_
 rintro⟨q,k,⟨⟩⟩ -
 revert q k
 intro(q:List (List Int) × List Int) (k:Int)
 refine @qe0 _ (((k=k/\True)/\(0:Nat)=(0:Nat))/\((q.1=q.1/\q.2=q.2/\True)/\(0:Nat)=(0:Nat))/\True) (by kernel_rfl) ?_
 try simp only[z0,z1,z2,z3,z4,z5,z6,z7,z8,z9,z10,Int.reduceEq,z11,z12,z13,z14,z15,z16,z17,z18,z19,z20,z21,z22,z23,z24,z25,z26,z27,z28,z29,z30,Int.reduceLE,Int.reduceLT,z31,z32,z33,z34,qa1]
 try simp only[qb4,qb5,qc8,z31,z32,z2,z1]
structure w0m (m:List (List Int)) (y:List Int) (k:Int):Prop where
 pre:wc9 m y k
 len:(qk7 m y k).length<=1000000
def spL (L:List Fit):List Fit:=L.takeWhile λf=>decide (f.1.length<=(nF L 0).1.length)
def q4k (m:List (List Int)) (y:List Int):List Fit × Int:=if qp2 m y []=0 then(if qk7 m y 10=[] then([],10) else(spL (qk7 m y 10),0)) else([],qp2 m y [])
structure q7d (m:List (List Int)) (y:List Int):Prop where
 ok:qp2 m y []=0->w0m m y 10
structure w2y (L:List Fit) (c:Nat):Prop where
 le:c<=L.length
 all:∀i,i<c->(nF L i).1.length<=(nF L 0).1.length
abbrev x3c:qc7:=qg0 false none [qk2,qd4] [x2x,qf8] (λx=>q7d x.1 x.2.1) (λx=>((q4k x.1 x.2.1).1,(q4k x.1 x.2.1).2,()))
def xw8 (L:List Fit):Nat->Option Inv
 | 0=>some (Inv.of [] 2 (λ_=>[]) (λc:Nat=>[.box 127 (.cons (.own 1) .nil),.vec 72 wn8 (L.take c)]) (λc=>w2y L c) (λc=>c))
 | _=>none
theorem w60 {α:Type} (p:α->Bool):∀(l:List α) (c:Nat),c<=l.length->(∀(i:Nat) (h:i<l.length),i<c->p l[i]=true)->(∀h:c<l.length,p l[c]=false)->l.takeWhile p=l.take c
 | [],c,h,_,_=>by simp
 | x :: l,0,_,_,h2=>by
  have:=h2 (by simp)
  simp only[List.getElem_cons_zero] at this
  simp[List.takeWhile_cons,this]
 | x :: l,c+1,h,h1,h2=>by
  have hx:=h1 0 (by simp) (by omega)
  simp only[List.getElem_cons_zero] at hx
  rw[List.takeWhile_cons,hx,if_pos rfl,List.take_succ_cons,w60 p l c (by simpa using h) (λi hi hc=>h1 (i+1) (by simpa using hi) (by omega)) (λhc=>h2 (by simpa using hc))]
theorem xb6 (l:List Fit) (i:Nat) (h:i<l.length):nF l i=l[i]:=qk4 (t:=wn8) l i h
theorem w0n {L:List Fit} {c:Nat} (h:w2y L c) (hs:∀h:c<L.length,(nF L 0).1.length<(nF L c).1.length):spL L=L.take c:=by
 refine w60 _ L c h.le (λi hi hc=>?_) λhc=>?_
 ·have:=h.all i hc
  rw[xb6 L i hi] at this
  exact decide_eq_true this
 ·have:=hs hc
  rw[xb6 L c hc] at this
  exact decide_eq_false (by omega)
theorem w2z:Meets Tryz.prog 99 x3c:=by
 refine meets (x4w (SpecsOk.cons q3e (SpecsOk.cons ws4 (SpecsOk.nil _))) (ItsOk.cons w2x ItsOk.nil)) Tryz.func99 rfl rfl (λx=>xw8 (qk7 x.1 x.2.1 10)) (λ_=>by kernel_rfl) (by decide) ?_
 rintro⟨m,y,⟨⟩⟩ h
 revert m y
 intro(m:List (List Int)) (y:List Int) (h:q7d m y)
 refine @qe0 _ (let Q0:=q4k m y; Value.slice none (0:Nat) (0:Nat)=Value.slice none (0:Nat) (0:Nat)/\(0:Nat)<=(1000000:Nat)/\((qp2 m y [] != (0:Int))=true->Q0.1=[]/\qp2 m y []=Q0.2/\True)/\((qp2 m y [] != (0:Int))=false->True/\wc9 m y (10:Int)/\∃(v1:Unit),∃(v2:Nat),w2y (qk7 m y (10:Int)) v2/\v2=(0:Nat)/\((True/\True)/\List.take v2 (qk7 m y (10:Int))=[]/\True)/\∀(v3:Nat),w2y (qk7 m y (10:Int)) v3->(∀(v5:(List Int × List (Int × Int)) × qa5._f [] PUnit.unit),(List.map (λ(v7:List Int × List (Int × Int))=>(v7,())) (qk7 m y (10:Int)))[v3]?=some v5->(decide ((0:Int)<(↑(List.take v3 (qk7 m y (10:Int))).length:Int))=true->((0:Int)<=(0:Int)/\(0:Int)<(↑(List.take v3 (qk7 m y (10:Int))).length:Int))/\(0:Nat)<(List.take v3 (qk7 m y (10:Int))).length/\(decide ((↑(qf2 wn8 (List.take v3 (qk7 m y (10:Int))) (0:Nat)).1.length:Int)<(↑v5.1.1.length:Int))=true->(((↑(List.take v3 (qk7 m y (10:Int))).length:Int)==(0:Int))=true->Q0.1=[]/\(10:Int)=Q0.2/\True)/\(((↑(List.take v3 (qk7 m y (10:Int))).length:Int)==(0:Int))=false->List.take v3 (qk7 m y (10:Int))=Q0.1/\(0:Int)=Q0.2/\True))/\(decide ((↑(qf2 wn8 (List.take v3 (qk7 m y (10:Int))) (0:Nat)).1.length:Int)<(↑v5.1.1.length:Int))=false->((0:Nat)<List.length [(v5.1.1,v5.1.2)]/\Nat.le ((List.take v3 (qk7 m y (10:Int))).length+List.length [(v5.1.1,v5.1.2)]) (1000000:Nat))/\∃(v9:Nat),w2y (qk7 m y (10:Int)) v9/\v9=v3+(1:Nat)/\(True/\True)/\List.take v3 (qk7 m y (10:Int))++[(v5.1.1,v5.1.2)]=List.take v9 (qk7 m y (10:Int))/\True))/\(decide ((0:Int)<(↑(List.take v3 (qk7 m y (10:Int))).length:Int))=false->((0:Nat)<List.length [(v5.1.1,v5.1.2)]/\Nat.le ((List.take v3 (qk7 m y (10:Int))).length+List.length [(v5.1.1,v5.1.2)]) (1000000:Nat))/\∃(v8:Nat),w2y (qk7 m y (10:Int)) v8/\v8=v3+(1:Nat)/\(True/\True)/\List.take v3 (qk7 m y (10:Int))++[(v5.1.1,v5.1.2)]=List.take v8 (qk7 m y (10:Int))/\True))/\(v3=(List.map (λ(v6:List Int × List (Int × Int))=>(v6,())) (qk7 m y (10:Int))).length->(((↑(List.take v3 (qk7 m y (10:Int))).length:Int)==(0:Int))=true->Q0.1=[]/\(10:Int)=Q0.2/\True)/\(((↑(List.take v3 (qk7 m y (10:Int))).length:Int)==(0:Int))=false->List.take v3 (qk7 m y (10:Int))=Q0.1/\(0:Int)=Q0.2/\True)))) (by kernel_rfl) ?_
 try simp only[z0,z1,z2,z3,z4,z5,z6,z7,z8,z9,z10,Int.reduceEq,z11,z12,z13,z14,z15,z16,z17,z18,z19,z20,z21,z22,z23,z24,z25,z26,z27,z28,z29,z30,Int.reduceLE,Int.reduceLT,z31,z32,z33,z34,qa1]
 try simp only[qb4,qb5,qc8,z31,z32,z2,z1]
 refine⟨by omega,λhe=>by simp[q4k,he],λhe=>?_⟩
 have hp:=h.ok he
 have hR:q4k m y=if qk7 m y 10=[] then([],10) else(spL (qk7 m y 10),0):=by rw[q4k,if_pos he]
 have hlen:=hp.len
 refine⟨hp.pre,(),0,⟨Nat.zero_le _,λi hi=>absurd hi (by omega)⟩,rfl,rfl,?_⟩
 generalize qk7 m y 10=L at hR hlen ⊢
 rw[hR]
 rintro c hc
 have hcl:=hc.le
 have htl:(L.take c).length=c:=by rw[List.length_take]; omega
 rw[htl]
 refine⟨?_,λhfin=>?_⟩
 ·rintro⟨f,⟨⟩⟩ hf
  rw[List.getElem?_map] at hf
  obtain⟨f',h1,h2⟩:=Option.map_eq_some_iff.1 hf
  obtain rfl:f'=f:=congrArg Prod.fst h2
  have hlt:=(List.getElem?_eq_some_iff.1 h1).1
  have hLne:L≠[]:=λe=>by rw[e] at hlt; exact absurd hlt (by simp)
  have hfe:nF L c=f':=by rw[xb6 L c hlt]; exact(List.getElem?_eq_some_iff.1 h1).2
  have hnx:L.take c++[(f'.1,f'.2)]=L.take (c+1):=by rw[List.take_add_one,h1]; rfl
  refine⟨λh0=>?_,λh0=>?_⟩
  ·have h0:0<c:=by omega
   have hn0:qf2 wn8 (L.take c) 0=nF L 0:=by
    rw[qk4 (t:=wn8) _ 0 (by rw[htl]; exact h0),xb6 L 0 (by omega)]
    simp
   rw[hn0]
   refine⟨by omega,h0,λhbr=>⟨λhz=>by omega,λ_=>?_⟩,λhbr=>⟨by omega,c+1,⟨hlt,λi hi=>?_⟩,rfl,hnx⟩⟩
   ·rw[if_neg hLne,w0n hc λ_=>by rw[hfe]; exact hbr]
    exact⟨rfl,rfl⟩
   ·by_cases e:i=c
    ·have hbr:¬(nF L 0).1.length<f'.1.length:=hbr
     subst e; rw[hfe]; omega
    ·exact hc.all i (by omega)
  ·have h0:c=0:=by omega
   subst h0
   exact⟨by omega,1,⟨hlt,λi hi=>(by have e:i=0:=(by omega); subst e; exact Nat.le_refl _)⟩,rfl,hnx⟩
 ·rw[List.length_map] at hfin
  refine⟨λhz=>?_,λhz=>?_⟩
  ·have e:L=[]:=List.eq_nil_of_length_eq_zero (by omega)
   rw[if_pos e]
   exact⟨rfl,rfl⟩
  ·have e:L≠[]:=λe=>by rw[e] at hfin; simp at hfin; omega
   rw[if_neg e,w0n hc λh=>by omega]
   exact⟨rfl,rfl⟩
def xw9:Fit:=([],[])
def w3f (m:List (List Int)) (y:List Int):Fit × Int:=if(q4k m y).2=0 then(nF (q4k m y).1 0,0) else(xw9,(q4k m y).2)
theorem xx0 {L:List Fit} (h:L≠[]):0<(spL L).length:=by
 cases L with
 | nil=>exact absurd rfl h
 | cons f l=>
  unfold spL
  rw[List.takeWhile_cons,if_pos]
  ·simp
  ·exact decide_eq_true (Nat.le_refl _)
theorem xb7 {m:List (List Int)} {y:List Int} (h:(q4k m y).2=0):0<(q4k m y).1.length:=by
 unfold q4k at h ⊢
 split
 ·rename_i he
  rw[if_pos he] at h
  split
  ·rename_i e; rw[if_pos e] at h; cases h
  ·rename_i e; exact xx0 e
 ·rename_i he
  rw[if_neg he] at h
  exact absurd h he
abbrev x7a:qc7:=qg0 false none [qk2,qd4] [wn8,qf8] (λx=>q7d x.1 x.2.1) (λx=>((w3f x.1 x.2.1).1,(w3f x.1 x.2.1).2,()))
theorem w61:Meets Tryz.prog 76 x7a:=by
 refine meets (snd (SpecsOk.cons w2z (SpecsOk.nil _))) Tryz.func76 rfl rfl (λ_ _=>none) (λ_=>by kernel_rfl) (by decide) ?_
 rintro⟨m,y,⟨⟩⟩ h
 revert m y
 intro(m:List (List Int)) (y:List Int) (h:q7d m y)
 refine @qe0 _ (let Q0:=q4k m y; let Q1:=w3f m y; q7d m y/\((Q0.2 != (0:Int))=true->(Q1.1.1=[]/\Q1.1.2=[]/\True)/\Q0.2=Q1.2/\True)/\((Q0.2 != (0:Int))=false->((0:Int)<=(0:Int)/\(0:Int)<(↑Q0.1.length:Int))/\((qf2 (Ty.prod (Ty.list (Ty.int .i64)) (Ty.list (Ty.prod (Ty.int .i64) (Ty.int .i64)))) Q0.1 (0:Nat)).1=Q1.1.1/\(qf2 (Ty.prod (Ty.list (Ty.int .i64)) (Ty.list (Ty.prod (Ty.int .i64) (Ty.int .i64)))) Q0.1 (0:Nat)).2=Q1.1.2/\True)/\(0:Int)=Q1.2/\True)) (by kernel_rfl) ?_
 try simp only[z0,z1,z2,z3,z4,z5,z6,z7,z8,z9,z10,Int.reduceEq,z11,z12,z13,z14,z15,z16,z17,z18,z19,z20,z21,z22,z23,z24,z25,z26,z27,z28,z29,z30,Int.reduceLE,Int.reduceLT,z31,z32,z33,z34,qa1]
 try simp only[qb4,qb5,qc8,z31,z32,z2,z1]
 refine⟨h,λhe=>?_,λhe=>⟨by have:=xb7 he; omega,?_⟩⟩
 ·rw[w3f,if_neg (by omega)]; exact⟨⟨rfl,rfl⟩,rfl⟩
 ·rw[w3f,if_pos (by omega)]; exact⟨⟨rfl,rfl⟩,rfl⟩
end Go.Proofs.YtmijnbjlhnpokaaGreat
