/- Fits collected, the sparsest ones, whole ones: contracts by the engine. No condition. -/
import Derived.Test.YtdibdlelmkcccaaV24
set_option linter.unusedVariables false
set_option linter.unusedSimpArgs false
namespace Go.Proofs.Ytdibdlelmkcccaa
open Go Go.RowKit Eng
abbrev Fit:=List Int × List (Int × Int)
def qh2 (m:List (List Int)) (y:List Int) (s:List (List Int)):List Fit:=s.filterMap λpix=>if(q00 m y pix).2=true then some (q00 m y pix).1 else none
def qk2 (m:List (List Int)) (y:List Int):Nat->List Fit
 | 0=>[]
 | k+1=>qk2 m y k++qh2 m y (qe3 (nL m 0).length k)
def fitsN (m:List (List Int)) (k:Int):Nat:=(min (min k (nL m 0).length) m.length+1).toNat
def qk8 (m:List (List Int)) (y:List Int) (k:Int):List Fit:=qk2 m y (fitsN m k)
structure wc0 (m:List (List Int)) (y:List Int) (k:Int):Prop where
 k0:0<=k
 k1:k<=1000
 one:0<m.length
 rows:m.length<=1000
 pix:(nL m 0).length<=1000
 sets:∀j:Nat,j<fitsN m k->∀s∈qe3 (nL m 0).length j,q3i m s y/\s.length<=100000
abbrev xs2:q14:=xf6 [qg1,tQ] [wm6] (λx=>wc0 x.2.1.1 x.2.1.2 x.1) (λx=>(qk8 x.2.1.1 x.2.1.2 x.1).map λf=>(f,()))
def xs3:List AObj:=[.dead,.dead,.dead,.dead,.dead,.dead,.dead,.dead,.dead]
def xs4 (m:List (List Int)) (y:List Int) (k:Int):Nat->Option Inv
 | 0=>some (Eng.Inv.mk Nat Nat [16] 11 (λ_ s=>[(16,.lit (.int .i64 s))]) (λl s=>.cnt (some (qk2 m y s).length) :: .box 79 (.cons (.lit (.func (.yield l) #[] #[])) .nil) :: xs3) (λ_ s=>s<=fitsN m k) (λ_ s=>fitsN m k-s))
 | 1=>some (Eng.Inv.mk (Nat × Nat) Nat [] 11 (λ_ _=>[]) (λq c=>.cnt (some ((qk2 m y q.2).length+(qh2 m y ((qe3 (nL m 0).length q.2).take c)).length)) :: .box 79 (.cons (.lit (.func (.yield q.1) #[] #[])) .nil) :: xs3) (λq c=>c<=(qe3 (nL m 0).length q.2).length) (λ_ c=>c))
 | _=>none
theorem q88 (m:List (List Int)) (y:List Int) (a:Nat):∀j,∃t,qk2 m y (a+j)=qk2 m y a++t
 | 0=>⟨[],by simp⟩
 | j+1=>by
  obtain⟨t,ht⟩:=q88 m y a j
  exact⟨t++qh2 m y (qe3 (nL m 0).length (a+j:Nat)),by rw[<- Nat.add_assoc,qk2,ht,List.append_assoc]⟩
theorem q05 (m:List (List Int)) (y:List Int) {s:List (List Int)} {c:Nat} {p:List Int} (h:s[c]? = some p):qh2 m y (s.take (c+1))=qh2 m y (s.take c)++if(q00 m y p).2=true then[(q00 m y p).1] else[]:=by
 rw[List.take_add_one,h]
 unfold qh2
 rw[List.filterMap_append]
 congr 1
 simp only[Option.toList_some,List.filterMap_cons,List.filterMap_nil]
 by_cases hf:(q00 m y p).2=true
 ·rw[if_pos hf,if_pos hf]
 ·rw[if_neg hf,if_neg hf]
theorem w2j (m:List (List Int)) (y:List Int) {s:List (List Int)} {c:Nat} {p:List Int} (h:s[c]? = some p) (hf:(q00 m y p).2=true):∃t,qh2 m y s=qh2 m y (s.take c)++(q00 m y p).1 :: t:=by
 have e:s=s.take (c+1)++s.drop (c+1):=(List.take_append_drop _ _).symm
 have h1:qh2 m y s=qh2 m y (s.take (c+1))++qh2 m y (s.drop (c+1)):=by
  unfold qh2
  rw[<- List.filterMap_append,List.take_append_drop]
 rw[h1,q05 m y h,if_pos hf]
 exact⟨qh2 m y (s.drop (c+1)),by simp⟩
theorem w2k:q21 Try.prog 75 xs2:=by
 refine says (x1z (SpecsOk.cons w15 (SpecsOk.cons w5r (SpecsOk.cons q8w (SpecsOk.nil _)))) (ItsOk.cons q8v ItsOk.nil)) Try.func75 rfl rfl rfl [32] (λx=>xs4 x.2.1.1 x.2.1.2 x.1) (λ_=>by kernel_rfl) (by decide) ?_
 rintro⟨k,q,⟨⟩⟩ l h
 revert k q
 intro(k:Int) (q:List (List Int) × List Int) (h:wc0 q.1 q.2 k)
 refine qe6 (B:=(0:Nat)<List.length (Prod.fst q)/\fits .i64 (max2 false (max2 false k (↑(List.length (nL (Prod.fst q) (0:Nat))):Int)) (↑(List.length (Prod.fst q)):Int)+(1:Int))/\∃(v0:Nat),∃(v1:Nat),Nat.le v1 (fitsN (Prod.fst q) k)/\(((0:Int)=(↑v1:Int)/\True)/\some (0:Nat)=some (List.length (qk2 (Prod.fst q) (Prod.snd q) v1))/\(Value.func (Fn.yield l) #[] #[]=Value.func (Fn.yield v0) #[] #[]/\True)/\True/\True/\True/\True/\True/\True/\True/\True/\True/\True)/\∀(v2:Nat),Nat.le v2 (fitsN (Prod.fst q) k)->(decide ((↑v2:Int)<max2 false (max2 false k (↑(List.length (nL (Prod.fst q) (0:Nat))):Int)) (↑(List.length (Prod.fst q)):Int)+(1:Int))=true->(0:Nat)<List.length (Prod.fst q)/\True/\(((0:Ty.den qg1)<=(↑v2:Int)/\(↑v2:Int)<=(1000:Ty.den qg1))/\(0:Ty.den qg1)<=(↑(List.length (nL (Prod.fst q) (0:Nat))):Int)/\(↑(List.length (nL (Prod.fst q) (0:Nat))):Int)<=(1000:Ty.den qg1))/\∃(v5:Nat × Nat),∃(v6:Nat),Nat.le v6 (List.length (qe3 (↑(List.length (nL (Prod.fst q) (0:Nat))):Int) (↑(Prod.snd v5):Int)))/\v6=(0:Nat)/\(some (List.length (qk2 (Prod.fst q) (Prod.snd q) v2))=some (List.length (qk2 (Prod.fst q) (Prod.snd q) (Prod.snd v5))+List.length (qh2 (Prod.fst q) (Prod.snd q) (List.take v6 (qe3 (↑(List.length (nL (Prod.fst q) (0:Nat))):Int) (↑(Prod.snd v5):Int)))))/\(Value.func (Fn.yield v0) #[] #[]=Value.func (Fn.yield (Prod.fst v5)) #[] #[]/\True)/\True/\True/\True/\True/\True/\True/\True/\True/\True/\True)/\∀(v7:Nat),Nat.le v7 (List.length (qe3 (↑(List.length (nL (Prod.fst q) (0:Nat))):Int) (↑(Prod.snd v5):Int)))->(∀(v9:List Int × qa7._f [] PUnit.unit),(List.map (λ(v11:List Int)=>(v11,())) (qe3 (↑(List.length (nL (Prod.fst q) (0:Nat))):Int) (↑v2:Int)))[v7]?=some v9->∀(v11:q7x),(q3i (Prod.fst q) (qa3 (Ty.list (Ty.int .i64)) [Prod.fst v9] (0:Nat)) (Prod.snd q)/\List.length (qa3 (Ty.list (Ty.int .i64)) [Prod.fst v9] (0:Nat))<=(100000:Nat))/\[Prod.fst v9]=[Prod.fst v9]/\v11=v11/\True/\(Prod.snd (q00 (Prod.fst q) (Prod.snd q) (qa3 (Ty.list (Ty.int .i64)) [Prod.fst v9] (0:Nat)))=true->Value.func (Fn.yield (Prod.fst v5)) #[] #[]=Value.func (Fn.yield (ql3.l (q72 [qg1,tQ] [wm6] [(32:Nat)] (k,q,PUnit.unit) (List.map (λ(v13:List Int × List (Int × Int))=>(v13,())) (qk8 (Prod.fst q) (Prod.snd q) k)) l))) #[] #[]/\(ql3.L (q72 [qg1,tQ] [wm6] [(32:Nat)] (k,q,PUnit.unit) (List.map (λ(v13:List Int × List (Int × Int))=>(v13,())) (qk8 (Prod.fst q) (Prod.snd q) k)) l))[List.length (qk2 (Prod.fst q) (Prod.snd q) (Prod.snd v5))+List.length (qh2 (Prod.fst q) (Prod.snd q) (List.take v7 (qe3 (↑(List.length (nL (Prod.fst q) (0:Nat))):Int) (↑(Prod.snd v5):Int))))]?=some ((Prod.fst (Prod.fst (q00 (Prod.fst q) (Prod.snd q) (qa3 (Ty.list (Ty.int .i64)) [Prod.fst v9] (0:Nat)))),Prod.snd (Prod.fst (q00 (Prod.fst q) (Prod.snd q) (qa3 (Ty.list (Ty.int .i64)) [Prod.fst v9] (0:Nat))))),())/\(∃(v13:Nat),Nat.le v13 (List.length (qe3 (↑(List.length (nL (Prod.fst q) (0:Nat))):Int) (↑(Prod.snd v5):Int)))/\v13=v7+(1:Nat)/\some (List.length (qk2 (Prod.fst q) (Prod.snd q) (Prod.snd v5))+List.length (qh2 (Prod.fst q) (Prod.snd q) (List.take v7 (qe3 (↑(List.length (nL (Prod.fst q) (0:Nat))):Int) (↑(Prod.snd v5):Int))))+(1:Nat))=some (List.length (qk2 (Prod.fst q) (Prod.snd q) (Prod.snd v5))+List.length (qh2 (Prod.fst q) (Prod.snd q) (List.take v13 (qe3 (↑(List.length (nL (Prod.fst q) (0:Nat))):Int) (↑(Prod.snd v5):Int)))))/\(Value.func (Fn.yield (Prod.fst v5)) #[] #[]=Value.func (Fn.yield (Prod.fst v5)) #[] #[]/\True)/\True/\True/\True/\True/\True/\True/\True/\True/\True/\True)/\True)/\(Prod.snd (q00 (Prod.fst q) (Prod.snd q) (qa3 (Ty.list (Ty.int .i64)) [Prod.fst v9] (0:Nat)))=false->∃(v13:Nat),Nat.le v13 (List.length (qe3 (↑(List.length (nL (Prod.fst q) (0:Nat))):Int) (↑(Prod.snd v5):Int)))/\v13=v7+(1:Nat)/\some (List.length (qk2 (Prod.fst q) (Prod.snd q) (Prod.snd v5))+List.length (qh2 (Prod.fst q) (Prod.snd q) (List.take v7 (qe3 (↑(List.length (nL (Prod.fst q) (0:Nat))):Int) (↑(Prod.snd v5):Int)))))=some (List.length (qk2 (Prod.fst q) (Prod.snd q) (Prod.snd v5))+List.length (qh2 (Prod.fst q) (Prod.snd q) (List.take v13 (qe3 (↑(List.length (nL (Prod.fst q) (0:Nat))):Int) (↑(Prod.snd v5):Int)))))/\(Value.func (Fn.yield (Prod.fst v5)) #[] #[]=Value.func (Fn.yield (Prod.fst v5)) #[] #[]/\True)/\True/\True/\True/\True/\True/\True/\True/\True/\True/\True))/\(v7=List.length (List.map (λ(v10:List Int)=>(v10,())) (qe3 (↑(List.length (nL (Prod.fst q) (0:Nat))):Int) (↑v2:Int)))->fits .i64 ((↑v2:Int)+(1:Int))/\∃(v10:Nat),Nat.le v10 (fitsN (Prod.fst q) k)/\fitsN (Prod.fst q) k-v10<fitsN (Prod.fst q) k-v2/\((↑v2:Int)+(1:Int)=(↑v10:Int)/\True)/\some (List.length (qk2 (Prod.fst q) (Prod.snd q) (Prod.snd v5))+List.length (qh2 (Prod.fst q) (Prod.snd q) (List.take v7 (qe3 (↑(List.length (nL (Prod.fst q) (0:Nat))):Int) (↑(Prod.snd v5):Int)))))=some (List.length (qk2 (Prod.fst q) (Prod.snd q) v10))/\(Value.func (Fn.yield (Prod.fst v5)) #[] #[]=Value.func (Fn.yield v0) #[] #[]/\True)/\True/\True/\True/\True/\True/\True/\True/\True/\True/\True))/\(decide ((↑v2:Int)<max2 false (max2 false k (↑(List.length (nL (Prod.fst q) (0:Nat))):Int)) (↑(List.length (Prod.fst q)):Int)+(1:Int))=false->List.length (qk2 (Prod.fst q) (Prod.snd q) v2)=List.length (ql3.L (q72 [qg1,tQ] [wm6] [(32:Nat)] (k,q,PUnit.unit) (List.map (λ(v5:List Int × List (Int × Int))=>(v5,())) (qk8 (Prod.fst q) (Prod.snd q) k)) l)))) (by kernel_rfl) ?_
 try simp only[z0,z1,z2,z3,z4,z5,z6,z7,z8,z9,z10,Int.reduceEq,z11,z12,z13,z14,z15,z16,z17,z18,z19,z20,z21,z22,z23,z24,z25,z26,z27,z28,z29,z30,Int.reduceLE,Int.reduceLT,z31,z32,z33,z34,qa4]
 try simp only[qb8,qb9,qd2,List.set_cons_zero,List.cons.injEq,and_true,true_and]
 have hk0:=h.k0
 have hk1:=h.k1
 have hone:=h.one
 have hrows:=h.rows
 have hpix:=h.pix
 have hN:(fitsN q.1 k:Int)=min (min k (nL q.1 0).length) q.1.length+1:=by unfold fitsN; omega
 have hM:max2 false (max2 false k ((nL q.1 0).length:Int)) (q.1.length:Int)=min (min k (nL q.1 0).length) q.1.length:=rfl
 rw[hM]
 refine⟨hone,qa8 (by omega) (by omega),l,0,Nat.zero_le _,⟨rfl,rfl,rfl⟩,λs hs=>⟨λhlt=>?_,λhge=>?_⟩⟩
 ·have hsN:s<fitsN q.1 k:=by omega
  refine⟨hone,by omega,(l,s),0,Nat.zero_le _,rfl,⟨by simp[qh2],rfl⟩,λc hc=>⟨?_,λhfin=>?_⟩⟩
  ·rintro⟨p,⟨⟩⟩ hp -
   have hp2:(qe3 (nL q.1 0).length s)[c]? = some p:=by
    rw[List.getElem?_map] at hp
    obtain⟨p',h1,h2⟩:=Option.map_eq_some_iff.1 hp
    rw[h1]
    exact congrArg some (congrArg Prod.fst h2)
   have hcl:=(List.getElem?_eq_some_iff.1 hp2).1
   dsimp only
   refine⟨h.sets s hsN p (List.mem_of_getElem? hp2),λhf=>⟨rfl,?_,c+1,hcl,rfl,?_⟩,λhf=>⟨c+1,hcl,rfl,?_⟩⟩
   ·show((qk8 q.1 q.2 k).map λf=>((f,()):qa7 [wm6]))[(qk2 q.1 q.2 s).length+(qh2 q.1 q.2 ((qe3 (nL q.1 0).length s).take c)).length]? = some ((q00 q.1 q.2 p).1,())
    obtain⟨t,ht⟩:=q88 q.1 q.2 (s+1) (fitsN q.1 k-(s+1))
    rw[show s+1+(fitsN q.1 k-(s+1))=fitsN q.1 k by omega,qk2] at ht
    obtain⟨t2,ht2⟩:=w2j q.1 q.2 hp2 hf
    rw[List.getElem?_map]
    unfold qk8
    rw[ht,ht2,List.append_assoc,List.append_assoc,List.getElem?_append_right (by omega),Nat.add_sub_cancel_left,List.getElem?_append_right (Nat.le_refl _),Nat.sub_self]
    rfl
   ·rw[q05 q.1 q.2 hp2,if_pos hf,List.length_append]
    rfl
   ·rw[q05 q.1 q.2 hp2,if_neg (by rw[hf]; decide),List.append_nil]
  ·rw[List.length_map] at hfin
   refine⟨qa8 (by omega) (by omega),s+1,hsN,by omega,by omega,?_,rfl⟩
   dsimp only
   rw[hfin,List.take_length,qk2,List.length_append]
 ·have e:s=fitsN q.1 k:=by omega
  show(qk2 q.1 q.2 s).length=((qk8 q.1 q.2 k).map λf=>((f,()):qa7 [wm6])).length
  rw[List.length_map,e]
  rfl
end Go.Proofs.Ytdibdlelmkcccaa
set_option linter.unusedVariables false
set_option linter.unusedSimpArgs false
namespace Go.Proofs.Ytdibdlelmkcccaa
open Go Go.RowKit Eng
abbrev xs5:qc9:=w8h false none [tQ,qg1] (λ_=>True) (λx=>.clo 75 (.cons (.imm (.cons (.lit (.int .i64 x.2.1)) .nil) 0) (.cons (.imm (.cons (.dat (.list (.int .i64)) x.1.1) (.cons (.dat (.int .i64) x.1.2) .nil)) 0) .nil)))
theorem wq8:qe1 Try.prog 46 xs5:=by
 refine wx4 (snd (SpecsOk.nil _)) Try.func46 rfl rfl (λ_ _=>none) (λ_=>by kernel_rfl) (by decide) ?_
 rintro⟨q,k,⟨⟩⟩ -
 revert q k
 intro(q:List (List Int) × List Int) (k:Int)
 refine qe6 (B:=((k=k/\True)/\(0:Nat)=(0:Nat))/\((Prod.fst q=Prod.fst q/\Prod.snd q=Prod.snd q/\True)/\(0:Nat)=(0:Nat))/\True) (by kernel_rfl) ?_
 try simp only[z0,z1,z2,z3,z4,z5,z6,z7,z8,z9,z10,Int.reduceEq,z11,z12,z13,z14,z15,z16,z17,z18,z19,z20,z21,z22,z23,z24,z25,z26,z27,z28,z29,z30,Int.reduceLE,Int.reduceLT,z31,z32,z33,z34,qa4]
 try simp only[qb8,qb9,qd2,List.set_cons_zero,List.cons.injEq,and_true,true_and]
structure wy6 (m:List (List Int)) (y:List Int) (k:Int):Prop where
 pre:wc0 m y k
 len:(qk8 m y k).length<=1000000
def spL (L:List Fit):List Fit:=L.takeWhile λf=>decide (f.1.length<=(nF L 0).1.length)
def qq9 (m:List (List Int)) (y:List Int):List Fit × Int:=if q1v m y []=0 then(if qk8 m y 10=[] then([],10) else(spL (qk8 m y 10),0)) else([],q1v m y [])
structure q7b (m:List (List Int)) (y:List Int):Prop where
 ok:q1v m y []=0->wy6 m y 10
structure w2l (L:List Fit) (c:Nat):Prop where
 le:c<=L.length
 all:∀i,i<c->(nF L i).1.length<=(nF L 0).1.length
abbrev x03:qc9:=qh6 false none [qk0,qf6] [x0p,qg1] (λx=>q7b x.1 x.2.1) (λx=>((qq9 x.1 x.2.1).1,(qq9 x.1 x.2.1).2,()))
def xs6 (L:List Fit):Nat->Option Inv
 | 0=>some (Inv.of [] 2 (λ_=>[]) (λc:Nat=>[.box 44 (.cons (.own 1) .nil),.vec 30 wm6 (L.take c)]) (λc=>w2l L c) (λc=>c))
 | _=>none
theorem w55 {α:Type} (p:α->Bool):∀(l:List α) (c:Nat),c<=l.length->(∀(i:Nat) (h:i<l.length),i<c->p l[i]=true)->(∀h:c<l.length,p l[c]=false)->l.takeWhile p=l.take c
 | [],c,h,_,_=>by simp
 | x :: l,0,_,_,h2=>by
  have:=h2 (by simp)
  simp only[List.getElem_cons_zero] at this
  simp[List.takeWhile_cons,this]
 | x :: l,c+1,h,h1,h2=>by
  have hx:=h1 0 (by simp) (by omega)
  simp only[List.getElem_cons_zero] at hx
  rw[List.takeWhile_cons,hx,if_pos rfl,List.take_succ_cons,w55 p l c (by simpa using h) (λi hi hc=>h1 (i+1) (by simpa using hi) (by omega)) (λhc=>h2 (by simpa using hc))]
theorem w9f (l:List Fit) (i:Nat) (h:i<l.length):nF l i=l[i]:=qp1 (t:=wm6) l i h
theorem wy7 {L:List Fit} {c:Nat} (h:w2l L c) (hs:∀h:c<L.length,(nF L 0).1.length<(nF L c).1.length):spL L=L.take c:=by
 refine w55 _ L c h.le (λi hi hc=>?_) λhc=>?_
 ·have:=h.all i hc
  rw[w9f L i hi] at this
  exact decide_eq_true this
 ·have:=hs hc
  rw[w9f L c hc] at this
  exact decide_eq_false (by omega)
theorem w2m:qe1 Try.prog 39 x03:=by
 refine meets (x1z (SpecsOk.cons wj0 (SpecsOk.cons wq8 (SpecsOk.nil _))) (ItsOk.cons w2k ItsOk.nil)) Try.func39 rfl rfl (λx=>xs6 (qk8 x.1 x.2.1 10)) (λ_=>by kernel_rfl) (by decide) ?_
 rintro⟨m,y,⟨⟩⟩ h
 revert m y
 intro(m:List (List Int)) (y:List Int) (h:q7b m y)
 refine qe6 (B:=Value.slice none (0:Nat) (0:Nat)=Value.slice none (0:Nat) (0:Nat)/\(0:Nat)<=(1000000:Nat)/\((q1v m y [] != (0:Int))=true->Prod.fst (qq9 m y)=[]/\q1v m y []=Prod.snd (qq9 m y)/\True)/\((q1v m y [] != (0:Int))=false->True/\wc0 m y (10:Int)/\∃(v1:Unit),∃(v2:Nat),w2l (qk8 m y (10:Int)) v2/\v2=(0:Nat)/\((True/\True)/\List.take v2 (qk8 m y (10:Int))=[]/\True)/\∀(v3:Nat),w2l (qk8 m y (10:Int)) v3->(∀(v5:(List Int × List (Int × Int)) × qa7._f [] PUnit.unit),(List.map (λ(v7:List Int × List (Int × Int))=>(v7,())) (qk8 m y (10:Int)))[v3]?=some v5->(decide ((0:Int)<(↑(List.length (List.take v3 (qk8 m y (10:Int)))):Int))=true->((0:Int)<=(0:Int)/\(0:Int)<(↑(List.length (List.take v3 (qk8 m y (10:Int)))):Int))/\(0:Nat)<List.length (List.take v3 (qk8 m y (10:Int)))/\(decide ((↑(List.length (Prod.fst (qa3 wm6 (List.take v3 (qk8 m y (10:Int))) (0:Nat)))):Int)<(↑(List.length (Prod.fst (Prod.fst v5))):Int))=true->(((↑(List.length (List.take v3 (qk8 m y (10:Int)))):Int)==(0:Int))=true->Prod.fst (qq9 m y)=[]/\(10:Int)=Prod.snd (qq9 m y)/\True)/\(((↑(List.length (List.take v3 (qk8 m y (10:Int)))):Int)==(0:Int))=false->List.take v3 (qk8 m y (10:Int))=Prod.fst (qq9 m y)/\(0:Int)=Prod.snd (qq9 m y)/\True))/\(decide ((↑(List.length (Prod.fst (qa3 wm6 (List.take v3 (qk8 m y (10:Int))) (0:Nat)))):Int)<(↑(List.length (Prod.fst (Prod.fst v5))):Int))=false->((0:Nat)<List.length [(Prod.fst (Prod.fst v5),Prod.snd (Prod.fst v5))]/\Nat.le (List.length (List.take v3 (qk8 m y (10:Int)))+List.length [(Prod.fst (Prod.fst v5),Prod.snd (Prod.fst v5))]) (1000000:Nat))/\∃(v9:Nat),w2l (qk8 m y (10:Int)) v9/\v9=v3+(1:Nat)/\(True/\True)/\List.take v3 (qk8 m y (10:Int))++[(Prod.fst (Prod.fst v5),Prod.snd (Prod.fst v5))]=List.take v9 (qk8 m y (10:Int))/\True))/\(decide ((0:Int)<(↑(List.length (List.take v3 (qk8 m y (10:Int)))):Int))=false->((0:Nat)<List.length [(Prod.fst (Prod.fst v5),Prod.snd (Prod.fst v5))]/\Nat.le (List.length (List.take v3 (qk8 m y (10:Int)))+List.length [(Prod.fst (Prod.fst v5),Prod.snd (Prod.fst v5))]) (1000000:Nat))/\∃(v8:Nat),w2l (qk8 m y (10:Int)) v8/\v8=v3+(1:Nat)/\(True/\True)/\List.take v3 (qk8 m y (10:Int))++[(Prod.fst (Prod.fst v5),Prod.snd (Prod.fst v5))]=List.take v8 (qk8 m y (10:Int))/\True))/\(v3=List.length (List.map (λ(v6:List Int × List (Int × Int))=>(v6,())) (qk8 m y (10:Int)))->(((↑(List.length (List.take v3 (qk8 m y (10:Int)))):Int)==(0:Int))=true->Prod.fst (qq9 m y)=[]/\(10:Int)=Prod.snd (qq9 m y)/\True)/\(((↑(List.length (List.take v3 (qk8 m y (10:Int)))):Int)==(0:Int))=false->List.take v3 (qk8 m y (10:Int))=Prod.fst (qq9 m y)/\(0:Int)=Prod.snd (qq9 m y)/\True)))) (by kernel_rfl) ?_
 try simp only[z0,z1,z2,z3,z4,z5,z6,z7,z8,z9,z10,Int.reduceEq,z11,z12,z13,z14,z15,z16,z17,z18,z19,z20,z21,z22,z23,z24,z25,z26,z27,z28,z29,z30,Int.reduceLE,Int.reduceLT,z31,z32,z33,z34,qa4]
 try simp only[qb8,qb9,qd2,List.set_cons_zero,List.cons.injEq,and_true,true_and]
 refine⟨by omega,λhe=>by simp[qq9,he],λhe=>?_⟩
 have hp:=h.ok he
 have hR:qq9 m y=if qk8 m y 10=[] then([],10) else(spL (qk8 m y 10),0):=by rw[qq9,if_pos he]
 have hlen:=hp.len
 refine⟨hp.pre,(),0,⟨Nat.zero_le _,λi hi=>absurd hi (by omega)⟩,rfl,rfl,?_⟩
 generalize qk8 m y 10=L at hR hlen ⊢
 rw[hR]
 rintro c hc
 have hcl:=hc.le
 have htl:(L.take c).length=c:=by rw[List.length_take]; omega
 rw[htl]
 refine⟨?_,λhfin=>?_⟩
 ·rintro⟨f,⟨⟩⟩ hf
  rw[List.getElem?_map] at hf
  obtain⟨f',h1,h2⟩:=Option.map_eq_some_iff.1 hf
  obtain rfl:f'=f:=congrArg Prod.fst h2
  have hlt:=(List.getElem?_eq_some_iff.1 h1).1
  have hLne:L≠[]:=λe=>by rw[e] at hlt; exact absurd hlt (by simp)
  have hfe:nF L c=f':=by rw[w9f L c hlt]; exact(List.getElem?_eq_some_iff.1 h1).2
  have hnx:L.take c++[(f'.1,f'.2)]=L.take (c+1):=by rw[List.take_add_one,h1]; rfl
  refine⟨λh0=>?_,λh0=>?_⟩
  ·have h0:0<c:=by omega
   have hn0:qa3 wm6 (L.take c) 0=nF L 0:=by
    rw[qp1 (t:=wm6) _ 0 (by rw[htl]; exact h0),w9f L 0 (by omega)]
    simp
   rw[hn0]
   refine⟨by omega,h0,λhbr=>⟨λhz=>by omega,λ_=>?_⟩,λhbr=>⟨by omega,c+1,⟨hlt,λi hi=>?_⟩,rfl,hnx⟩⟩
   ·rw[if_neg hLne,wy7 hc λ_=>by rw[hfe]; exact hbr]
    exact⟨rfl,rfl⟩
   ·by_cases e:i=c
    ·have hbr:¬(nF L 0).1.length<f'.1.length:=hbr
     subst e; rw[hfe]; omega
    ·exact hc.all i (by omega)
  ·have h0:c=0:=by omega
   subst h0
   exact⟨by omega,1,⟨hlt,λi hi=>(by have e:i=0:=(by omega); subst e; exact Nat.le_refl _)⟩,rfl,hnx⟩
 ·rw[List.length_map] at hfin
  refine⟨λhz=>?_,λhz=>?_⟩
  ·have e:L=[]:=List.eq_nil_of_length_eq_zero (by omega)
   rw[if_pos e]
   exact⟨rfl,rfl⟩
  ·have e:L≠[]:=λe=>by rw[e] at hfin; simp at hfin; omega
   rw[if_neg e,wy7 hc λh=>by omega]
   exact⟨rfl,rfl⟩
def xs7:Fit:=([],[])
def wk8 (m:List (List Int)) (y:List Int):Fit × Int:=if(qq9 m y).2=0 then(nF (qq9 m y).1 0,0) else(xs7,(qq9 m y).2)
theorem xs8 {L:List Fit} (h:L≠[]):0<(spL L).length:=by
 cases L with
 | nil=>exact absurd rfl h
 | cons f l=>
  unfold spL
  rw[List.takeWhile_cons,if_pos]
  ·simp
  ·exact decide_eq_true (Nat.le_refl _)
theorem w9g {m:List (List Int)} {y:List Int} (h:(qq9 m y).2=0):0<(qq9 m y).1.length:=by
 unfold qq9 at h ⊢
 split
 ·rename_i he
  rw[if_pos he] at h
  split
  ·rename_i e; rw[if_pos e] at h; cases h
  ·rename_i e; exact xs8 e
 ·rename_i he
  rw[if_neg he] at h
  exact absurd h he
abbrev x4u:qc9:=qh6 false none [qk0,qf6] [wm6,qg1] (λx=>q7b x.1 x.2.1) (λx=>((wk8 x.1 x.2.1).1,(wk8 x.1 x.2.1).2,()))
theorem w56:qe1 Try.prog 11 x4u:=by
 refine meets (snd (SpecsOk.cons w2m (SpecsOk.nil _))) Try.func11 rfl rfl (λ_ _=>none) (λ_=>by kernel_rfl) (by decide) ?_
 rintro⟨m,y,⟨⟩⟩ h
 revert m y
 intro(m:List (List Int)) (y:List Int) (h:q7b m y)
 refine qe6 (B:=q7b m y/\((Prod.snd (qq9 m y) != (0:Int))=true->(Prod.fst (Prod.fst (wk8 m y))=[]/\Prod.snd (Prod.fst (wk8 m y))=[]/\True)/\Prod.snd (qq9 m y)=Prod.snd (wk8 m y)/\True)/\((Prod.snd (qq9 m y) != (0:Int))=false->((0:Int)<=(0:Int)/\(0:Int)<(↑(List.length (Prod.fst (qq9 m y))):Int))/\(Prod.fst (qa3 (Ty.prod (Ty.list (Ty.int .i64)) (Ty.list (Ty.prod (Ty.int .i64) (Ty.int .i64)))) (Prod.fst (qq9 m y)) (0:Nat))=Prod.fst (Prod.fst (wk8 m y))/\Prod.snd (qa3 (Ty.prod (Ty.list (Ty.int .i64)) (Ty.list (Ty.prod (Ty.int .i64) (Ty.int .i64)))) (Prod.fst (qq9 m y)) (0:Nat))=Prod.snd (Prod.fst (wk8 m y))/\True)/\(0:Int)=Prod.snd (wk8 m y)/\True)) (by kernel_rfl) ?_
 try simp only[z0,z1,z2,z3,z4,z5,z6,z7,z8,z9,z10,Int.reduceEq,z11,z12,z13,z14,z15,z16,z17,z18,z19,z20,z21,z22,z23,z24,z25,z26,z27,z28,z29,z30,Int.reduceLE,Int.reduceLT,z31,z32,z33,z34,qa4]
 try simp only[qb8,qb9,qd2,List.set_cons_zero,List.cons.injEq,and_true,true_and]
 refine⟨h,λhe=>?_,λhe=>⟨by have:=w9g he; omega,?_⟩⟩
 ·rw[wk8,if_neg (by omega)]; exact⟨⟨rfl,rfl⟩,rfl⟩
 ·rw[wk8,if_pos (by omega)]; exact⟨⟨rfl,rfl⟩,rfl⟩
end Go.Proofs.Ytdibdlelmkcccaa
