/- Fits collected, the sparsest ones, whole ones: contracts by the engine. No condition. -/
import Derived.Test.YtdibdlelmkcccaaV24
set_option linter.unusedVariables false
set_option linter.unusedSimpArgs false
namespace Go.Proofs.Ytdibdlelmkcccaa
open Go Go.RowKit Eng
abbrev Fit:=List Int × List (Int × Int)
def qg5 (m:List (List Int)) (y:List Int) (s:List (List Int)):List Fit:=s.filterMap λpix=>if(qk0 m y pix).2=true then some (qk0 m y pix).1 else none
def qh6 (m:List (List Int)) (y:List Int):Nat->List Fit
 | 0=>[]
 | k+1=>qh6 m y k++qg5 m y (qe8 (nL m 0).length k)
def fitsN (m:List (List Int)) (k:Int):Nat:=(min (min k (nL m 0).length) m.length+1).toNat
def qg1 (m:List (List Int)) (y:List Int) (k:Int):List Fit:=qh6 m y (fitsN m k)
structure q6i (m:List (List Int)) (y:List Int) (k:Int):Prop where
 k0:0<=k
 k1:k<=1000
 one:0<m.length
 rows:m.length<=1000
 pix:(nL m 0).length<=1000
 sets:∀j:Nat,j<fitsN m k->∀s∈qe8 (nL m 0).length j,qs7 m s y/\s.length<=100000
abbrev xw4:q1g:=xk2 [qg4,tQ] [q3y] (λx=>q6i x.2.1.1 x.2.1.2 x.1) (λx=>(qg1 x.2.1.1 x.2.1.2 x.1).map λf=>(f,()))
def xw5:List AObj:=[.dead,.dead,.dead,.dead,.dead,.dead,.dead,.dead,.dead]
def xw6 (m:List (List Int)) (y:List Int) (k:Int):Nat->Option Inv
 | 0=>some (Eng.Inv.mk Nat Nat [16] 11 (λ_ s=>[(16,.lit (.int .i64 s))]) (λl s=>.cnt (some (qh6 m y s).length) :: .box 79 (.cons (.lit (.func (.yield l) #[] #[])) .nil) :: xw5) (λ_ s=>s<=fitsN m k) (λ_ s=>fitsN m k-s))
 | 1=>some (Eng.Inv.mk (Nat × Nat) Nat [] 11 (λ_ _=>[]) (λq c=>.cnt (some ((qh6 m y q.2).length+(qg5 m y ((qe8 (nL m 0).length q.2).take c)).length)) :: .box 79 (.cons (.lit (.func (.yield q.1) #[] #[])) .nil) :: xw5) (λq c=>c<=(qe8 (nL m 0).length q.2).length) (λ_ c=>c))
 | _=>none
theorem q8k (m:List (List Int)) (y:List Int) (a:Nat):∀j,∃t,qh6 m y (a+j)=qh6 m y a++t
 | 0=>⟨[],by simp⟩
 | j+1=>by
  obtain⟨t,ht⟩:=q8k m y a j
  exact⟨t++qg5 m y (qe8 (nL m 0).length (a+j:Nat)),by rw[<- Nat.add_assoc,qh6,ht,List.append_assoc]⟩
theorem q0g (m:List (List Int)) (y:List Int) {s:List (List Int)} {c:Nat} {p:List Int} (h:s[c]? = some p):qg5 m y (s.take (c+1))=qg5 m y (s.take c)++if(qk0 m y p).2=true then[(qk0 m y p).1] else[]:=by
 rw[List.take_add_one,h]
 unfold qg5
 rw[List.filterMap_append]
 congr 1
 simp only[Option.toList_some,List.filterMap_cons,List.filterMap_nil]
 by_cases hf:(qk0 m y p).2=true
 ·rw[if_pos hf,if_pos hf]
 ·rw[if_neg hf,if_neg hf]
theorem w2t (m:List (List Int)) (y:List Int) {s:List (List Int)} {c:Nat} {p:List Int} (h:s[c]? = some p) (hf:(qk0 m y p).2=true):∃t,qg5 m y s=qg5 m y (s.take c)++(qk0 m y p).1 :: t:=by
 have e:s=s.take (c+1)++s.drop (c+1):=(List.take_append_drop _ _).symm
 have h1:qg5 m y s=qg5 m y (s.take (c+1))++qg5 m y (s.drop (c+1)):=by
  unfold qg5
  rw[<- List.filterMap_append,List.take_append_drop]
 rw[h1,q0g m y h,if_pos hf]
 exact⟨qg5 m y (s.drop (c+1)),by simp⟩
theorem q8l:q2i Try.prog 75 xw4:=by
 refine says (x1t (SpecsOk.cons w2j (SpecsOk.cons wi7 (SpecsOk.cons q8d (SpecsOk.nil _)))) (ItsOk.cons q8c ItsOk.nil)) Try.func75 rfl rfl rfl [32] (λx=>xw6 x.2.1.1 x.2.1.2 x.1) (λ_=>by kernel_rfl) (by decide) ?_
 rintro⟨k,q,⟨⟩⟩ l h
 revert k q
 intro(k:Int) (q:List (List Int) × List Int) (h:q6i q.1 q.2 k)
 refine @qe0 _ ((0:Nat)<List.length (Prod.fst q)/\fits .i64 (max2 false (max2 false k (↑(List.length (nL (Prod.fst q) (0:Nat))):Int)) (↑(List.length (Prod.fst q)):Int)+(1:Int))/\∃(v0:Nat),∃(v1:Nat),Nat.le v1 (fitsN (Prod.fst q) k)/\(((0:Int)=(↑v1:Int)/\True)/\some (0:Nat)=some (List.length (qh6 (Prod.fst q) (Prod.snd q) v1))/\(Value.func (Fn.yield l) #[] #[]=Value.func (Fn.yield v0) #[] #[]/\True)/\True/\True/\True/\True/\True/\True/\True/\True/\True/\True)/\∀(v2:Nat),Nat.le v2 (fitsN (Prod.fst q) k)->(decide ((↑v2:Int)<max2 false (max2 false k (↑(List.length (nL (Prod.fst q) (0:Nat))):Int)) (↑(List.length (Prod.fst q)):Int)+(1:Int))=true->(0:Nat)<List.length (Prod.fst q)/\True/\(((0:Ty.den qg4)<=(↑v2:Int)/\(↑v2:Int)<=(1000:Ty.den qg4))/\(0:Ty.den qg4)<=(↑(List.length (nL (Prod.fst q) (0:Nat))):Int)/\(↑(List.length (nL (Prod.fst q) (0:Nat))):Int)<=(1000:Ty.den qg4))/\∃(v5:Nat × Nat),∃(v6:Nat),Nat.le v6 (List.length (qe8 (↑(List.length (nL (Prod.fst q) (0:Nat))):Int) (↑(Prod.snd v5):Int)))/\v6=(0:Nat)/\(some (List.length (qh6 (Prod.fst q) (Prod.snd q) v2))=some (List.length (qh6 (Prod.fst q) (Prod.snd q) (Prod.snd v5))+List.length (qg5 (Prod.fst q) (Prod.snd q) (List.take v6 (qe8 (↑(List.length (nL (Prod.fst q) (0:Nat))):Int) (↑(Prod.snd v5):Int)))))/\(Value.func (Fn.yield v0) #[] #[]=Value.func (Fn.yield (Prod.fst v5)) #[] #[]/\True)/\True/\True/\True/\True/\True/\True/\True/\True/\True/\True)/\∀(v7:Nat),Nat.le v7 (List.length (qe8 (↑(List.length (nL (Prod.fst q) (0:Nat))):Int) (↑(Prod.snd v5):Int)))->(∀(v9:List Int × qa6._f [] PUnit.unit),(List.map (λ(v11:List Int)=>(v11,())) (qe8 (↑(List.length (nL (Prod.fst q) (0:Nat))):Int) (↑v2:Int)))[v7]?=some v9->∀(v11:q7d),(qs7 (Prod.fst q) (qa1 (Ty.list (Ty.int .i64)) [Prod.fst v9] (0:Nat)) (Prod.snd q)/\List.length (qa1 (Ty.list (Ty.int .i64)) [Prod.fst v9] (0:Nat))<=(100000:Nat))/\[Prod.fst v9]=[Prod.fst v9]/\v11=v11/\True/\(Prod.snd (qk0 (Prod.fst q) (Prod.snd q) (qa1 (Ty.list (Ty.int .i64)) [Prod.fst v9] (0:Nat)))=true->Value.func (Fn.yield (Prod.fst v5)) #[] #[]=Value.func (Fn.yield (qj7.l (q7h [qg4,tQ] [q3y] [(32:Nat)] (k,q,PUnit.unit) (List.map (λ(v13:List Int × List (Int × Int))=>(v13,())) (qg1 (Prod.fst q) (Prod.snd q) k)) l))) #[] #[]/\(qj7.L (q7h [qg4,tQ] [q3y] [(32:Nat)] (k,q,PUnit.unit) (List.map (λ(v13:List Int × List (Int × Int))=>(v13,())) (qg1 (Prod.fst q) (Prod.snd q) k)) l))[List.length (qh6 (Prod.fst q) (Prod.snd q) (Prod.snd v5))+List.length (qg5 (Prod.fst q) (Prod.snd q) (List.take v7 (qe8 (↑(List.length (nL (Prod.fst q) (0:Nat))):Int) (↑(Prod.snd v5):Int))))]?=some ((Prod.fst (Prod.fst (qk0 (Prod.fst q) (Prod.snd q) (qa1 (Ty.list (Ty.int .i64)) [Prod.fst v9] (0:Nat)))),Prod.snd (Prod.fst (qk0 (Prod.fst q) (Prod.snd q) (qa1 (Ty.list (Ty.int .i64)) [Prod.fst v9] (0:Nat))))),())/\(∃(v13:Nat),Nat.le v13 (List.length (qe8 (↑(List.length (nL (Prod.fst q) (0:Nat))):Int) (↑(Prod.snd v5):Int)))/\v13=v7+(1:Nat)/\some (List.length (qh6 (Prod.fst q) (Prod.snd q) (Prod.snd v5))+List.length (qg5 (Prod.fst q) (Prod.snd q) (List.take v7 (qe8 (↑(List.length (nL (Prod.fst q) (0:Nat))):Int) (↑(Prod.snd v5):Int))))+(1:Nat))=some (List.length (qh6 (Prod.fst q) (Prod.snd q) (Prod.snd v5))+List.length (qg5 (Prod.fst q) (Prod.snd q) (List.take v13 (qe8 (↑(List.length (nL (Prod.fst q) (0:Nat))):Int) (↑(Prod.snd v5):Int)))))/\(Value.func (Fn.yield (Prod.fst v5)) #[] #[]=Value.func (Fn.yield (Prod.fst v5)) #[] #[]/\True)/\True/\True/\True/\True/\True/\True/\True/\True/\True/\True)/\True)/\(Prod.snd (qk0 (Prod.fst q) (Prod.snd q) (qa1 (Ty.list (Ty.int .i64)) [Prod.fst v9] (0:Nat)))=false->∃(v13:Nat),Nat.le v13 (List.length (qe8 (↑(List.length (nL (Prod.fst q) (0:Nat))):Int) (↑(Prod.snd v5):Int)))/\v13=v7+(1:Nat)/\some (List.length (qh6 (Prod.fst q) (Prod.snd q) (Prod.snd v5))+List.length (qg5 (Prod.fst q) (Prod.snd q) (List.take v7 (qe8 (↑(List.length (nL (Prod.fst q) (0:Nat))):Int) (↑(Prod.snd v5):Int)))))=some (List.length (qh6 (Prod.fst q) (Prod.snd q) (Prod.snd v5))+List.length (qg5 (Prod.fst q) (Prod.snd q) (List.take v13 (qe8 (↑(List.length (nL (Prod.fst q) (0:Nat))):Int) (↑(Prod.snd v5):Int)))))/\(Value.func (Fn.yield (Prod.fst v5)) #[] #[]=Value.func (Fn.yield (Prod.fst v5)) #[] #[]/\True)/\True/\True/\True/\True/\True/\True/\True/\True/\True/\True))/\(v7=List.length (List.map (λ(v10:List Int)=>(v10,())) (qe8 (↑(List.length (nL (Prod.fst q) (0:Nat))):Int) (↑v2:Int)))->fits .i64 ((↑v2:Int)+(1:Int))/\∃(v10:Nat),Nat.le v10 (fitsN (Prod.fst q) k)/\fitsN (Prod.fst q) k-v10<fitsN (Prod.fst q) k-v2/\((↑v2:Int)+(1:Int)=(↑v10:Int)/\True)/\some (List.length (qh6 (Prod.fst q) (Prod.snd q) (Prod.snd v5))+List.length (qg5 (Prod.fst q) (Prod.snd q) (List.take v7 (qe8 (↑(List.length (nL (Prod.fst q) (0:Nat))):Int) (↑(Prod.snd v5):Int)))))=some (List.length (qh6 (Prod.fst q) (Prod.snd q) v10))/\(Value.func (Fn.yield (Prod.fst v5)) #[] #[]=Value.func (Fn.yield v0) #[] #[]/\True)/\True/\True/\True/\True/\True/\True/\True/\True/\True/\True))/\(decide ((↑v2:Int)<max2 false (max2 false k (↑(List.length (nL (Prod.fst q) (0:Nat))):Int)) (↑(List.length (Prod.fst q)):Int)+(1:Int))=false->List.length (qh6 (Prod.fst q) (Prod.snd q) v2)=List.length (qj7.L (q7h [qg4,tQ] [q3y] [(32:Nat)] (k,q,PUnit.unit) (List.map (λ(v5:List Int × List (Int × Int))=>(v5,())) (qg1 (Prod.fst q) (Prod.snd q) k)) l)))) (by kernel_rfl) ?_
 try simp only[z0,z1,z2,z3,z4,z5,z6,z7,z8,z9,z10,Int.reduceEq,z11,z12,z13,z14,z15,z16,z17,z18,z19,z20,z21,z22,z23,z24,z25,z26,z27,z28,z29,z30,Int.reduceLE,Int.reduceLT,z31,z32,z33,z34,qa3]
 try simp only[qb3,qb4,qc8,List.set_cons_zero,List.cons.injEq,and_true,true_and]
 have hk0:=h.k0
 have hk1:=h.k1
 have hone:=h.one
 have hrows:=h.rows
 have hpix:=h.pix
 have hN:(fitsN q.1 k:Int)=min (min k (nL q.1 0).length) q.1.length+1:=by unfold fitsN; omega
 have hM:max2 false (max2 false k ((nL q.1 0).length:Int)) (q.1.length:Int)=min (min k (nL q.1 0).length) q.1.length:=rfl
 rw[hM]
 refine⟨hone,qb9 (by omega) (by omega),l,0,Nat.zero_le _,⟨rfl,rfl,rfl⟩,λs hs=>⟨λhlt=>?_,λhge=>?_⟩⟩
 ·have hsN:s<fitsN q.1 k:=by omega
  refine⟨hone,by omega,(l,s),0,Nat.zero_le _,rfl,⟨by simp[qg5],rfl⟩,λc hc=>⟨?_,λhfin=>?_⟩⟩
  ·rintro⟨p,⟨⟩⟩ hp -
   have hp2:(qe8 (nL q.1 0).length s)[c]? = some p:=by
    rw[List.getElem?_map] at hp
    obtain⟨p',h1,h2⟩:=Option.map_eq_some_iff.1 hp
    rw[h1]
    exact congrArg some (congrArg Prod.fst h2)
   have hcl:=(List.getElem?_eq_some_iff.1 hp2).1
   dsimp only
   refine⟨h.sets s hsN p (List.mem_of_getElem? hp2),λhf=>⟨rfl,?_,c+1,hcl,rfl,?_⟩,λhf=>⟨c+1,hcl,rfl,?_⟩⟩
   ·show((qg1 q.1 q.2 k).map λf=>((f,()):qa6 [q3y]))[(qh6 q.1 q.2 s).length+(qg5 q.1 q.2 ((qe8 (nL q.1 0).length s).take c)).length]? = some ((qk0 q.1 q.2 p).1,())
    obtain⟨t,ht⟩:=q8k q.1 q.2 (s+1) (fitsN q.1 k-(s+1))
    rw[show s+1+(fitsN q.1 k-(s+1))=fitsN q.1 k by omega,qh6] at ht
    obtain⟨t2,ht2⟩:=w2t q.1 q.2 hp2 hf
    rw[List.getElem?_map]
    unfold qg1
    rw[ht,ht2,List.append_assoc,List.append_assoc,List.getElem?_append_right (by omega),Nat.add_sub_cancel_left,List.getElem?_append_right (Nat.le_refl _),Nat.sub_self]
    rfl
   ·rw[q0g q.1 q.2 hp2,if_pos hf,List.length_append]
    rfl
   ·rw[q0g q.1 q.2 hp2,if_neg (by rw[hf]; decide),List.append_nil]
  ·rw[List.length_map] at hfin
   refine⟨qb9 (by omega) (by omega),s+1,hsN,by omega,by omega,?_,rfl⟩
   dsimp only
   rw[hfin,List.take_length,qh6,List.length_append]
 ·have e:s=fitsN q.1 k:=by omega
  show(qh6 q.1 q.2 s).length=((qg1 q.1 q.2 k).map λf=>((f,()):qa6 [q3y])).length
  rw[List.length_map,e]
  rfl
end Go.Proofs.Ytdibdlelmkcccaa
set_option linter.unusedVariables false
set_option linter.unusedSimpArgs false
namespace Go.Proofs.Ytdibdlelmkcccaa
open Go Go.RowKit Eng
def wj6:(ts:List Ty)->qa6 ts->AV
 | [],_=>.nil
 | t :: r,x=>.cons (.imm (qj8 t x.1 .nil) 0) (wj6 r x.2)
theorem q34:∀(ts:List Ty) (c:AV),Det (qn2 ts c)
 | [],c=>by cases c <;> first | exact qa5 | exact qb6 ()
 | t :: r,c=>by
  cases c <;> first | exact qa5 | skip
  rename_i a rest
  cases a <;> first | exact qa5 | skip
  rename_i cs off
  cases off with
  | succ n=>exact qa5
  | zero=>
   refine λk H=>(qk1 (f:=λx z k=>match z with
    | .nil=>qn2 r rest λy=>k (x,y)
    | _=>False) λx z=>?_) k H
   split
   ·exact qe2 (q34 r rest) λy=>qb6 (x,y)
   ·exact qa5
theorem q6j {P:Program} {m:View}:∀{ts:List Ty} {c:AV} {k:qa6 ts->Prop} {cs:List Value},qn2 ts c k->c.ok P m [] cs->∃x,k x/\(wj6 ts x).ok P m [] cs
 | [],c,k,cs,h,hc=>by
  simp only[qn2] at h
  split at h
  ·exact⟨(),h,hc⟩
  ·exact h.elim
 | t :: r,c,k,cs,h,hc=>by
  simp only[qn2] at h
  split at h
  case h_2=>exact h.elim
  rename_i a rest
  obtain⟨u,us,rfl,h1,h2⟩:=hc
  split at h
  case h_2=>exact h.elim
  rename_i cells off
  split at h
  case h_2=>exact h.elim
  obtain⟨ad,vs,e1,e2,e3⟩:=h1
  obtain⟨x,z,u1,v1,e4,e5,e6,e7⟩:=qv2 h e2
  split at e7
  case h_2=>exact e7.elim
  obtain rfl:v1=[]:=e6
  rw[List.append_nil] at e4
  subst e4
  obtain⟨y,k1,k2⟩:=q6j e7 h2
  refine⟨(x,y),k1,u,us,rfl,⟨ad,vs,e1,?_,e3⟩,k2⟩
  have:=qr9 (P:=P) (ρ:=[]) (r:=.nil) (v:=[]) e5 rfl
  rw[List.append_nil] at this
  exact this
def q6k (F:Nat) (ts:List Ty) (v:AV) (k:qa6 ts->Prop):Prop:=match v with
 | .clo G caps=>match Nat.beq G F with
  | true=>qn2 ts caps k
  | false=>False
 | _=>False
theorem wp7 (F:Nat) (ts:List Ty) (v:AV):Det (q6k F ts v):=by
 unfold q6k
 split
 ·split
  ·exact q34 _ _
  ·exact qa5
 ·exact qa5
theorem w2u {P:Program} {m:View} {F:Nat} {ts:List Ty} {v:AV} {k:qa6 ts->Prop} {u:Value} (h:q6k F ts v k) (hv:v.ok P m [] [u]):∃x,k x/\(AV.clo F (wj6 ts x)).ok P m [] [u]:=by
 unfold q6k at h
 split at h
 case h_2=>exact h.elim
 split at h
 case h_2=>exact h.elim
 rename_i hb
 obtain rfl:=Nat.eq_of_beq_eq_true hb
 obtain⟨cs,e,hc⟩:=hv
 obtain⟨x,k1,k2⟩:=q6j h hc
 exact⟨x,k1,cs,e,k2⟩
def takeC (F:Nat) (ts:List Ty) (c:AV) (k:qa6 ts->Prop):Prop:=match c with
 | .cons v z=>match z with
  | .nil=>q6k F ts v k
  | _=>False
 | _=>False
def xl8 (F:Nat) (ts:List Ty):ArgK:=⟨qa6 ts,takeC F ts,λx i=>match i with
 | 0=>.clo F (wj6 ts x)
 | _+1=>.any,1,λc=>by
  unfold takeC
  split
  ·split
   ·exact wp7 _ _ _
   ·exact qa5
  ·exact qa5⟩
theorem wz3 {P:Program} (F:Nat) (ts:List Ty):(xl8 F ts).Ok P:=⟨λ{m c k vs} h hc=>by
 have h:takeC F ts c k:=h
 unfold takeC at h
 split at h
 case h_2=>exact h.elim
 split at h
 case h_2=>exact h.elim
 obtain⟨u,us,rfl,h1,h2⟩:=hc
 obtain rfl:us=[]:=h2
 obtain⟨x,k1,k2⟩:=w2u h h1
 refine⟨x,k1,rfl,λi=>?_⟩
 cases i with
 | zero=>exact k2
 | succ i=>exact⟨_,rfl⟩⟩
def wz4 (F:Nat) (ts:List Ty) (c:AV) (k:qa6 ts->Prop):Prop:=match c with
 | .cons v r=>match v with
  | .lit u=>match isNil u with
   | true=>takeC F ts r k
   | false=>False
  | _=>False
 | _=>False
theorem w90 {u:Value} (h:isNil u=true):u=.slice none 0 0:=by
 unfold isNil at h
 split at h
 ·rename_i a n c
  split at h
  ·split at h
   ·rfl
   ·cases h
  ·cases h
 ·cases h
def xe9 (F:Nat) (ts:List Ty):ArgK:=⟨qa6 ts,wz4 F ts,λx i=>match i with
 | 0=>.lit (.slice none 0 0)
 | 1=>.clo F (wj6 ts x)
 | _+2=>.any,2,λc=>by
  unfold wz4
  split
  ·split
   ·split
    ·exact(xl8 F ts).one _
    ·exact qa5
   ·exact qa5
  ·exact qa5⟩
theorem w6l {P:Program} (F:Nat) (ts:List Ty):(xe9 F ts).Ok P:=⟨λ{m c k vs} h hc=>by
 have h:wz4 F ts c k:=h
 unfold wz4 at h
 split at h
 case h_2=>exact h.elim
 split at h
 case h_2=>exact h.elim
 split at h
 case h_2=>exact h.elim
 rename_i hn
 obtain⟨u,us,rfl,h1,h2⟩:=hc
 obtain⟨x,k1,k2,k3⟩:=(wz3 (P:=P) F ts).ok h h2
 refine⟨x,k1,by simp[k2]; rfl,λi=>?_⟩
 match i with
 | 0=>
  rw[w90 hn] at h1
  exact h1
 | 1=>exact k3 0
 | i+2=>exact⟨_,rfl⟩⟩
abbrev xw7:qc7:=w9c false none [tQ,qg4] (λ_=>True) (λx=>.clo 75 (.cons (.imm (.cons (.lit (.int .i64 x.2.1)) .nil) 0) (.cons (.imm (.cons (.dat (.list (.int .i64)) x.1.1) (.cons (.dat (.int .i64) x.1.2) .nil)) 0) .nil)))
theorem q6l:qd8 Try.prog 46 xw7:=by
 refine wx3 (snd (SpecsOk.nil _)) Try.func46 rfl rfl (λ_ _=>none) (λ_=>by kernel_rfl) (by decide) ?_
 rintro⟨q,k,⟨⟩⟩ -
 revert q k
 intro(q:List (List Int) × List Int) (k:Int)
 refine @qe0 _ (((k=k/\True)/\(0:Nat)=(0:Nat))/\((Prod.fst q=Prod.fst q/\Prod.snd q=Prod.snd q/\True)/\(0:Nat)=(0:Nat))/\True) (by kernel_rfl) ?_
 try simp only[z0,z1,z2,z3,z4,z5,z6,z7,z8,z9,z10,Int.reduceEq,z11,z12,z13,z14,z15,z16,z17,z18,z19,z20,z21,z22,z23,z24,z25,z26,z27,z28,z29,z30,Int.reduceLE,Int.reduceLT,z31,z32,z33,z34,qa3]
 try simp only[qb3,qb4,qc8,List.set_cons_zero,List.cons.injEq,and_true,true_and]
structure qk9 (m:List (List Int)) (y:List Int) (k:Int):Prop where
 pre:q6i m y k
 len:(qg1 m y k).length<=1000000
abbrev x64:qc7:=q9v (xe9 75 [qg4,tQ]) false (some 30) none (λx=>qk9 x.2.1.1 x.2.1.2 x.1) (λx=>.dat q3y (qg1 x.2.1.1 x.2.1.2 x.1))
def x23 (L:List Fit):Nat->Option Inv
 | 0=>some (Inv.of [] 2 (λ_=>[]) (λc:Nat=>[.box 44 (.cons (.own 1) .nil),.vec 30 q3y (L.take c)]) (λc=>c<=L.length) (λc=>c))
 | _=>none
theorem w6m:qd8 Try.prog 89 x64:=by
 refine q72 (x1t (SpecsOk.nil _) (ItsOk.cons q8l ItsOk.nil)) Try.func89 rfl rfl (w6l _ _) (λx=>x23 (qg1 x.2.1.1 x.2.1.2 x.1)) (λ_=>by kernel_rfl) (by decide) ?_
 rintro⟨k,q,⟨⟩⟩ h
 revert k q
 intro(k:Int) (q:List (List Int) × List Int) (h:qk9 q.1 q.2 k)
 refine @qe0 _ (q6i (Prod.fst q) (Prod.snd q) k/\∃(v0:Unit),∃(v1:Nat),Nat.le v1 (List.length (qg1 (Prod.fst q) (Prod.snd q) k))/\v1=(0:Nat)/\((True/\True)/\List.take v1 (qg1 (Prod.fst q) (Prod.snd q) k)=[]/\True)/\∀(v2:Nat),Nat.le v2 (List.length (qg1 (Prod.fst q) (Prod.snd q) k))->(∀(v4:(List Int × List (Int × Int)) × qa6._f [] PUnit.unit),(List.map (λ(v6:List Int × List (Int × Int))=>(v6,())) (qg1 (Prod.fst q) (Prod.snd q) k))[v2]?=some v4->((0:Nat)<List.length [(Prod.fst (Prod.fst v4),Prod.snd (Prod.fst v4))]/\Nat.le (List.length (List.take v2 (qg1 (Prod.fst q) (Prod.snd q) k))+List.length [(Prod.fst (Prod.fst v4),Prod.snd (Prod.fst v4))]) (1000000:Nat))/\∃(v6:Nat),Nat.le v6 (List.length (qg1 (Prod.fst q) (Prod.snd q) k))/\v6=v2+(1:Nat)/\(True/\True)/\List.take v2 (qg1 (Prod.fst q) (Prod.snd q) k)++[(Prod.fst (Prod.fst v4),Prod.snd (Prod.fst v4))]=List.take v6 (qg1 (Prod.fst q) (Prod.snd q) k)/\True)/\(v2=List.length (List.map (λ(v5:List Int × List (Int × Int))=>(v5,())) (qg1 (Prod.fst q) (Prod.snd q) k))->List.take v2 (qg1 (Prod.fst q) (Prod.snd q) k)=qg1 (Prod.fst q) (Prod.snd q) k)) (by kernel_rfl) ?_
 try simp only[z0,z1,z2,z3,z4,z5,z6,z7,z8,z9,z10,Int.reduceEq,z11,z12,z13,z14,z15,z16,z17,z18,z19,z20,z21,z22,z23,z24,z25,z26,z27,z28,z29,z30,Int.reduceLE,Int.reduceLT,z31,z32,z33,z34,qa3]
 try simp only[qb3,qb4,qc8,List.set_cons_zero,List.cons.injEq,and_true,true_and]
 refine⟨h.pre,(),0,Nat.zero_le _,rfl,rfl,λc hc=>⟨?_,λhfin=>?_⟩⟩
 ·rintro⟨f,⟨⟩⟩ hf
  rw[List.getElem?_map] at hf
  obtain⟨f',h1,h2⟩:=Option.map_eq_some_iff.1 hf
  obtain rfl:f'=f:=congrArg Prod.fst h2
  have hlt:=(List.getElem?_eq_some_iff.1 h1).1
  have hl:=h.len
  refine⟨by rw[List.length_take]; omega,c+1,hlt,rfl,?_⟩
  rw[List.take_add_one,h1]
  rfl
 ·rw[List.length_map] at hfin
  rw[hfin,List.take_length]
abbrev x65:qc7:=q9v (xl8 75 [qg4,tQ]) false (some 30) none (λx=>qk9 x.2.1.1 x.2.1.2 x.1) (λx=>.dat q3y (qg1 x.2.1.1 x.2.1.2 x.1))
theorem w6n:qd8 Try.prog 53 x65:=by
 refine q72 (snd (SpecsOk.cons w6m (SpecsOk.nil _))) Try.func53 rfl rfl (wz3 _ _) (λ_ _=>none) (λ_=>by kernel_rfl) (by decide) ?_
 rintro⟨k,q,⟨⟩⟩ h
 revert k q
 intro(k:Int) (q:List (List Int) × List Int) (h:qk9 q.1 q.2 k)
 refine @qe0 _ (qk9 (Prod.fst q) (Prod.snd q) k/\qg1 (Prod.fst q) (Prod.snd q) k=qg1 (Prod.fst q) (Prod.snd q) k) (by kernel_rfl) ?_
 try simp only[z0,z1,z2,z3,z4,z5,z6,z7,z8,z9,z10,Int.reduceEq,z11,z12,z13,z14,z15,z16,z17,z18,z19,z20,z21,z22,z23,z24,z25,z26,z27,z28,z29,z30,Int.reduceLE,Int.reduceLT,z31,z32,z33,z34,qa3]
 try simp only[qb3,qb4,qc8,List.set_cons_zero,List.cons.injEq,and_true,true_and]
 exact h
def qc9 (m:List (List Int)) (y:List Int) (k:Int):List Fit × Int:=if q7k m y k=0 then(qg1 m y k,0) else([],q7k m y k)
abbrev xw8:qc7:=qg3 false none [ql6,qf7,qg4] [xv8,qg4] (λx=>q7k x.1 x.2.1 x.2.2.1=0->qk9 x.1 x.2.1 x.2.2.1) (λx=>((qc9 x.1 x.2.1 x.2.2.1).1,(qc9 x.1 x.2.1 x.2.2.1).2,()))
theorem wp8:qd8 Try.prog 25 xw8:=by
 refine meets (snd (SpecsOk.cons w59 (SpecsOk.cons q6l (SpecsOk.cons w6n (SpecsOk.nil _))))) Try.func25 rfl rfl (λ_ _=>none) (λ_=>by kernel_rfl) (by decide) ?_
 rintro⟨m,y,k,⟨⟩⟩ h
 revert m y k
 intro(m:List (List Int)) (y:List Int) (k:Int) (h:q7k m y k=0->qk9 m y k)
 refine @qe0 _ (True/\((q7k m y k != (0:Int))=true->Prod.fst (qc9 m y k)=[]/\q7k m y k=Prod.snd (qc9 m y k)/\True)/\((q7k m y k != (0:Int))=false->True/\qk9 m y k/\qg1 m y k=Prod.fst (qc9 m y k)/\(0:Int)=Prod.snd (qc9 m y k)/\True)) (by kernel_rfl) ?_
 try simp only[z0,z1,z2,z3,z4,z5,z6,z7,z8,z9,z10,Int.reduceEq,z11,z12,z13,z14,z15,z16,z17,z18,z19,z20,z21,z22,z23,z24,z25,z26,z27,z28,z29,z30,Int.reduceLE,Int.reduceLT,z31,z32,z33,z34,qa3]
 try simp only[qb3,qb4,qc8,List.set_cons_zero,List.cons.injEq,and_true,true_and]
 exact⟨λhe=>by simp[qc9,he],λhe=>⟨h he,by simp[qc9,he]⟩⟩
def spL (L:List Fit):List Fit:=L.takeWhile λf=>decide (f.1.length<=(nF L 0).1.length)
def qn7 (m:List (List Int)) (y:List Int):List Fit × Int:=if qt6 m y []=0 then(if qg1 m y 10=[] then([],10) else(spL (qg1 m y 10),0)) else([],qt6 m y [])
structure q36 (m:List (List Int)) (y:List Int):Prop where
 ok:qt6 m y []=0->qk9 m y 10
structure w2v (L:List Fit) (c:Nat):Prop where
 le:c<=L.length
 all:∀i,i<c->(nF L i).1.length<=(nF L 0).1.length
abbrev x26:qc7:=qg3 false none [ql6,qf7] [xv8,qg4] (λx=>q36 x.1 x.2.1) (λx=>((qn7 x.1 x.2.1).1,(qn7 x.1 x.2.1).2,()))
def xw9 (L:List Fit):Nat->Option Inv
 | 0=>some (Inv.of [] 2 (λ_=>[]) (λc:Nat=>[.box 44 (.cons (.own 1) .nil),.vec 30 q3y (L.take c)]) (λc=>w2v L c) (λc=>c))
 | _=>none
theorem w6o {α:Type} (p:α->Bool):∀(l:List α) (c:Nat),c<=l.length->(∀(i:Nat) (h:i<l.length),i<c->p l[i]=true)->(∀h:c<l.length,p l[c]=false)->l.takeWhile p=l.take c
 | [],c,h,_,_=>by simp
 | x :: l,0,_,_,h2=>by
  have:=h2 (by simp)
  simp only[List.getElem_cons_zero] at this
  simp[List.takeWhile_cons,this]
 | x :: l,c+1,h,h1,h2=>by
  have hx:=h1 0 (by simp) (by omega)
  simp only[List.getElem_cons_zero] at hx
  rw[List.takeWhile_cons,hx,if_pos rfl,List.take_succ_cons,w6o p l c (by simpa using h) (λi hi hc=>h1 (i+1) (by simpa using hi) (by omega)) (λhc=>h2 (by simpa using hc))]
theorem w2w (l:List Fit) (i:Nat) (h:i<l.length):nF l i=l[i]:=ql1 (t:=q3y) l i h
theorem wz5 {L:List Fit} {c:Nat} (h:w2v L c) (hs:∀h:c<L.length,(nF L 0).1.length<(nF L c).1.length):spL L=L.take c:=by
 refine w6o _ L c h.le (λi hi hc=>?_) λhc=>?_
 ·have:=h.all i hc
  rw[w2w L i hi] at this
  exact decide_eq_true this
 ·have:=hs hc
  rw[w2w L c hc] at this
  exact decide_eq_false (by omega)
theorem w2x:qd8 Try.prog 39 x26:=by
 refine meets (x1t (SpecsOk.cons q2u (SpecsOk.cons q6l (SpecsOk.nil _))) (ItsOk.cons q8l ItsOk.nil)) Try.func39 rfl rfl (λx=>xw9 (qg1 x.1 x.2.1 10)) (λ_=>by kernel_rfl) (by decide) ?_
 rintro⟨m,y,⟨⟩⟩ h
 revert m y
 intro(m:List (List Int)) (y:List Int) (h:q36 m y)
 refine @qe0 _ (Value.slice none (0:Nat) (0:Nat)=Value.slice none (0:Nat) (0:Nat)/\(0:Nat)<=(1000000:Nat)/\((qt6 m y [] != (0:Int))=true->Prod.fst (qn7 m y)=[]/\qt6 m y []=Prod.snd (qn7 m y)/\True)/\((qt6 m y [] != (0:Int))=false->True/\q6i m y (10:Int)/\∃(v1:Unit),∃(v2:Nat),w2v (qg1 m y (10:Int)) v2/\v2=(0:Nat)/\((True/\True)/\List.take v2 (qg1 m y (10:Int))=[]/\True)/\∀(v3:Nat),w2v (qg1 m y (10:Int)) v3->(∀(v5:(List Int × List (Int × Int)) × qa6._f [] PUnit.unit),(List.map (λ(v7:List Int × List (Int × Int))=>(v7,())) (qg1 m y (10:Int)))[v3]?=some v5->(decide ((0:Int)<(↑(List.length (List.take v3 (qg1 m y (10:Int)))):Int))=true->((0:Int)<=(0:Int)/\(0:Int)<(↑(List.length (List.take v3 (qg1 m y (10:Int)))):Int))/\(0:Nat)<List.length (List.take v3 (qg1 m y (10:Int)))/\(decide ((↑(List.length (Prod.fst (qa1 q3y (List.take v3 (qg1 m y (10:Int))) (0:Nat)))):Int)<(↑(List.length (Prod.fst (Prod.fst v5))):Int))=true->(((↑(List.length (List.take v3 (qg1 m y (10:Int)))):Int)==(0:Int))=true->Prod.fst (qn7 m y)=[]/\(10:Int)=Prod.snd (qn7 m y)/\True)/\(((↑(List.length (List.take v3 (qg1 m y (10:Int)))):Int)==(0:Int))=false->List.take v3 (qg1 m y (10:Int))=Prod.fst (qn7 m y)/\(0:Int)=Prod.snd (qn7 m y)/\True))/\(decide ((↑(List.length (Prod.fst (qa1 q3y (List.take v3 (qg1 m y (10:Int))) (0:Nat)))):Int)<(↑(List.length (Prod.fst (Prod.fst v5))):Int))=false->((0:Nat)<List.length [(Prod.fst (Prod.fst v5),Prod.snd (Prod.fst v5))]/\Nat.le (List.length (List.take v3 (qg1 m y (10:Int)))+List.length [(Prod.fst (Prod.fst v5),Prod.snd (Prod.fst v5))]) (1000000:Nat))/\∃(v9:Nat),w2v (qg1 m y (10:Int)) v9/\v9=v3+(1:Nat)/\(True/\True)/\List.take v3 (qg1 m y (10:Int))++[(Prod.fst (Prod.fst v5),Prod.snd (Prod.fst v5))]=List.take v9 (qg1 m y (10:Int))/\True))/\(decide ((0:Int)<(↑(List.length (List.take v3 (qg1 m y (10:Int)))):Int))=false->((0:Nat)<List.length [(Prod.fst (Prod.fst v5),Prod.snd (Prod.fst v5))]/\Nat.le (List.length (List.take v3 (qg1 m y (10:Int)))+List.length [(Prod.fst (Prod.fst v5),Prod.snd (Prod.fst v5))]) (1000000:Nat))/\∃(v8:Nat),w2v (qg1 m y (10:Int)) v8/\v8=v3+(1:Nat)/\(True/\True)/\List.take v3 (qg1 m y (10:Int))++[(Prod.fst (Prod.fst v5),Prod.snd (Prod.fst v5))]=List.take v8 (qg1 m y (10:Int))/\True))/\(v3=List.length (List.map (λ(v6:List Int × List (Int × Int))=>(v6,())) (qg1 m y (10:Int)))->(((↑(List.length (List.take v3 (qg1 m y (10:Int)))):Int)==(0:Int))=true->Prod.fst (qn7 m y)=[]/\(10:Int)=Prod.snd (qn7 m y)/\True)/\(((↑(List.length (List.take v3 (qg1 m y (10:Int)))):Int)==(0:Int))=false->List.take v3 (qg1 m y (10:Int))=Prod.fst (qn7 m y)/\(0:Int)=Prod.snd (qn7 m y)/\True)))) (by kernel_rfl) ?_
 try simp only[z0,z1,z2,z3,z4,z5,z6,z7,z8,z9,z10,Int.reduceEq,z11,z12,z13,z14,z15,z16,z17,z18,z19,z20,z21,z22,z23,z24,z25,z26,z27,z28,z29,z30,Int.reduceLE,Int.reduceLT,z31,z32,z33,z34,qa3]
 try simp only[qb3,qb4,qc8,List.set_cons_zero,List.cons.injEq,and_true,true_and]
 refine⟨by omega,λhe=>by simp[qn7,he],λhe=>?_⟩
 have hp:=h.ok he
 have hR:qn7 m y=if qg1 m y 10=[] then([],10) else(spL (qg1 m y 10),0):=by rw[qn7,if_pos he]
 have hlen:=hp.len
 refine⟨hp.pre,(),0,⟨Nat.zero_le _,λi hi=>absurd hi (by omega)⟩,rfl,rfl,?_⟩
 generalize qg1 m y 10=L at hR hlen ⊢
 rw[hR]
 rintro c hc
 have hcl:=hc.le
 have htl:(L.take c).length=c:=by rw[List.length_take]; omega
 rw[htl]
 refine⟨?_,λhfin=>?_⟩
 ·rintro⟨f,⟨⟩⟩ hf
  rw[List.getElem?_map] at hf
  obtain⟨f',h1,h2⟩:=Option.map_eq_some_iff.1 hf
  obtain rfl:f'=f:=congrArg Prod.fst h2
  have hlt:=(List.getElem?_eq_some_iff.1 h1).1
  have hLne:L≠[]:=λe=>by rw[e] at hlt; exact absurd hlt (by simp)
  have hfe:nF L c=f':=by rw[w2w L c hlt]; exact(List.getElem?_eq_some_iff.1 h1).2
  have hnx:L.take c++[(f'.1,f'.2)]=L.take (c+1):=by rw[List.take_add_one,h1]; rfl
  refine⟨λh0=>?_,λh0=>?_⟩
  ·have h0:0<c:=by omega
   have hn0:qa1 q3y (L.take c) 0=nF L 0:=by
    rw[ql1 (t:=q3y) _ 0 (by rw[htl]; exact h0),w2w L 0 (by omega)]
    simp
   rw[hn0]
   refine⟨by omega,h0,λhbr=>⟨λhz=>by omega,λ_=>?_⟩,λhbr=>⟨by omega,c+1,⟨hlt,λi hi=>?_⟩,rfl,hnx⟩⟩
   ·rw[if_neg hLne,wz5 hc λ_=>by rw[hfe]; exact hbr]
    exact⟨rfl,rfl⟩
   ·by_cases e:i=c
    ·have hbr:¬(nF L 0).1.length<f'.1.length:=hbr
     subst e; rw[hfe]; omega
    ·exact hc.all i (by omega)
  ·have h0:c=0:=by omega
   subst h0
   exact⟨by omega,1,⟨hlt,λi hi=>(by have e:i=0:=(by omega); subst e; exact Nat.le_refl _)⟩,rfl,hnx⟩
 ·rw[List.length_map] at hfin
  refine⟨λhz=>?_,λhz=>?_⟩
  ·have e:L=[]:=List.eq_nil_of_length_eq_zero (by omega)
   rw[if_pos e]
   exact⟨rfl,rfl⟩
  ·have e:L≠[]:=λe=>by rw[e] at hfin; simp at hfin; omega
   rw[if_neg e,wz5 hc λh=>by omega]
   exact⟨rfl,rfl⟩
def xx0:Fit:=([],[])
def qo0 (m:List (List Int)) (y:List Int):Fit × Int:=if(qn7 m y).2=0 then(nF (qn7 m y).1 0,0) else(xx0,(qn7 m y).2)
theorem xx1 {L:List Fit} (h:L≠[]):0<(spL L).length:=by
 cases L with
 | nil=>exact absurd rfl h
 | cons f l=>
  unfold spL
  rw[List.takeWhile_cons,if_pos]
  ·simp
  ·exact decide_eq_true (Nat.le_refl _)
theorem w91 {m:List (List Int)} {y:List Int} (h:(qn7 m y).2=0):0<(qn7 m y).1.length:=by
 unfold qn7 at h ⊢
 split
 ·rename_i he
  rw[if_pos he] at h
  split
  ·rename_i e; rw[if_pos e] at h; cases h
  ·rename_i e; exact xx1 e
 ·rename_i he
  rw[if_neg he] at h
  exact absurd h he
abbrev x67:qc7:=qg3 false none [ql6,qf7] [q3y,qg4] (λx=>q36 x.1 x.2.1) (λx=>((qo0 x.1 x.2.1).1,(qo0 x.1 x.2.1).2,()))
theorem wj7:qd8 Try.prog 11 x67:=by
 refine meets (snd (SpecsOk.cons w2x (SpecsOk.nil _))) Try.func11 rfl rfl (λ_ _=>none) (λ_=>by kernel_rfl) (by decide) ?_
 rintro⟨m,y,⟨⟩⟩ h
 revert m y
 intro(m:List (List Int)) (y:List Int) (h:q36 m y)
 refine @qe0 _ (q36 m y/\((Prod.snd (qn7 m y) != (0:Int))=true->(Prod.fst (Prod.fst (qo0 m y))=[]/\Prod.snd (Prod.fst (qo0 m y))=[]/\True)/\Prod.snd (qn7 m y)=Prod.snd (qo0 m y)/\True)/\((Prod.snd (qn7 m y) != (0:Int))=false->((0:Int)<=(0:Int)/\(0:Int)<(↑(List.length (Prod.fst (qn7 m y))):Int))/\(Prod.fst (qa1 (Ty.prod (Ty.list (Ty.int .i64)) (Ty.list (Ty.prod (Ty.int .i64) (Ty.int .i64)))) (Prod.fst (qn7 m y)) (0:Nat))=Prod.fst (Prod.fst (qo0 m y))/\Prod.snd (qa1 (Ty.prod (Ty.list (Ty.int .i64)) (Ty.list (Ty.prod (Ty.int .i64) (Ty.int .i64)))) (Prod.fst (qn7 m y)) (0:Nat))=Prod.snd (Prod.fst (qo0 m y))/\True)/\(0:Int)=Prod.snd (qo0 m y)/\True)) (by kernel_rfl) ?_
 try simp only[z0,z1,z2,z3,z4,z5,z6,z7,z8,z9,z10,Int.reduceEq,z11,z12,z13,z14,z15,z16,z17,z18,z19,z20,z21,z22,z23,z24,z25,z26,z27,z28,z29,z30,Int.reduceLE,Int.reduceLT,z31,z32,z33,z34,qa3]
 try simp only[qb3,qb4,qc8,List.set_cons_zero,List.cons.injEq,and_true,true_and]
 refine⟨h,λhe=>?_,λhe=>⟨by have:=w91 he; omega,?_⟩⟩
 ·rw[qo0,if_neg (by omega)]; exact⟨⟨rfl,rfl⟩,rfl⟩
 ·rw[qo0,if_pos (by omega)]; exact⟨⟨rfl,rfl⟩,rfl⟩
end Go.Proofs.Ytdibdlelmkcccaa
