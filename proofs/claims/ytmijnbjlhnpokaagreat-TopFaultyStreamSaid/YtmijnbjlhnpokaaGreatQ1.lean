/- Fractions of little terms compared: contracts by the engine. No condition. -/
import Derived.Test.YtmijnbjlhnpokaaGreatH8
import Derived.Test.YtmijnbjlhnpokaaGreatV1
set_option linter.unusedVariables false
set_option linter.unusedSimpArgs false
namespace Go.Proofs.YtmijnbjlhnpokaaGreat
open Go Go.Proofs Go.RowKit Eng Ls
abbrev nFr (F:List Frm) (i:Nat):Frm:=qe6 (.prod .bool (.list (.int .i64))) F i
def qo8 (m:List (List Int)) (F:List Frm) (t:Int):Nat->List Int
 | 0=>[]
 | k+1=>nextL m (qo8 m F t k) (nFr F k) t
def w9e (m:List (List Int)) (F:List Frm) (t:Int):Prop:=∀i,i<F.length->(nFr F i).1=false->q8l m (nFr F i).2 t=0->wy0 m (nFr F i).2 t
structure wq3 (F:List Frm) (m:List (List Int)) (t:Int):Prop where
 val:qb9 m=true
 size:F.length<=1000000
 len:∀i,i<F.length->(nFr F i).2.length<=100000
 key:∀i,i<F.length->(nFr F i).1=true->q1x m (nFr F i).2=true
 wh:w9e m F t
abbrev ym9 (i:Nat) (l:List Int):qa4 [qd0,.nlist qd0]:=((i:Int),l,())
def xc8 (F:List Frm) (m:List (List Int)) (t:Int):List (qa4 [qd0,.nlist qd0]):=(List.range F.length).map λi=>ym9 i (qo8 m F t (i+1))
abbrev x9p:qw1:=wv9 [.list qk9,qf3,qd0] [qd0,.nlist qd0] (λx=>wq3 x.1 x.2.1 x.2.2.1) (λx=>xc8 x.1 x.2.1 x.2.2.1)
def x9q (F:List Frm) (m:List (List Int)) (t:Int):Nat->Option Inv
 | 0=>some (Inv.of [5,8,10] 1 (λk:Nat=>[(5,.ndat false (.int .i64) (qo8 m F t k)),(8,.dat (.prod .bool (.list (.int .i64))) F),(10,.lit (.int .i64 k))]) (λk=>[.cnt (some k)]) (λk=>k<=F.length) (λk=>F.length-k))
 | _=>none
theorem w17 {m:List (List Int)} {b:List Int} {f:Frm} {t:Int} (hk:f.1=true->q1x m f.2=true):nextL m b f t=[]\/q1x m (nextL m b f t)=true:=by
 unfold nextL
 split; · exact .inl rfl
 split; · exact .inr (hk ‹_›)
 split; · exact .inl rfl
 split
 ·split
  ·exact .inr ‹_›
  ·exact .inl rfl
 ·exact .inl rfl
theorem w18 {F:List Frm} {m:List (List Int)} {t:Int} (h:wq3 F m t):∀k,k<=F.length->qo8 m F t k=[]\/q1x m (qo8 m F t k)=true
 | 0,_=>.inl rfl
 | k+1,hk=>w17 (h.key k hk)
theorem w19 {m:List (List Int)} {x:List Int} (h:q1x m x=true):x.length=(nL m 0).length:=by
 unfold q1x at h
 rw[Bool.and_eq_true,decide_eq_true_eq] at h
 exact h.1
theorem w9f:qt4 Tryz.prog 223 x9p:=by
 refine says (snd (SpecsOk.cons w46 (SpecsOk.cons wp4 (SpecsOk.nil _)))) Tryz.func223 rfl rfl rfl [21] (λx=>x9q x.1 x.2.1 x.2.2.1) (λ_=>by kernel_rfl) (by decide) ?_
 rintro⟨F,m,t,⟨⟩⟩ l h
 revert F m t
 intro(F:List Frm) (m:List (List Int)) (t:Int) (h:wq3 F m t)
 refine @qd1 _ (let Q0:=(F,m,t,PUnit.unit); let Q1:=xc8 F m t; ∃(v0:Unit),∃(v1:Nat),Nat.le v1 F.length/\((qo8 m F t v1=[]/\F=F/\(0:Int)=(↑v1:Int)/\True)/\some (0:Nat)=some v1/\True)/\∀(v2:Nat),Nat.le v2 F.length->(decide ((↑v2:Int)<(↑F.length:Int))=true->((0:Int)<=(↑v2:Int)/\(↑v2:Int)<(↑F.length:Int))/\wy1 m (qo8 m F t v2) ((qe6 (Ty.prod Ty.bool (Ty.list (Ty.int .i64))) F v2).1,(qe6 (Ty.prod Ty.bool (Ty.list (Ty.int .i64))) F v2).2) t/\(nextL m (qo8 m F t v2) ((qe6 (Ty.prod Ty.bool (Ty.list (Ty.int .i64))) F v2).1,(qe6 (Ty.prod Ty.bool (Ty.list (Ty.int .i64))) F v2).2) t).length<=(100000:Nat)/\(List.isEmpty (nextL m (qo8 m F t v2) ((qe6 (Ty.prod Ty.bool (Ty.list (Ty.int .i64))) F v2).1,(qe6 (Ty.prod Ty.bool (Ty.list (Ty.int .i64))) F v2).2) t)=true->Value.slice none (0:Nat) (0:Nat)=Value.slice none (0:Nat) (0:Nat)/\Value.func (Fn.yield l) #[] #[]=Value.func (Fn.yield (qh3.l (qz7 [Ty.list qk9,qf3,qd0] [qd0,Ty.nlist qd0] [(21:Nat)] Q0 Q1 l))) #[] #[]/\Value.slice none (0:Nat) (0:Nat)=Value.slice none (0:Nat) (0:Nat)/\(qh3.L (qz7 [Ty.list qk9,qf3,qd0] [qd0,Ty.nlist qd0] [(21:Nat)] Q0 Q1 l))[v2]?=some ((↑v2:Int),[],())/\(fits .i64 ((↑v2:Int)+(1:Int))/\∃(v6:Nat),Nat.le v6 F.length/\F.length-v6<F.length-v2/\(nextL m (qo8 m F t v2) ((qe6 (Ty.prod Ty.bool (Ty.list (Ty.int .i64))) F v2).1,(qe6 (Ty.prod Ty.bool (Ty.list (Ty.int .i64))) F v2).2) t=qo8 m F t v6/\F=F/\(↑v2:Int)+(1:Int)=(↑v6:Int)/\True)/\some (v2+(1:Nat))=some v6/\True)/\True)/\(List.isEmpty (nextL m (qo8 m F t v2) ((qe6 (Ty.prod Ty.bool (Ty.list (Ty.int .i64))) F v2).1,(qe6 (Ty.prod Ty.bool (Ty.list (Ty.int .i64))) F v2).2) t)=false->Value.func (Fn.yield l) #[] #[]=Value.func (Fn.yield (qh3.l (qz7 [Ty.list qk9,qf3,qd0] [qd0,Ty.nlist qd0] [(21:Nat)] Q0 Q1 l))) #[] #[]/\(0:Nat)<(nextL m (qo8 m F t v2) ((qe6 (Ty.prod Ty.bool (Ty.list (Ty.int .i64))) F v2).1,(qe6 (Ty.prod Ty.bool (Ty.list (Ty.int .i64))) F v2).2) t).length/\(qh3.L (qz7 [Ty.list qk9,qf3,qd0] [qd0,Ty.nlist qd0] [(21:Nat)] Q0 Q1 l))[v2]?=some ((↑v2:Int),nextL m (qo8 m F t v2) ((qe6 (Ty.prod Ty.bool (Ty.list (Ty.int .i64))) F v2).1,(qe6 (Ty.prod Ty.bool (Ty.list (Ty.int .i64))) F v2).2) t,())/\(fits .i64 ((↑v2:Int)+(1:Int))/\∃(v6:Nat),Nat.le v6 F.length/\F.length-v6<F.length-v2/\(nextL m (qo8 m F t v2) ((qe6 (Ty.prod Ty.bool (Ty.list (Ty.int .i64))) F v2).1,(qe6 (Ty.prod Ty.bool (Ty.list (Ty.int .i64))) F v2).2) t=qo8 m F t v6/\F=F/\(↑v2:Int)+(1:Int)=(↑v6:Int)/\True)/\some (v2+(1:Nat))=some v6/\True)/\True))/\(decide ((↑v2:Int)<(↑F.length:Int))=false->v2=(qh3.L (qz7 [Ty.list qk9,qf3,qd0] [qd0,Ty.nlist qd0] [(21:Nat)] Q0 Q1 l)).length)) (by kernel_rfl) ?_
 try simp only[z0,z1,z2,z3,z4,z5,z6,z7,z8,z9,z10,Int.reduceEq,z11,z12,z13,z14,z15,z16,z17,z18,z19,z20,z21,z22,z23,z24,z25,z26,z27,z28,z29,z30,Int.reduceLE,Int.reduceLT,z31,z32,z33,z34,qa1]
 try simp only[qa7,qa8,qb5,z31,z32,z2,z1]
 have hsz:=h.size
 have key:∀k,k<F.length->(xc8 F m t)[k]? = some ((k:Int),nextL m (qo8 m F t k) (nFr F k) t,()):=λk hk=>by
  unfold xc8
  rw[List.getElem?_map,List.getElem?_range hk]
  rfl
 refine⟨(),0,Nat.zero_le _,⟨⟨rfl,rfl⟩,rfl⟩,λk hk=>⟨λhlt=>?_,λhge=>?_⟩⟩
 ·have hn:nextL m (qo8 m F t k) (nFr F k) t=[]\/q1x m (nextL m (qo8 m F t k) (nFr F k) t)=true:=w17 (h.key k hlt)
  have hl:(nextL m (qo8 m F t k) (nFr F k) t).length<=100000:=by
   rcases hn with e | e
   ·rw[e]; exact Nat.zero_le _
   ·have h1:=w19 e
    have h2:=(Mk.of h.val).pix10
    omega
  refine⟨hlt,⟨h.val,w18 h k hk,h.len k hlt,h.wh k hlt⟩,hl,λhe=>⟨rfl,?_,qb8 (by omega) (by omega),k+1,hlt,by omega,⟨rfl,by omega⟩,rfl⟩,λhe=>?_⟩
  ·have e:=List.isEmpty_iff.1 he
   have h1:=key k hlt
   rw[show nextL m (qo8 m F t k) (nFr F k) t=[] from e] at h1
   exact h1
  ·have hp:0<(nextL m (qo8 m F t k) (nFr F k) t).length:=by
    rcases Nat.eq_zero_or_pos (nextL m (qo8 m F t k) (nFr F k) t).length with q | q
    ·rw[show nextL m (qo8 m F t k) ((qe6 (Ty.bool.prod (Ty.int IntKind.i64).list) F k).1,(qe6 (Ty.bool.prod (Ty.int IntKind.i64).list) F k).2) t=[] from List.eq_nil_of_length_eq_zero q] at he
     cases he
    ·exact q
   exact⟨rfl,hp,key k hlt,qb8 (by omega) (by omega),k+1,hlt,by omega,⟨rfl,by omega⟩,rfl⟩
 ·obtain rfl:k=F.length:=by omega
  show _=(xc8 F m t).length
  simp[xc8]
abbrev yn0:qb4:=wl1 false none [qf3,.list qk9,qd0] (λ_=>True) (λx=>.clo 223 (.cons (.imm (.cons (.dat (.prod .bool (.list (.int .i64))) x.2.1) .nil) 0) (.cons (.imm (.cons (.dat (.list (.int .i64)) x.1) .nil) 0) (.cons (.imm (.cons (.lit (.int .i64 x.2.2.1)) .nil) 0) .nil))))
theorem w9g:Meets Tryz.prog 165 yn0:=by
 refine q45 (snd (SpecsOk.nil _)) Tryz.func165 rfl rfl (λx _=>none) (λ_=>by kernel_rfl) (by decide) ?_
 rintro⟨m,F,t,⟨⟩⟩ -
 revert m F t
 intro(m:List (List Int)) (F:List Frm) (t:Int)
 refine @qd1 _ (((F=F/\True)/\(0:Nat)=(0:Nat))/\((m=m/\True)/\(0:Nat)=(0:Nat))/\((t=t/\True)/\(0:Nat)=(0:Nat))/\True) (by kernel_rfl) ?_
 try simp only[z0,z1,z2,z3,z4,z5,z6,z7,z8,z9,z10,Int.reduceEq,z11,z12,z13,z14,z15,z16,z17,z18,z19,z20,z21,z22,z23,z24,z25,z26,z27,z28,z29,z30,Int.reduceLE,Int.reduceLT,z31,z32,z33,z34,qa1]
 try simp only[qa7,qa8,qb5,z31,z32,z2,z1]
structure w9h (m p:List (List Int)) (e t:Int):Prop where
 enc:wp8 m p e
 wh:w9e m (ql0 m p e.toNat p.length) t
def xc9 (m p:List (List Int)) (e t:Int):Bool:=(List.range p.length).all λi=>decide (qo8 m (ql0 m p e.toNat p.length) t (i+1)=nL p i)
abbrev yn1:qb4:=qf2 true none [qf3,qf3,qd0,qd0] [.bool] (λx=>w9h x.1 x.2.1 x.2.2.1 x.2.2.2.1) (λx=>(xc9 x.1 x.2.1 x.2.2.1 x.2.2.2.1,()))
structure xl4 (m p:List (List Int)) (e t:Int) (c:Nat):Prop where
 le:c<=p.length
 all:∀i,i<c->qo8 m (ql0 m p e.toNat p.length) t (i+1)=nL p i
def x9r (m p:List (List Int)) (e t:Int):Nat->Option Inv
 | 0=>some (Inv.of [] 2 (λ_=>[]) (λc:Nat=>[.box 22 (.cons (.dat (.list (.int .i64)) p) .nil),.box 4 (.cons (.lit (.bool false)) .nil)]) (λc=>xl4 m p e t c) (λc=>c))
 | _=>none
theorem w9i:Meets Tryz.prog 103 yn1:=by
 refine meets (x70 (SpecsOk.cons wp9 (SpecsOk.cons w9g (SpecsOk.cons wn0 (SpecsOk.nil _)))) (ItsOk.cons w9f ItsOk.nil)) Tryz.func103 rfl rfl (λx=>x9r x.1 x.2.1 x.2.2.1 x.2.2.2.1) (λ_=>by kernel_rfl) (by decide) ?_
 rintro⟨m,p,e,t,⟨⟩⟩ h
 revert m p e t
 intro(m:List (List Int)) (p:List (List Int)) (e:Int) (t:Int) (h:w9h m p e t)
 refine @qd1 _ (let Q0:=ql0 m p e.toNat p.length; wp8 m p e/\True/\wq3 Q0 m t/\∃(v0:Unit),∃(v1:Nat),xl4 m p e t v1/\v1=(0:Nat)/\((p=p/\True)/\(false=false/\True)/\True)/\∀(v2:Nat),xl4 m p e t v2->(∀(v4:Int × qa4._f [Ty.nlist qd0] ⟨qa4._f [] PUnit.unit,PUnit.unit⟩),(xc8 Q0 m t)[v2]?=some v4->(List.isEmpty v4.2.1=true->false=xc9 m p e t)/\(List.isEmpty v4.2.1=false->((0:Int)<=v4.1/\v4.1<(↑p.length:Int))/\v4.2.1.length<=(1000000:Nat)/\((!decide (v4.2.1=nL p v4.1.toNat))=true->false=xc9 m p e t)/\((!decide (v4.2.1=nL p v4.1.toNat))=false->∃(v8:Nat),xl4 m p e t v8/\v8=v2+(1:Nat)/\(p=p/\True)/\(false=false/\True)/\True)))/\(v2=(xc8 Q0 m t).length->true=xc9 m p e t)) (by kernel_rfl) ?_
 try simp only[z0,z1,z2,z3,z4,z5,z6,z7,z8,z9,z10,Int.reduceEq,z11,z12,z13,z14,z15,z16,z17,z18,z19,z20,z21,z22,z23,z24,z25,z26,z27,z28,z29,z30,Int.reduceLE,Int.reduceLT,z31,z32,z33,z34,qa1]
 try simp only[qa7,qa8,qb5,z31,z32,z2,z1]
 have hv:=Vp.of h.enc.ok
 have p60:=hv.hi
 have p1:=hv.msk.pix1
 have p10:=hv.msk.pix10
 generalize hF:ql0 m p e.toNat p.length=F
 have hFl:F.length=p.length:=by rw[<- hF,qw9]
 have hat:∀i,i<p.length->nFr F i=xc7 m p e.toNat i:=λi hi=>by
  rw[<- hF]
  unfold nFr
  rw[qo1 _ i (by rw[qw9]; exact hi)]
  simp[ql0]
 have hpic:∀i,i<p.length->q1x m (nL p i)=true:=λi hi=>by
  have h1:=h.enc.ok
  unfold vpB at h1
  rw[Bool.and_eq_true,List.all_eq_true] at h1
  exact h1.2 _ (by rw[qm1 p i hi]; exact List.getElem_mem hi)
 have hD:wq3 F m t:=by
  refine⟨hv.val,by omega,λi hi=>?_,λi hi hk=>?_,?_⟩
  ·rw[hat i (by omega)]
   unfold xc7
   split
   ·have:=hv.len i (by omega); show(nL p i).length<=_; omega
   ·show(qs5 m _).1.length<=_
    unfold qs5
    split
    ·have:=hv.msk.rows6; simp only[q7h,List.length_map,List.length_range]; omega
    ·exact Nat.zero_le _
  ·rw[hat i (by omega)] at hk ⊢
   unfold xc7 at hk ⊢
   split at hk
   ·rename_i q; rw[if_pos q]; exact hpic i (by omega)
   ·cases hk
  ·rw[<- hF]; exact h.wh
 have hrig:xc9 m p e t=(List.range p.length).all λi=>decide (qo8 m F t (i+1)=nL p i):=by unfold xc9; rw[hF]
 have hno:∀i,i<p.length->¬qo8 m F t (i+1)=nL p i->false=xc9 m p e t:=λi hi hne=>by
  rw[hrig]
  symm
  rw[List.all_eq_false]
  exact⟨i,List.mem_range.2 hi,by simpa using hne⟩
 refine⟨h.enc,hD,(),0,⟨Nat.zero_le _,λi hi=>absurd hi (by omega)⟩,rfl,λc hc=>⟨?_,λhfin=>?_⟩⟩
 ·rintro⟨i,x,⟨⟩⟩ hx
  unfold xc8 at hx
  rw[List.getElem?_map] at hx
  obtain⟨j,hj,e1⟩:=Option.map_eq_some_iff.1 hx
  have hcl:c<F.length:=by
   have:=(List.getElem?_eq_some_iff.1 hj).1
   simpa using this
  rw[List.getElem?_range hcl] at hj
  obtain rfl:=Option.some.inj hj
  obtain⟨rfl,rfl⟩:i=(c:Int)/\x=qo8 m F t (c+1):=⟨(congrArg Prod.fst e1).symm,(congrArg (λq=>q.2.1) e1).symm⟩
  dsimp only
  have hcp:c<p.length:=by omega
  have hl:=hv.len c hcp
  refine⟨λhemp=>hno c hcp λq=>?_,λhemp=>⟨⟨by omega,by omega⟩,?_,λhne=>?_,λheq=>?_⟩⟩
  ·rw[List.isEmpty_iff.1 hemp] at q
   rw[<- q] at hl
   simp only[List.length_nil] at hl
   omega
  ·rcases w18 hD (c+1) hcl with q | q
   ·rw[q]; exact Nat.zero_le _
   ·have:=w19 q; omega
  ·exact hno c hcp hne
  ·refine⟨c+1,⟨hcp,λi hi=>?_⟩,rfl⟩
   rw[hF]
   by_cases q:i=c
   ·subst q; exact heq
   ·have:=hc.all i (by omega); rw[hF] at this; exact this
 ·have hfin:c=p.length:=by rw[hfin]; simp[xc8,hFl]
  rw[hrig]
  symm
  rw[List.all_eq_true]
  intro i hi
  have hi:=List.mem_range.1 hi
  have:=hc.all i (by omega)
  rw[hF] at this
  exact decide_eq_true this
def w2a (m p:List (List Int)) (e t:Int):Bool × Int:=if vpB m p=false then(false,1) else if inB e 1 60 && inB t 0 (nL m 0).length then(xc9 m p e t,0) else(false,7)
abbrev yn2:qb4:=qf2 true none [qf3,qf3,qd0,qd0] [.bool,qd0] (λx=>(w2a x.1 x.2.1 x.2.2.1 x.2.2.2.1).2=0->w9e x.1 (ql0 x.1 x.2.1 x.2.2.1.toNat x.2.1.length) x.2.2.2.1) (λx=>((w2a x.1 x.2.1 x.2.2.1 x.2.2.2.1).1,(w2a x.1 x.2.1 x.2.2.1 x.2.2.2.1).2,()))
theorem w9j:Meets Tryz.prog 53 yn2:=by
 refine meets (snd (SpecsOk.cons we4 (SpecsOk.cons qs6 (SpecsOk.cons w9i (SpecsOk.nil _))))) Tryz.func53 rfl rfl (λ_ _=>none) (λ_=>by kernel_rfl) (by decide) ?_
 rintro⟨m,p,e,t,⟨⟩⟩ h
 revert m p e t
 intro(m:List (List Int)) (p:List (List Int)) (e:Int) (t:Int) (h:(w2a m p e t).2=0->w9e m (ql0 m p e.toNat p.length) t)
 refine @qd1 _ (let Q0:=w2a m p e t; True/\((!vpB m p)=true->false=Q0.1/\(1:Int)=Q0.2/\True)/\((!vpB m p)=false->True/\((!inB e (1:Int) (60:Int))=true->false=Q0.1/\(7:Int)=Q0.2/\True)/\((!inB e (1:Int) (60:Int))=false->((0:Int)<=(0:Int)/\(0:Int)<(↑m.length:Int))/\True/\((!inB t (0:Int) (↑(nL m (0:Nat)).length:Int))=true->false=Q0.1/\(7:Int)=Q0.2/\True)/\((!inB t (0:Int) (↑(nL m (0:Nat)).length:Int))=false->w9h m p e t/\xc9 m p e t=Q0.1/\(0:Int)=Q0.2/\True)))) (by kernel_rfl) ?_
 try simp only[z0,z1,z2,z3,z4,z5,z6,z7,z8,z9,z10,Int.reduceEq,z11,z12,z13,z14,z15,z16,z17,z18,z19,z20,z21,z22,z23,z24,z25,z26,z27,z28,z29,z30,Int.reduceLE,Int.reduceLT,z31,z32,z33,z34,qa1]
 try simp only[qa7,qa8,qb5,z31,z32,z2,z1]
 have h7:vpB m p=true->(inB e 1 60 && inB t 0 (nL m 0).length)=false->(w2a m p e t).1=false/\(w2a m p e t).2=7:=λhv hb=>by simp[w2a,hv,hb]
 refine⟨λhv=>by simp[w2a,hv],λhv=>⟨λhe=>?_,λhe=>⟨by have:=(Vp.of hv).msk.rows1; omega,λht=>?_,λht=>?_⟩⟩⟩
 ·obtain⟨h1,h2⟩:=h7 hv (by rw[he]; rfl)
  exact⟨h1.symm,h2.symm⟩
 ·obtain⟨h1,h2⟩:=h7 hv (by rw[ht]; simp)
  exact⟨h1.symm,h2.symm⟩
 ·have hs:w2a m p e t=(xc9 m p e t,0):=by simp[w2a,hv,he,ht]
  rw[hs] at h ⊢
  exact⟨⟨⟨hv,(qh6.1 he).1,(qh6.1 he).2⟩,h rfl⟩,rfl,rfl⟩
open Go Go.RowKit Eng
abbrev tU64:Ty:=.int .u64
abbrev x0n:Ty:=.prod (.int .i64) (.int .u64)
theorem x9s {a:Int} (h0:0<=a) (h1:a<4294967296):IntKind.u64.wrap ((BitVec.ofInt 64 a &&& BitVec.ofInt 64 4294967295).toNat:Int)=a:=by
 have e1:(BitVec.ofInt 64 a).toNat=a.toNat:=by
  rw[BitVec.toNat_ofInt]
  omega
 have e2:(BitVec.ofInt 64 4294967295).toNat=2 ^ 32-1:=by decide
 rw[BitVec.toNat_and,e1,e2,Nat.and_two_pow_sub_one_eq_mod]
 have e3:a.toNat % 2 ^ 32=a.toNat:=Nat.mod_eq_of_lt (by omega)
 rw[e3]
 have e4:((a.toNat:Nat):Int)=a:=by omega
 rw[e4]
 exact Go.IntWalk.u64_in a (by omega)
theorem x9t {a:Int} (h0:0<=a) (h1:a<4294967296):a.fdiv 4294967296=0:=by
 rw[Int.fdiv_eq_ediv_of_nonneg _ (by decide)]
 omega
theorem x5y {x:Int} (h0:0<=x) (h1:x<=18446744073709551615):fits IntKind.u64 x:=by
 unfold fits
 exact Go.IntWalk.u64_in x ⟨h0,h1⟩
def lil (x:Int):Prop:=0<=x/\x<=2000000000
theorem x0o {x y:Int} (hx:lil x) (hy:lil y):0<=x*y/\x*y<=4000000000000000000:=
 ⟨Int.mul_nonneg hx.1 hy.1,Int.mul_le_mul hx.2 hy.2 hy.1 (by decide)⟩
abbrev x9u:qb4:=qf2 true none [tU64,tU64] [tU64,tU64] (λx=>lil x.1/\lil x.2.1) (λx=>(0,x.1*x.2.1,()))
theorem w47:Meets Tryz.prog 198 x9u:=by
 refine meets (snd (SpecsOk.nil _)) Tryz.func198 rfl rfl (λ_ _=>none) (λ_=>by kernel_rfl) (by decide) ?_
 rintro⟨x,y,⟨⟩⟩ h
 revert x y
 intro(x:Int) (y:Int) (h:lil x/\lil y)
 refine @qd1 _ ((0:Int)<=(32:Int)/\(0:Int)<=(32:Int)/\fits IntKind.u64 (IntKind.wrap IntKind.u64 (↑(BitVec.toNat (BitVec.ofInt (64:Nat) x &&& BitVec.ofInt (64:Nat) (4294967295:Int))):Int)*IntKind.wrap IntKind.u64 (↑(BitVec.toNat (BitVec.ofInt (64:Nat) y &&& BitVec.ofInt (64:Nat) (4294967295:Int))):Int))/\fits IntKind.u64 (Int.fdiv x (4294967296:Int)*IntKind.wrap IntKind.u64 (↑(BitVec.toNat (BitVec.ofInt (64:Nat) y &&& BitVec.ofInt (64:Nat) (4294967295:Int))):Int))/\(0:Int)<=(32:Int)/\fits IntKind.u64 (Int.fdiv x (4294967296:Int)*IntKind.wrap IntKind.u64 (↑(BitVec.toNat (BitVec.ofInt (64:Nat) y &&& BitVec.ofInt (64:Nat) (4294967295:Int))):Int)+Int.fdiv (IntKind.wrap IntKind.u64 (↑(BitVec.toNat (BitVec.ofInt (64:Nat) x &&& BitVec.ofInt (64:Nat) (4294967295:Int))):Int)*IntKind.wrap IntKind.u64 (↑(BitVec.toNat (BitVec.ofInt (64:Nat) y &&& BitVec.ofInt (64:Nat) (4294967295:Int))):Int)) (4294967296:Int))/\(0:Int)<=(32:Int)/\fits IntKind.u64 (IntKind.wrap IntKind.u64 (↑(BitVec.toNat (BitVec.ofInt (64:Nat) x &&& BitVec.ofInt (64:Nat) (4294967295:Int))):Int)*Int.fdiv y (4294967296:Int))/\fits IntKind.u64 (IntKind.wrap IntKind.u64 (↑(BitVec.toNat (BitVec.ofInt (64:Nat) (Int.fdiv x (4294967296:Int)*IntKind.wrap IntKind.u64 (↑(BitVec.toNat (BitVec.ofInt (64:Nat) y &&& BitVec.ofInt (64:Nat) (4294967295:Int))):Int)+Int.fdiv (IntKind.wrap IntKind.u64 (↑(BitVec.toNat (BitVec.ofInt (64:Nat) x &&& BitVec.ofInt (64:Nat) (4294967295:Int))):Int)*IntKind.wrap IntKind.u64 (↑(BitVec.toNat (BitVec.ofInt (64:Nat) y &&& BitVec.ofInt (64:Nat) (4294967295:Int))):Int)) (4294967296:Int)) &&& BitVec.ofInt (64:Nat) (4294967295:Int))):Int)+IntKind.wrap IntKind.u64 (↑(BitVec.toNat (BitVec.ofInt (64:Nat) x &&& BitVec.ofInt (64:Nat) (4294967295:Int))):Int)*Int.fdiv y (4294967296:Int))/\fits IntKind.u64 (Int.fdiv x (4294967296:Int)*Int.fdiv y (4294967296:Int))/\fits IntKind.u64 (Int.fdiv x (4294967296:Int)*Int.fdiv y (4294967296:Int)+Int.fdiv (Int.fdiv x (4294967296:Int)*IntKind.wrap IntKind.u64 (↑(BitVec.toNat (BitVec.ofInt (64:Nat) y &&& BitVec.ofInt (64:Nat) (4294967295:Int))):Int)+Int.fdiv (IntKind.wrap IntKind.u64 (↑(BitVec.toNat (BitVec.ofInt (64:Nat) x &&& BitVec.ofInt (64:Nat) (4294967295:Int))):Int)*IntKind.wrap IntKind.u64 (↑(BitVec.toNat (BitVec.ofInt (64:Nat) y &&& BitVec.ofInt (64:Nat) (4294967295:Int))):Int)) (4294967296:Int)) (4294967296:Int))/\(0:Int)<=(32:Int)/\fits IntKind.u64 (Int.fdiv x (4294967296:Int)*Int.fdiv y (4294967296:Int)+Int.fdiv (Int.fdiv x (4294967296:Int)*IntKind.wrap IntKind.u64 (↑(BitVec.toNat (BitVec.ofInt (64:Nat) y &&& BitVec.ofInt (64:Nat) (4294967295:Int))):Int)+Int.fdiv (IntKind.wrap IntKind.u64 (↑(BitVec.toNat (BitVec.ofInt (64:Nat) x &&& BitVec.ofInt (64:Nat) (4294967295:Int))):Int)*IntKind.wrap IntKind.u64 (↑(BitVec.toNat (BitVec.ofInt (64:Nat) y &&& BitVec.ofInt (64:Nat) (4294967295:Int))):Int)) (4294967296:Int)) (4294967296:Int)+Int.fdiv (IntKind.wrap IntKind.u64 (↑(BitVec.toNat (BitVec.ofInt (64:Nat) (Int.fdiv x (4294967296:Int)*IntKind.wrap IntKind.u64 (↑(BitVec.toNat (BitVec.ofInt (64:Nat) y &&& BitVec.ofInt (64:Nat) (4294967295:Int))):Int)+Int.fdiv (IntKind.wrap IntKind.u64 (↑(BitVec.toNat (BitVec.ofInt (64:Nat) x &&& BitVec.ofInt (64:Nat) (4294967295:Int))):Int)*IntKind.wrap IntKind.u64 (↑(BitVec.toNat (BitVec.ofInt (64:Nat) y &&& BitVec.ofInt (64:Nat) (4294967295:Int))):Int)) (4294967296:Int)) &&& BitVec.ofInt (64:Nat) (4294967295:Int))):Int)+IntKind.wrap IntKind.u64 (↑(BitVec.toNat (BitVec.ofInt (64:Nat) x &&& BitVec.ofInt (64:Nat) (4294967295:Int))):Int)*Int.fdiv y (4294967296:Int)) (4294967296:Int))/\fits IntKind.u64 (x*y)/\Int.fdiv x (4294967296:Int)*Int.fdiv y (4294967296:Int)+Int.fdiv (Int.fdiv x (4294967296:Int)*IntKind.wrap IntKind.u64 (↑(BitVec.toNat (BitVec.ofInt (64:Nat) y &&& BitVec.ofInt (64:Nat) (4294967295:Int))):Int)+Int.fdiv (IntKind.wrap IntKind.u64 (↑(BitVec.toNat (BitVec.ofInt (64:Nat) x &&& BitVec.ofInt (64:Nat) (4294967295:Int))):Int)*IntKind.wrap IntKind.u64 (↑(BitVec.toNat (BitVec.ofInt (64:Nat) y &&& BitVec.ofInt (64:Nat) (4294967295:Int))):Int)) (4294967296:Int)) (4294967296:Int)+Int.fdiv (IntKind.wrap IntKind.u64 (↑(BitVec.toNat (BitVec.ofInt (64:Nat) (Int.fdiv x (4294967296:Int)*IntKind.wrap IntKind.u64 (↑(BitVec.toNat (BitVec.ofInt (64:Nat) y &&& BitVec.ofInt (64:Nat) (4294967295:Int))):Int)+Int.fdiv (IntKind.wrap IntKind.u64 (↑(BitVec.toNat (BitVec.ofInt (64:Nat) x &&& BitVec.ofInt (64:Nat) (4294967295:Int))):Int)*IntKind.wrap IntKind.u64 (↑(BitVec.toNat (BitVec.ofInt (64:Nat) y &&& BitVec.ofInt (64:Nat) (4294967295:Int))):Int)) (4294967296:Int)) &&& BitVec.ofInt (64:Nat) (4294967295:Int))):Int)+IntKind.wrap IntKind.u64 (↑(BitVec.toNat (BitVec.ofInt (64:Nat) x &&& BitVec.ofInt (64:Nat) (4294967295:Int))):Int)*Int.fdiv y (4294967296:Int)) (4294967296:Int)=(0:Ty.den tU64)/\x*y=x*y/\True) (by kernel_rfl) ?_
 try simp only[z0,z1,z2,z3,z4,z5,z6,z7,z8,z9,z10,Int.reduceEq,z11,z12,z13,z14,z15,z16,z17,z18,z19,z20,z21,z22,z23,z24,z25,z26,z27,z28,z29,z30,Int.reduceLE,Int.reduceLT,z31,z32,z33,z34,qa1]
 try simp only[qa7,qa8,qb5,z31,z32,z2,z1]
 have hm:=x0o h.1 h.2
 obtain⟨⟨x0,x1⟩,y0,y1⟩:=h
 have e1:=x9s (a:=x) x0 (by omega)
 have e2:=x9s (a:=y) y0 (by omega)
 have d1:=x9t (a:=x) x0 (by omega)
 have d2:=x9t (a:=y) y0 (by omega)
 have d3:(x*y).fdiv 4294967296=(x*y) / 4294967296:=Int.fdiv_eq_ediv_of_nonneg _ (by decide)
 have q0:0<=(x*y) / 4294967296:=by omega
 have q1:(x*y) / 4294967296<4294967296:=by omega
 have e3:=x9s q0 q1
 have d4:=x9t q0 q1
 simp only[e1,e2,d1,d2,d3,Int.zero_mul,Int.mul_zero,Int.zero_add,Int.add_zero,e3,d4]
 have f0:fits IntKind.u64 0:=x5y (by decide) (by decide)
 have f1:fits IntKind.u64 (x*y):=x5y hm.1 (by omega)
 have f2:fits IntKind.u64 ((x*y) / 4294967296):=x5y q0 (by omega)
 exact⟨f1,f0,f2,f0,f2,f0,f0,f0,f1,trivial⟩
abbrev x4r:qb4:=qf2 true none [qd0] [tU64] (λx=>lil x.1) (λx=>(x.1,()))
theorem wy2:Meets Tryz.prog 230 x4r:=by
 refine meets (snd (SpecsOk.nil _)) Tryz.func230 rfl rfl (λ_ _=>none) (λ_=>by kernel_rfl) (by decide) ?_
 rintro⟨x,⟨⟩⟩ h
 revert x
 intro(x:Int) (h:lil x)
 refine @qd1 _ ((decide (x<(0:Int))=true->fits IntKind.u64 x/\fits IntKind.u64 ((0:Int)-x)/\(0:Int)-x=x)/\(decide (x<(0:Int))=false->fits IntKind.u64 x/\x=x)) (by kernel_rfl) ?_
 try simp only[z0,z1,z2,z3,z4,z5,z6,z7,z8,z9,z10,Int.reduceEq,z11,z12,z13,z14,z15,z16,z17,z18,z19,z20,z21,z22,z23,z24,z25,z26,z27,z28,z29,z30,Int.reduceLE,Int.reduceLT,z31,z32,z33,z34,qa1]
 try simp only[qa7,qa8,qb5,z31,z32,z2,z1]
 obtain⟨h0,h1⟩:=h
 exact⟨λhl=>absurd h0 (by omega),λ_=>x5y h0 (by omega)⟩
abbrev yn3:qb4:=qf2 true none [qd0,qd0] [x0n] (λx=>lil x.1/\lil x.2.1) (λx=>((0,x.1*x.2.1),()))
theorem w9k:Meets Tryz.prog 195 yn3:=by
 refine meets (snd (SpecsOk.cons w47 (SpecsOk.cons wy2 (SpecsOk.nil _)))) Tryz.func195 rfl rfl (λ_ _=>none) (λ_=>by kernel_rfl) (by decide) ?_
 rintro⟨x,y,⟨⟩⟩ h
 revert x y
 intro(x:Int) (y:Int) (h:lil x/\lil y)
 refine @qd1 _ (lil x/\lil y/\(lil x/\lil y)/\fits .i64 (0:Ty.den tU64)/\((decide (x<(0:Int)) != decide (y<(0:Int)))=true->False)/\((decide (x<(0:Int)) != decide (y<(0:Int)))=false->(0:Ty.den tU64)=(0:Ty.den (Ty.int .i64))/\x*y=x*y/\True)) (by kernel_rfl) ?_
 try simp only[z0,z1,z2,z3,z4,z5,z6,z7,z8,z9,z10,Int.reduceEq,z11,z12,z13,z14,z15,z16,z17,z18,z19,z20,z21,z22,z23,z24,z25,z26,z27,z28,z29,z30,Int.reduceLE,Int.reduceLT,z31,z32,z33,z34,qa1]
 try simp only[qa7,qa8,qb5,z31,z32,z2,z1]
 have hx:=h.1.1
 have hy:=h.2.1
 refine⟨h.1,h.2,h,qb8 (by decide) (by decide),λhn=>?_⟩
 have e1:decide (x<0)=false:=decide_eq_false (by omega)
 have e2:decide (y<0)=false:=decide_eq_false (by omega)
 rw[e1,e2] at hn
 exact hn rfl
def w5s (a b:Int × Int):Int:=if a.1=b.1/\a.2=b.2 then 0 else if a.1<b.1\/a.1=b.1/\a.2<b.2 then -1 else 1
abbrev x9v:qb4:=qf2 true none [x0n,x0n] [qd0] (λ_=>True) (λx=>(w5s x.1 x.2.1,()))
theorem w48:Meets Tryz.prog 197 x9v:=by
 refine meets (snd (SpecsOk.nil _)) Tryz.func197 rfl rfl (λ_ _=>none) (λ_=>by kernel_rfl) (by decide) ?_
 rintro⟨⟨a,b⟩,⟨c,d⟩,⟨⟩⟩ -
 revert a b c d
 intro(a:Int) (b:Int) (c:Int) (d:Int)
 refine @qd1 _ (((a==c && b==d)=true->(0:Int)=w5s (a,b) (c,d))/\((a==c && b==d)=false->(decide (a<c)=true->(-1:Int)=w5s (a,b) (c,d))/\(decide (a<c)=false->((a==c)=true->(decide (b<d)=true->(-1:Int)=w5s (a,b) (c,d))/\(decide (b<d)=false->(1:Int)=w5s (a,b) (c,d)))/\((a==c)=false->(1:Int)=w5s (a,b) (c,d))))) (by kernel_rfl) ?_
 try simp only[z0,z1,z2,z3,z4,z5,z6,z7,z8,z9,z10,Int.reduceEq,z11,z12,z13,z14,z15,z16,z17,z18,z19,z20,z21,z22,z23,z24,z25,z26,z27,z28,z29,z30,Int.reduceLE,Int.reduceLT,z31,z32,z33,z34,qa1]
 try simp only[qa7,qa8,qb5,z31,z32,z2,z1]
 rw[Bool.and_eq_true,beq_iff_eq,beq_iff_eq,Bool.eq_false_iff,ne_eq,Bool.and_eq_true,beq_iff_eq,beq_iff_eq]
 unfold w5s
 dsimp only
 refine⟨λh=>(if_pos h).symm,λh=>?_⟩
 rw[if_neg h]
 refine⟨λh1=>(if_pos (.inl h1)).symm,λh1=>⟨λh2=>⟨λh3=>(if_pos (.inr ⟨h2,h3⟩)).symm,λh3=>(if_neg (by omega)).symm⟩,λh2=>(if_neg (by omega)).symm⟩⟩
def wt2 (a b:Int × Int):Int:=if a.1*b.2=b.1*a.2 then 0 else if a.1*b.2<b.1*a.2 then -1 else 1
structure q2s (a:Int × Int):Prop where
 n:lil a.1
 d:lil a.2
 pos:1<=a.2
abbrev x4s:qb4:=qf2 true none [q0a,q0a] [qd0] (λx=>q2s x.1/\q2s x.2.1) (λx=>(wt2 x.1 x.2.1,()))
theorem w49:Meets Tryz.prog 246 x4s:=by
 refine meets (snd (SpecsOk.cons w9k (SpecsOk.cons w48 (SpecsOk.nil _)))) Tryz.func246 rfl rfl (λ_ _=>none) (λ_=>by kernel_rfl) (by decide) ?_
 rintro⟨⟨a,b⟩,⟨c,d⟩,⟨⟩⟩ h
 revert a b c d
 intro(a:Int) (b:Int) (c:Int) (d:Int) (h:q2s (a,b)/\q2s (c,d))
 refine @qd1 _ ((decide (b<(1:Int))=true->(decide (d<(1:Int))=true->(lil a/\lil (1:Int))/\(lil c/\lil (1:Int))/\True/\w5s ((0:Ty.den (Ty.int .i64)),a*(1:Int)) ((0:Ty.den (Ty.int .i64)),c*(1:Int))=wt2 (a,b) (c,d))/\(decide (d<(1:Int))=false->(lil a/\lil d)/\(lil c/\lil (1:Int))/\True/\w5s ((0:Ty.den (Ty.int .i64)),a*d) ((0:Ty.den (Ty.int .i64)),c*(1:Int))=wt2 (a,b) (c,d)))/\(decide (b<(1:Int))=false->(decide (d<(1:Int))=true->(lil a/\lil (1:Int))/\(lil c/\lil b)/\True/\w5s ((0:Ty.den (Ty.int .i64)),a*(1:Int)) ((0:Ty.den (Ty.int .i64)),c*b)=wt2 (a,b) (c,d))/\(decide (d<(1:Int))=false->(lil a/\lil d)/\(lil c/\lil b)/\True/\w5s ((0:Ty.den (Ty.int .i64)),a*d) ((0:Ty.den (Ty.int .i64)),c*b)=wt2 (a,b) (c,d)))) (by kernel_rfl) ?_
 try simp only[z0,z1,z2,z3,z4,z5,z6,z7,z8,z9,z10,Int.reduceEq,z11,z12,z13,z14,z15,z16,z17,z18,z19,z20,z21,z22,z23,z24,z25,z26,z27,z28,z29,z30,Int.reduceLE,Int.reduceLT,z31,z32,z33,z34,qa1]
 try simp only[qa7,qa8,qb5,z31,z32,z2,z1]
 obtain⟨⟨h1,h2,h3⟩,⟨h4,h5,h6⟩⟩:=h
 dsimp only at h1 h2 h3 h4 h5 h6
 refine⟨λq=>absurd h3 (by omega),λ_=>⟨λq=>absurd h6 (by omega),λ_=>⟨⟨h1,h5⟩,⟨h4,h2⟩,?_⟩⟩⟩
 unfold w5s wt2
 simp
theorem w5a:Meets Tryz.prog 227 x4s:=by
 refine meets (snd (SpecsOk.cons w49 (SpecsOk.nil _))) Tryz.func227 rfl rfl (λ_ _=>none) (λ_=>by kernel_rfl) (by decide) ?_
 rintro⟨⟨a,b⟩,⟨c,d⟩,⟨⟩⟩ h
 revert a b c d
 intro(a:Int) (b:Int) (c:Int) (d:Int) (h:q2s (a,b)/\q2s (c,d))
 refine @qd1 _ ((q2s (a,b)/\q2s (c,d))/\wt2 (a,b) (c,d)=wt2 (a,b) (c,d)) (by kernel_rfl) ?_
 try simp only[z0,z1,z2,z3,z4,z5,z6,z7,z8,z9,z10,Int.reduceEq,z11,z12,z13,z14,z15,z16,z17,z18,z19,z20,z21,z22,z23,z24,z25,z26,z27,z28,z29,z30,Int.reduceLE,Int.reduceLT,z31,z32,z33,z34,qa1]
 try simp only[qa7,qa8,qb5,z31,z32,z2,z1]
 exact h
end Go.Proofs.YtmijnbjlhnpokaaGreat
