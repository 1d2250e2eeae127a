/- The next picture of a stream: a contract by the engine. No condition. -/
import Derived.Test.YtmijnbjlhnpokaaGreatH6
import Derived.Test.YtmijnbjlhnpokaaGreatV22
set_option linter.unusedVariables false
set_option linter.unusedSimpArgs false
namespace Go.Proofs.YtmijnbjlhnpokaaGreat
open Go Go.RowKit Eng
def shB (r:Int × Int):Bool:=r.2==1 && inB r.1 (0-1000000) 1000000
abbrev ym7:qb4:=qf2 true none [q0a] [.bool] (λ_=>True) (λx=>(shB x.1,()))
theorem w9b:Meets Tryz.prog 255 ym7:=by
 refine meets (snd (SpecsOk.cons qs2 (SpecsOk.nil _))) Tryz.func255 rfl rfl (λ_ _=>none) (λ_=>by kernel_rfl) (by decide) ?_
 rintro⟨r,⟨⟩⟩ -
 revert r
 intro(r:Int × Int)
 refine @qd1 _ (((r.2==(1:Int))=true->True/\inB r.1 (-1000000:Int) (1000000:Int)=shB r)/\((r.2==(1:Int))=false->false=shB r)) (by kernel_rfl) ?_
 try simp only[z0,z1,z2,z3,z4,z5,z6,z7,z8,z9,z10,Int.reduceEq,z11,z12,z13,z14,z15,z16,z17,z18,z19,z20,z21,z22,z23,z24,z25,z26,z27,z28,z29,z30,Int.reduceLE,Int.reduceLT,z31,z32,z33,z34,qa1]
 try simp only[qa7,qa8,qb5,z31,z32,z2,z1]
 first
  | done
  | (refine⟨λh=>?_,λh=>?_⟩ <;> simp[shB,h])
def nQ (l:List (Int × Int)) (i:Nat):Int × Int:=qe6 q0a l i
def whX (n:Nat) (f:Fit):Nat->List Int
 | 0=>List.replicate n 0
 | i+1=>(whX n f i).set (nI f.1 i).toNat (nQ f.2 i).1
def whB (f:Fit):Nat->Bool
 | 0=>true
 | i+1=>whB f i && shB (nQ f.2 i)
theorem q4m (n:Nat) (f:Fit):∀i,(whX n f i).length=n
 | 0=>by simp[whX]
 | i+1=>by rw[whX,List.length_set,q4m n f i]
def whL (n:Nat) (L:List Fit):List (List Int):=L.filterMap λf=>if whB f f.1.length=true then some (whX n f f.1.length) else none
def ql1 (m:List (List Int)) (y:List Int) (k:Int):List (List Int) × Int:=if q8l m y k=0 then(whL (nL m 0).length (q2r m y k),0) else([],q8l m y k)
structure x0m (n:Nat) (f:Fit):Prop where
 len:f.2.length=f.1.length
 lenB:f.1.length<=1000
 at_:∀j,j<f.1.length->0<=nI f.1 j/\nI f.1 j<n
structure wy0 (m:List (List Int)) (y:List Int) (k:Int):Prop where
 pre:w1x m y k
 each:∀f∈q2r m y k,x0m (nL m 0).length f
theorem xl1 (n:Nat) {L:List Fit} {c:Nat} {f:Fit} (h:L[c]? = some f):whL n (L.take (c+1))=whL n (L.take c)++if whB f f.1.length=true then[whX n f f.1.length] else[]:=by
 rw[List.take_add_one,h]
 unfold whL
 rw[List.filterMap_append]
 congr 1
 simp only[Option.toList_some,List.filterMap_cons,List.filterMap_nil]
 by_cases hf:whB f f.1.length=true
 ·rw[if_pos hf,if_pos hf]
 ·rw[if_neg hf,if_neg hf]
open Go Go.Proofs Go.RowKit Eng Ls
abbrev ym8:qb4:=q8i (q0u [qf3,qe8,qd0]) true (some 34) (some 3) (λx=>q8l x.1 x.2.1 x.2.2.1=0->wy0 x.1 x.2.1 x.2.2.1) (λx=>.tup (.cons (.dat (.list (.int .i64)) (ql1 x.1 x.2.1 x.2.2.1).1) (.cons (.lit (.int .i64 (ql1 x.1 x.2.1 x.2.2.1).2)) .nil)))
def xs0 (m:List (List Int)) (out:List (List Int)):List AObj:=[.box 23 (.cons (.dat (.list (.int .i64)) m) .nil),.box 95 (.cons (.clo 255 .nil) .nil),.box 22 (.cons (.msl 3 .none) .nil),.mat 34 3 (.int .i64) out .none .none]
def x9l (m:List (List Int)) (L:List Fit):Nat->Option Inv
 | 0=>some (Inv.of [] 4 (λ_=>[]) (λc:Nat=>xs0 m (whL (nL m 0).length (L.take c))) (λc=>c<=L.length) (λc=>c))
 | 1=>some (Eng.Inv.mk (Nat × Fit) Nat [12,13,37] 6 (λq i=>[(12,.own 5),(13,.lit (.bool (whB q.2 i))),(37,.lit (.int .i64 i))]) (λq i=>xs0 m (whL (nL m 0).length (L.take q.1))++[.box 72 (.cons (.dat (.int .i64) q.2.1) (.cons (.dat q0a q.2.2) .nil)),.vec 3 (.int .i64) (whX (nL m 0).length q.2 i)]) (λq i=>i<=q.2.1.length) (λq i=>q.2.1.length-i))
 | _=>none
theorem w9c:Meets Tryz.prog 245 ym8:=by
 refine q9b (xz9 [65] [] (SpecsOk.cons w8r (SpecsOk.cons wx9 (SpecsOk.cons w9b (SpecsOk.nil _)))) MutsOk.nil (ItsOk.cons w41 ItsOk.nil)) Tryz.func245 rfl rfl (qm0 _) (λx=>x9l x.1 (q2r x.1 x.2.1 x.2.2.1)) (λ_=>by kernel_rfl) (by decide) ?_
 rintro⟨m,y,k,⟨⟩⟩ h
 revert m y k
 intro(m:List (List Int)) (y:List Int) (k:Int) (h:q8l m y k=0->wy0 m y k)
 refine @qd1 _ (let Q0:=q2r m y k; let Q1:=ql1 m y k; True/\((q8l m y k != (0:Int))=true->Q1.1=[]/\q8l m y k=Q1.2/\True)/\((q8l m y k != (0:Int))=false->True/\we3 m y k/\∃(v1:Unit),∃(v2:Nat),Nat.le v2 Q0.length/\v2=(0:Nat)/\((m=m/\True)/\(True/\True)/\(True/\True)/\whL (nL m (0:Nat)).length (List.take v2 Q0)=[]/\True)/\∀(v3:Nat),Nat.le v3 Q0.length->(∀(v5:(List Int × List (Int × Int)) × qa4._f [] PUnit.unit),(List.map (λ(v7:List Int × List (Int × Int))=>(v7,())) Q0)[v3]?=some v5->((0:Int)<=(0:Int)/\(0:Int)<(↑m.length:Int))/\((↑(nL m (0:Nat)).length:Int)=(↑(nL m (0:Nat)).length:Int)/\(0:Int)<=(↑(nL m (0:Nat)).length:Int)/\(↑(nL m (0:Nat)).length:Int)<=(1000000:Int))/\∃(v7:Nat × Fit),∃(v8:Nat),Nat.le v8 v7.2.1.length/\((True/\true=whB v7.2 v8/\(0:Int)=(↑v8:Int)/\True)/\(m=m/\True)/\(True/\True)/\(True/\True)/\(whL (nL m (0:Nat)).length (List.take v3 Q0)=whL (nL m (0:Nat)).length (List.take v7.1 Q0)/\True/\True)/\(v5.1.1=v7.2.1/\v5.1.2=v7.2.2/\True)/\List.replicate (↑(nL m (0:Nat)).length:Int).toNat (Ty.dflt (TI.ty T3))=whX (nL m (0:Nat)).length v7.2 v8/\True)/\∀(v9:Nat),Nat.le v9 v7.2.1.length->(decide ((↑v9:Int)<(↑v5.1.1.length:Int))=true->((0:Int)<=(↑v9:Int)/\(↑v9:Int)<(↑v5.1.1.length:Int))/\((0:Int)<=(↑v9:Int)/\(↑v9:Int)<(↑v7.2.2.length:Int))/\(whB v7.2 v9=true->((0:Int)<=(↑v9:Int)/\(↑v9:Int)<(↑v7.2.2.length:Int))/\True/\((0:Int)<=nI v5.1.1 v9/\nI v5.1.1 v9<(↑(whX (nL m (0:Nat)).length v7.2 v9).length:Int))/\(nI v5.1.1 v9).toNat<(whX (nL m (0:Nat)).length v7.2 v9).length/\fits .i64 ((↑v9:Int)+(1:Int))/\∃(v13:Nat),Nat.le v13 v7.2.1.length/\v7.2.1.length-v13<v7.2.1.length-v9/\(True/\shB ((qe6 q0a v7.2.2 v9).1,(qe6 q0a v7.2.2 v9).2)=whB v7.2 v13/\(↑v9:Int)+(1:Int)=(↑v13:Int)/\True)/\(m=m/\True)/\(True/\True)/\(True/\True)/\(whL (nL m (0:Nat)).length (List.take v7.1 Q0)=whL (nL m (0:Nat)).length (List.take v7.1 Q0)/\True/\True)/\(v7.2.1=v7.2.1/\v7.2.2=v7.2.2/\True)/\List.set (whX (nL m (0:Nat)).length v7.2 v9) (nI v5.1.1 v9).toNat (qe6 q0a v7.2.2 v9).1=whX (nL m (0:Nat)).length v7.2 v13/\True)/\(whB v7.2 v9=false->((0:Int)<=nI v5.1.1 v9/\nI v5.1.1 v9<(↑(whX (nL m (0:Nat)).length v7.2 v9).length:Int))/\(nI v5.1.1 v9).toNat<(whX (nL m (0:Nat)).length v7.2 v9).length/\fits .i64 ((↑v9:Int)+(1:Int))/\∃(v13:Nat),Nat.le v13 v7.2.1.length/\v7.2.1.length-v13<v7.2.1.length-v9/\(True/\false=whB v7.2 v13/\(↑v9:Int)+(1:Int)=(↑v13:Int)/\True)/\(m=m/\True)/\(True/\True)/\(True/\True)/\(whL (nL m (0:Nat)).length (List.take v7.1 Q0)=whL (nL m (0:Nat)).length (List.take v7.1 Q0)/\True/\True)/\(v7.2.1=v7.2.1/\v7.2.2=v7.2.2/\True)/\List.set (whX (nL m (0:Nat)).length v7.2 v9) (nI v5.1.1 v9).toNat (qe6 q0a v7.2.2 v9).1=whX (nL m (0:Nat)).length v7.2 v13/\True))/\(decide ((↑v9:Int)<(↑v5.1.1.length:Int))=false->(whB v7.2 v9=true->((0:Nat)<(0:Nat)+(1:Nat)/\(whL (nL m (0:Nat)).length (List.take v7.1 Q0)).length+((0:Nat)+(1:Nat))<=(1000000:Nat))/\∃(v13:Nat),Nat.le v13 Q0.length/\v13=v3+(1:Nat)/\(m=m/\True)/\(True/\True)/\(True/\True)/\(whL (nL m (0:Nat)).length (List.take v7.1 Q0)++[whX (nL m (0:Nat)).length v7.2 v9]=whL (nL m (0:Nat)).length (List.take v13 Q0)/\True/\True)/\True)/\(whB v7.2 v9=false->∃(v13:Nat),Nat.le v13 Q0.length/\v13=v3+(1:Nat)/\(m=m/\True)/\(True/\True)/\(True/\True)/\(whL (nL m (0:Nat)).length (List.take v7.1 Q0)=whL (nL m (0:Nat)).length (List.take v13 Q0)/\True/\True)/\True)))/\(v3=(List.map (λ(v6:List Int × List (Int × Int))=>(v6,())) Q0).length->whL (nL m (0:Nat)).length (List.take v3 Q0)=Q1.1/\(0:Int)=Q1.2/\True))) (by kernel_rfl) ?_
 try simp only[z0,z1,z2,z3,z4,z5,z6,z7,z8,z9,z10,Int.reduceEq,z11,z12,z13,z14,z15,z16,z17,z18,z19,z20,z21,z22,z23,z24,z25,z26,z27,z28,z29,z30,Int.reduceLE,Int.reduceLT,z31,z32,z33,z34,qa1]
 try simp only[qa7,qa8,qb5,z31,z32,z2,z1]
 refine⟨λhe=>by simp[ql1,he],λhe=>?_⟩
 have hw:=h he
 have hlen:=hw.pre.len
 have hea:=hw.each
 have hone:=hw.pre.pre.one
 have hpx:=hw.pre.pre.pix
 have hR:ql1 m y k=(whL (nL m 0).length (q2r m y k),0):=by rw[ql1,if_pos he]
 refine⟨hw.pre.pre,(),0,Nat.zero_le _,rfl,rfl,?_⟩
 rw[hR]
 generalize q2r m y k=L at hlen hea ⊢
 rintro c hc
 refine⟨?_,λhfin=>?_⟩
 ·rintro⟨f,⟨⟩⟩ hf
  rw[List.getElem?_map] at hf
  obtain⟨f',h1,h2⟩:=Option.map_eq_some_iff.1 hf
  obtain rfl:f'=f:=congrArg Prod.fst h2
  have hlt:=(List.getElem?_eq_some_iff.1 h1).1
  have hfi:=hea f' (List.mem_of_getElem? h1)
  have hf1:=hfi.len
  have hf2:=hfi.lenB
  have hsn:=xl1 (nL m 0).length h1
  have hwl:(whL (nL m 0).length (L.take c)).length<=c:=by
   have h3:=List.length_filterMap_le (λf:Fit=>if whB f f.1.length=true then some (whX (nL m 0).length f f.1.length) else none) (L.take c)
   have h4:(whL (nL m 0).length (L.take c)).length<=(L.take c).length:=h3
   rw[List.length_take] at h4
   omega
  dsimp only
  refine⟨by omega,by omega,(c,f'),0,Nat.zero_le _,⟨⟨rfl,rfl⟩,rfl,⟨rfl,rfl⟩,rfl⟩,λi hi=>⟨λhlt2=>?_,λhge=>?_⟩⟩
  ·have hat:=hfi.at_ i hlt2
   have hxl:=q4m (nL m 0).length f' i
   dsimp only at hi ⊢
   rw[hxl]
   refine⟨hlt2,by omega,λhb=>⟨by omega,hat,by omega,qb8 (by omega) (by omega),i+1,hlt2,by omega,⟨?_,by omega⟩,rfl⟩,λhb=>⟨hat,by omega,qb8 (by omega) (by omega),i+1,hlt2,by omega,⟨?_,by omega⟩,rfl⟩⟩
   ·rw[whB,hb,Bool.true_and]; rfl
   ·rw[whB,hb,Bool.false_and]
  ·dsimp only at hi hge ⊢
   obtain rfl:i=f'.1.length:=by omega
   refine⟨λhb=>⟨by omega,c+1,hlt,rfl,?_⟩,λhb=>⟨c+1,hlt,rfl,?_⟩⟩
   ·rw[hsn,if_pos hb]
   ·rw[hsn,if_neg (by rw[hb]; decide),List.append_nil]
 ·rw[List.length_map] at hfin
  rw[hfin,List.take_length]
  exact⟨rfl,rfl⟩
abbrev x9m:qb4:=qf2 true none [qk9] [.bool] (λ_=>True) (λx=>(decide (x.1.2.length=0),()))
theorem w45:Meets Tryz.prog 244 x9m:=by
 refine meets (snd (SpecsOk.nil _)) Tryz.func244 rfl rfl (λ_ _=>none) (λ_=>by kernel_rfl) (by decide) ?_
 rintro⟨⟨b,l⟩,⟨⟩⟩ -
 revert b l
 intro(b:Bool) (l:List Int)
 refine @qd1 _ (((↑l.length:Int)==(0:Int))=decide (l.length=(0:Nat))) (by kernel_rfl) ?_
 try simp only[z0,z1,z2,z3,z4,z5,z6,z7,z8,z9,z10,Int.reduceEq,z11,z12,z13,z14,z15,z16,z17,z18,z19,z20,z21,z22,z23,z24,z25,z26,z27,z28,z29,z30,Int.reduceLE,Int.reduceLT,z31,z32,z33,z34,qa1]
 try simp only[qa7,qa8,qb5,z31,z32,z2,z1]
 exact decide_eq_decide.2 (show(l.length:Int)=0↔l.length=0 by omega)
def qq8 (a b:List Int):Nat->List Int
 | 0=>a
 | k+1=>(qq8 a b k).set k (nI (qq8 a b k) k+nI b k)
def nextL (m:List (List Int)) (b:List Int) (f:Frm) (t:Int):List Int:=
 if f.2.length=0 then[] else if f.1=true then f.2 else if b=[] then[]
 else if(ql1 m f.2 t).2=0/\(ql1 m f.2 t).1.length=1 then(if q1x m (qq8 (nL (ql1 m f.2 t).1 0) b b.length) then qq8 (nL (ql1 m f.2 t).1 0) b b.length else[])
 else[]
structure wy1 (m:List (List Int)) (b:List Int) (f:Frm) (t:Int):Prop where
 val:qb9 m=true
 before:b=[]\/q1x m b=true
 len:f.2.length<=100000
 wh:f.1=false->q8l m f.2 t=0->wy0 m f.2 t
theorem wq0 (l:List Int) {p q:Nat} (h:q≠p) (x:Int):nI (l.set p x) q=nI l q:=by
 unfold nI qe6
 rw[List.getD_eq_getElem?_getD,List.getD_eq_getElem?_getD,List.getElem?_set_ne (Ne.symm h)]
theorem wq1 (a b:List Int):∀k,(qq8 a b k).length=a.length
 | 0=>rfl
 | k+1=>by rw[qq8,List.length_set,wq1 a b k]
theorem we5 (a b:List Int):∀(k c:Nat),k<=c->nI (qq8 a b k) c=nI a c
 | 0,c,_=>rfl
 | k+1,c,h=>by rw[qq8,wq0 _ (by omega),we5 a b k c (by omega)]
theorem xl2 {m:List (List Int)} {x:List Int} (h:q1x m x=true):x.length=(nL m 0).length/\∀j,j<x.length->qf0 1000 (nI x j):=by
 unfold q1x at h
 rw[Bool.and_eq_true,decide_eq_true_eq,List.all_eq_true] at h
 refine⟨h.1,λj hj=>?_⟩
 have:=qh6.1 (h.2 (nI x j) (by rw[qh0 x j hj]; exact List.getElem_mem hj))
 unfold qf0; omega
theorem xs1 (n:Nat) (f:Fit):∀i,whB f i=true->∀c,c<n->qf0 1000000 (nI (whX n f i) c)
 | 0,_,c,hc=>by
  rw[qh0 _ c (by rw[q4m]; exact hc)]
  simp only[whX,List.getElem_replicate]
  unfold qf0; omega
 | i+1,h,c,hc=>by
  rw[whB,Bool.and_eq_true] at h
  by_cases e:c=(nI f.1 i).toNat
  ·have h2:=h.2
   unfold shB at h2
   rw[Bool.and_eq_true] at h2
   have h3:=qh6.1 h2.2
   rw[whX,qh0 _ c (by rw[List.length_set,q4m]; exact hc)]
   subst e
   rw[List.getElem_set_self]
   unfold qf0; omega
  ·rw[whX,wq0 _ e]
   exact xs1 n f i h.1 c hc
theorem w9d {m:List (List Int)} {y:List Int} {k:Int} {r:List Int} (h:r∈(ql1 m y k).1):r.length=(nL m 0).length/\∀c,c<r.length->qf0 1000000 (nI r c):=by
 unfold ql1 at h
 split at h
 ·unfold whL at h
  obtain⟨f,_,h2⟩:=List.mem_filterMap.1 h
  split at h2
  ·rename_i hb
   obtain rfl:=Option.some.inj h2
   exact⟨q4m _ _ _,λc hc=>xs1 _ f _ hb c (by rw[q4m] at hc; exact hc)⟩
  ·cases h2
 ·cases h
theorem xl3 {m:List (List Int)} {b:List Int} {l:List Int} {t:Int} (h0:¬l.length=0) (hb:b.isEmpty=false) (hw:(ql1 m l t).2=0/\(ql1 m l t).1.length=1) :
  nextL m b (false,l) t=if q1x m (qq8 (nL (ql1 m l t).1 0) b b.length) then qq8 (nL (ql1 m l t).1 0) b b.length else[]:=by
 unfold nextL
 rw[if_neg h0,if_neg (by simp),if_neg (by intro e; subst e; cases hb),if_pos hw]
abbrev x9o:qb4:=qf2 false none [qf3,.nlist qd0,qk9,qd0] [.nlist qd0] (λx=>wy1 x.1 x.2.1 x.2.2.1 x.2.2.2.1) (λx=>(nextL x.1 x.2.1 x.2.2.1 x.2.2.2.1,()))
def x4q (m:List (List Int)) (b:List Int) (f:Frm) (t:Int):Nat->Option Inv
 | 0=>some (Inv.of [11,49] 2 (λk:Nat=>[(11,.msl 1 (some 0)),(49,.lit (.int .i64 k))]) (λk=>[.box 245 (.cons (.lit (.bool f.1)) (.cons (.dat (.int .i64) f.2) .nil)),.mat 34 3 (.int .i64) [qq8 (nL (ql1 m f.2 t).1 0) b k] .none .none]) (λk=>k<=b.length) (λk=>b.length-k))
 | _=>none
theorem w46:Meets Tryz.prog 224 x9o:=by
 refine meets (xz9 [] [] (SpecsOk.cons w45 (SpecsOk.cons wp3 (SpecsOk.cons w9c (SpecsOk.cons wp5 (SpecsOk.nil _))))) MutsOk.nil ItsOk.nil) Tryz.func224 rfl rfl (λx=>x4q x.1 x.2.1 x.2.2.1 x.2.2.2.1) (λ_=>by kernel_rfl) (by decide) ?_
 rintro⟨m,b,⟨key,l⟩,t,⟨⟩⟩ h
 revert m b key l t
 intro(m:List (List Int)) (b:List Int) (key:Bool) (l:List Int) (t:Int) (h:wy1 m b (key,l) t)
 refine @qd1 _ (let Q0:=ql1 m l t; let Q1:=qe2 Q0.1.length none; True/\(decide (l.length=(0:Nat))=true->nextL m b (key,l) t=[])/\(decide (l.length=(0:Nat))=false->(key=true->(0:Nat)<l.length/\l.length<=(100000:Nat)/\l=nextL m b (key,l) t)/\(key=false->(List.isEmpty b=true->nextL m b (key,l) t=[])/\(List.isEmpty b=false->(q8l m l t=(0:Int)->wy0 m l t)/\((Q0.2 != (0:Int))=true->nextL m b (key,l) t=[])/\((Q0.2 != (0:Int))=false->(((↑Q1:Int) != (1:Int))=true->nextL m b (key,l) t=[])/\(((↑Q1:Int) != (1:Int))=false->((0:Int)<=(0:Int)/\(0:Int)<(↑Q1:Int))/\(0:Nat)<qe2 Q0.1.length none/\∃(v5:Unit),∃(v6:Nat),Nat.le v6 b.length/\((some (0:Nat)=some (0:Nat)/\(0:Int)=(↑v6:Int)/\True)/\(key=key/\l=l/\True)/\(Q0.1=[qq8 (nL Q0.1 (0:Nat)) b v6]/\True/\True)/\True)/\∀(v7:Nat),Nat.le v7 b.length->(decide ((↑v7:Int)<(↑b.length:Int))=true->((0:Int)<=(↑v7:Int)/\(↑v7:Int)<(↑b.length:Int))/\((0:Int)<=(↑v7:Int)/\(↑v7:Int)<(↑(nL [qq8 (nL Q0.1 (0:Nat)) b v7] (0:Nat)).length:Int))/\v7<(nL [qq8 (nL Q0.1 (0:Nat)) b v7] (0:Nat)).length/\fits .i64 (nI (nL [qq8 (nL Q0.1 (0:Nat)) b v7] (0:Nat)) v7+qe6 qd0 b v7)/\((0:Int)<=(↑v7:Int)/\(↑v7:Int)<(↑(nL [qq8 (nL Q0.1 (0:Nat)) b v7] (0:Nat)).length:Int))/\v7<(nL [qq8 (nL Q0.1 (0:Nat)) b v7] (0:Nat)).length/\fits .i64 ((↑v7:Int)+(1:Int))/\∃(v10:Nat),Nat.le v10 b.length/\b.length-v10<b.length-v7/\(some (0:Nat)=some (0:Nat)/\(↑v7:Int)+(1:Int)=(↑v10:Int)/\True)/\(key=key/\l=l/\True)/\(List.set [qq8 (nL Q0.1 (0:Nat)) b v7] (0:Nat) (List.set (nL [qq8 (nL Q0.1 (0:Nat)) b v7] (0:Nat)) v7 (nI (nL [qq8 (nL Q0.1 (0:Nat)) b v7] (0:Nat)) v7+qe6 qd0 b v7))=[qq8 (nL Q0.1 (0:Nat)) b v10]/\True/\True)/\True)/\(decide ((↑v7:Int)<(↑b.length:Int))=false->qb9 m=true/\((!q1x m (nL [qq8 (nL Q0.1 (0:Nat)) b v7] (0:Nat)))=true->nextL m b (key,l) t=[])/\((!q1x m (nL [qq8 (nL Q0.1 (0:Nat)) b v7] (0:Nat)))=false->nL [qq8 (nL Q0.1 (0:Nat)) b v7] (0:Nat)=nextL m b (key,l) t/\Nat.le (1:Nat) (nL [qq8 (nL Q0.1 (0:Nat)) b v7] (0:Nat)).length)))))))) (by kernel_rfl) ?_
 try simp only[z0,z1,z2,z3,z4,z5,z6,z7,z8,z9,z10,Int.reduceEq,z11,z12,z13,z14,z15,z16,z17,z18,z19,z20,z21,z22,z23,z24,z25,z26,z27,z28,z29,z30,Int.reduceLE,Int.reduceLT,z31,z32,z33,z34,qa1]
 try simp only[qa7,qa8,qb5,z31,z32,z2,z1]
 refine⟨λh0=>if_pos h0,λh0=>⟨λhk=>⟨by omega,h.len,?_⟩,λhk=>⟨λhb=>?_,λhb=>?_⟩⟩⟩
 ·unfold nextL; rw[if_neg h0,if_pos hk]
 ·subst hk
  unfold nextL; rw[if_neg h0,if_neg (by simp),if_pos (List.isEmpty_iff.1 hb)]
 subst hk
 have hno:¬((ql1 m l t).2=0/\(ql1 m l t).1.length=1)->nextL m b (false,l) t=[]:=λhn=>by
  unfold nextL; rw[if_neg h0,if_neg (by simp),if_neg (by intro e; subst e; cases hb),if_neg hn]
 refine⟨h.wh rfl,λhe=>hno λq=>he q.1,λhe=>?_⟩
 simp only[qe2,qe7]
 refine⟨λhn=>hno λq=>hn (by omega),λhn=>⟨by omega,by omega,(),0,Nat.zero_le _,⟨rfl,?_⟩,λk hk=>?_⟩⟩
 ·show _=[nL _ 0]
  obtain⟨r,hr⟩:=List.length_eq_one_iff.1 (show(ql1 m l t).1.length=1 by omega)
  rw[hr]; rfl
 have hpb:q1x m b=true:=by
  rcases h.before with e | e
  ·subst e; cases hb
  ·exact e
 obtain⟨hbl,hbb⟩:=xl2 hpb
 have hM:=Mk.of h.val
 have p1:=hM.pix1
 have p10:=hM.pix10
 obtain⟨hrl,hrb⟩:=w9d (show nL (ql1 m l t).1 0∈(ql1 m l t).1 by rw[qm1 _ 0 (by omega)]; exact List.getElem_mem _)
 simp only[wq1]
 refine⟨λhlt=>?_,λhge=>?_⟩
 ·have h1:=hbb k hlt
  have h2:=hrb k (by omega)
  rw[we5 _ _ k k (Nat.le_refl k)]
  unfold qf0 at h1 h2
  exact⟨hlt,by omega,by omega,qb8 (by omega) (by omega),by omega,by omega,qb8 (by omega) (by omega),k+1,hlt,by omega,by omega,by rw[qq8,we5 _ _ k k (Nat.le_refl k)]⟩
 ·obtain rfl:k=b.length:=by omega
  have hn':=xl3 (m:=m) h0 hb ⟨he,by omega⟩
  exact⟨h.val,λhp=>by rw[hn',if_neg (by rw[hp]; decide)],λhp=>⟨by rw[hn',if_pos hp],by omega⟩⟩
end Go.Proofs.YtmijnbjlhnpokaaGreat
