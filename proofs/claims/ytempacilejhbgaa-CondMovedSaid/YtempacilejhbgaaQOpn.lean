/- Lengths of a slice of slices. No condition. -/
import Derived.Test.YtempacilejhbgaaR4
import Derived.Test.YtempacilejhbgaaR6
import Derived.Test.YtempacilejhbgaaRows
import Derived.Test.YtempacilejhbgaaCore
import Derived.ProofKit
import Derived.OpenShut
import Derived.ShutString
import Derived.ChangeOld
import Derived.Below
import Derived.Deep.Matrix
import Derived.Test.YtempacilejhbgaaV7
set_option linter.unusedVariables false
set_option linter.unusedSimpArgs false
namespace Go.Proofs.Ytempacilejhbgaa
open Go Go.RowKit Eng
def xh6:List (List Int):=[[1,1,0],[0,1,1]]
def xw5 (l:List (List Int)) (k:Nat):Nat->Int × Int
 | 0=>(0,1)
 | i+1=>wl8 (xw5 l k i) (ofR (q1j (szV (nL l i)) ((w5k (nL l i)).take k)) (szL (nL l i)))
theorem wm9 (l:List (List Int)) (k:Nat):∀n,qh7 l k n=xw5 l k n
 | 0=>rfl
 | n+1=>by
  rw[qh7,xw5,wm9 l k n]
  unfold shR
  rw[wv7]
theorem w54:grQ xh6 1=(1,3)/\q0v xh6 1 0=0/\qx2 xh6=(1,0):=by
 have hc:(qp1 xh6).1=[[1,-1,1]]:=by decide +kernel
 have hv:qb9 xh6=true:=by decide
 have hk:q0v xh6 1 0=0:=by decide
 refine⟨?_,hk,?_⟩
 ·unfold grQ
  rw[if_pos hk,hc,wm9]
  decide +kernel
 ·unfold qx2 ordL
  rw[if_pos hv,hc]
  show(((ordF [[1,-1,1]] 3 0:Nat):Int),(0:Int))=(1,0)
  simp only[ordF,wm9]
  decide +kernel
theorem w92:q7t [[1,1,0],[0,1,1]]:=w9x λ_=>by show 3<=7; decide
abbrev x2b:qc7:=qi1 true none [] [.bool] (λ_=>True) (λ_=>(true,()))
theorem w55:qe7 Try.prog 6 x2b:=by
 refine meets (snd (SpecsOk.cons q51 (SpecsOk.cons q52 (SpecsOk.nil _)))) Try.func6 rfl rfl (λ_ _=>none) (λ_=>by kernel_rfl) (by decide) ?_
 rintro⟨⟩ -
 refine @qf1 _ (q7t [[(1:Int),(1:Int),(0:Int)],[(0:Int),(1:Int),(1:Int)]]/\q7t [[(1:Int),(1:Int),(0:Int)],[(0:Int),(1:Int),(1:Int)]]/\(((0:Int)==(0:Int))=true->(((1:Int)==(1:Int) && (3:Int)==(3:Int))=true->(((0:Int)==(0:Int))=true->(Prod.fst (qx2 [[(1:Int),(1:Int),(0:Int)],[(0:Int),(1:Int),(1:Int)]])==(1:Int))=true)/\(((0:Int)==(0:Int))=false->false=true))/\(((1:Int)==(1:Int) && (3:Int)==(3:Int))=false->false=true))/\(((0:Int)==(0:Int))=false->false=true)) (by kernel_rfl) ?_
 try simp only[z0,z1,z2,z3,z4,z5,z6,z7,z8,z9,z10,Int.reduceEq,z11,z12,z13,z14,z15,z16,z17,z18,z19,z20,z21,z22,z23,z24,z25,z26,z27,z28,z29,z30,Int.reduceLE,Int.reduceLT,z31,z32,z33,z34,qa6]
 try simp only[qb6,qb7,qd0,List.set_cons_zero,List.cons.injEq,and_true,true_and]
 have ho:(qx2 [[1,1,0],[0,1,1]]).1=1:=congrArg Prod.fst w54.2.2
 exact⟨w92,w92,⟨λ_=>⟨ho,λq=>absurd trivial q⟩,λq=>by cases q⟩,λq=>absurd trivial q⟩
theorem wn0 {m:List (List Int)} (h:w1d m=true) (hv:qb9 m=true):(nL m 0).length<=7:=by
 unfold w1d at h
 rw[Bool.and_eq_true,Bool.not_eq_true',List.any_eq_false] at h
 have hM:=Mk.of hv
 have h1:=h.1 (nL m 0) (qs7 m 0 (by have:=hM.rows1; omega))
 have h2:=hM.pix10
 unfold xf1 at h1
 simp at h1
 omega
abbrev x2c:qc7:=qi1 true none [ql9,qf7,qf7,qe4] [.bool] (λx=>q85 x.1/\x.2.1.length<=9223372036854775807/\x.2.2.1.length<=9223372036854775807) (λ_=>(true,()))
theorem q6n:qe7 Try.prog 3 x2c:=by
 refine meets (snd (SpecsOk.cons w05 (SpecsOk.cons w55 (SpecsOk.cons w5w (SpecsOk.cons w5z (SpecsOk.cons q51 (SpecsOk.cons q52 (SpecsOk.nil _))))))) ) Try.func3 rfl rfl (λ_ _=>none) (λ_=>by kernel_rfl) (by decide) ?_
 rintro⟨m,o,s,k,⟨⟩⟩ h
 revert m o s k
 intro(m:List (List Int)) (o:List Int) (s:List Int) (k:Int) (h:q85 m/\o.length<=9223372036854775807/\s.length<=9223372036854775807)
 refine @qf1 _ (let Q0:=w5y m s; let Q1:=w1e m o; let Q2:=grQ Q0 k; let Q3:=grQ Q1 k; List.length m<=(9223372036854775807:Nat)/\((!w1d m)=true->True/\true=true)/\((!w1d m)=false->(decide ((20:Int)<(↑(List.length o):Int))=true->True/\true=true)/\(decide ((20:Int)<(↑(List.length o):Int))=false->(decide ((20:Int)<(↑(List.length s):Int))=true->True/\true=true)/\(decide ((20:Int)<(↑(List.length s):Int))=false->q7t m/\q7t m/\(q85 m/\List.length o<=(9223372036854775807:Nat))/\((q71 m o==(0:Int))=true->q7t Q1/\q7t Q1/\((Prod.fst (qx2 Q1) != Prod.fst (qx2 m))=true->false=true)/\((Prod.fst (qx2 Q1) != Prod.fst (qx2 m))=false->((Prod.snd (qx2 Q1) != Prod.snd (qx2 m))=true->false=true)/\((Prod.snd (qx2 Q1) != Prod.snd (qx2 m))=false->((!(Prod.fst Q3==Prod.fst (grQ m k) && Prod.snd Q3==Prod.snd (grQ m k)))=true->false=true)/\((!(Prod.fst Q3==Prod.fst (grQ m k) && Prod.snd Q3==Prod.snd (grQ m k)))=false->((q0v Q1 k (0:Int) != q0v m k (0:Int))=true->false=true)/\((q0v Q1 k (0:Int) != q0v m k (0:Int))=false->(q85 m/\List.length s<=(1000000:Nat))/\((q72 m s==(0:Int))=true->q7t Q0/\q7t Q0/\((Prod.fst (qx2 Q0) != Prod.fst (qx2 m))=true->false=true)/\((Prod.fst (qx2 Q0) != Prod.fst (qx2 m))=false->((Prod.snd (qx2 Q0) != Prod.snd (qx2 m))=true->false=true)/\((Prod.snd (qx2 Q0) != Prod.snd (qx2 m))=false->((!(Prod.fst Q2==Prod.fst (grQ m k) && Prod.snd Q2==Prod.snd (grQ m k)))=true->false=true)/\((!(Prod.fst Q2==Prod.fst (grQ m k) && Prod.snd Q2==Prod.snd (grQ m k)))=false->((q0v Q0 k (0:Int) != q0v m k (0:Int))=true->false=true)/\((q0v Q0 k (0:Int) != q0v m k (0:Int))=false->True/\true=true)))))/\((q72 m s==(0:Int))=false->True/\true=true))))))/\((q71 m o==(0:Int))=false->(q85 m/\List.length s<=(1000000:Nat))/\((q72 m s==(0:Int))=true->q7t Q0/\q7t Q0/\((Prod.fst (qx2 Q0) != Prod.fst (qx2 m))=true->false=true)/\((Prod.fst (qx2 Q0) != Prod.fst (qx2 m))=false->((Prod.snd (qx2 Q0) != Prod.snd (qx2 m))=true->false=true)/\((Prod.snd (qx2 Q0) != Prod.snd (qx2 m))=false->((!(Prod.fst Q2==Prod.fst (grQ m k) && Prod.snd Q2==Prod.snd (grQ m k)))=true->false=true)/\((!(Prod.fst Q2==Prod.fst (grQ m k) && Prod.snd Q2==Prod.snd (grQ m k)))=false->((q0v Q0 k (0:Int) != q0v m k (0:Int))=true->false=true)/\((q0v Q0 k (0:Int) != q0v m k (0:Int))=false->True/\true=true)))))/\((q72 m s==(0:Int))=false->True/\true=true)))))) (by kernel_rfl) ?_
 try simp only[z0,z1,z2,z3,z4,z5,z6,z7,z8,z9,z10,Int.reduceEq,z11,z12,z13,z14,z15,z16,z17,z18,z19,z20,z21,z22,z23,z24,z25,z26,z27,z28,z29,z30,Int.reduceLE,Int.reduceLT,z31,z32,z33,z34,qa6]
 try simp only[qb6,qb7,qd0,List.set_cons_zero,List.cons.injEq,and_true,true_and]
 refine⟨h.1.rows,λh6 ho hs=>?_⟩
 have cm:q7t m:=w9x λhv=>wn0 h6 hv
 have sgn:q72 m s=0->AlikeM (w5y m s) m:=λhe=>by
  unfold w5y; rw[if_pos he]
  exact w81 he (wn0 h6 (w50 he).1)
 have prm:q71 m o=0->AlikeM (w1e m o) m:=λhe=>by
  unfold w1e; rw[if_pos he]
  exact w80 he (wn0 h6 (w90 he).1)
 have eqb:∀a b:Int,((a==a && b==b)=false)->false=true:=λa b q=>by simp at q
 refine⟨cm,cm,⟨h.1,h.2.1⟩,λhe=>?_,λ_=>⟨⟨h.1,by omega⟩,λhg=>?_⟩⟩
 ·have S:=prm he
  have c:=w9x λ_=>S.n7
  rw[S.ord,S.gr,S.cnt]
  refine⟨c,c,λq=>absurd rfl q,λ_=>⟨λq=>absurd rfl q,λ_=>⟨eqb _ _,λ_=>⟨λq=>absurd rfl q,λ_=>⟨⟨h.1,by omega⟩,λhg=>?_⟩⟩⟩⟩⟩
  have S:=sgn hg
  have c:=w9x λ_=>S.n7
  rw[S.ord,S.gr,S.cnt]
  exact⟨c,c,λq=>absurd rfl q,λ_=>⟨λq=>absurd rfl q,λ_=>⟨eqb _ _,λ_ q=>absurd rfl q⟩⟩⟩
 ·have S:=sgn hg
  have c:=w9x λ_=>S.n7
  rw[S.ord,S.gr,S.cnt]
  exact⟨c,c,λq=>absurd rfl q,λ_=>⟨λq=>absurd rfl q,λ_=>⟨eqb _ _,λ_ q=>absurd rfl q⟩⟩⟩
open Go.ChangeShapes Go.WideShapes Go.ChangeAt Go.RowKit Go.Deep Ls
theorem own:ownKnob Try.prog.godebug=none:=by kernel_rfl
theorem laidOut:laidOutB Try.prog=true:=by kernel_rfl
theorem xo8 {H:Type} {enc:TypeId × Value->H} {W:World} {t e:TypeId} {v:Value} {d:DataW H} {p:List MemPlace} (ht:Try.prog.underlying t=some (.slice e)) (he:Try.prog.underlying e=some (.int .i64)) (ce:Try.prog.cellsOf e=1)
  (hv:∃a l c,v=.slice a l c) (h:DataW.Trod enc Try.prog W 0 (λ_=>true) true t v d p):∃a l c zs,v=.slice a l c/\SI W a l c zs:=by
 obtain⟨a,l,c,rfl⟩:=hv
 obtain⟨fuel,hf⟩:=h
 rcases open_ints ht he ce hf with⟨hcs,_⟩ | ⟨x,l',c',zs,hcs,_,hl,hm,hz,_,hcell,hwz⟩
 ·simp[Value.cells] at hcs
  obtain⟨rfl,rfl,rfl⟩:=hcs
  exact⟨_,_,_,[],rfl,SI.nil W⟩
 ·simp[Value.cells] at hcs
  obtain⟨rfl,rfl,rfl⟩:=hcs
  have hz':zs.length=c:=by simpa using hz
  refine⟨_,_,_,zs.take l,rfl,by simp; omega,hl,hm,λ_=>⟨x,rfl,λk hk=>?_⟩⟩
  rw[hcell k (by omega)]
  simp[nth,hk]
theorem xw6 {H:Type} {enc:TypeId × Value->H} {W:World} {t e q:TypeId} {v:Value} {d:DataW H} {p:List MemPlace} (ht:Try.prog.underlying t=some (.slice e)) (he:Try.prog.underlying e=some (.slice q)) (hq:Try.prog.underlying q=some (.int .i64))
  (ce:Try.prog.cellsOf e=1) (cq:Try.prog.cellsOf q=1)
  (hv:∃a l c,v=.slice a l c) (h:DataW.Trod enc Try.prog W 0 (λ_=>true) true t v d p):∃a l c m,v=.slice a l c/\SM W a l c m:=by
 obtain⟨a,l,c,rfl⟩:=hv
 obtain⟨fuel,hf⟩:=h
 rcases open_int_rows ht he hq ce cq hf with⟨hcs,_⟩ | ⟨x,l',c',A,L,C,Z,hcs,_,hl,hm,_,hr⟩
 ·simp[Value.cells] at hcs
  obtain⟨rfl,rfl,rfl⟩:=hcs
  exact⟨_,_,_,[],rfl,SM.nil W⟩
 ·simp[Value.cells] at hcs
  obtain⟨rfl,rfl,rfl⟩:=hcs
  refine⟨_,_,_,(List.range l).map (λr=>(Z r).take (L r)),rfl,by simp,hl,hm,λ_=>⟨x,rfl,λk hk=>?_⟩⟩
  obtain⟨h1,h2,h3,h4,_,h6,h7⟩:=hr k (by omega)
  have e0:nthL ((List.range l).map (λr=>(Z r).take (L r))) k=(Z k).take (L k):=by simp[nthL,hk]
  have e1:((Z k).take (L k)).length=L k:=by simp; omega
  rw[e0,e1]
  refine⟨A k,C k,h1,e1,h2,h3,λhp=>?_⟩
  cases hA:A k with
  | none=>have:=h6 hA; omega
  | some a'=>
   refine⟨a',rfl,λj hj=>?_⟩
   rw[(h7 a' hA).2 j (by omega)]
   simp[nth,hj]
end Go.Proofs.Ytempacilejhbgaa
set_option linter.unusedVariables false
namespace Go.Proofs.Ytempacilejhbgaa
open Go Go.RowKit Eng Ls
theorem xg9 {w:World} {A:Option Addr} {n c:Nat} {m:List (List Int)} (s:SM w A n c m):q85 m:=by
 have hl:=s.len
 have hn:=s.nmax
 refine⟨by omega,λi hi=>?_⟩
 obtain⟨ad,_,h⟩:=s.at_ (by omega)
 obtain⟨A',c',_,h2⟩:=h i (by omega)
 have e:nL m i=nthL m i:=by
  rw[qk3 m i hi]
  unfold nthL
  rw[List.getD_eq_getElem?_getD,List.getElem?_eq_getElem hi]
  rfl
 rw[e]
 exact h2.nmax
theorem w56 {w:World} {A:Option Addr} {n c:Nat} {l:List Int} (s:SI w A n c l):l.length<=9223372036854775807:=by
 have:=s.nmax
 have:=s.len
 omega
end Go.Proofs.Ytempacilejhbgaa
