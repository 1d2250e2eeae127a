/- Lengths of a slice of slices. No condition. -/
import Derived.Test.YtempacilejhbgaaR4
import Derived.Test.YtempacilejhbgaaRows
import Derived.Test.YtempacilejhbgaaCore
import Derived.ProofKit
import Derived.OpenShut
import Derived.ShutString
import Derived.ChangeOld
import Derived.Below
import Derived.Deep.Matrix
import Derived.Test.YtempacilejhbgaaV6
set_option linter.unusedVariables false
set_option linter.unusedSimpArgs false
namespace Go.Proofs.Ytempacilejhbgaa
open Go Go.RowKit Eng
def xf3:List (List Int):=[[1,1,0],[0,1,1]]
def xt1 (l:List (List Int)) (k:Nat):Nat->Int × Int
 | 0=>(0,1)
 | i+1=>q6l (xt1 l k i) (ofR (q3m (szV (nL l i)) ((w5d (nL l i)).take k)) (szL (nL l i)))
theorem wm1 (l:List (List Int)) (k:Nat):∀n,qi3 l k n=xt1 l k n
 | 0=>rfl
 | n+1=>by
  rw[qi3,xt1,wm1 l k n]
  unfold shR
  rw[wu6]
theorem w5o:grQ xf3 1=(1,3)/\we6 xf3 1 0=0/\q6e xf3=(1,0):=by
 have hc:(qk7 xf3).1=[[1,-1,1]]:=by decide +kernel
 have hv:qb8 xf3=true:=by decide
 have hk:we6 xf3 1 0=0:=by decide
 refine⟨?_,hk,?_⟩
 ·unfold grQ
  rw[if_pos hk,hc,wm1]
  decide +kernel
 ·unfold q6e ordL
  rw[if_pos hv,hc]
  show(((ordF [[1,-1,1]] 3 0:Nat):Int),(0:Int))=(1,0)
  simp only[ordF,wm1]
  decide +kernel
theorem w9a:w0q [[1,1,0],[0,1,1]]:=xe0 λ_=>by show 3<=7; decide
abbrev x03:qc7:=qh6 true none [] [.bool] (λ_=>True) (λ_=>(true,()))
theorem w5p:qe6 Try.prog 6 x03:=by
 refine meets (snd (SpecsOk.cons wl4 (SpecsOk.cons q5t (SpecsOk.nil _)))) Try.func6 rfl rfl (λ_ _=>none) (λ_=>by kernel_rfl) (by decide) ?_
 rintro⟨⟩ -
 refine @qe9 _ (w0q [[(1:Int),(1:Int),(0:Int)],[(0:Int),(1:Int),(1:Int)]]/\w0q [[(1:Int),(1:Int),(0:Int)],[(0:Int),(1:Int),(1:Int)]]/\(((0:Int)==(0:Int))=true->(((1:Int)==(1:Int) && (3:Int)==(3:Int))=true->(((0:Int)==(0:Int))=true->(Prod.fst (q6e [[(1:Int),(1:Int),(0:Int)],[(0:Int),(1:Int),(1:Int)]])==(1:Int))=true)/\(((0:Int)==(0:Int))=false->false=true))/\(((1:Int)==(1:Int) && (3:Int)==(3:Int))=false->false=true))/\(((0:Int)==(0:Int))=false->false=true)) (by kernel_rfl) ?_
 try simp only[z0,z1,z2,z3,z4,z5,z6,z7,z8,z9,z10,Int.reduceEq,z11,z12,z13,z14,z15,z16,z17,z18,z19,z20,z21,z22,z23,z24,z25,z26,z27,z28,z29,z30,Int.reduceLE,Int.reduceLT,z31,z32,z33,z34,qa6]
 try simp only[qb5,qb6,qd0,List.set_cons_zero,List.cons.injEq,and_true,true_and]
 have ho:(q6e [[1,1,0],[0,1,1]]).1=1:=congrArg Prod.fst w5o.2.2
 exact⟨w9a,w9a,⟨λ_=>⟨ho,λq=>absurd trivial q⟩,λq=>by cases q⟩,λq=>absurd trivial q⟩
theorem xe4 {m:List (List Int)} (h:w03 m=true) (hv:qb8 m=true):(nL m 0).length<=7:=by
 unfold w03 at h
 rw[Bool.and_eq_true,Bool.not_eq_true',List.any_eq_false] at h
 have hM:=Mk.of hv
 have h1:=h.1 (nL m 0) (qr9 m 0 (by have:=hM.rows1; omega))
 have h2:=hM.pix10
 unfold xc3 at h1
 simp at h1
 omega
theorem xt2 {m r:List (List Int)} (h:q9f m r=0):qb8 m=true:=by
 unfold q9f at h
 split at h
 ·cases h
 ·rename_i q
  cases e:qb8 m with
  | true=>rfl
  | false=>exact absurd e q
theorem wh8 {m:List (List Int)} {p:List Int} (hv:qb8 m=true) (h:wh9 m p=0):Named (nL m 0).length p:=by
 unfold wh9 at h
 rw[if_neg (by rw[hv]; decide)] at h
 exact Named.of h
theorem w8c {m:List (List Int)} {p:List Int} (hv:qb8 m=true) (h7:(nL m 0).length<=7) (hp:p.length<=1000000):w37 m p:=
 ⟨hp,λhv=>xl4 hv,λhe=>⟨q4c hv,λi hi=>by
  obtain⟨s,hc⟩:=q2b hv h7 hi
  exact w00 hv hc (wh8 hv he)⟩⟩
abbrev x04:qc7:=qh6 true none [ql8,qf8,qf8] [.bool] (λx=>wz6 x.1/\x.2.1.length<=9223372036854775807) (λ_=>(true,()))
theorem q27:qe6 Try.prog 4 x04:=by
 refine meets (snd (SpecsOk.cons w0t (SpecsOk.cons w5p (SpecsOk.cons w5m (SpecsOk.cons w0m (SpecsOk.cons q5t (SpecsOk.cons w0z (SpecsOk.nil _))))))) ) Try.func4 rfl rfl (λ_ _=>none) (λ_=>by kernel_rfl) (by decide) ?_
 rintro⟨m,r,p,⟨⟩⟩ h
 revert m r p
 intro(m:List (List Int)) (r:List Int) (p:List Int) (h:wz6 m/\r.length<=9223372036854775807)
 refine @qe9 _ (let Q0:=(!xd9 (Prod.fst (ofQ m p),Prod.snd (ofQ m p)) (Prod.fst (ofQ (q6o m [r]) p),Prod.snd (ofQ (q6o m [r]) p))); let Q1:=q6e (q6o m [r]); List.length m<=(9223372036854775807:Nat)/\((!w03 m)=true->True/\true=true)/\((!w03 m)=false->(decide ((20:Int)<(↑(List.length r):Int))=true->True/\true=true)/\(decide ((20:Int)<(↑(List.length r):Int))=false->(decide ((20:Int)<(↑(List.length p):Int))=true->True/\true=true)/\(decide ((20:Int)<(↑(List.length p):Int))=false->(wz6 m/\wz6 [r])/\((q9f m [r] != (0:Int))=true->True/\true=true)/\((q9f m [r] != (0:Int))=false->w37 m p/\w37 (q6o m [r]) p/\w0q m/\w0q (q6o m [r])/\((ofE m p==ofE (q6o m [r]) p)=true->((ofE m p != (0:Int))=true->((Prod.snd (q6e m)==(0:Int))=true->((Prod.snd Q1==(0:Int))=true->(decide (Prod.fst (q6e m)<=Prod.fst Q1)=true->True/\true=true)/\(decide (Prod.fst (q6e m)<=Prod.fst Q1)=false->false=true))/\((Prod.snd Q1==(0:Int))=false->false=true))/\((Prod.snd (q6e m)==(0:Int))=false->false=true))/\((ofE m p != (0:Int))=false->(qt7 (Prod.fst (ofQ m p),Prod.snd (ofQ m p))/\qt7 (Prod.fst (ofQ (q6o m [r]) p),Prod.snd (ofQ (q6o m [r]) p)))/\(Q0=true->((Prod.snd (q6e m)==(0:Int))=true->((Prod.snd Q1==(0:Int))=true->(decide (Prod.fst (q6e m)<=Prod.fst Q1)=true->True/\true=true)/\(decide (Prod.fst (q6e m)<=Prod.fst Q1)=false->false=true))/\((Prod.snd Q1==(0:Int))=false->false=true))/\((Prod.snd (q6e m)==(0:Int))=false->false=true))/\(Q0=false->false=true)))/\((ofE m p==ofE (q6o m [r]) p)=false->false=true)))))) (by kernel_rfl) ?_
 try simp only[z0,z1,z2,z3,z4,z5,z6,z7,z8,z9,z10,Int.reduceEq,z11,z12,z13,z14,z15,z16,z17,z18,z19,z20,z21,z22,z23,z24,z25,z26,z27,z28,z29,z30,Int.reduceLE,Int.reduceLT,z31,z32,z33,z34,qa6]
 try simp only[qb5,qb6,qd0,List.set_cons_zero,List.cons.injEq,and_true,true_and]
 refine⟨h.1.rows,λh6 hr20 hp20=>⟨⟨h.1,?_⟩,λhe=>?_⟩⟩
 ·exact⟨by show 1<=_; decide,λi hi=>by
   have:i=0:=by have hi:i<1:=hi; omega
   subst this
   exact h.2⟩
 have hv:=xt2 he
 have h7:=xe4 h6 hv
 obtain⟨hs,hM⟩:=xe3 he h7
 rw[hM] at hs ⊢
 have a7:(nL (m++[r]) 0).length<=7:=by rw[hs.same]; exact h7
 have hpE:ofE (m++[r]) p=ofE m p:=by
  unfold ofE wh9
  rw[hs.va,hs.vm,hs.same]
 have hoR:∀a:List (List Int),qb8 a=true->q6e a=(((ordL a:Nat):Int),0):=λa q=>if_pos q
 rw[hpE,hoR m hv,hoR _ hs.va]
 refine⟨w8c hv h7 (by omega),w8c hs.va a7 (by omega),xe0 λ_=>h7,xe0 λ_=>a7,λ_=>⟨λ_=>⟨λ_=>⟨λ_ hlt=>?_,λq=>absurd rfl q⟩,λq=>absurd rfl q⟩,λhp=>?_⟩,λq=>absurd rfl q⟩
 ·have:=w5n hs
  have hlt:((ordL (m++[r]):Nat):Int)<(ordL m:Nat):=hlt
  omega
 ·have hN:=wh8 hv hp
  have e1:ofQ m p=q08 (qk7 m).1 p (qk7 m).1.length:=if_pos hp
  have e2:ofQ (m++[r]) p=q08 (qk7 (m++[r])).1 p (qk7 (m++[r])).1.length:=if_pos (by have:=hpE.trans hp; exact this)
  have l1:=qs0 ((w8c hv h7 (p:=p) (by omega)).ok hp) _ (Nat.le_refl _)
  have l2:=qs0 ((w8c hs.va a7 (p:=p) (by omega)).ok (hpE.trans hp)) _ (Nat.le_refl _)
  have hle:=of_sub hs hN
  rw[e1,e2]
  refine⟨⟨l1,l2⟩,λ_=>⟨λ_=>⟨λ_ hlt=>?_,λq=>absurd rfl q⟩,λq=>absurd rfl q⟩,λhq=>?_⟩
  ·have:=w5n hs
   have hlt:((ordL (m++[r]):Nat):Int)<(ordL m:Nat):=hlt
   omega
  ·exact absurd (of_decide_eq_true hq) (Int.not_lt.2 hle)
open Go.ChangeShapes Go.WideShapes Go.ChangeAt Go.RowKit Go.Deep Ls
theorem own:ownKnob Try.prog.godebug=none:=by kernel_rfl
theorem laidOut:laidOutB Try.prog=true:=by kernel_rfl
theorem xm3 {H:Type} {enc:TypeId × Value->H} {W:World} {t e:TypeId} {v:Value} {d:DataW H} {p:List MemPlace} (ht:Try.prog.underlying t=some (.slice e)) (he:Try.prog.underlying e=some (.int .i64)) (ce:Try.prog.cellsOf e=1)
  (hv:∃a l c,v=.slice a l c) (h:DataW.Trod enc Try.prog W 0 (λ_=>true) true t v d p):∃a l c zs,v=.slice a l c/\SI W a l c zs:=by
 obtain⟨a,l,c,rfl⟩:=hv
 obtain⟨fuel,hf⟩:=h
 rcases open_ints ht he ce hf with⟨hcs,_⟩ | ⟨x,l',c',zs,hcs,_,hl,hm,hz,_,hcell,hwz⟩
 ·simp[Value.cells] at hcs
  obtain⟨rfl,rfl,rfl⟩:=hcs
  exact⟨_,_,_,[],rfl,SI.nil W⟩
 ·simp[Value.cells] at hcs
  obtain⟨rfl,rfl,rfl⟩:=hcs
  have hz':zs.length=c:=by simpa using hz
  refine⟨_,_,_,zs.take l,rfl,by simp; omega,hl,hm,λ_=>⟨x,rfl,λk hk=>?_⟩⟩
  rw[hcell k (by omega)]
  simp[nth,hk]
theorem xt3 {H:Type} {enc:TypeId × Value->H} {W:World} {t e q:TypeId} {v:Value} {d:DataW H} {p:List MemPlace} (ht:Try.prog.underlying t=some (.slice e)) (he:Try.prog.underlying e=some (.slice q)) (hq:Try.prog.underlying q=some (.int .i64))
  (ce:Try.prog.cellsOf e=1) (cq:Try.prog.cellsOf q=1)
  (hv:∃a l c,v=.slice a l c) (h:DataW.Trod enc Try.prog W 0 (λ_=>true) true t v d p):∃a l c m,v=.slice a l c/\SM W a l c m:=by
 obtain⟨a,l,c,rfl⟩:=hv
 obtain⟨fuel,hf⟩:=h
 rcases open_int_rows ht he hq ce cq hf with⟨hcs,_⟩ | ⟨x,l',c',A,L,C,Z,hcs,_,hl,hm,_,hr⟩
 ·simp[Value.cells] at hcs
  obtain⟨rfl,rfl,rfl⟩:=hcs
  exact⟨_,_,_,[],rfl,SM.nil W⟩
 ·simp[Value.cells] at hcs
  obtain⟨rfl,rfl,rfl⟩:=hcs
  refine⟨_,_,_,(List.range l).map (λr=>(Z r).take (L r)),rfl,by simp,hl,hm,λ_=>⟨x,rfl,λk hk=>?_⟩⟩
  obtain⟨h1,h2,h3,h4,_,h6,h7⟩:=hr k (by omega)
  have e0:nthL ((List.range l).map (λr=>(Z r).take (L r))) k=(Z k).take (L k):=by simp[nthL,hk]
  have e1:((Z k).take (L k)).length=L k:=by simp; omega
  rw[e0,e1]
  refine⟨A k,C k,h1,e1,h2,h3,λhp=>?_⟩
  cases hA:A k with
  | none=>have:=h6 hA; omega
  | some a'=>
   refine⟨a',rfl,λj hj=>?_⟩
   rw[(h7 a' hA).2 j (by omega)]
   simp[nth,hj]
end Go.Proofs.Ytempacilejhbgaa
set_option linter.unusedVariables false
namespace Go.Proofs.Ytempacilejhbgaa
open Go Go.RowKit Eng Ls
theorem xe5 {w:World} {A:Option Addr} {n c:Nat} {m:List (List Int)} (s:SM w A n c m):wz6 m:=by
 have hl:=s.len
 have hn:=s.nmax
 refine⟨by omega,λi hi=>?_⟩
 obtain⟨ad,_,h⟩:=s.at_ (by omega)
 obtain⟨A',c',_,h2⟩:=h i (by omega)
 have e:nL m i=nthL m i:=by
  rw[ql9 m i hi]
  unfold nthL
  rw[List.getD_eq_getElem?_getD,List.getElem?_eq_getElem hi]
  rfl
 rw[e]
 exact h2.nmax
theorem xe6 {w:World} {A:Option Addr} {n c:Nat} {l:List Int} (s:SI w A n c l):l.length<=9223372036854775807:=by
 have:=s.nmax
 have:=s.len
 omega
end Go.Proofs.Ytempacilejhbgaa
