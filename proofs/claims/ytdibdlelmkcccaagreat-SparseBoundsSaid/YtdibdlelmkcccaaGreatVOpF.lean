/- What a fit given by value reads as. No condition. -/
import Derived.Test.YtdibdlelmkcccaaGreatZ1
import Derived.Test.YtdibdlelmkcccaaGreatV37
import Derived.Test.YtdibdlelmkcccaaGreatRows
import Derived.Test.YtdibdlelmkcccaaGreatCore
import Derived.ProofKit
import Derived.OpenShut
import Derived.ShutString
import Derived.ChangeOld
import Derived.Below
import Derived.Deep.Matrix
import Derived.Test.YtdibdlelmkcccaaGreatV0
import Derived.Lib.SmallJoins
import Derived.Deep.SlicePairs
set_option linter.unusedVariables false
set_option linter.unusedSimpArgs false
namespace Go.Proofs.YtdibdlelmkcccaaGreat
open Go Go.RowKit Eng
abbrev xj7:qc0:=qf8 true none [tMask,q5c] [.bool] (λx=>q77 x.1) (λ_=>(true,()))
theorem q3o:qd3 Tryz.prog 3 xj7:=by
 refine meets (snd (SpecsOk.cons w7x (SpecsOk.cons w39 (SpecsOk.cons wo7 (SpecsOk.cons q9a (SpecsOk.cons wx8 (SpecsOk.cons w9r (SpecsOk.cons w4o (SpecsOk.cons w4i (SpecsOk.cons wy0 (SpecsOk.cons q87 (SpecsOk.cons q4w (SpecsOk.nil _))))))))))))) Tryz.func3 rfl rfl (λ_ _=>none) (λ_=>by kernel_rfl) (by decide) ?_
 rintro⟨m,f,⟨⟩⟩ h
 revert m f
 intro(m:List (List Int)) (f:List Int × List (Int × Int)) (h:q77 m)
 refine @qd8 _ (let Q0:=Prod.snd f; let Q1:=Prod.fst f; let Q2:=q3n m; q77 m/\((!ql0 m)=true->True/\true=true)/\((!ql0 m)=false->List.length [Prod.fst f]<=(1000:Nat)/\(longB [Prod.fst f]=true->True/\true=true)/\(longB [Prod.fst f]=false->(decide ((100:Int)<(↑(List.length Q0):Int))=true->True/\true=true)/\(decide ((100:Int)<(↑(List.length Q0):Int))=false->wd0 m/\Sr4 m/\True/\True/\(List.length Q1<=(100000:Nat)/\List.length Q0<=(100000:Nat))/\xx0 m Q1 Q0/\((Prod.fst (qu4 m) != Prod.fst Q2)=true->false=true)/\((Prod.fst (qu4 m) != Prod.fst Q2)=false->((Prod.snd (qu4 m) != Prod.snd Q2)=true->false=true)/\((Prod.snd (qu4 m) != Prod.snd Q2)=false->((q8c m != q8c m)=true->false=true)/\((q8c m != q8c m)=false->((wh7 m != wh7 m)=true->false=true)/\((wh7 m != wh7 m)=false->List.length (wq9 m Q1 Q0)<=(1000000:Nat)/\((!decide (wq9 m Q1 Q0=q1k m Q1 Q0))=true->false=true)/\((!decide (wq9 m Q1 Q0=q1k m Q1 Q0))=false->((wf7 m Q1 Q0 != qu5 m Q1 Q0)=true->false=true)/\((wf7 m Q1 Q0 != qu5 m Q1 Q0)=false->xx9 m/\((wh7 m != (0:Int))=true->True/\true=true)/\((wh7 m != (0:Int))=false->((Prod.snd (qi5 m) != (0:Int))=true->True/\true=true)/\((Prod.snd (qi5 m) != (0:Int))=false->(decide (q8c m<=Prod.fst (qu4 m))=true->True/\true=true)/\(decide (q8c m<=Prod.fst (qu4 m))=false->false=true))))))))))))) (by kernel_rfl) ?_
 try simp only[z0,z1,z2,z3,z4,z5,z6,z7,z8,z9,z10,Int.reduceEq,z11,z12,z13,z14,z15,z16,z17,z18,z19,z20,z21,z22,z23,z24,z25,z26,z27,z28,z29,z30,Int.reduceLE,Int.reduceLT,z31,z32,z33,z34,qa4]
 try simp only[qb6,qb7,qc8,List.set_cons_zero,List.cons.injEq,and_true,true_and]
 refine⟨h,λhl=>⟨by decide,λhg h100=>?_⟩⟩
 have hp:f.1.length<=100:=by
  unfold longB at hg
  rw[List.any_eq_false] at hg
  have:=hg f.1 (by simp)
  simpa using this
 have hv:f.2.length<=100:=by omega
 have hlen:(wq9 m f.1 f.2).length<=1000000:=by
  unfold wq9
  split
  ·rename_i e
   have hvm:validB m=true:=by
    cases q:validB m with
    | true=>rfl
    | false=>unfold wf7 at e; rw[if_pos (.inl q)] at e; cases e
   have:=(Mk.of hvm).pix10
   rw[q5n]
   omega
  ·exact Nat.zero_le _
 rw[w9p hl]
 exact⟨x51 hl,sr4 h hl,⟨by omega,by omega⟩,⟨h,by omega,by omega⟩,λq=>absurd rfl q,λ_=>⟨λq=>absurd rfl q,λ_=>⟨λq=>absurd trivial q,λq=>absurd trivial q,hlen,λq=>absurd w9s q,λ_=>⟨λq=>absurd w2n q,λ_=>⟨x7j h hl,λh1 h2 h3=>absurd (xj2 hl h1 h2) (Int.not_le.2 h3)⟩⟩⟩⟩⟩
open Go.ChangeShapes Go.WideShapes Go.ChangeAt Go.RowKit Go.Deep Ls
theorem own:ownKnob Tryz.prog.godebug=none:=by kernel_rfl
theorem laidOut:laidOutB Tryz.prog=true:=by kernel_rfl
theorem x6f {H:Type} {enc:TypeId × Value->H} {W:World} {t e:TypeId} {v:Value} {d:DataW H} {p:List MemPlace} (ht:Tryz.prog.underlying t=some (.slice e)) (he:Tryz.prog.underlying e=some (.int .i64)) (ce:Tryz.prog.cellsOf e=1)
  (hv:∃a l c,v=.slice a l c) (h:DataW.Trod enc Tryz.prog W 0 (λ_=>true) true t v d p):∃a l c zs,v=.slice a l c/\SI W a l c zs:=by
 obtain⟨a,l,c,rfl⟩:=hv
 obtain⟨fuel,hf⟩:=h
 rcases open_ints ht he ce hf with⟨hcs,_⟩ | ⟨x,l',c',zs,hcs,_,hl,hm,hz,_,hcell,hwz⟩
 ·simp[Value.cells] at hcs
  obtain⟨rfl,rfl,rfl⟩:=hcs
  exact⟨_,_,_,[],rfl,SI.nil W⟩
 ·simp[Value.cells] at hcs
  obtain⟨rfl,rfl,rfl⟩:=hcs
  have hz':zs.length=c:=by simpa using hz
  refine⟨_,_,_,zs.take l,rfl,by simp; omega,hl,hm,λ_=>⟨x,rfl,λk hk=>?_⟩⟩
  rw[hcell k (by omega)]
  simp[nth,hk]
theorem x6g {H:Type} {enc:TypeId × Value->H} {W:World} {t e q:TypeId} {v:Value} {d:DataW H} {p:List MemPlace} (ht:Tryz.prog.underlying t=some (.slice e)) (he:Tryz.prog.underlying e=some (.slice q)) (hq:Tryz.prog.underlying q=some (.int .i64))
  (ce:Tryz.prog.cellsOf e=1) (cq:Tryz.prog.cellsOf q=1)
  (hv:∃a l c,v=.slice a l c) (h:DataW.Trod enc Tryz.prog W 0 (λ_=>true) true t v d p):∃a l c m,v=.slice a l c/\SM W a l c m:=by
 obtain⟨a,l,c,rfl⟩:=hv
 obtain⟨fuel,hf⟩:=h
 rcases open_int_rows ht he hq ce cq hf with⟨hcs,_⟩ | ⟨x,l',c',A,L,C,Z,hcs,_,hl,hm,_,hr⟩
 ·simp[Value.cells] at hcs
  obtain⟨rfl,rfl,rfl⟩:=hcs
  exact⟨_,_,_,[],rfl,SM.nil W⟩
 ·simp[Value.cells] at hcs
  obtain⟨rfl,rfl,rfl⟩:=hcs
  refine⟨_,_,_,(List.range l).map (λr=>(Z r).take (L r)),rfl,by simp,hl,hm,λ_=>⟨x,rfl,λk hk=>?_⟩⟩
  obtain⟨h1,h2,h3,h4,_,h6,h7⟩:=hr k (by omega)
  have e0:nthL ((List.range l).map (λr=>(Z r).take (L r))) k=(Z k).take (L k):=by simp[nthL,hk]
  have e1:((Z k).take (L k)).length=L k:=by simp; omega
  rw[e0,e1]
  refine⟨A k,C k,h1,e1,h2,h3,λhp=>?_⟩
  cases hA:A k with
  | none=>have:=h6 hA; omega
  | some a'=>
   refine⟨a',rfl,λj hj=>?_⟩
   rw[(h7 a' hA).2 j (by omega)]
   simp[nth,hj]
open Go Go.RowKit Eng Ls
theorem xx1 {w:World} {A:Option Addr} {n c:Nat} {m:List (List Int)} (s:SM w A n c m):q77 m:=by
 have hl:=s.len
 have hn:=s.nmax
 refine⟨by omega,λi hi=>?_⟩
 obtain⟨ad,_,h⟩:=s.at_ (by omega)
 obtain⟨A',c',_,h2⟩:=h i (by omega)
 have e:nL m i=nthL m i:=by
  rw[ql9 m i hi]
  unfold nthL
  rw[List.getD_eq_getElem?_getD,List.getElem?_eq_getElem hi]
  rfl
 rw[e]
 exact h2.nmax
open Go Go.ChangeShapes Go.WideShapes Go.ChangeAt Go.RowKit Go.Deep Go.Joins Eng Ls
theorem x6h {H:Type} {enc:TypeId × Value->H} {W:World} {t e:TypeId} {f0 f1:Field} {fuel:Nat} {cs:List Value} {x:DataW H × List MemPlace} (ht:Tryz.prog.underlying t=some (.slice e)) (he:Tryz.prog.underlying e=some (.struct #[f0,f1]))
  (ce:Tryz.prog.cellsOf e=2) (o0:f0.offset=0) (o1:f1.offset=1) (c0:Tryz.prog.cellsOf f0.type=1) (c1:Tryz.prog.cellsOf f1.type=1) (i0:Tryz.prog.underlying f0.type=some (.int .i64)) (i1:Tryz.prog.underlying f1.type=some (.int .i64))
  (h:DataW.trod enc Tryz.prog W 0 (λ_=>true) true fuel t cs=some x):∃A n c q,cs=[.slice A n c]/\List.length q=n/\Rd (λb=>W.heap[b]?) (.list (.prod (.int .i64) (.int .i64))) q [.slice A n c]:=by
 rcases open_slice_pairs ht he ce o0 o1 c0 c1 h with⟨hcs,_⟩ | ⟨a,len,cap,m,n,V0,V1,D0,D1,P0,P1,hcs,_,hl,hm,hmm,_,hr⟩
 ·exact⟨none,0,0,[],hcs,rfl,none,0,rfl,Nat.le_refl _,Nat.zero_le _,λh=>absurd h (Nat.lt_irrefl _)⟩
 ·have hlm:len<=m:=by rw[hmm]; split <;> omega
  have hx:∀i,∃p:Int × Int,i<len->V0 i=.int .i64 p.1/\V1 i=.int .i64 p.2:=λi=>by
   by_cases hi:i<len
   ·obtain⟨_,_,k3,k4⟩:=hr i (by omega)
    obtain⟨u,e0,_,_⟩:=DataW.trod_int i0 k3
    obtain⟨v,e1,_,_⟩:=DataW.trod_int i1 k4
    simp only[List.cons.injEq,and_true] at e0 e1
    exact⟨(u,v),λ_=>⟨e0,e1⟩⟩
   ·exact⟨(0,0),λq=>absurd q hi⟩
  obtain⟨p,hp⟩:=Classical.axiomOfChoice hx
  have hlen:((List.range len).map p).length=len:=by simp
  refine⟨some a,len,cap,(List.range len).map p,hcs,hlen,some a,cap,by rw[hlen],by rw[hlen]; exact hl,hm,λ_=>⟨a,rfl,λi hi=>?_⟩⟩
  rw[hlen] at hi
  have e:qa1 (.prod (.int .i64) (.int .i64)) ((List.range len).map p) i=p i:=by
   rw[qn0 _ i (by rw[hlen]; exact hi)]; simp
  obtain⟨k1,k2,_,_⟩:=hr i (by omega)
  obtain⟨q1,q2⟩:=hp i hi
  rw[e]
  refine⟨[.int .i64 (p i).1,.int .i64 (p i).2],⟨[.int .i64 (p i).1],[.int .i64 (p i).2],rfl,rfl,rfl⟩,λj v hj=>?_⟩
  match j with
  | 0=>
   simp only[List.getElem?_cons_zero,Option.some.injEq] at hj
   subst hj
   rw[q1] at k1
   exact k1
  | 1=>
   simp only[List.getElem?_cons_succ,List.getElem?_cons_zero,Option.some.injEq] at hj
   subst hj
   rw[q2] at k2
   exact k2
  | j+2=>simp at hj
set_option maxRecDepth 100000 in
theorem x6i {H:Type} {enc:TypeId × Value->H} {W:World} {base:Nat} {t e1 e2:TypeId} {f0 f1 g0 g1:Field} {v:Value} {d:DataW H} {p:List MemPlace} (hs:Tryz.prog.underlying t=some (.struct #[f0,f1])) (hone:oneCellFields Tryz.prog #[f0,f1]=true) (hC:Tryz.prog.cellsOf t=2)
  (h0:Tryz.prog.underlying f0.type=some (.slice e1)) (he1:Tryz.prog.underlying e1=some (.int .i64)) (ce1:Tryz.prog.cellsOf e1=1)
  (h1:Tryz.prog.underlying f1.type=some (.slice e2)) (he2:Tryz.prog.underlying e2=some (.struct #[g0,g1])) (ce2:Tryz.prog.cellsOf e2=2) (o0:g0.offset=0) (o1:g1.offset=1) (c0:Tryz.prog.cellsOf g0.type=1) (c1:Tryz.prog.cellsOf g1.type=1) (i0:Tryz.prog.underlying g0.type=some (.int .i64)) (i1:Tryz.prog.underlying g1.type=some (.int .i64))
  (hv:Value.okWide Tryz.prog W .any base t v) (h:DataW.Trod enc Tryz.prog W 0 (λ_=>true) true t v d p) :
  ∃A n c l B k b q,v=.agg #[.slice A n c,.slice B k b]/\SI W A n c l/\List.length q=k/\Rd (λb=>W.heap[b]?) (.list (.prod (.int .i64) (.int .i64))) q [.slice B k b]:=by
 obtain⟨v0,v1,y0,y1,m,rfl,rfl,rfl,k0,k1⟩:=open_agg2 hs hone hC hv h
 have hsl:∃x n c,v0=.slice x n c:=by
  rcases DataW.trod_slice h0 k0 with⟨q,_⟩ | ⟨x,n,c,_,_,_,_,q,_⟩
  ·simp only[List.cons.injEq,and_true] at q; exact⟨_,_,_,q⟩
  ·simp only[List.cons.injEq,and_true] at q; exact⟨_,_,_,q⟩
 have hT:DataW.Trod enc Tryz.prog W 0 (λ_=>true) true f0.type v0 y0.1 y0.2:=by
  obtain⟨x,n,c,rfl⟩:=hsl
  exact⟨m,by simpa[Value.cells] using k0⟩
 obtain⟨x,n,c,zs,rfl,hSI⟩:=x6f h0 he1 ce1 hsl hT
 obtain⟨B,k,b,q,hq,hl,hR⟩:=x6h h1 he2 ce2 o0 o1 c0 c1 i0 i1 k1
 simp only[List.cons.injEq,and_true] at hq
 subst hq
 exact⟨_,_,_,_,_,_,_,_,rfl,hSI,hl,hR⟩
theorem xx2 {w:World} {A B:Option Addr} {c b:Nat} {l:List Int} {q:List (Int × Int)} (h:SI w A l.length c l) (h2:Rd (λb=>w.heap[b]?) (.list (.prod (.int .i64) (.int .i64))) q [.slice B q.length b]):RdV (λb=>w.heap[b]?) q5c (l,q) (.agg #[.slice A l.length c,.slice B q.length b]):=
 ⟨[.slice A l.length c,.slice B q.length b],rfl,[.slice A l.length c],[.slice B q.length b],rfl,xl0 h,h2⟩
end Go.Proofs.YtdibdlelmkcccaaGreat
