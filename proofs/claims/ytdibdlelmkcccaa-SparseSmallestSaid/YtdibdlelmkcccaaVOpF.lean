/- What a fit given by value reads as. No condition. -/
import Derived.Test.YtdibdlelmkcccaaOpen
import Derived.Test.YtdibdlelmkcccaaV0
import Derived.Lib.SmallJoins
import Derived.Deep.SlicePairs
set_option linter.unusedVariables false
namespace Go.Proofs.Ytdibdlelmkcccaa
open Go Go.ChangeShapes Go.WideShapes Go.ChangeAt Go.RowKit Go.Deep Go.Joins Eng Ls
theorem x3o {H:Type} {enc:TypeId × Value->H} {W:World} {t e:TypeId} {f0 f1:Field} {fuel:Nat} {cs:List Value} {x:DataW H × List MemPlace} (ht:Try.prog.underlying t=some (.slice e)) (he:Try.prog.underlying e=some (.struct #[f0,f1]))
  (ce:Try.prog.cellsOf e=2) (o0:f0.offset=0) (o1:f1.offset=1) (c0:Try.prog.cellsOf f0.type=1) (c1:Try.prog.cellsOf f1.type=1) (i0:Try.prog.underlying f0.type=some (.int .i64)) (i1:Try.prog.underlying f1.type=some (.int .i64))
  (h:DataW.trod enc Try.prog W 0 (λ_=>true) true fuel t cs=some x):∃A n c q,cs=[.slice A n c]/\List.length q=n/\Rd (λb=>W.heap[b]?) (.list (.prod (.int .i64) (.int .i64))) q [.slice A n c]:=by
 rcases open_slice_pairs ht he ce o0 o1 c0 c1 h with⟨hcs,_⟩ | ⟨a,len,cap,m,n,V0,V1,D0,D1,P0,P1,hcs,_,hl,hm,hmm,_,hr⟩
 ·exact⟨none,0,0,[],hcs,rfl,none,0,rfl,Nat.le_refl _,Nat.zero_le _,λh=>absurd h (Nat.lt_irrefl _)⟩
 ·have hlm:len<=m:=by rw[hmm]; split <;> omega
  have hx:∀i,∃p:Int × Int,i<len->V0 i=.int .i64 p.1/\V1 i=.int .i64 p.2:=λi=>by
   by_cases hi:i<len
   ·obtain⟨_,_,k3,k4⟩:=hr i (by omega)
    obtain⟨u,e0,_,_⟩:=DataW.trod_int i0 k3
    obtain⟨v,e1,_,_⟩:=DataW.trod_int i1 k4
    simp only[List.cons.injEq,and_true] at e0 e1
    exact⟨(u,v),λ_=>⟨e0,e1⟩⟩
   ·exact⟨(0,0),λq=>absurd q hi⟩
  obtain⟨p,hp⟩:=Classical.axiomOfChoice hx
  have hlen:((List.range len).map p).length=len:=by simp
  refine⟨some a,len,cap,(List.range len).map p,hcs,hlen,some a,cap,by rw[hlen],by rw[hlen]; exact hl,hm,λ_=>⟨a,rfl,λi hi=>?_⟩⟩
  rw[hlen] at hi
  have e:qa1 (.prod (.int .i64) (.int .i64)) ((List.range len).map p) i=p i:=by
   rw[ql1 _ i (by rw[hlen]; exact hi)]; simp
  obtain⟨k1,k2,_,_⟩:=hr i (by omega)
  obtain⟨q1,q2⟩:=hp i hi
  rw[e]
  refine⟨[.int .i64 (p i).1,.int .i64 (p i).2],⟨[.int .i64 (p i).1],[.int .i64 (p i).2],rfl,rfl,rfl⟩,λj v hj=>?_⟩
  match j with
  | 0=>
   simp only[List.getElem?_cons_zero,Option.some.injEq] at hj
   subst hj
   rw[q1] at k1
   exact k1
  | 1=>
   simp only[List.getElem?_cons_succ,List.getElem?_cons_zero,Option.some.injEq] at hj
   subst hj
   rw[q2] at k2
   exact k2
  | j+2=>simp at hj
set_option maxRecDepth 100000 in
theorem x3p {H:Type} {enc:TypeId × Value->H} {W:World} {base:Nat} {t e1 e2:TypeId} {f0 f1 g0 g1:Field} {v:Value} {d:DataW H} {p:List MemPlace} (hs:Try.prog.underlying t=some (.struct #[f0,f1])) (hone:oneCellFields Try.prog #[f0,f1]=true) (hC:Try.prog.cellsOf t=2)
  (h0:Try.prog.underlying f0.type=some (.slice e1)) (he1:Try.prog.underlying e1=some (.int .i64)) (ce1:Try.prog.cellsOf e1=1)
  (h1:Try.prog.underlying f1.type=some (.slice e2)) (he2:Try.prog.underlying e2=some (.struct #[g0,g1])) (ce2:Try.prog.cellsOf e2=2) (o0:g0.offset=0) (o1:g1.offset=1) (c0:Try.prog.cellsOf g0.type=1) (c1:Try.prog.cellsOf g1.type=1) (i0:Try.prog.underlying g0.type=some (.int .i64)) (i1:Try.prog.underlying g1.type=some (.int .i64))
  (hv:Value.okWide Try.prog W .any base t v) (h:DataW.Trod enc Try.prog W 0 (λ_=>true) true t v d p) :
  ∃A n c l B k b q,v=.agg #[.slice A n c,.slice B k b]/\SI W A n c l/\List.length q=k/\Rd (λb=>W.heap[b]?) (.list (.prod (.int .i64) (.int .i64))) q [.slice B k b]:=by
 obtain⟨v0,v1,y0,y1,m,rfl,rfl,rfl,k0,k1⟩:=open_agg2 hs hone hC hv h
 have hsl:∃x n c,v0=.slice x n c:=by
  rcases DataW.trod_slice h0 k0 with⟨q,_⟩ | ⟨x,n,c,_,_,_,_,q,_⟩
  ·simp only[List.cons.injEq,and_true] at q; exact⟨_,_,_,q⟩
  ·simp only[List.cons.injEq,and_true] at q; exact⟨_,_,_,q⟩
 have hT:DataW.Trod enc Try.prog W 0 (λ_=>true) true f0.type v0 y0.1 y0.2:=by
  obtain⟨x,n,c,rfl⟩:=hsl
  exact⟨m,by simpa[Value.cells] using k0⟩
 obtain⟨x,n,c,zs,rfl,hSI⟩:=x0b h0 he1 ce1 hsl hT
 obtain⟨B,k,b,q,hq,hl,hR⟩:=x3o h1 he2 ce2 o0 o1 c0 c1 i0 i1 k1
 simp only[List.cons.injEq,and_true] at hq
 subst hq
 exact⟨_,_,_,_,_,_,_,_,rfl,hSI,hl,hR⟩
theorem xp9 {w:World} {A B:Option Addr} {c b:Nat} {l:List Int} {q:List (Int × Int)} (h:SI w A l.length c l) (h2:Rd (λb=>w.heap[b]?) (.list (.prod (.int .i64) (.int .i64))) q [.slice B q.length b]):RdV (λb=>w.heap[b]?) q3y (l,q) (.agg #[.slice A l.length c,.slice B q.length b]):=
 ⟨[.slice A l.length c,.slice B q.length b],rfl,[.slice A l.length c],[.slice B q.length b],rfl,w5d h,h2⟩
end Go.Proofs.Ytdibdlelmkcccaa
