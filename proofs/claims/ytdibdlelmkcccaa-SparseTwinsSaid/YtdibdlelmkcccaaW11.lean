/- The program's test of a fit is the reference's: its fractions are small. Plain mathematics. No condition. -/
import Derived.Test.YtdibdlelmkcccaaW7
import Derived.Test.YtdibdlelmkcccaaW10
set_option linter.unusedVariables false
namespace Go.Proofs.Ytdibdlelmkcccaa
open Go Go.RowKit Eng
theorem q1y (l:List Int) {p:Nat} (hp:p<l.length) (x:Int) (q:Nat):nI (l.set p x) q=if q=p then x else nI l q:=by
 by_cases e:q=p
 ·subst e
  rw[if_pos rfl,qh9 _ _ (by rw[List.length_set]; exact hp),List.getElem_set_self]
 ·rw[if_neg e]
  unfold nI qa3
  rw[List.getD_eq_getElem?_getD,List.getD_eq_getElem?_getD,List.getElem?_set_ne (Ne.symm e)]
end Go.Proofs.Ytdibdlelmkcccaa
set_option linter.unusedVariables false
namespace Go.Proofs.Ytdibdlelmkcccaa
open Go Go.RowKit Eng
theorem q5q:∀(N:Nat) {n:Nat} {f:Nat->Int} {τ:Nat->Nat},(∀q,q<N->τ q<n)->(∀q k,q<N->k<N->τ q=τ k->q=k)->(∀b,b<n->(∀q,q<N->τ q≠b)->f b=0)->sm n f=sm N λq=>f (τ q)
 | 0,n,f,τ,_,_,h=>qs7 λb hb=>h b hb λq hq=>absurd hq (Nat.not_lt_zero _)
 | N+1,n,f,τ,h1,h2,h3=>by
  have e:sm n f=sm n (λb=>if b=τ N then 0 else f b)+sm n (λb=>if b=τ N then f b else 0):=by
   rw[<- wy9]
   refine qg3 λb _=>?_
   by_cases q:b=τ N
   ·rw[if_pos q,if_pos q]; omega
   ·rw[if_neg q,if_neg q]; omega
  have ih:=q5q N (n:=n) (f:=λb=>if b=τ N then 0 else f b) (τ:=τ) (λq hq=>h1 q (by omega)) (λq k hq hk=>h2 q k (by omega) (by omega)) λb hb hq=>by
   try dsimp only
   by_cases q:b=τ N
   ·rw[if_pos q]
   ·rw[if_neg q]
    refine h3 b hb λk hk=>?_
    rcases Nat.lt_succ_iff_lt_or_eq.1 hk with q2 | q2
    ·exact hq k q2
    ·rw[q2]; exact Ne.symm q
  rw[e,ih,qs2 (k:=τ N) (h1 N (by omega)) λb _ hne=>if_neg hne,if_pos rfl,sm]
  congr 1
  refine qg3 λq hq=>?_
  try dsimp only
  rw[if_neg λk=>by have:=h2 q N (by omega) (by omega) k; omega]
end Go.Proofs.Ytdibdlelmkcccaa
