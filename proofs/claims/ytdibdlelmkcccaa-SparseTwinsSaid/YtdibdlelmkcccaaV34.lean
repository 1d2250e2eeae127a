/- The laws SparseLeast and SparseWhole: contracts by the engine. No condition. -/
import Derived.Test.YtdibdlelmkcccaaV32
import Derived.Test.YtdibdlelmkcccaaW11
set_option linter.unusedVariables false
set_option linter.unusedSimpArgs false
namespace Go.Proofs.Ytdibdlelmkcccaa
open Go Go.RowKit Eng
theorem w6l:Mk q87:=Mk.of (by decide +kernel)
theorem w6m {n:Nat} {s:List Int} {k:Nat} (h:s∈qe3 (n:Nat) (k:Nat)):Named n s:=by
 unfold qe3 at h
 split at h
 ·have hi:=wb0 h
  refine⟨λj hj=>?_,λi j hij hj=>?_⟩
  ·have hj:j<(k:Int).toNat:=by rw[<- hi.len]; exact hj
   have h1:=hi.lo j hj
   have h2:=hi.hi j hj
   omega
  ·have hk:=hi.len
   induction j with
   | zero=>omega
   | succ j ih=>
    have h1:=hi.asc (j+1) (by omega) (by omega)
    rw[Nat.add_sub_cancel] at h1
    rcases Nat.lt_succ_iff_lt_or_eq.1 hij with q | q
    ·have:=ih q (by omega); omega
    ·rw[q]; exact h1
 ·cases h
theorem q9d {m:List (List Int)} {pix:List Int} (hM:Mk m) (hn:Named (nL m 0).length pix):Small m.length pix.length pix.length (qu6 m pix):=by
 have h6:=hM.rows6
 have hp10:=hM.pix10
 have hpl:=hn.len
 have hat:∀i,i<m.length->nL (qu6 m pix) i=qq1 (nL m i) pix:=λi hi=>by
  unfold qu6
  rw[q8q _ _ _ i hi,List.append_nil]
 have hlo:∀i,i<m.length->∀c,c<pix.length->(nI (nL (qu6 m pix) i) c).natAbs<=1:=λi hi c hc=>by
  rw[hat i hi,qr5 _ _ _ hc]
  have h1:=hn.at_ c hc
  have h2:=hM.small i hi (nI pix c).toNat (by omega)
  omega
 exact⟨⟨qo1 _ _ _,λi hi=>by rw[hat i hi,ql7]⟩,h6,Nat.le_refl _,by omega,λa c ha hc=>hlo a ha c hc,λa c ha hc=>by have:=hlo a ha c hc; omega⟩
theorem xu0 {m:List (List Int)} (hM:Mk m):wj9 m:=by
 have:=q3r (q9d hM (Named.idx _))
 rw[ql1] at this
 exact⟨this⟩
def x06 (r:List (List Int)) (piv:List Int) (n:Nat):Bool:=
 ((List.range piv.length).all λk=>decide (nI (nL r k) (nI piv k).toNat≠0) && (List.range n).all λi=>decide (qf3 BIG (nI (nL r k) i)))
 && (List.range n).all λf=>(piv.any λe=>(f:Int)==e) || (((List.range (piv.length+1)).all λk=>decide (qf3 BIG (qf7 r piv f k)/\qf7 r piv f k≠0))
 && (List.range piv.length).all λk=>decide (qf3 BIG ((0-nI (nL r k) f)*qf7 r piv f piv.length)))
theorem xj1 {r:List (List Int)} {piv:List Int} {n:Nat} (h:x06 r piv n=true):w5k r piv n:=by
 unfold x06 at h
 simp only[Bool.and_eq_true,Bool.or_eq_true,List.all_eq_true,List.mem_range,decide_eq_true_eq] at h
 obtain⟨h1,h2⟩:=h
 refine⟨λk hk=>(h1 k hk).1,λk hk=>(h1 k hk).2,λf hf hp k hk=>?_,λf hf hp k hk=>?_⟩
 ·rcases h2 f hf with q | q
  ·rw[hp] at q; cases q
  ·exact q.1 k (by omega)
 ·rcases h2 f hf with q | q
  ·rw[hp] at q; cases q
  ·exact q.2 k hk
theorem xj2:((List.range 3).all λk=>(qe3 (3:Nat) (k+1:Nat)).all λs=>x06 (qb3 q87 s).1 (qb3 q87 s).2 s.length)=true:=by decide +kernel
theorem xj3:q45 q87:=by
 refine⟨λ_=>⟨xu0 w6l,λk hk s hs=>?_⟩,?_⟩
 ·have hn:(nL q87 0).length=3:=rfl
  rw[hn] at hk hs
  have h1:=w6m hs
  have h2:=List.all_eq_true.1 (List.all_eq_true.1 xj2 k (List.mem_range.2 hk)) s hs
  exact⟨ChoOk.of w6l h1 λ_ _=>⟨trivial,Nat.zero_le _⟩,q3r (q9d w6l h1),xj1 h2⟩
 ·decide +kernel
theorem xj4:qk7 q87=true:=by decide +kernel
theorem xj5:q6o q87:=by
 have h:∀i,i<q87.length->(nL q87 i).length<=9223372036854775807:=by decide
 exact⟨by decide,h⟩
theorem wz9:wk8 q87 [1,1]=(([1],[(1,1)]),0):=by decide +kernel
abbrev xj6:qc9:=qh6 true none [] [.bool] (λ_=>True) (λ_=>(true,()))
theorem wl5:qe1 Try.prog 10 xj6:=by
 refine meets (snd (SpecsOk.cons w54 (SpecsOk.cons w56 (SpecsOk.cons q84 (SpecsOk.cons wp6 (SpecsOk.nil _)))))) Try.func10 rfl rfl (λ_ _=>none) (λ_=>by kernel_rfl) (by decide) ?_
 rintro⟨⟩ -
 refine qe6 (B:=True/\q7b q87 [(1:Int),(1:Int)]/\True/\q45 q87/\(((0:Int)==(0:Int))=true->w5v (Prod.fst (Prod.fst (wk8 q87 [(1:Int),(1:Int)])),Prod.snd (Prod.fst (wk8 q87 [(1:Int),(1:Int)])))/\(wp5 (Prod.fst (Prod.fst (wk8 q87 [(1:Int),(1:Int)])),Prod.snd (Prod.fst (wk8 q87 [(1:Int),(1:Int)]))) ([(1:Int)],[((1:Int),(1:Int))])=true->(((0:Int)==(0:Int))=true->((1:Int)==(1:Int))=true)/\(((0:Int)==(0:Int))=false->false=true))/\(wp5 (Prod.fst (Prod.fst (wk8 q87 [(1:Int),(1:Int)])),Prod.snd (Prod.fst (wk8 q87 [(1:Int),(1:Int)]))) ([(1:Int)],[((1:Int),(1:Int))])=false->false=true))/\(((0:Int)==(0:Int))=false->false=true)) (by kernel_rfl) ?_
 try simp only[z0,z1,z2,z3,z4,z5,z6,z7,z8,z9,z10,Int.reduceEq,z11,z12,z13,z14,z15,z16,z17,z18,z19,z20,z21,z22,z23,z24,z25,z26,z27,z28,z29,z30,Int.reduceLE,Int.reduceLT,z31,z32,z33,z34,qa4]
 try simp only[qb8,qb9,qd2,List.set_cons_zero,List.cons.injEq,and_true,true_and]
 refine⟨xt9 xj5 xj4,xj3,⟨?_,λ_ h=>absurd trivial h,λh=>?_⟩,λh=>absurd trivial h⟩
 ·rw[wz9]; exact⟨by decide,by decide⟩
 ·rw[wz9] at h; cases h
end Go.Proofs.Ytdibdlelmkcccaa
set_option linter.unusedVariables false
set_option linter.unusedSimpArgs false
namespace Go.Proofs.Ytdibdlelmkcccaa
open Go Go.RowKit Eng
end Go.Proofs.Ytdibdlelmkcccaa
