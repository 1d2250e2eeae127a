/- The laws SparseLeast and SparseWhole: contracts by the engine. No condition. -/
import Derived.Test.YtdibdlelmkcccaaV32
import Derived.Test.YtdibdlelmkcccaaW11
set_option linter.unusedVariables false
set_option linter.unusedSimpArgs false
namespace Go.Proofs.Ytdibdlelmkcccaa
open Go Go.RowKit Eng
theorem w65:Mk q8j:=Mk.of (by decide +kernel)
theorem w66 {n:Nat} {s:List Int} {k:Nat} (h:s∈qe8 (n:Nat) (k:Nat)):Named n s:=by
 unfold qe8 at h
 split at h
 ·have hi:=wy3 h
  refine⟨λj hj=>?_,λi j hij hj=>?_⟩
  ·have hj:j<(k:Int).toNat:=by rw[<- hi.len]; exact hj
   have h1:=hi.lo j hj
   have h2:=hi.hi j hj
   omega
  ·have hk:=hi.len
   induction j with
   | zero=>omega
   | succ j ih=>
    have h1:=hi.asc (j+1) (by omega) (by omega)
    rw[Nat.add_sub_cancel] at h1
    rcases Nat.lt_succ_iff_lt_or_eq.1 hij with q | q
    ·have:=ih q (by omega); omega
    ·rw[q]; exact h1
 ·cases h
theorem q8q {m:List (List Int)} {pix:List Int} (hM:Mk m) (hn:Named (nL m 0).length pix):Small m.length pix.length pix.length (qx9 m pix):=by
 have h6:=hM.rows6
 have hp10:=hM.pix10
 have hpl:=hn.len
 have hat:∀i,i<m.length->nL (qx9 m pix) i=qu8 (nL m i) pix:=λi hi=>by
  unfold qx9
  rw[q77 _ _ _ i hi,List.append_nil]
 have hlo:∀i,i<m.length->∀c,c<pix.length->(nI (nL (qx9 m pix) i) c).natAbs<=1:=λi hi c hc=>by
  rw[hat i hi,q4s _ _ _ hc]
  have h1:=hn.at_ c hc
  have h2:=hM.small i hi (nI pix c).toNat (by omega)
  omega
 exact⟨⟨qm2 _ _ _,λi hi=>by rw[hat i hi,qn4]⟩,h6,Nat.le_refl _,by omega,λa c ha hc=>hlo a ha c hc,λa c ha hc=>by have:=hlo a ha c hc; omega⟩
theorem xx8 {m:List (List Int)} (hM:Mk m):wi4 m:=by
 have:=q6q (q8q hM (Named.idx _))
 rw[qr1] at this
 exact⟨this⟩
def x3c (r:List (List Int)) (piv:List Int) (n:Nat):Bool:=
 ((List.range piv.length).all λk=>decide (nI (nL r k) (nI piv k).toNat≠0) && (List.range n).all λi=>decide (qd2 BIG (nI (nL r k) i)))
 && (List.range n).all λf=>(piv.any λe=>(f:Int)==e) || (((List.range (piv.length+1)).all λk=>decide (qd2 BIG (qf4 r piv f k)/\qf4 r piv f k≠0))
 && (List.range piv.length).all λk=>decide (qd2 BIG ((0-nI (nL r k) f)*qf4 r piv f piv.length)))
theorem xm8 {r:List (List Int)} {piv:List Int} {n:Nat} (h:x3c r piv n=true):w9v r piv n:=by
 unfold x3c at h
 simp only[Bool.and_eq_true,Bool.or_eq_true,List.all_eq_true,List.mem_range,decide_eq_true_eq] at h
 obtain⟨h1,h2⟩:=h
 refine⟨λk hk=>(h1 k hk).1,λk hk=>(h1 k hk).2,λf hf hp k hk=>?_,λf hf hp k hk=>?_⟩
 ·rcases h2 f hf with q | q
  ·rw[hp] at q; cases q
  ·exact q.1 k (by omega)
 ·rcases h2 f hf with q | q
  ·rw[hp] at q; cases q
  ·exact q.2 k hk
theorem xm9:((List.range 3).all λk=>(qe8 (3:Nat) (k+1:Nat)).all λs=>x3c (qb5 q8j s).1 (qb5 q8j s).2 s.length)=true:=by decide +kernel
theorem xn0:wp5 q8j:=by
 refine⟨λ_=>⟨xx8 w65,λk hk s hs=>?_⟩,?_⟩
 ·have hn:(nL q8j 0).length=3:=rfl
  rw[hn] at hk hs
  have h1:=w66 hs
  have h2:=List.all_eq_true.1 (List.all_eq_true.1 xm9 k (List.mem_range.2 hk)) s hs
  exact⟨ChoOk.of w65 h1 λ_ _=>⟨trivial,Nat.zero_le _⟩,q6q (q8q w65 h1),xm8 h2⟩
 ·decide +kernel
theorem xn1:qy3 q8j=true:=by decide +kernel
theorem xn2:q51 q8j:=by
 have h:∀i,i<q8j.length->(nL q8j i).length<=9223372036854775807:=by decide
 exact⟨by decide,h⟩
theorem w0g:qo0 q8j [1,1]=(([1],[(1,1)]),0):=by decide +kernel
abbrev xn3:qc7:=qg3 true none [] [.bool] (λ_=>True) (λ_=>(true,()))
theorem wk8:qd8 Try.prog 10 xn3:=by
 refine meets (snd (SpecsOk.cons w6k (SpecsOk.cons wj7 (SpecsOk.cons w2r (SpecsOk.cons q6c (SpecsOk.nil _)))))) Try.func10 rfl rfl (λ_ _=>none) (λ_=>by kernel_rfl) (by decide) ?_
 rintro⟨⟩ -
 refine @qe0 _ (True/\q36 q8j [(1:Int),(1:Int)]/\True/\wp5 q8j/\(((0:Int)==(0:Int))=true->wj1 (Prod.fst (Prod.fst (qo0 q8j [(1:Int),(1:Int)])),Prod.snd (Prod.fst (qo0 q8j [(1:Int),(1:Int)])))/\(q1c (Prod.fst (Prod.fst (qo0 q8j [(1:Int),(1:Int)])),Prod.snd (Prod.fst (qo0 q8j [(1:Int),(1:Int)]))) ([(1:Int)],[((1:Int),(1:Int))])=true->(((0:Int)==(0:Int))=true->((1:Int)==(1:Int))=true)/\(((0:Int)==(0:Int))=false->false=true))/\(q1c (Prod.fst (Prod.fst (qo0 q8j [(1:Int),(1:Int)])),Prod.snd (Prod.fst (qo0 q8j [(1:Int),(1:Int)]))) ([(1:Int)],[((1:Int),(1:Int))])=false->false=true))/\(((0:Int)==(0:Int))=false->false=true)) (by kernel_rfl) ?_
 try simp only[z0,z1,z2,z3,z4,z5,z6,z7,z8,z9,z10,Int.reduceEq,z11,z12,z13,z14,z15,z16,z17,z18,z19,z20,z21,z22,z23,z24,z25,z26,z27,z28,z29,z30,Int.reduceLE,Int.reduceLT,z31,z32,z33,z34,qa3]
 try simp only[qb3,qb4,qc8,List.set_cons_zero,List.cons.injEq,and_true,true_and]
 refine⟨xf4 xn2 xn1,xn0,⟨?_,λ_ h=>absurd trivial h,λh=>?_⟩,λh=>absurd trivial h⟩
 ·rw[w0g]; exact⟨by decide,by decide⟩
 ·rw[w0g] at h; cases h
end Go.Proofs.Ytdibdlelmkcccaa
set_option linter.unusedVariables false
set_option linter.unusedSimpArgs false
namespace Go.Proofs.Ytdibdlelmkcccaa
open Go Go.RowKit Eng
end Go.Proofs.Ytdibdlelmkcccaa
