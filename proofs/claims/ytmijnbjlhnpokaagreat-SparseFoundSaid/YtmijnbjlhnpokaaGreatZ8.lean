/- Rest and Next: contracts by the engine. No condition. -/
import Derived.Test.YtmijnbjlhnpokaaGreatW23
import Derived.Test.YtmijnbjlhnpokaaGreatW11
import Derived.Test.YtmijnbjlhnpokaaGreatV5
import Derived.Test.YtmijnbjlhnpokaaGreatV26
set_option linter.unusedVariables false
namespace Go.Proofs.YtmijnbjlhnpokaaGreat
open Go Go.RowKit Eng
theorem wi9 (m:List (List Int)) (y l:List Int) (r:List (List Int)) (T:Int) (i:Nat):∀K,rsE m y l r T K i=nI y i*T-sm K λk=>nI (colL m (nI l k).toNat) i*((T.tdiv (q0g r l.length k))*q8v r l.length k)
 | 0=>by rw[rsE,sm]; omega
 | K+1=>by rw[rsE,wi9 m y l r T i K,sm]; omega
theorem yf6 {m:List (List Int)} {y l:List Int} (h:x1j m y l):∃z:Nat->Int,z l.length≠0/\Sol l.length (l.length+1) (rowOf (qc0 m y l)) z/\∀i,i<m.length->z l.length*rsE m y l (qa4 (qc0 m y l) l.length).1 (qh3 (qa4 (qc0 m y l) l.length).1 l.length l.length) l.length i=qh3 (qa4 (qc0 m y l) l.length).1 l.length l.length*sm (l.length+1) λc=>bN m y l i c*z c:=by
 obtain⟨z,z1,z2,z3⟩:=h.sol
 refine⟨z,z2,z1,λi hi=>?_⟩
 obtain⟨T,hT⟩:∃T,T=qh3 (qa4 (qc0 m y l) l.length).1 l.length l.length:=⟨_,rfl⟩
 rw[<- hT,wi9,sm]
 have e1:(sm l.length λc=>bN m y l i c*z c)=sm l.length λc=>aN m l i c*z c:=qa7 λc hc=>by unfold bN; rw[if_pos hc]
 have e2:bN m y l i l.length=nI y i:=by unfold bN; rw[if_neg (Nat.lt_irrefl _)]
 rw[e1,e2]
 have e3:z l.length*(sm l.length λk=>nI (colL m (nI l k).toNat) i*((T.tdiv (q0g (qa4 (qc0 m y l) l.length).1 l.length k))*q8v (qa4 (qc0 m y l) l.length).1 l.length k))=- (T*sm l.length λc=>aN m l i c*z c):=by
  have e4:- (T*sm l.length λc=>aN m l i c*z c)=(-T)*sm l.length λc=>aN m l i c*z c:=by rw[Int.neg_mul]
  rw[e4,<- qf7,<- qf7]
  refine qa7 λk hk=>?_
  rw[qu1 _ _ _ hi]
  have hz:=z3 k hk
  obtain⟨_,d2,d3⟩:=h.den k hk
  rw[<- hT] at d3
  have hm:T.tdiv (q0g (qa4 (qc0 m y l) l.length).1 l.length k)*q0g (qa4 (qc0 m y l) l.length).1 l.length k=T:=Int.tdiv_mul_cancel d3
  unfold aN
  generalize T.tdiv (q0g (qa4 (qc0 m y l) l.length).1 l.length k)=t at hm ⊢
  generalize q0g (qa4 (qc0 m y l) l.length).1 l.length k=A at hm hz
  generalize q8v (qa4 (qc0 m y l) l.length).1 l.length k=C at hz ⊢
  generalize z k=zk at hz ⊢
  generalize z l.length=zn at hz ⊢
  generalize nI (nL m i) (nI l k).toNat=a
  rw[<- hm]
  have:C*zn=- (A*zk):=by omega
  calc zn*(a*(t*C))=a*t*(C*zn):=by grind
   _=a*t*(- (A*zk)):=by rw[this]
   _=-(t*A)*(a*zk):=by grind
 rw[Int.mul_sub,e3,Int.mul_add]
 grind
theorem x0d {m:List (List Int)} {y l:List Int} (h:x1j m y l) {x:Nat} (hx:x<l.length):(sm m.length λi=>aN m l i x*rsE m y l (qa4 (qc0 m y l) l.length).1 (qh3 (qa4 (qc0 m y l) l.length).1 l.length l.length) l.length i)=0:=by
 obtain⟨z,z1,z2,z3⟩:=yf6 h
 refine qc7 (a:=z l.length) ?_ z1
 rw[<- qf7]
 have e1:(sm m.length λi=>z l.length*(aN m l i x*rsE m y l (qa4 (qc0 m y l) l.length).1 (qh3 (qa4 (qc0 m y l) l.length).1 l.length l.length) l.length i))=sm m.length λi=>qh3 (qa4 (qc0 m y l) l.length).1 l.length l.length*sm (l.length+1) λc=>aN m l i x*bN m y l i c*z c:=qa7 λi hi=>by
  have:=z3 i hi
  rw[show z l.length*(aN m l i x*rsE m y l (qa4 (qc0 m y l) l.length).1 (qh3 (qa4 (qc0 m y l) l.length).1 l.length l.length) l.length i)=aN m l i x*(z l.length*rsE m y l (qa4 (qc0 m y l) l.length).1 (qh3 (qa4 (qc0 m y l) l.length).1 l.length l.length) l.length i) by grind,this]
  have e2:(sm (l.length+1) λc=>aN m l i x*bN m y l i c*z c)=aN m l i x*sm (l.length+1) λc=>bN m y l i c*z c:=by
   rw[<- qf7]; exact qa7 λc _=>Int.mul_assoc _ _ _
  rw[e2]; grind
 rw[e1,qf7,qv7]
 have e3:(sm (l.length+1) λc=>sm m.length λi=>aN m l i x*bN m y l i c*z c)=sm (l.length+1) λc=>rowOf (qc0 m y l) x c*z c:=qa7 λc hc=>by
  rw[qy0 m y l hx hc,Int.mul_comm,<- qf7]
  exact qa7 λi _=>Int.mul_comm _ _
 rw[e3,z2 x hx,Int.mul_zero]
structure AskC (m:List (List Int)) (y C:List Int):Prop where
 msk:Mk m
 val:validB m=true
 ylen:y.length=m.length
 ybd:∀i,i<m.length->(nI y i).natAbs<=1000000
 inw:InW (nL m 0).length C
theorem AskC.gr {m:List (List Int)} {y C:List Int} (h:AskC m y C):GrOk m y (qe8 m C):=by
 obtain⟨h1,h2,h3,_⟩:=w9w h.msk h.inw
 have:=h.msk.rows6
 exact⟨h.msk,h.ylen,h.ybd,h1,h2,by omega⟩
theorem AskC.rs {m:List (List Int)} {y C:List Int} (h:AskC m y C):x1j m y (qe8 m C):=h.gr.rs
theorem wj0 (m:List (List Int)) (y C:List Int) {i:Nat} (hi:i<y.length):nI (qg9 m y C) i=rsE m y (qe8 m C) (gP m y C) (qk9 m y C) (qe8 m C).length i:=by
 rw[qg1 _ _ (by rw[q1j]; exact hi)]; simp[qg9,rsL]
theorem AskC.orth {m:List (List Int)} {y C:List Int} (h:AskC m y C) {j:Nat} (hj:j<C.length):(sm m.length λi=>nI (nL m i) (nI C j).toNat*nI (qg9 m y C) i)=0:=by
 have hCl:=h.inw.len
 have hrs:=h.rs
 obtain⟨r,hr⟩:∃r:Nat->Int,∀i,r i=nI (qg9 m y C) i:=⟨_,λ_=>rfl⟩
 have ho:∀x,x<(qe8 m C).length->(sm m.length λi=>aN m (qe8 m C) i x*r i)=0:=λx hx=>by
  rw[<- x0d hrs hx]
  exact qa7 λi hi=>by rw[hr,wj0 m y C (by rw[h.ylen]; exact hi)]; rfl
 have e0:(sm m.length λi=>nI (nL m i) (nI C j).toNat*nI (qg9 m y C) i)=sm m.length λi=>nI (nL m i) (nI C j).toNat*r i:=qa7 λi _=>by rw[hr]
 rw[e0]
 have hO:=wr6 h.msk h.inw (by omega)
 have hst:=hO.stP
 have el:qe8 m C=(qa4 (qg3 m C) C.length).2.map λk=>nI C k.toNat:=by unfold qe8 qh1; rw[qv5]
 have hq:∀q,q<(qa4 (qg3 m C) C.length).2.length->(sm m.length λi=>rowOf (qg3 m C) i (nI (qa4 (qg3 m C) C.length).2 q).toNat*r i)=0:=λq hq=>by
  have hp:=hst.pos q hq
  rw[<- ho q (by rw[el,List.length_map]; exact hq)]
  refine qa7 λi hi=>?_
  unfold aN
  rw[q20 m C hi (by omega),el,q71 (f:=λk=>nI C k.toNat) hq]
 by_cases hp:isP (qa4 (qg3 m C) C.length).2 j
 ·obtain⟨q,h1,h2⟩:=hp
  have:=hq q h1
  rw[h2,Int.toNat_natCast] at this
  rw[<- this]
  exact qa7 λi hi=>by rw[q20 m C hi hj]
 ·have hnp:=q79.1 hp
  obtain⟨z,z1,z2,z3⟩:=hst.free (Nat.le_refl _) hj hnp λi h1 h2=>hst.zero i h1 h2 j hj
  refine qc7 (a:=z j) ?_ z2
  rw[<- qf7]
  have e1:∀i,i<m.length->nI (nL m i) (nI C j).toNat*z j=- sm (qa4 (qg3 m C) C.length).2.length λq=>rowOf (qg3 m C) i (nI (qa4 (qg3 m C) C.length).2 q).toNat*z (nI (qa4 (qg3 m C) C.length).2 q).toNat:=λi hi=>by
   have himg:(sm C.length λc=>rowOf (qg3 m C) i c*z c)=(sm (qa4 (qg3 m C) C.length).2.length λq=>rowOf (qg3 m C) i (nI (qa4 (qg3 m C) C.length).2 q).toNat*z (nI (qa4 (qg3 m C) C.length).2 q).toNat)+rowOf (qg3 m C) i j*z j:=by
    rw[qv4 ((qa4 (qg3 m C) C.length).2.length+1) (n:=C.length) (f:=λc=>rowOf (qg3 m C) i c*z c) (τ:=λq=>if q<(qa4 (qg3 m C) C.length).2.length then(nI (qa4 (qg3 m C) C.length).2 q).toNat else j) (λq hq=>?_) (λq k hq hk e=>?_) λb hb hq=>?_]
    ·rw[sm]
     try dsimp only
     rw[if_neg (Nat.lt_irrefl _)]
     congr 1
     exact qa7 λq hq=>by(try dsimp only); rw[if_pos hq]
    ·try dsimp only
     split
     ·rename_i h1; have:=hst.pos q h1; omega
     ·exact hj
    ·try dsimp only at e
     by_cases h1:q<(qa4 (qg3 m C) C.length).2.length
     ·have p1:=hst.pos q h1
      by_cases h2:k<(qa4 (qg3 m C) C.length).2.length
      ·have p2:=hst.pos k h2
       rw[if_pos h1,if_pos h2] at e
       exact hst.inj h1 h2 (by omega)
      ·rw[if_pos h1,if_neg h2] at e
       exact absurd (by omega) (hnp q h1)
     ·by_cases h2:k<(qa4 (qg3 m C) C.length).2.length
      ·have p2:=hst.pos k h2
       rw[if_neg h1,if_pos h2] at e
       exact absurd (by omega) (hnp k h2)
      ·omega
    ·try dsimp only
     rw[z3 b hb (λe=>hq (qa4 (qg3 m C) C.length).2.length (Nat.lt_succ_self _) (by(try dsimp only); rw[if_neg (Nat.lt_irrefl _),e])) λq h1 e=>hq q (by omega) (by(try dsimp only); rw[if_pos h1,e]; rfl),Int.mul_zero]
   rw[z1 i hi,q20 m C hi hj] at himg
   omega
  have e2:(sm m.length λi=>z j*(nI (nL m i) (nI C j).toNat*r i))=sm m.length λi=>sm (qa4 (qg3 m C) C.length).2.length λq=>(- z (nI (qa4 (qg3 m C) C.length).2 q).toNat)*(rowOf (qg3 m C) i (nI (qa4 (qg3 m C) C.length).2 q).toNat*r i):=qa7 λi hi=>by
   rw[show z j*(nI (nL m i) (nI C j).toNat*r i)=r i*(nI (nL m i) (nI C j).toNat*z j) by grind,e1 i hi,show ∀a b:Int,a * -b=(-a)*b from λa b=>by grind,<- qf7]
   exact qa7 λq _=>by grind
  rw[e2,qv7]
  refine sm_zero λq h1=>?_
  rw[qf7,hq q h1,Int.mul_zero]
theorem w90 {m:List (List Int)} {C:List Int} (hM:Mk m) (hC:InW (nL m 0).length C) (hI:Ind m C):qe8 m C=C:=by
 rcases Nat.eq_zero_or_pos C.length with q | q
 ·obtain rfl:C=[]:=List.length_eq_zero_iff.1 q
  rfl
 ·have hO:=wr6 hM hC q
  have hst:=hO.stP
  have hl:(qa4 (qg3 m C) C.length).2.length=C.length:=hst.ind_iff.2 λz hz=>hI z λi hi=>by
   rw[<- hz i hi]
   exact qa7 λc hc=>by rw[q20 m C hi hc]
  have hA:Asc C.length (qa4 (qg3 m C) C.length).2:=⟨λq hq=>⟨(hst.pos q hq).1,(hst.pos q hq).2.1⟩,hst.asc⟩
  unfold qe8 qh1
  rw[qv5]
  apply List.ext_getElem (by rw[List.length_map]; exact hl)
  intro i h1 h2
  have e:=q71 (f:=λk=>nI C k.toNat) (l:=(qa4 (qg3 m C) C.length).2) (c:=i) (by omega)
  rw[qg1 _ _ h1,hA.id hl h2,Int.toNat_natCast,qg1 _ _ h2] at e
  exact e
theorem x0e {m:List (List Int)} {C:List Int} (hM:Mk m) (hC:InW (nL m 0).length C) (hI:Ind m C):C.length<=m.length:=by
 have:=(w9w hM hC).2.2.1
 rw[w90 hM hC hI] at this
 exact this
theorem AskC.new {m:List (List Int)} {y C:List Int} (h:AskC m y C) (hI:Ind m C) {j:Nat} (hs:(sm m.length λi=>nI (nL m i) j*nI (qg9 m y C) i)≠0):Ind m (C++[(j:Int)]):=by
 intro z hz
 rw[List.length_append,List.length_singleton] at hz ⊢
 have e1:∀i,i<m.length->(sm C.length λc=>nI (nL m i) (nI C c).toNat*z c)+nI (nL m i) j*z C.length=0:=λi hi=>by
  have:=hz i hi
  rw[sm,qj7,Int.toNat_natCast] at this
  rw[<- this]
  congr 1
  exact qa7 λc hc=>by rw[qi0 _ _ hc]
 have e2:(sm m.length λi=>nI (qg9 m y C) i*((sm C.length λc=>nI (nL m i) (nI C c).toNat*z c)+nI (nL m i) j*z C.length))=0:=sm_zero λi hi=>by rw[e1 i hi,Int.mul_zero]
 have e3:(sm m.length λi=>nI (qg9 m y C) i*((sm C.length λc=>nI (nL m i) (nI C c).toNat*z c)+nI (nL m i) j*z C.length))=z C.length*sm m.length λi=>nI (nL m i) j*nI (qg9 m y C) i:=by
  have e4:(sm m.length λi=>nI (qg9 m y C) i*((sm C.length λc=>nI (nL m i) (nI C c).toNat*z c)+nI (nL m i) j*z C.length))=(sm m.length λi=>sm C.length λc=>z c*(nI (nL m i) (nI C c).toNat*nI (qg9 m y C) i))+sm m.length λi=>z C.length*(nI (nL m i) j*nI (qg9 m y C) i):=by
   rw[<- q3n]
   refine qa7 λi _=>?_
   rw[Int.mul_add,<- qf7]
   congr 1
   ·exact qa7 λc _=>by grind
   ·grind
  rw[e4,qv7,qf7,sm_zero λc hc=>by rw[qf7,h.orth hc,Int.mul_zero],Int.zero_add]
 rw[e3] at e2
 have z0:z C.length=0:=by
  rcases Int.mul_eq_zero.1 e2 with q | q
  ·exact q
  ·exact absurd q hs
 intro c hc
 rcases Nat.lt_succ_iff_lt_or_eq.1 hc with q | q
 ·refine hI z (λi hi=>?_) c q
  have:=e1 i hi
  rw[z0,Int.mul_zero,Int.add_zero] at this
  exact this
 ·rw[q]; exact z0
end Go.Proofs.YtmijnbjlhnpokaaGreat
set_option linter.unusedSimpArgs false
namespace Go.Proofs.YtmijnbjlhnpokaaGreat
open Go Go.RowKit Eng
theorem w91:Mk q95:=Mk.of (by decide +kernel)
theorem w92 {n:Nat} {s:List Int} {k:Nat} (h:s∈qe7 (n:Nat) (k:Nat)):Named n s:=by
 unfold qe7 at h
 split at h
 ·have hi:=wh6 h
  refine⟨λj hj=>?_,λi j hij hj=>?_⟩
  ·have hj:j<(k:Int).toNat:=by rw[<- hi.len]; exact hj
   have h1:=hi.lo j hj
   have h2:=hi.hi j hj
   omega
  ·have hk:=hi.len
   induction j with
   | zero=>omega
   | succ j ih=>
    have h1:=hi.asc (j+1) (by omega) (by omega)
    rw[Nat.add_sub_cancel] at h1
    rcases Nat.lt_succ_iff_lt_or_eq.1 hij with q | q
    ·have:=ih q (by omega); omega
    ·rw[q]; exact h1
 ·cases h
theorem wa4 {m:List (List Int)} {pix:List Int} (hM:Mk m) (hn:Named (nL m 0).length pix):Small m.length pix.length pix.length (qn8 m pix):=by
 have h6:=hM.rows6
 have hp10:=hM.pix10
 have hpl:=hn.len
 have hat:∀i,i<m.length->nL (qn8 m pix) i=qu4 (nL m i) pix:=λi hi=>by
  unfold qn8
  rw[q9q _ _ _ i hi,List.append_nil]
 have hlo:∀i,i<m.length->∀c,c<pix.length->(nI (nL (qn8 m pix) i) c).natAbs<=1:=λi hi c hc=>by
  rw[hat i hi,qn2 _ _ _ hc]
  have h1:=hn.at_ c hc
  have h2:=hM.small i hi (nI pix c).toNat (by omega)
  omega
 exact⟨⟨ql8 _ _ _,λi hi=>by rw[hat i hi,qj0]⟩,h6,Nat.le_refl _,by omega,λa c ha hc=>hlo a ha c hc,λa c ha hc=>by have:=hlo a ha c hc; omega⟩
theorem x4i {m:List (List Int)} (hM:Mk m):wp3 m:=by
 have:=q1i (wa4 hM (Named.idx _))
 rw[qk8] at this
 exact⟨this⟩
def x71 (r:List (List Int)) (piv:List Int) (n:Nat):Bool:=
 ((List.range piv.length).all λk=>decide (nI (nL r k) (nI piv k).toNat≠0) && (List.range n).all λi=>decide (qd6 BIG (nI (nL r k) i)))
 && (List.range n).all λf=>(piv.any λe=>(f:Int)==e) || (((List.range (piv.length+1)).all λk=>decide (qd6 BIG (qf3 r piv f k)/\qf3 r piv f k≠0))
 && (List.range piv.length).all λk=>decide (qd6 BIG ((0-nI (nL r k) f)*qf3 r piv f piv.length)))
theorem x0f {r:List (List Int)} {piv:List Int} {n:Nat} (h:x71 r piv n=true):w8s r piv n:=by
 unfold x71 at h
 simp only[Bool.and_eq_true,Bool.or_eq_true,List.all_eq_true,List.mem_range,decide_eq_true_eq] at h
 obtain⟨h1,h2⟩:=h
 refine⟨λk hk=>(h1 k hk).1,λk hk=>(h1 k hk).2,λf hf hp k hk=>?_,λf hf hp k hk=>?_⟩
 ·rcases h2 f hf with q | q
  ·rw[hp] at q; cases q
  ·exact q.1 k (by omega)
 ·rcases h2 f hf with q | q
  ·rw[hp] at q; cases q
  ·exact q.2 k hk
theorem x0g:((List.range 3).all λk=>(qe7 (3:Nat) (k+1:Nat)).all λs=>x71 (qh1 q95 s).1 (qh1 q95 s).2 s.length)=true:=by decide +kernel
theorem x0h:q8t q95:=by
 refine⟨λ_=>⟨x4i w91,λk hk s hs=>?_⟩,?_⟩
 ·have hn:(nL q95 0).length=3:=rfl
  rw[hn] at hk hs
  have h1:=w92 hs
  have h2:=List.all_eq_true.1 (List.all_eq_true.1 x0g k (List.mem_range.2 hk)) s hs
  exact⟨ChoOk.of w91 h1 λ_ _=>⟨trivial,Nat.zero_le _⟩,q1i (wa4 w91 h1),x0f h2⟩
 ·decide +kernel
theorem x0i:qp1 q95=true:=by decide +kernel
theorem x0j:q5g q95:=by
 have h:∀i,i<q95.length->(nL q95 i).length<=9223372036854775807:=by decide
 exact⟨by decide,h⟩
theorem w2t:w5o q95 [1,1]=(([1],[(1,1)]),0):=by decide +kernel
abbrev x0k:qb9:=qg2 true none [] [.bool] (λ_=>True) (λ_=>(true,()))
theorem wr9:Meets Tryz.prog 25 x0k:=by
 refine meets (snd (SpecsOk.cons w82 (SpecsOk.cons w85 (SpecsOk.cons q94 (SpecsOk.cons q7s (SpecsOk.nil _)))))) Tryz.func25 rfl rfl (λ_ _=>none) (λ_=>by kernel_rfl) (by decide) ?_
 rintro⟨⟩ -
 refine @qe1 _ (True/\q0d q95 [(1:Int),(1:Int)]/\True/\q8t q95/\(((0:Int)==(0:Int))=true->q7r ((w5o q95 [(1:Int),(1:Int)]).1.1,(w5o q95 [(1:Int),(1:Int)]).1.2)/\(q1d ((w5o q95 [(1:Int),(1:Int)]).1.1,(w5o q95 [(1:Int),(1:Int)]).1.2) ([(1:Int)],[((1:Int),(1:Int))])=true->(((0:Int)==(0:Int))=true->((1:Int)==(1:Int))=true)/\(((0:Int)==(0:Int))=false->false=true))/\(q1d ((w5o q95 [(1:Int),(1:Int)]).1.1,(w5o q95 [(1:Int),(1:Int)]).1.2) ([(1:Int)],[((1:Int),(1:Int))])=false->false=true))/\(((0:Int)==(0:Int))=false->false=true)) (by kernel_rfl) ?_
 try simp only[z0,z1,z2,z3,z4,z5,z6,z7,z8,z9,z10,Int.reduceEq,z11,z12,z13,z14,z15,z16,z17,z18,z19,z20,z21,z22,z23,z24,z25,z26,z27,z28,z29,z30,Int.reduceLE,Int.reduceLT,z31,z32,z33,z34,qa3]
 try simp only[qb5,qb6,qd0,z31,z32,z2,z1]
 refine⟨xs2 x0j x0i,x0h,⟨?_,λ_ h=>absurd trivial h,λh=>?_⟩,λh=>absurd trivial h⟩
 ·rw[w2t]; exact⟨by decide,by decide⟩
 ·rw[w2t] at h; cases h
abbrev tP:Ty:=.prod (.prod (.list (.list (.int .i64))) (.list (.int .i64))) (.list (.int .i64))
abbrev pBox (m:List (List Int)) (y C:List Int):AObj:=.box 109 (.cons (.dat (.list (.int .i64)) m) (.cons (.dat (.int .i64) y) (.cons (.dat (.int .i64) C) .nil)))
structure q2i (m:List (List Int)) (j:Int):Prop where
 rows:m.length<=1000
 at_:∀i,i<m.length->0<=j/\j<(nL m i).length
theorem w93 (m:List (List Int)) (j k:Nat) (hk:k<m.length):(colL m j).take (k+1)=(colL m j).take k++[nI (nL m k) j]:=by
 rw[q2w _ _ (by rw[colL_len]; exact hk),qu1 _ _ _ hk]
abbrev x72:qb9:=qg2 true none [tP,tInt] [tInts] (λx=>q2i x.1.1.1 x.2.1) (λx=>(colL x.1.1.1 x.2.1.toNat,()))
def x4j (m:List (List Int)) (y C:List Int) (j:Nat):Nat->Option Inv
 | 0=>some (Inv.of [5,12] 2 (λk:Nat=>[(5,.own 1),(12,.lit (.int .i64 k))]) (λk=>[pBox m y C,.vec 3 (.int .i64) ((colL m j).take k)]) (λk=>k<=m.length) (λk=>m.length-k))
 | _=>none
theorem wa5:Meets Tryz.prog 137 x72:=by
 refine meets (snd (SpecsOk.nil _)) Tryz.func137 rfl rfl (λx=>x4j x.1.1.1 x.1.1.2 x.1.2 x.2.1.toNat) (λ_=>by kernel_rfl) (by decide) ?_
 rintro⟨p,j,⟨⟩⟩ h
 revert p j
 intro(p:(List (List Int) × List Int) × List Int) (j:Int) (h:q2i p.1.1 j)
 refine @qe1 _ (let Q0:=colL p.1.1 j.toNat; ∃(v0:Unit),∃(v1:Nat),Nat.le v1 p.1.1.length/\((True/\(0:Int)=(↑v1:Int)/\True)/\(p.1.1=p.1.1/\p.1.2=p.1.2/\p.2=p.2/\True)/\List.take v1 Q0=[]/\True)/\∀(v2:Nat),Nat.le v2 p.1.1.length->(decide ((↑v2:Int)<(↑p.1.1.length:Int))=true->((0:Int)<=(↑v2:Int)/\(↑v2:Int)<(↑p.1.1.length:Int))/\((0:Int)<=j/\j<(↑(nL p.1.1 v2).length:Int))/\((0:Nat)<List.length [nI (nL p.1.1 v2) j.toNat]/\Nat.le ((List.take v2 Q0).length+List.length [nI (nL p.1.1 v2) j.toNat]) (1000000:Nat))/\fits .i64 ((↑v2:Int)+(1:Int))/\∃(v5:Nat),Nat.le v5 p.1.1.length/\p.1.1.length-v5<p.1.1.length-v2/\(True/\(↑v2:Int)+(1:Int)=(↑v5:Int)/\True)/\(p.1.1=p.1.1/\p.1.2=p.1.2/\p.2=p.2/\True)/\List.take v2 Q0++[nI (nL p.1.1 v2) j.toNat]=List.take v5 Q0/\True)/\(decide ((↑v2:Int)<(↑p.1.1.length:Int))=false->List.take v2 Q0=colL p.1.1 j.toNat)) (by kernel_rfl) ?_
 try simp only[z0,z1,z2,z3,z4,z5,z6,z7,z8,z9,z10,Int.reduceEq,z11,z12,z13,z14,z15,z16,z17,z18,z19,z20,z21,z22,z23,z24,z25,z26,z27,z28,z29,z30,Int.reduceLE,Int.reduceLT,z31,z32,z33,z34,qa3]
 try simp only[qb5,qb6,qd0,z31,z32,z2,z1]
 obtain⟨⟨m,y⟩,C⟩:=p
 dsimp only at h ⊢
 have hr:=h.rows
 refine⟨(),0,Nat.zero_le _,⟨rfl,rfl⟩,λk hk=>⟨λhlt=>⟨hlt,h.at_ k hlt,by rw[List.length_take]; omega,qa9 (by omega) (by omega),k+1,by omega,by omega,by omega,(w93 _ _ _ hlt).symm⟩,λhge=>?_⟩⟩
 rw[List.take_of_length_le (by rw[colL_len]; omega)]
structure ws0 (m:List (List Int)) (C:List Int):Prop where
 cho:ChoOk m C (λ_=>True) (λ_=>[])
 red:qz8 (qn8 m C) C.length C.length
theorem w2u (m:List (List Int)) (C:List Int):(qe8 m C).length=(qh1 m C).2.length:=by simp[qe8]
theorem w94 (m:List (List Int)) (C:List Int) (k:Nat) (hk:k<(qh1 m C).2.length):(qe8 m C).take (k+1)=(qe8 m C).take k++[nI C (nI (qh1 m C).2 k).toNat]:=by
 rw[q2w _ _ (by rw[w2u]; exact hk)]
 congr 2
 unfold qe8
 rw[qg1 _ _ (by rw[List.length_map]; exact hk),List.getElem_map,qg1 _ _ hk]
abbrev x73:qb9:=qg2 true none [tP] [tInts] (λx=>ws0 x.1.1.1 x.1.2) (λx=>(qe8 x.1.1.1 x.1.2,()))
def x4k (m:List (List Int)) (y C:List Int):Nat->Option Inv
 | 0=>some (Inv.of [4,19] 3 (λk:Nat=>[(4,.own 2),(19,.lit (.int .i64 k))]) (λk=>[pBox m y C,.mat 34 3 (.int .i64) (qh1 m C).1 .none .none,.vec 3 (.int .i64) ((qe8 m C).take k)]) (λk=>k<=(qh1 m C).2.length) (λk=>(qh1 m C).2.length-k))
 | _=>none
theorem w44:Meets Tryz.prog 135 x73:=by
 refine meets (w4o [] [] (SpecsOk.cons (q07 (fs:=[(73,xk2)]) (SpecsOk.cons q4q (SpecsOk.nil _))) (SpecsOk.nil _)) (MutsOk.cons qx0 MutsOk.nil)) Tryz.func135 rfl rfl (λx=>x4k x.1.1.1 x.1.1.2 x.1.2) (λ_=>by kernel_rfl) (by decide) ?_
 rintro⟨p,⟨⟩⟩ h
 revert p
 intro(p:(List (List Int) × List Int) × List Int) (h:ws0 p.1.1 p.2)
 refine @qe1 _ (let Q0:=qh1 p.1.1 p.2; let Q1:=qe8 p.1.1 p.2; ∃(v0:qa5 [tInt]->Prop),∃(v1:qa5 [tInt]->List Int),(∀(v2:Int × qa5._f [] PUnit.unit),v0 v2->True/\[]=v1 v2)/\ChoOk p.1.1 p.2 v0 v1/\((0:Ty.den tInt)<=(↑p.2.length:Int)/\∃(v2:Nat),qz8 (qa8 p.1.1 p.2 λ(v3:Int)=>v1 (v3,())) (↑p.2.length:Int).toNat v2)/\∃(v2:Unit),∃(v3:Nat),Nat.le v3 Q0.2.length/\((True/\(0:Int)=(↑v3:Int)/\True)/\(p.1.1=p.1.1/\p.1.2=p.1.2/\p.2=p.2/\True)/\((qa4 (qa8 p.1.1 p.2 λ(v4:Int)=>v1 (v4,())) (↑p.2.length:Int).toNat).1=Q0.1/\True/\True)/\List.take v3 Q1=[]/\True)/\∀(v4:Nat),Nat.le v4 Q0.2.length->(decide ((↑v4:Int)<(↑(qa4 (qa8 p.1.1 p.2 λ(v7:Int)=>v1 (v7,())) (↑p.2.length:Int).toNat).2.length:Int))=true->((0:Int)<=(↑v4:Int)/\(↑v4:Int)<(↑(qa4 (qa8 p.1.1 p.2 λ(v7:Int)=>v1 (v7,())) (↑p.2.length:Int).toNat).2.length:Int))/\((0:Int)<=nI (qa4 (qa8 p.1.1 p.2 λ(v7:Int)=>v1 (v7,())) (↑p.2.length:Int).toNat).2 v4/\nI (qa4 (qa8 p.1.1 p.2 λ(v7:Int)=>v1 (v7,())) (↑p.2.length:Int).toNat).2 v4<(↑p.2.length:Int))/\((0:Nat)<List.length [nI p.2 (nI (qa4 (qa8 p.1.1 p.2 λ(v7:Int)=>v1 (v7,())) (↑p.2.length:Int).toNat).2 v4).toNat]/\Nat.le ((List.take v4 Q1).length+List.length [nI p.2 (nI (qa4 (qa8 p.1.1 p.2 λ(v7:Int)=>v1 (v7,())) (↑p.2.length:Int).toNat).2 v4).toNat]) (1000000:Nat))/\fits .i64 ((↑v4:Int)+(1:Int))/\∃(v7:Nat),Nat.le v7 Q0.2.length/\Q0.2.length-v7<Q0.2.length-v4/\(True/\(↑v4:Int)+(1:Int)=(↑v7:Int)/\True)/\(p.1.1=p.1.1/\p.1.2=p.1.2/\p.2=p.2/\True)/\(Q0.1=Q0.1/\True/\True)/\List.take v4 Q1++[nI p.2 (nI (qa4 (qa8 p.1.1 p.2 λ(v8:Int)=>v1 (v8,())) (↑p.2.length:Int).toNat).2 v4).toNat]=List.take v7 Q1/\True)/\(decide ((↑v4:Int)<(↑(qa4 (qa8 p.1.1 p.2 λ(v7:Int)=>v1 (v7,())) (↑p.2.length:Int).toNat).2.length:Int))=false->List.take v4 Q1=qe8 p.1.1 p.2)) (by kernel_rfl) ?_
 try simp only[z0,z1,z2,z3,z4,z5,z6,z7,z8,z9,z10,Int.reduceEq,z11,z12,z13,z14,z15,z16,z17,z18,z19,z20,z21,z22,z23,z24,z25,z26,z27,z28,z29,z30,Int.reduceLE,Int.reduceLT,z31,z32,z33,z34,qa3]
 try simp only[qb5,qb6,qd0,z31,z32,z2,z1]
 obtain⟨⟨m,y⟩,C⟩:=p
 dsimp only at h ⊢
 have hcr:=h.cho.rows
 have hcc:=h.cho.cols
 have hrw:=h.red.w
 refine⟨λ_=>True,λ_=>[],λ_ _=>rfl,h.cho,⟨C.length,h.red⟩,?_⟩
 have hkr:qa4 (qa8 m C λ_=>[]) C.length=qh1 m C:=rfl
 have hsh:=qs7 h.red C.length
 have hpv:=q09 (qn8 m C) C.length
 rw[hkr]
 change RedSh _ _ (qh1 m C) _ at hsh
 change ∀e∈(qh1 m C).2,_ at hpv
 have hP:∀k,k<(qh1 m C).2.length->0<=nI (qh1 m C).2 k/\nI (qh1 m C).2 k<C.length:=λk hk=>hpv _ (by rw[qg1 _ k hk]; exact List.getElem_mem hk)
 have hlen:=w2u m C
 have hpj:=hsh.pivj
 refine⟨(),0,Nat.zero_le _,⟨rfl,rfl,rfl⟩,λk hk=>⟨λhlt=>⟨hlt,hP k hlt,by rw[List.length_take]; omega,qa9 (by omega) (by omega),k+1,by omega,by omega,by omega,(w94 m C k hlt).symm⟩,λhge=>?_⟩⟩
 rw[List.take_of_length_le (by omega)]
structure qv6 (a b:List Int):Prop where
 len:a.length<=10
 le:a.length<=b.length
 sa:∀i,i<a.length->-1<=nI a i/\nI a i<=1
 sb:∀i,i<a.length->qd6 10000000000000000 (nI b i)
theorem ws1 {a b:List Int} (h:qv6 a b):∀k,k<=a.length->qd6 (10000000000000000*k) (qh0 a b k)
 | 0,_=>by unfold qd6; simp[qh0]
 | k+1,hk=>by
  have h1:=ws1 h k (by omega)
  have h2:=q31 (h.sa k (by omega)) (h.sb k (by omega))
  unfold qd6 at *
  rw[qh0]
  omega
theorem DotOk.big {a b:List Int} (h:DotOk a b):qv6 a b:=⟨h.len,h.le,h.sa,λi hi=>by have:=h.sb i hi; unfold qd6 at *; omega⟩
abbrev x74:qb9:=qg2 true none [tInts,tInts] [tInt] (λx=>qv6 x.1 x.2.1) (λx=>(qh0 x.1 x.2.1 x.1.length,()))
def x4l (a b:List Int):Nat->Option Inv
 | 0=>some (Inv.of [5,10] 0 (λk:Nat=>[(5,.lit (.int .i64 (qh0 a b k))),(10,.lit (.int .i64 k))]) (λ_=>[]) (λk=>k<=a.length) (λk=>a.length-k))
 | _=>none
theorem wa6:Meets Tryz.prog 136 x74:=by
 refine meets (snd (SpecsOk.nil _)) Tryz.func136 rfl rfl (λx=>x4l x.1 x.2.1) (λ_=>by kernel_rfl) (by decide) ?_
 rintro⟨a,b,⟨⟩⟩ h
 revert a b
 intro(a:List Int) (b:List Int) (h:qv6 a b)
 refine @qe1 _ (∃(v0:Unit),∃(v1:Nat),Nat.le v1 a.length/\(((0:Int)=qh0 a b v1/\(0:Int)=(↑v1:Int)/\True)/\True)/\∀(v2:Nat),Nat.le v2 a.length->(decide ((↑v2:Int)<(↑a.length:Int))=true->((0:Int)<=(↑v2:Int)/\(↑v2:Int)<(↑a.length:Int))/\((0:Int)<=(↑v2:Int)/\(↑v2:Int)<(↑b.length:Int))/\fits .i64 (nI a v2*nI b v2)/\fits .i64 (qh0 a b v2+nI a v2*nI b v2)/\fits .i64 ((↑v2:Int)+(1:Int))/\∃(v5:Nat),Nat.le v5 a.length/\a.length-v5<a.length-v2/\(qh0 a b v2+nI a v2*nI b v2=qh0 a b v5/\(↑v2:Int)+(1:Int)=(↑v5:Int)/\True)/\True)/\(decide ((↑v2:Int)<(↑a.length:Int))=false->qh0 a b v2=qh0 a b a.length)) (by kernel_rfl) ?_
 try simp only[z0,z1,z2,z3,z4,z5,z6,z7,z8,z9,z10,Int.reduceEq,z11,z12,z13,z14,z15,z16,z17,z18,z19,z20,z21,z22,z23,z24,z25,z26,z27,z28,z29,z30,Int.reduceLE,Int.reduceLT,z31,z32,z33,z34,qa3]
 try simp only[qb5,qb6,qd0,z31,z32,z2,z1]
 have hl:=h.len
 have hle:=h.le
 refine⟨(),0,Nat.zero_le _,⟨rfl,rfl⟩,λk hk=>⟨λhlt=>?_,λhge=>?_⟩⟩
 ·have h1:=ws1 h k hk
  have h2:=q31 (h.sa k hlt) (h.sb k hlt)
  unfold qd6 at h1 h2
  exact⟨hlt,by omega,qa9 (by omega) (by omega),qa9 (by omega) (by omega),qa9 (by omega) (by omega),k+1,hlt,by omega,rfl,by omega⟩
 ·obtain rfl:k=a.length:=by omega
  rfl
def x4m:Nat->List AObj
 | 0=>[]
 | n+1=>.dead :: x4m n
theorem xn6 (r:List (List Int)) (n k:Nat):(nI (nL r k) k).tdiv (qd8 (nI (nL r k) k) (nI (nL r k) n))=q0g r n k:=rfl
theorem xn7 (r:List (List Int)) (n k:Nat):(nI (nL r k) n).tdiv (qd8 (nI (nL r k) k) (nI (nL r k) n))=q8v r n k:=rfl
structure w95 (m:List (List Int)) (y C:List Int):Prop where
 ind:ws0 m C
 n6:(qe8 m C).length<=6
 m6:m.length<=6
 ylen:y.length=m.length
 col:∀q,q<(qe8 m C).length->q2i m (nI (qe8 m C) q)
 dot:∀a b,a<(qe8 m C).length->b<(qe8 m C).length->qv6 (colL m (nI (qe8 m C) a).toNat) (colL m (nI (qe8 m C) b).toNat)
 doty:∀a,a<(qe8 m C).length->qv6 (colL m (nI (qe8 m C) a).toNat) y
 red:qz8 (qc0 m y (qe8 m C)) (qe8 m C).length ((qe8 m C).length+1)
 nz:∀k,k<(qe8 m C).length->nI (nL (gP m y C) k) k≠0
 big:∀k,k<(qe8 m C).length->∀c,c<(qe8 m C).length+1->qd6 BIG (nI (nL (gP m y C) k) c)
 tms:∀k,k<=(qe8 m C).length->qd6 BIG (qh3 (gP m y C) (qe8 m C).length k)/\qh3 (gP m y C) (qe8 m C).length k≠0
 dnz:∀k,k<(qe8 m C).length->q0g (gP m y C) (qe8 m C).length k≠0
 mul:∀k,k<(qe8 m C).length->qd6 BIG ((qk9 m y C).tdiv (q0g (gP m y C) (qe8 m C).length k)*q8v (gP m y C) (qe8 m C).length k)
 out:∀i,i<y.length->qd6 BIG (nI y i*qk9 m y C)
 sub:∀k,k<(qe8 m C).length->∀i,i<y.length->qd6 BIG (nI (colL m (nI (qe8 m C) k).toNat) i*((qk9 m y C).tdiv (q0g (gP m y C) (qe8 m C).length k)*q8v (gP m y C) (qe8 m C).length k))/\qd6 BIG (rsE m y (qe8 m C) (gP m y C) (qk9 m y C) (k+1) i)
def x0l (m:List (List Int)) (y C:List Int):Nat->Option Inv
 | 0=>some (Inv.of [5,27] 2 (λk:Nat=>[(5,.msl 1 .none),(27,.lit (.int .i64 k))]) (λk=>[pBox m y C,.mat 34 3 (.int .i64) ((qc0 m y (qe8 m C)).take k) .none .none]) (λk=>k<=(qe8 m C).length) (λk=>(qe8 m C).length-k))
 | 1=>some (Eng.Inv.mk Nat Nat [5,8,33] 3 (λ_ j=>[(5,.msl 1 .none),(8,.own 2),(33,.lit (.int .i64 j))]) (λk j=>[pBox m y C,.mat 34 3 (.int .i64) ((qc0 m y (qe8 m C)).take k) .none .none,.vec 3 (.int .i64) ((gRow m y (qe8 m C) k).take j)]) (λ_ j=>j<=(qe8 m C).length) (λ_ j=>(qe8 m C).length-j))
 | 2=>some (Inv.of [5,11,66,68] 2 (λk:Nat=>[(5,.msl 1 .none),(11,.lit (.int .i64 (qh3 (gP m y C) (qe8 m C).length k))),(66,.msl 1 .none),(68,.lit (.int .i64 k))]) (λk=>[pBox m y C,.mat 34 3 (.int .i64) (gP m y C) .none .none]) (λk=>k<=(qe8 m C).length) (λk=>(qe8 m C).length-k))
 | 3=>some (Inv.of [5,15,100] 3 (λk:Nat=>[(5,.msl 1 .none),(15,.own 2),(100,.lit (.int .i64 k))]) (λk=>[pBox m y C,.mat 34 3 (.int .i64) (gP m y C) .none .none,.vec 3 (.int .i64) ((rsL m y (qe8 m C) (gP m y C) (qk9 m y C) 0).take k)]) (λk=>k<=y.length) (λk=>y.length-k))
 | 4=>some (Inv.of [5,15,113] 3 (λk:Nat=>[(5,.msl 1 .none),(15,.own 2),(113,.lit (.int .i64 k))]) (λk=>[pBox m y C,.mat 34 3 (.int .i64) (gP m y C) .none .none,.vec 3 (.int .i64) (rsL m y (qe8 m C) (gP m y C) (qk9 m y C) k)]) (λk=>k<=(qe8 m C).length) (λk=>(qe8 m C).length-k))
 | 5=>some (Eng.Inv.mk Nat Nat [5,15,174] 56 (λ_ t=>[(5,.msl 1 .none),(15,.own 2),(174,.lit (.int .i64 t))]) (λk t=>pBox m y C :: .mat 34 3 (.int .i64) (gP m y C) .none .none :: .vec 3 (.int .i64) (ovr (.int .i64) (rsE m y (qe8 m C) (gP m y C) (qk9 m y C) (k+1)) (rsL m y (qe8 m C) (gP m y C) (qk9 m y C) k) t) :: x4m 53) (λ_ t=>t<=m.length) (λ_ t=>m.length-t))
 | _=>none
abbrev x4n:qb9:=qg2 true none [tP] [tInts,tInt] (λx=>w95 x.1.1.1 x.1.1.2 x.1.2) (λx=>(qg9 x.1.1.1 x.1.1.2 x.1.2,qk9 x.1.1.1 x.1.1.2 x.1.2,()))
theorem wz5:Meets Tryz.prog 79 x4n:=by
 refine meets (w4o [59] [58] (SpecsOk.cons w44 (SpecsOk.cons wa5 (SpecsOk.cons wa6 (SpecsOk.cons qo9 (SpecsOk.nil _))))) (MutsOk.cons qx0 MutsOk.nil)) Tryz.func79 rfl rfl (λx=>x0l x.1.1.1 x.1.1.2 x.1.2) (λ_=>by kernel_rfl) (by decide) ?_
 rintro⟨p,⟨⟩⟩ h
 revert p
 intro(p:(List (List Int) × List Int) × List Int) (h:w95 p.1.1 p.1.2 p.2)
 refine @qe1 _ (let Q0:=gP p.1.1 p.1.2 p.2; let Q1:=qe8 p.1.1 p.2; let Q2:=qk9 p.1.1 p.1.2 p.2; let Q3:=qc0 p.1.1 p.1.2 Q1; let Q4:=qd9 Q0.length none; ws0 p.1.1 p.2/\∃(v0:Unit),∃(v1:Nat),Nat.le v1 Q1.length/\((True/\(0:Int)=(↑v1:Int)/\True)/\(p.1.1=p.1.1/\p.1.2=p.1.2/\p.2=p.2/\True)/\List.take v1 Q3=[]/\True)/\∀(v2:Nat),Nat.le v2 Q1.length->(decide ((↑v2:Int)<(↑Q1.length:Int))=true->((0:Int)<=(↑v2:Int)/\(↑v2:Int)<(↑Q1.length:Int))/\∃(v5:Nat),∃(v6:Nat),Nat.le v6 Q1.length/\((True/\True/\(0:Int)=(↑v6:Int)/\True)/\(p.1.1=p.1.1/\p.1.2=p.1.2/\p.2=p.2/\True)/\(List.take v2 Q3=List.take v5 Q3/\True/\True)/\List.take v6 (gRow p.1.1 p.1.2 Q1 v5)=[]/\True)/\∀(v7:Nat),Nat.le v7 Q1.length->(decide ((↑v7:Int)<(↑Q1.length:Int))=true->((0:Int)<=(↑v7:Int)/\(↑v7:Int)<(↑Q1.length:Int))/\q2i p.1.1 (nI Q1 v2)/\q2i p.1.1 (nI Q1 v7)/\qv6 (colL p.1.1 (nI Q1 v2).toNat) (colL p.1.1 (nI Q1 v7).toNat)/\((0:Nat)<List.length [qh0 (colL p.1.1 (nI Q1 v2).toNat) (colL p.1.1 (nI Q1 v7).toNat) (colL p.1.1 (nI Q1 v2).toNat).length]/\Nat.le ((List.take v7 (gRow p.1.1 p.1.2 Q1 v5)).length+List.length [qh0 (colL p.1.1 (nI Q1 v2).toNat) (colL p.1.1 (nI Q1 v7).toNat) (colL p.1.1 (nI Q1 v2).toNat).length]) (1000000:Nat))/\fits .i64 ((↑v7:Int)+(1:Int))/\∃(v10:Nat),Nat.le v10 Q1.length/\Q1.length-v10<Q1.length-v7/\(True/\True/\(↑v7:Int)+(1:Int)=(↑v10:Int)/\True)/\(p.1.1=p.1.1/\p.1.2=p.1.2/\p.2=p.2/\True)/\(List.take v5 Q3=List.take v5 Q3/\True/\True)/\List.take v7 (gRow p.1.1 p.1.2 Q1 v5)++[qh0 (colL p.1.1 (nI Q1 v2).toNat) (colL p.1.1 (nI Q1 v7).toNat) (colL p.1.1 (nI Q1 v2).toNat).length]=List.take v10 (gRow p.1.1 p.1.2 Q1 v5)/\True)/\(decide ((↑v7:Int)<(↑Q1.length:Int))=false->q2i p.1.1 (nI Q1 v2)/\qv6 (colL p.1.1 (nI Q1 v2).toNat) p.1.2/\Nat.le ((List.take v7 (gRow p.1.1 p.1.2 Q1 v5)).length+List.length [qh0 (colL p.1.1 (nI Q1 v2).toNat) p.1.2 (colL p.1.1 (nI Q1 v2).toNat).length]) (1000000:Nat)/\((0:Nat)<(0:Nat)+(1:Nat)/\(List.take v5 Q3).length+((0:Nat)+(1:Nat))<=(1000000:Nat))/\fits .i64 ((↑v2:Int)+(1:Int))/\∃(v10:Nat),Nat.le v10 Q1.length/\Q1.length-v10<Q1.length-v2/\(True/\(↑v2:Int)+(1:Int)=(↑v10:Int)/\True)/\(p.1.1=p.1.1/\p.1.2=p.1.2/\p.2=p.2/\True)/\(List.take v5 Q3++[List.take v7 (gRow p.1.1 p.1.2 Q1 v5)++[qh0 (colL p.1.1 (nI Q1 v2).toNat) p.1.2 (colL p.1.1 (nI Q1 v2).toNat).length]]=List.take v10 Q3/\True/\True)/\True))/\(decide ((↑v2:Int)<(↑Q1.length:Int))=false->((0:Ty.den tInt)<=(↑Q1.length:Int)/\∃(v5:Nat),qz8 (List.take v2 Q3) (↑Q1.length:Int).toNat v5)/\∃(v5:Unit),∃(v6:Nat),Nat.le v6 Q1.length/\((True/\(1:Int)=qh3 Q0 Q1.length v6/\True/\(0:Int)=(↑v6:Int)/\True)/\(p.1.1=p.1.1/\p.1.2=p.1.2/\p.2=p.2/\True)/\((qa4 (List.take v2 Q3) (↑Q1.length:Int).toNat).1=gP p.1.1 p.1.2 p.2/\True/\True)/\True)/\∀(v7:Nat),Nat.le v7 Q1.length->(decide ((↑v7:Int)<(↑(qd9 (qa4 (List.take v2 Q3) (↑Q1.length:Int).toNat).1.length none):Int))=true->((0:Int)<=(↑v7:Int)/\(↑v7:Int)<(↑Q4:Int))/\v7<qd9 Q0.length none/\((0:Int)<=(↑v7:Int)/\(↑v7:Int)<(↑(nL Q0 (qc9 none v7)).length:Int))/\v7<(nL Q0 (qc9 none v7)).length/\((0:Int)<=(↑v7:Int)/\(↑v7:Int)<(↑(nL Q0 (qc9 none v7)).length:Int))/\v7<(nL Q0 (qc9 none v7)).length/\((0:Int)<=(↑Q1.length:Int)/\(↑Q1.length:Int)<(↑(nL Q0 (qc9 none v7)).length:Int))/\(↑Q1.length:Int).toNat<(nL Q0 (qc9 none v7)).length/\(((-4000000000000000000:Int)<=nI (nL Q0 (qc9 none v7)) v7/\nI (nL Q0 (qc9 none v7)) v7<=BIG)/\(-4000000000000000000:Int)<=nI (nL Q0 (qc9 none v7)) (↑Q1.length:Int).toNat/\nI (nL Q0 (qc9 none v7)) (↑Q1.length:Int).toNat<=BIG)/\qd8 (nI (nL Q0 (qc9 none v7)) v7) (nI (nL Q0 (qc9 none v7)) (↑Q1.length:Int).toNat)≠(0:Int)/\fits .i64 (Int.tdiv (nI (nL Q0 (qc9 none v7)) v7) (qd8 (nI (nL Q0 (qc9 none v7)) v7) (nI (nL Q0 (qc9 none v7)) (↑Q1.length:Int).toNat)))/\(((-4000000000000000000:Int)<=qh3 Q0 Q1.length v7/\qh3 Q0 Q1.length v7<=BIG)/\(-4000000000000000000:Int)<=Int.tdiv (nI (nL Q0 (qc9 none v7)) v7) (qd8 (nI (nL Q0 (qc9 none v7)) v7) (nI (nL Q0 (qc9 none v7)) (↑Q1.length:Int).toNat))/\Int.tdiv (nI (nL Q0 (qc9 none v7)) v7) (qd8 (nI (nL Q0 (qc9 none v7)) v7) (nI (nL Q0 (qc9 none v7)) (↑Q1.length:Int).toNat))<=BIG)/\qd8 (qh3 Q0 Q1.length v7) (Int.tdiv (nI (nL Q0 (qc9 none v7)) v7) (qd8 (nI (nL Q0 (qc9 none v7)) v7) (nI (nL Q0 (qc9 none v7)) (↑Q1.length:Int).toNat)))≠(0:Int)/\fits .i64 (Int.tdiv (Int.tdiv (nI (nL Q0 (qc9 none v7)) v7) (qd8 (nI (nL Q0 (qc9 none v7)) v7) (nI (nL Q0 (qc9 none v7)) (↑Q1.length:Int).toNat))) (qd8 (qh3 Q0 Q1.length v7) (Int.tdiv (nI (nL Q0 (qc9 none v7)) v7) (qd8 (nI (nL Q0 (qc9 none v7)) v7) (nI (nL Q0 (qc9 none v7)) (↑Q1.length:Int).toNat)))))/\fits .i64 (qh3 Q0 Q1.length v7*Int.tdiv (Int.tdiv (nI (nL Q0 (qc9 none v7)) v7) (qd8 (nI (nL Q0 (qc9 none v7)) v7) (nI (nL Q0 (qc9 none v7)) (↑Q1.length:Int).toNat))) (qd8 (qh3 Q0 Q1.length v7) (Int.tdiv (nI (nL Q0 (qc9 none v7)) v7) (qd8 (nI (nL Q0 (qc9 none v7)) v7) (nI (nL Q0 (qc9 none v7)) (↑Q1.length:Int).toNat)))))/\fits .i64 ((↑v7:Int)+(1:Int))/\∃(v10:Nat),Nat.le v10 Q1.length/\Q1.length-v10<Q1.length-v7/\(True/\qh3 Q0 Q1.length v7*Int.tdiv (Int.tdiv (nI (nL Q0 (qc9 none v7)) v7) (qd8 (nI (nL Q0 (qc9 none v7)) v7) (nI (nL Q0 (qc9 none v7)) (↑Q1.length:Int).toNat))) (qd8 (qh3 Q0 Q1.length v7) (Int.tdiv (nI (nL Q0 (qc9 none v7)) v7) (qd8 (nI (nL Q0 (qc9 none v7)) v7) (nI (nL Q0 (qc9 none v7)) (↑Q1.length:Int).toNat))))=qh3 Q0 Q1.length v10/\True/\(↑v7:Int)+(1:Int)=(↑v10:Int)/\True)/\(p.1.1=p.1.1/\p.1.2=p.1.2/\p.2=p.2/\True)/\(gP p.1.1 p.1.2 p.2=gP p.1.1 p.1.2 p.2/\True/\True)/\True)/\(decide ((↑v7:Int)<(↑(qd9 (qa4 (List.take v2 Q3) (↑Q1.length:Int).toNat).1.length none):Int))=false->∃(v10:Unit),∃(v11:Nat),Nat.le v11 p.1.2.length/\((True/\True/\(0:Int)=(↑v11:Int)/\True)/\(p.1.1=p.1.1/\p.1.2=p.1.2/\p.2=p.2/\True)/\(gP p.1.1 p.1.2 p.2=gP p.1.1 p.1.2 p.2/\True/\True)/\List.take v11 (rsL p.1.1 p.1.2 Q1 Q0 Q2 (0:Nat))=[]/\True)/\∀(v12:Nat),Nat.le v12 p.1.2.length->(decide ((↑v12:Int)<(↑p.1.2.length:Int))=true->((0:Int)<=(↑v12:Int)/\(↑v12:Int)<(↑p.1.2.length:Int))/\fits .i64 (nI p.1.2 v12*qh3 Q0 Q1.length v7)/\((0:Nat)<List.length [nI p.1.2 v12*qh3 Q0 Q1.length v7]/\Nat.le ((List.take v12 (rsL p.1.1 p.1.2 Q1 Q0 Q2 (0:Nat))).length+List.length [nI p.1.2 v12*qh3 Q0 Q1.length v7]) (1000000:Nat))/\fits .i64 ((↑v12:Int)+(1:Int))/\∃(v15:Nat),Nat.le v15 p.1.2.length/\p.1.2.length-v15<p.1.2.length-v12/\(True/\True/\(↑v12:Int)+(1:Int)=(↑v15:Int)/\True)/\(p.1.1=p.1.1/\p.1.2=p.1.2/\p.2=p.2/\True)/\(gP p.1.1 p.1.2 p.2=gP p.1.1 p.1.2 p.2/\True/\True)/\List.take v12 (rsL p.1.1 p.1.2 Q1 Q0 Q2 (0:Nat))++[nI p.1.2 v12*qh3 Q0 Q1.length v7]=List.take v15 (rsL p.1.1 p.1.2 Q1 Q0 Q2 (0:Nat))/\True)/\(decide ((↑v12:Int)<(↑p.1.2.length:Int))=false->∃(v15:Unit),∃(v16:Nat),Nat.le v16 Q1.length/\((True/\True/\(0:Int)=(↑v16:Int)/\True)/\(p.1.1=p.1.1/\p.1.2=p.1.2/\p.2=p.2/\True)/\(gP p.1.1 p.1.2 p.2=gP p.1.1 p.1.2 p.2/\True/\True)/\List.take v12 (rsL p.1.1 p.1.2 Q1 Q0 Q2 (0:Nat))=rsL p.1.1 p.1.2 Q1 Q0 Q2 v16/\True)/\∀(v17:Nat),Nat.le v17 Q1.length->(decide ((↑v17:Int)<(↑Q1.length:Int))=true->((0:Int)<=(↑v17:Int)/\(↑v17:Int)<(↑Q1.length:Int))/\((0:Int)<=(↑v17:Int)/\(↑v17:Int)<(↑Q4:Int))/\v17<qd9 Q0.length none/\((0:Int)<=(↑v17:Int)/\(↑v17:Int)<(↑(nL Q0 (qc9 none v17)).length:Int))/\v17<(nL Q0 (qc9 none v17)).length/\((0:Int)<=(↑v17:Int)/\(↑v17:Int)<(↑Q4:Int))/\v17<qd9 Q0.length none/\((0:Int)<=(↑v17:Int)/\(↑v17:Int)<(↑(nL Q0 (qc9 none v17)).length:Int))/\v17<(nL Q0 (qc9 none v17)).length/\((0:Int)<=(↑v17:Int)/\(↑v17:Int)<(↑Q4:Int))/\v17<qd9 Q0.length none/\((0:Int)<=(↑Q1.length:Int)/\(↑Q1.length:Int)<(↑(nL Q0 (qc9 none v17)).length:Int))/\(↑Q1.length:Int).toNat<(nL Q0 (qc9 none v17)).length/\(((-4000000000000000000:Int)<=nI (nL Q0 (qc9 none v17)) v17/\nI (nL Q0 (qc9 none v17)) v17<=BIG)/\(-4000000000000000000:Int)<=nI (nL Q0 (qc9 none v17)) (↑Q1.length:Int).toNat/\nI (nL Q0 (qc9 none v17)) (↑Q1.length:Int).toNat<=BIG)/\qd8 (nI (nL Q0 (qc9 none v17)) v17) (nI (nL Q0 (qc9 none v17)) (↑Q1.length:Int).toNat)≠(0:Int)/\fits .i64 (Int.tdiv (nI (nL Q0 (qc9 none v17)) v17) (qd8 (nI (nL Q0 (qc9 none v17)) v17) (nI (nL Q0 (qc9 none v17)) (↑Q1.length:Int).toNat)))/\Int.tdiv (nI (nL Q0 (qc9 none v17)) v17) (qd8 (nI (nL Q0 (qc9 none v17)) v17) (nI (nL Q0 (qc9 none v17)) (↑Q1.length:Int).toNat))≠(0:Int)/\fits .i64 (Int.tdiv (qh3 Q0 Q1.length v7) (Int.tdiv (nI (nL Q0 (qc9 none v17)) v17) (qd8 (nI (nL Q0 (qc9 none v17)) v17) (nI (nL Q0 (qc9 none v17)) (↑Q1.length:Int).toNat))))/\((0:Int)<=(↑v17:Int)/\(↑v17:Int)<(↑Q4:Int))/\v17<qd9 Q0.length none/\((0:Int)<=(↑Q1.length:Int)/\(↑Q1.length:Int)<(↑(nL Q0 (qc9 none v17)).length:Int))/\(↑Q1.length:Int).toNat<(nL Q0 (qc9 none v17)).length/\((0:Int)<=(↑v17:Int)/\(↑v17:Int)<(↑Q4:Int))/\v17<qd9 Q0.length none/\((0:Int)<=(↑v17:Int)/\(↑v17:Int)<(↑(nL Q0 (qc9 none v17)).length:Int))/\v17<(nL Q0 (qc9 none v17)).length/\((0:Int)<=(↑v17:Int)/\(↑v17:Int)<(↑Q4:Int))/\v17<qd9 Q0.length none/\((0:Int)<=(↑Q1.length:Int)/\(↑Q1.length:Int)<(↑(nL Q0 (qc9 none v17)).length:Int))/\(↑Q1.length:Int).toNat<(nL Q0 (qc9 none v17)).length/\(((-4000000000000000000:Int)<=nI (nL Q0 (qc9 none v17)) v17/\nI (nL Q0 (qc9 none v17)) v17<=BIG)/\(-4000000000000000000:Int)<=nI (nL Q0 (qc9 none v17)) (↑Q1.length:Int).toNat/\nI (nL Q0 (qc9 none v17)) (↑Q1.length:Int).toNat<=BIG)/\qd8 (nI (nL Q0 (qc9 none v17)) v17) (nI (nL Q0 (qc9 none v17)) (↑Q1.length:Int).toNat)≠(0:Int)/\fits .i64 (Int.tdiv (nI (nL Q0 (qc9 none v17)) (↑Q1.length:Int).toNat) (qd8 (nI (nL Q0 (qc9 none v17)) v17) (nI (nL Q0 (qc9 none v17)) (↑Q1.length:Int).toNat)))/\fits .i64 (Int.tdiv (qh3 Q0 Q1.length v7) (Int.tdiv (nI (nL Q0 (qc9 none v17)) v17) (qd8 (nI (nL Q0 (qc9 none v17)) v17) (nI (nL Q0 (qc9 none v17)) (↑Q1.length:Int).toNat)))*Int.tdiv (nI (nL Q0 (qc9 none v17)) (↑Q1.length:Int).toNat) (qd8 (nI (nL Q0 (qc9 none v17)) v17) (nI (nL Q0 (qc9 none v17)) (↑Q1.length:Int).toNat)))/\q2i p.1.1 (nI Q1 v17)/\∃(v20:Nat),∃(v21:Nat),Nat.le v21 p.1.1.length/\((True/\True/\(0:Int)=(↑v21:Int)/\True)/\(p.1.1=p.1.1/\p.1.2=p.1.2/\p.2=p.2/\True)/\(gP p.1.1 p.1.2 p.2=gP p.1.1 p.1.2 p.2/\True/\True)/\rsL p.1.1 p.1.2 Q1 Q0 Q2 v17=ovr (Ty.int .i64) (rsE p.1.1 p.1.2 Q1 Q0 Q2 (v20+(1:Nat))) (rsL p.1.1 p.1.2 Q1 Q0 Q2 v20) v21/\True/\True/\True/\True/\True/\True/\True/\True/\True/\True/\True/\True/\True/\True/\True/\True/\True/\True/\True/\True/\True/\True/\True/\True/\True/\True/\True/\True/\True/\True/\True/\True/\True/\True/\True/\True/\True/\True/\True/\True/\True/\True/\True/\True/\True/\True/\True/\True/\True/\True/\True/\True/\True/\True)/\∀(v22:Nat),Nat.le v22 p.1.1.length->(decide ((↑v22:Int)<(↑(colL p.1.1 (nI Q1 v17).toNat).length:Int))=true->((0:Int)<=(↑v22:Int)/\(↑v22:Int)<(↑(colL p.1.1 (nI Q1 v17).toNat).length:Int))/\((0:Int)<=(↑v22:Int)/\(↑v22:Int)<(↑(ovr (Ty.int .i64) (rsE p.1.1 p.1.2 Q1 Q0 Q2 (v20+(1:Nat))) (rsL p.1.1 p.1.2 Q1 Q0 Q2 v20) v22).length:Int))/\v22<(ovr (Ty.int .i64) (rsE p.1.1 p.1.2 Q1 Q0 Q2 (v20+(1:Nat))) (rsL p.1.1 p.1.2 Q1 Q0 Q2 v20) v22).length/\fits .i64 (nI (colL p.1.1 (nI Q1 v17).toNat) v22*(Int.tdiv (qh3 Q0 Q1.length v7) (Int.tdiv (nI (nL Q0 (qc9 none v17)) v17) (qd8 (nI (nL Q0 (qc9 none v17)) v17) (nI (nL Q0 (qc9 none v17)) (↑Q1.length:Int).toNat)))*Int.tdiv (nI (nL Q0 (qc9 none v17)) (↑Q1.length:Int).toNat) (qd8 (nI (nL Q0 (qc9 none v17)) v17) (nI (nL Q0 (qc9 none v17)) (↑Q1.length:Int).toNat))))/\fits .i64 (nI (ovr (Ty.int .i64) (rsE p.1.1 p.1.2 Q1 Q0 Q2 (v20+(1:Nat))) (rsL p.1.1 p.1.2 Q1 Q0 Q2 v20) v22) v22-nI (colL p.1.1 (nI Q1 v17).toNat) v22*(Int.tdiv (qh3 Q0 Q1.length v7) (Int.tdiv (nI (nL Q0 (qc9 none v17)) v17) (qd8 (nI (nL Q0 (qc9 none v17)) v17) (nI (nL Q0 (qc9 none v17)) (↑Q1.length:Int).toNat)))*Int.tdiv (nI (nL Q0 (qc9 none v17)) (↑Q1.length:Int).toNat) (qd8 (nI (nL Q0 (qc9 none v17)) v17) (nI (nL Q0 (qc9 none v17)) (↑Q1.length:Int).toNat))))/\((0:Int)<=(↑v22:Int)/\(↑v22:Int)<(↑(ovr (Ty.int .i64) (rsE p.1.1 p.1.2 Q1 Q0 Q2 (v20+(1:Nat))) (rsL p.1.1 p.1.2 Q1 Q0 Q2 v20) v22).length:Int))/\v22<(ovr (Ty.int .i64) (rsE p.1.1 p.1.2 Q1 Q0 Q2 (v20+(1:Nat))) (rsL p.1.1 p.1.2 Q1 Q0 Q2 v20) v22).length/\fits .i64 ((↑v22:Int)+(1:Int))/\∃(v25:Nat),Nat.le v25 p.1.1.length/\p.1.1.length-v25<p.1.1.length-v22/\(True/\True/\(↑v22:Int)+(1:Int)=(↑v25:Int)/\True)/\(p.1.1=p.1.1/\p.1.2=p.1.2/\p.2=p.2/\True)/\(gP p.1.1 p.1.2 p.2=gP p.1.1 p.1.2 p.2/\True/\True)/\List.set (ovr (Ty.int .i64) (rsE p.1.1 p.1.2 Q1 Q0 Q2 (v20+(1:Nat))) (rsL p.1.1 p.1.2 Q1 Q0 Q2 v20) v22) v22 (nI (ovr (Ty.int .i64) (rsE p.1.1 p.1.2 Q1 Q0 Q2 (v20+(1:Nat))) (rsL p.1.1 p.1.2 Q1 Q0 Q2 v20) v22) v22-nI (colL p.1.1 (nI Q1 v17).toNat) v22*(Int.tdiv (qh3 Q0 Q1.length v7) (Int.tdiv (nI (nL Q0 (qc9 none v17)) v17) (qd8 (nI (nL Q0 (qc9 none v17)) v17) (nI (nL Q0 (qc9 none v17)) (↑Q1.length:Int).toNat)))*Int.tdiv (nI (nL Q0 (qc9 none v17)) (↑Q1.length:Int).toNat) (qd8 (nI (nL Q0 (qc9 none v17)) v17) (nI (nL Q0 (qc9 none v17)) (↑Q1.length:Int).toNat))))=ovr (Ty.int .i64) (rsE p.1.1 p.1.2 Q1 Q0 Q2 (v20+(1:Nat))) (rsL p.1.1 p.1.2 Q1 Q0 Q2 v20) v25/\True/\True/\True/\True/\True/\True/\True/\True/\True/\True/\True/\True/\True/\True/\True/\True/\True/\True/\True/\True/\True/\True/\True/\True/\True/\True/\True/\True/\True/\True/\True/\True/\True/\True/\True/\True/\True/\True/\True/\True/\True/\True/\True/\True/\True/\True/\True/\True/\True/\True/\True/\True/\True/\True)/\(decide ((↑v22:Int)<(↑(colL p.1.1 (nI Q1 v17).toNat).length:Int))=false->fits .i64 ((↑v17:Int)+(1:Int))/\∃(v25:Nat),Nat.le v25 Q1.length/\Q1.length-v25<Q1.length-v17/\(True/\True/\(↑v17:Int)+(1:Int)=(↑v25:Int)/\True)/\(p.1.1=p.1.1/\p.1.2=p.1.2/\p.2=p.2/\True)/\(gP p.1.1 p.1.2 p.2=gP p.1.1 p.1.2 p.2/\True/\True)/\ovr (Ty.int .i64) (rsE p.1.1 p.1.2 Q1 Q0 Q2 (v20+(1:Nat))) (rsL p.1.1 p.1.2 Q1 Q0 Q2 v20) v22=rsL p.1.1 p.1.2 Q1 Q0 Q2 v25/\True))/\(decide ((↑v17:Int)<(↑Q1.length:Int))=false->rsL p.1.1 p.1.2 Q1 Q0 Q2 v17=qg9 p.1.1 p.1.2 p.2/\qh3 Q0 Q1.length v7=qk9 p.1.1 p.1.2 p.2/\True))))) (by kernel_rfl) ?_
 try simp only[z0,z1,z2,z3,z4,z5,z6,z7,z8,z9,z10,Int.reduceEq,z11,z12,z13,z14,z15,z16,z17,z18,z19,z20,z21,z22,z23,z24,z25,z26,z27,z28,z29,z30,Int.reduceLE,Int.reduceLT,z31,z32,z33,z34,qa3]
 try simp only[qb5,qb6,qd0,z31,z32,z2,z1]
 obtain⟨⟨m,y⟩,C⟩:=p
 dsimp only at h ⊢
 simp only[qw9,q08]
 have hn6:=h.n6
 have hm6:=h.m6
 have hyl:=h.ylen
 have hgl:(qc0 m y (qe8 m C)).length=(qe8 m C).length:=by simp[qc0]
 have hga:∀k,k<(qe8 m C).length->nL (qc0 m y (qe8 m C)) k=gRow m y (qe8 m C) k:=λk hk=>by
  rw[qp9 _ _ (by rw[hgl]; exact hk)]; simp[qc0]
 have hrl:∀k,(gRow m y (qe8 m C) k).length=(qe8 m C).length+1:=λk=>by simp[gRow]
 have hr1:∀k j,j<(qe8 m C).length->nI (gRow m y (qe8 m C) k) j=qh0 (colL m (nI (qe8 m C) k).toNat) (colL m (nI (qe8 m C) j).toNat) m.length:=λk j hj=>by
  unfold gRow
  rw[qg1 _ _ (by simp; omega),List.getElem_append_left (by simp; exact hj)]; simp
 have hr2:∀k,nI (gRow m y (qe8 m C) k) (qe8 m C).length=qh0 (colL m (nI (qe8 m C) k).toNat) y m.length:=λk=>by
  unfold gRow
  rw[qg1 _ _ (by simp),List.getElem_append_right (by simp)]; simp
 have hsh:=qs7 h.red (qe8 m C).length
 have hGl:(gP m y C).length=(qe8 m C).length:=hsh.cnt.trans hgl
 have hGe:∀k,k<(qe8 m C).length->(nL (gP m y C) k).length=(qe8 m C).length+1:=λk hk=>hsh.each k (by omega)
 have hB:BIG=4000000000000000000:=rfl
 refine⟨h.ind,(),0,Nat.zero_le _,⟨rfl,rfl⟩,λk hk=>⟨λhlt=>⟨hlt,k,0,Nat.zero_le _,⟨rfl,rfl,rfl⟩,λj hj=>⟨λhlj=>?_,λhgj=>?_⟩⟩,λhge=>?_⟩⟩
 ·refine⟨hlj,h.col k hlt,h.col j hlj,h.dot k j hlt hlj,by rw[List.length_take,hrl]; omega,qa9 (by omega) (by omega),j+1,by omega,by omega,by omega,?_⟩
  rw[q2w _ j (by rw[hrl]; omega),hr1 k j hlj,colL_len]
 ·obtain rfl:j=(qe8 m C).length:=by omega
  refine⟨h.col k hlt,h.doty k hlt,by rw[List.length_take,hrl]; omega,by rw[List.length_take,hgl]; omega,qa9 (by omega) (by omega),k+1,by omega,by omega,by omega,?_⟩
  rw[takeL_snoc _ k (by omega),hga k hlt,colL_len,<- hr2,<- q2w _ _ (by rw[hrl]; omega),List.take_of_length_le (l:=gRow m y (qe8 m C) k) (by rw[hrl]; exact Nat.le_refl _)]
 obtain rfl:k=(qe8 m C).length:=by omega
 have hT:(qc0 m y (qe8 m C)).take (qe8 m C).length=qc0 m y (qe8 m C):=List.take_of_length_le (by omega)
 rw[hT]
 change(∃v,qz8 _ _ v)/\∃v5 v6,v6<=_/\(_/\gP m y C=gP m y C)/\_
 have hPl:(qa4 (qc0 m y (qe8 m C)) (qe8 m C).length).1.length=(qe8 m C).length:=hGl
 rw[hPl]
 simp only[xn6,xn7]
 have hT0:qh3 (gP m y C) (qe8 m C).length (qe8 m C).length=qk9 m y C:=rfl
 have hz0:∀t,(rsL m y (qe8 m C) (gP m y C) (qk9 m y C) t).length=y.length:=λt=>by simp[rsL]
 have hza:∀t i,i<y.length->nI (rsL m y (qe8 m C) (gP m y C) (qk9 m y C) t) i=rsE m y (qe8 m C) (gP m y C) (qk9 m y C) t i:=λt i hi=>by
  rw[qg1 _ _ (by rw[hz0]; exact hi)]; simp[rsL]
 refine⟨⟨_,h.red⟩,(),0,Nat.zero_le _,⟨⟨rfl,rfl⟩,trivial⟩,λk hk=>⟨λhlt=>?_,λhge2=>?_⟩⟩
 ·have hrow:=hGe k hlt
  have b1:=h.big k hlt k (by omega)
  have b2:=h.big k hlt (qe8 m C).length (by omega)
  have nz:=h.nz k hlt
  have g1:=qm5 (a:=nI (nL (gP m y C) k) k) (b:=nI (nL (gP m y C) k) (qe8 m C).length) (Or.inl nz)
  have t1:=h.tms k (by omega)
  have t2:=(h.tms (k+1) (by omega)).1
  have hd:qd6 BIG (q0g (gP m y C) (qe8 m C).length k):=ql4 b1
  have g2:=qm5 (a:=qh3 (gP m y C) (qe8 m C).length k) (b:=q0g (gP m y C) (qe8 m C).length k) (Or.inl t1.2)
  have hq:qd6 BIG ((q0g (gP m y C) (qe8 m C).length k).tdiv (qd8 (qh3 (gP m y C) (qe8 m C).length k) (q0g (gP m y C) (qe8 m C).length k))):=ql4 hd
  have e2:qh3 (gP m y C) (qe8 m C).length k*(q0g (gP m y C) (qe8 m C).length k).tdiv (qd8 (qh3 (gP m y C) (qe8 m C).length k) (q0g (gP m y C) (qe8 m C).length k))=qh3 (gP m y C) (qe8 m C).length (k+1):=rfl
  rw[e2]
  unfold qd6 at *
  repeat' refine And.intro ?_ ?_
  all_goals first
   | omega
   | exact qa9 (by omega) (by omega)
   | exact b1.2
   | exact b2.2
   | exact t1.1.2
   | exact hd.2
   | exact⟨k+1,by omega,by omega,rfl,by omega⟩
 obtain rfl:k=(qe8 m C).length:=by omega
 rw[hT0]
 refine⟨(),0,Nat.zero_le _,⟨rfl,rfl⟩,λi hi=>⟨λhlt=>?_,λhge3=>?_⟩⟩
 ·have b1:=h.out i hlt
  unfold qd6 at b1
  refine⟨hlt,qa9 (by omega) (by omega),by rw[List.length_take,hz0]; omega,qa9 (by omega) (by omega),i+1,by omega,by omega,by omega,?_⟩
  rw[q2w _ i (by rw[hz0]; exact hlt),hza 0 i hlt]
  rfl
 obtain rfl:i=y.length:=by omega
 refine⟨(),0,Nat.zero_le _,⟨rfl,List.take_of_length_le (by rw[hz0]; exact Nat.le_refl _)⟩,λk hk2=>⟨λhlt=>?_,λhge4=>by
  obtain rfl:k=(qe8 m C).length:=by omega
  exact⟨rfl,rfl⟩⟩⟩
 have hrow:=hGe k hlt
 have b1:=h.big k hlt k (by omega)
 have b2:=h.big k hlt (qe8 m C).length (by omega)
 have nz:=h.nz k hlt
 have dz:=h.dnz k hlt
 have g1:=qm5 (a:=nI (nL (gP m y C) k) k) (b:=nI (nL (gP m y C) k) (qe8 m C).length) (Or.inl nz)
 have t1:=(h.tms (qe8 m C).length (Nat.le_refl _)).1
 rw[hT0] at t1
 have hq:qd6 BIG ((qk9 m y C).tdiv (q0g (gP m y C) (qe8 m C).length k)):=ql4 t1
 have hd:qd6 BIG (q0g (gP m y C) (qe8 m C).length k):=ql4 b1
 have hn:qd6 BIG (q8v (gP m y C) (qe8 m C).length k):=ql4 b2
 have hm:=h.mul k hlt
 have hcl:(colL m (nI (qe8 m C) k).toNat).length=m.length:=colL_len _ _
 have hfin:∃v20:Unit,∃v21:Nat,True:=⟨(),0,trivial⟩
 unfold qd6 at b1 b2 t1 hq hd hn hm
 repeat' refine And.intro ?_ ?_
 all_goals first
  | omega
  | exact qa9 (by omega) (by omega)
  | exact b1.2
  | exact b2.2
  | exact h.col k hlt
  | skip
 refine⟨k,0,Nat.zero_le _,⟨rfl,(q1y (.int .i64) _ _).symm⟩,λt ht=>⟨λhlt2=>?_,λhge5=>?_⟩⟩
 ·rw[hcl] at hlt2
  have hol:(ovr (.int .i64) (rsE m y (qe8 m C) (gP m y C) (qk9 m y C) (k+1)) (rsL m y (qe8 m C) (gP m y C) (qk9 m y C) k) t).length=m.length:=by rw[qt7]; exact(hz0 k).trans hyl
  have hat:nI (ovr (.int .i64) (rsE m y (qe8 m C) (gP m y C) (qk9 m y C) (k+1)) (rsL m y (qe8 m C) (gP m y C) (qk9 m y C) k) t) t=rsE m y (qe8 m C) (gP m y C) (qk9 m y C) k t:=
   ((q69 (.int .i64) _ _ _ _ (by rw[hz0]; omega)).trans (if_neg (Nat.lt_irrefl _))).trans (hza k t (by omega))
  obtain⟨s1,s2⟩:=h.sub k hlt t (by omega)
  have e:rsE m y (qe8 m C) (gP m y C) (qk9 m y C) (k+1) t=rsE m y (qe8 m C) (gP m y C) (qk9 m y C) k t-nI (colL m (nI (qe8 m C) k).toNat) t*((qk9 m y C).tdiv (q0g (gP m y C) (qe8 m C).length k)*q8v (gP m y C) (qe8 m C).length k):=rfl
  rw[hat,<- e,hcl,hol]
  unfold qd6 at s1 s2
  exact⟨hlt2,hlt2,hlt2,qa9 (by omega) (by omega),qa9 (by omega) (by omega),hlt2,hlt2,qa9 (by omega) (by omega),t+1,hlt2,by omega,by omega,qz5 (.int .i64) _ _ _⟩
 ·obtain rfl:t=m.length:=by omega
  refine⟨qa9 (by omega) (by omega),k+1,by omega,by omega,by omega,?_⟩
  rw[q4m (.int .i64) _ _ _ (by rw[hz0]; omega),hz0]
  rfl
abbrev tU64:Ty:=.int .u64
abbrev w96:Ty:=.prod (.int .i64) (.int .u64)
theorem xn8 {x:Int} (h0:0<=x) (h1:x<=18446744073709551615):fits IntKind.u64 x:=by
 unfold fits
 exact Go.IntWalk.u64_in x ⟨h0,h1⟩
def xd9 (a b:Int × Int):Int:=if a.1=b.1/\a.2=b.2 then 0 else if a.1<b.1\/a.1=b.1/\a.2<b.2 then -1 else 1
abbrev x75:qb9:=qg2 true none [w96,w96] [tInt] (λ_=>True) (λx=>(xd9 x.1 x.2.1,()))
theorem w45:Meets Tryz.prog 197 x75:=by
 refine meets (snd (SpecsOk.nil _)) Tryz.func197 rfl rfl (λ_ _=>none) (λ_=>by kernel_rfl) (by decide) ?_
 rintro⟨⟨a,b⟩,⟨c,d⟩,⟨⟩⟩ -
 revert a b c d
 intro(a:Int) (b:Int) (c:Int) (d:Int)
 refine @qe1 _ (((a==c && b==d)=true->(0:Int)=xd9 (a,b) (c,d))/\((a==c && b==d)=false->(decide (a<c)=true->(-1:Int)=xd9 (a,b) (c,d))/\(decide (a<c)=false->((a==c)=true->(decide (b<d)=true->(-1:Int)=xd9 (a,b) (c,d))/\(decide (b<d)=false->(1:Int)=xd9 (a,b) (c,d)))/\((a==c)=false->(1:Int)=xd9 (a,b) (c,d))))) (by kernel_rfl) ?_
 try simp only[z0,z1,z2,z3,z4,z5,z6,z7,z8,z9,z10,Int.reduceEq,z11,z12,z13,z14,z15,z16,z17,z18,z19,z20,z21,z22,z23,z24,z25,z26,z27,z28,z29,z30,Int.reduceLE,Int.reduceLT,z31,z32,z33,z34,qa3]
 try simp only[qb5,qb6,qd0,z31,z32,z2,z1]
 rw[Bool.and_eq_true,beq_iff_eq,beq_iff_eq,Bool.eq_false_iff,ne_eq,Bool.and_eq_true,beq_iff_eq,beq_iff_eq]
 unfold xd9
 dsimp only
 refine⟨λh=>(if_pos h).symm,λh=>?_⟩
 rw[if_neg h]
 refine⟨λh1=>(if_pos (.inl h1)).symm,λh1=>⟨λh2=>⟨λh3=>(if_pos (.inr ⟨h2,h3⟩)).symm,λh3=>(if_neg (by omega)).symm⟩,λh2=>(if_neg (by omega)).symm⟩⟩
theorem x76 {a:Int} (h0:0<=a) (h1:a<18446744073709551616):IntKind.u64.wrap ((BitVec.ofInt 64 a &&& BitVec.ofInt 64 4294967295).toNat:Int)=a % 4294967296:=by
 have e1:(BitVec.ofInt 64 a).toNat=a.toNat:=by
  rw[BitVec.toNat_ofInt]
  omega
 have e2:(BitVec.ofInt 64 4294967295).toNat=2 ^ 32-1:=by decide
 rw[BitVec.toNat_and,e1,e2,Nat.and_two_pow_sub_one_eq_mod]
 have e4:((a.toNat % 2 ^ 32:Nat):Int)=a % 4294967296:=by omega
 rw[e4]
 exact Go.IntWalk.u64_in _ (by omega)
theorem w97 {a:Int} (h0:0<=a):a.fdiv 4294967296=a / 4294967296:=Int.fdiv_eq_ediv_of_nonneg _ (by decide)
theorem x0m (n:Int):IntKind.u64.wrap n=n % 18446744073709551616:=rfl
def hiU (n:Int):Int:=n / 18446744073709551616
def loU (n:Int):Int:=n % 18446744073709551616
def spl (n:Int):Int × Int:=(hiU n,loU n)
abbrev x77:qb9:=qg2 true none [tU64,tU64] [tU64,tU64] (λx=>(0<=x.1/\x.1<18446744073709551616)/\0<=x.2.1/\x.2.1<18446744073709551616) (λx=>((spl (x.1*x.2.1)).1,(spl (x.1*x.2.1)).2,()))
theorem wa7:Meets Tryz.prog 198 x77:=by
 refine meets (x7u [50] (SpecsOk.nil _)) Tryz.func198 rfl rfl (λ_ _=>none) (λ_=>by kernel_rfl) (by decide) ?_
 rintro⟨x,y,⟨⟩⟩ h
 revert x y
 intro(x:Int) (y:Int) (h:(0<=x/\x<18446744073709551616)/\0<=y/\y<18446744073709551616)
 refine @qe1 _ ((0:Int)<=(32:Int)/\(0:Int)<=(32:Int)/\fits IntKind.u64 (IntKind.wrap IntKind.u64 (↑(BitVec.toNat (BitVec.ofInt (64:Nat) x &&& BitVec.ofInt (64:Nat) (4294967295:Int))):Int)*IntKind.wrap IntKind.u64 (↑(BitVec.toNat (BitVec.ofInt (64:Nat) y &&& BitVec.ofInt (64:Nat) (4294967295:Int))):Int))/\fits IntKind.u64 (Int.fdiv x (4294967296:Int)*IntKind.wrap IntKind.u64 (↑(BitVec.toNat (BitVec.ofInt (64:Nat) y &&& BitVec.ofInt (64:Nat) (4294967295:Int))):Int))/\(0:Int)<=(32:Int)/\fits IntKind.u64 (Int.fdiv x (4294967296:Int)*IntKind.wrap IntKind.u64 (↑(BitVec.toNat (BitVec.ofInt (64:Nat) y &&& BitVec.ofInt (64:Nat) (4294967295:Int))):Int)+Int.fdiv (IntKind.wrap IntKind.u64 (↑(BitVec.toNat (BitVec.ofInt (64:Nat) x &&& BitVec.ofInt (64:Nat) (4294967295:Int))):Int)*IntKind.wrap IntKind.u64 (↑(BitVec.toNat (BitVec.ofInt (64:Nat) y &&& BitVec.ofInt (64:Nat) (4294967295:Int))):Int)) (4294967296:Int))/\(0:Int)<=(32:Int)/\fits IntKind.u64 (IntKind.wrap IntKind.u64 (↑(BitVec.toNat (BitVec.ofInt (64:Nat) x &&& BitVec.ofInt (64:Nat) (4294967295:Int))):Int)*Int.fdiv y (4294967296:Int))/\fits IntKind.u64 (IntKind.wrap IntKind.u64 (↑(BitVec.toNat (BitVec.ofInt (64:Nat) (Int.fdiv x (4294967296:Int)*IntKind.wrap IntKind.u64 (↑(BitVec.toNat (BitVec.ofInt (64:Nat) y &&& BitVec.ofInt (64:Nat) (4294967295:Int))):Int)+Int.fdiv (IntKind.wrap IntKind.u64 (↑(BitVec.toNat (BitVec.ofInt (64:Nat) x &&& BitVec.ofInt (64:Nat) (4294967295:Int))):Int)*IntKind.wrap IntKind.u64 (↑(BitVec.toNat (BitVec.ofInt (64:Nat) y &&& BitVec.ofInt (64:Nat) (4294967295:Int))):Int)) (4294967296:Int)) &&& BitVec.ofInt (64:Nat) (4294967295:Int))):Int)+IntKind.wrap IntKind.u64 (↑(BitVec.toNat (BitVec.ofInt (64:Nat) x &&& BitVec.ofInt (64:Nat) (4294967295:Int))):Int)*Int.fdiv y (4294967296:Int))/\fits IntKind.u64 (Int.fdiv x (4294967296:Int)*Int.fdiv y (4294967296:Int))/\fits IntKind.u64 (Int.fdiv x (4294967296:Int)*Int.fdiv y (4294967296:Int)+Int.fdiv (Int.fdiv x (4294967296:Int)*IntKind.wrap IntKind.u64 (↑(BitVec.toNat (BitVec.ofInt (64:Nat) y &&& BitVec.ofInt (64:Nat) (4294967295:Int))):Int)+Int.fdiv (IntKind.wrap IntKind.u64 (↑(BitVec.toNat (BitVec.ofInt (64:Nat) x &&& BitVec.ofInt (64:Nat) (4294967295:Int))):Int)*IntKind.wrap IntKind.u64 (↑(BitVec.toNat (BitVec.ofInt (64:Nat) y &&& BitVec.ofInt (64:Nat) (4294967295:Int))):Int)) (4294967296:Int)) (4294967296:Int))/\(0:Int)<=(32:Int)/\fits IntKind.u64 (Int.fdiv x (4294967296:Int)*Int.fdiv y (4294967296:Int)+Int.fdiv (Int.fdiv x (4294967296:Int)*IntKind.wrap IntKind.u64 (↑(BitVec.toNat (BitVec.ofInt (64:Nat) y &&& BitVec.ofInt (64:Nat) (4294967295:Int))):Int)+Int.fdiv (IntKind.wrap IntKind.u64 (↑(BitVec.toNat (BitVec.ofInt (64:Nat) x &&& BitVec.ofInt (64:Nat) (4294967295:Int))):Int)*IntKind.wrap IntKind.u64 (↑(BitVec.toNat (BitVec.ofInt (64:Nat) y &&& BitVec.ofInt (64:Nat) (4294967295:Int))):Int)) (4294967296:Int)) (4294967296:Int)+Int.fdiv (IntKind.wrap IntKind.u64 (↑(BitVec.toNat (BitVec.ofInt (64:Nat) (Int.fdiv x (4294967296:Int)*IntKind.wrap IntKind.u64 (↑(BitVec.toNat (BitVec.ofInt (64:Nat) y &&& BitVec.ofInt (64:Nat) (4294967295:Int))):Int)+Int.fdiv (IntKind.wrap IntKind.u64 (↑(BitVec.toNat (BitVec.ofInt (64:Nat) x &&& BitVec.ofInt (64:Nat) (4294967295:Int))):Int)*IntKind.wrap IntKind.u64 (↑(BitVec.toNat (BitVec.ofInt (64:Nat) y &&& BitVec.ofInt (64:Nat) (4294967295:Int))):Int)) (4294967296:Int)) &&& BitVec.ofInt (64:Nat) (4294967295:Int))):Int)+IntKind.wrap IntKind.u64 (↑(BitVec.toNat (BitVec.ofInt (64:Nat) x &&& BitVec.ofInt (64:Nat) (4294967295:Int))):Int)*Int.fdiv y (4294967296:Int)) (4294967296:Int))/\Int.fdiv x (4294967296:Int)*Int.fdiv y (4294967296:Int)+Int.fdiv (Int.fdiv x (4294967296:Int)*IntKind.wrap IntKind.u64 (↑(BitVec.toNat (BitVec.ofInt (64:Nat) y &&& BitVec.ofInt (64:Nat) (4294967295:Int))):Int)+Int.fdiv (IntKind.wrap IntKind.u64 (↑(BitVec.toNat (BitVec.ofInt (64:Nat) x &&& BitVec.ofInt (64:Nat) (4294967295:Int))):Int)*IntKind.wrap IntKind.u64 (↑(BitVec.toNat (BitVec.ofInt (64:Nat) y &&& BitVec.ofInt (64:Nat) (4294967295:Int))):Int)) (4294967296:Int)) (4294967296:Int)+Int.fdiv (IntKind.wrap IntKind.u64 (↑(BitVec.toNat (BitVec.ofInt (64:Nat) (Int.fdiv x (4294967296:Int)*IntKind.wrap IntKind.u64 (↑(BitVec.toNat (BitVec.ofInt (64:Nat) y &&& BitVec.ofInt (64:Nat) (4294967295:Int))):Int)+Int.fdiv (IntKind.wrap IntKind.u64 (↑(BitVec.toNat (BitVec.ofInt (64:Nat) x &&& BitVec.ofInt (64:Nat) (4294967295:Int))):Int)*IntKind.wrap IntKind.u64 (↑(BitVec.toNat (BitVec.ofInt (64:Nat) y &&& BitVec.ofInt (64:Nat) (4294967295:Int))):Int)) (4294967296:Int)) &&& BitVec.ofInt (64:Nat) (4294967295:Int))):Int)+IntKind.wrap IntKind.u64 (↑(BitVec.toNat (BitVec.ofInt (64:Nat) x &&& BitVec.ofInt (64:Nat) (4294967295:Int))):Int)*Int.fdiv y (4294967296:Int)) (4294967296:Int)=(spl (x*y)).1/\IntKind.wrap IntKind.u64 (x*y)=(spl (x*y)).2/\True) (by kernel_rfl) ?_
 try simp only[z0,z1,z2,z3,z4,z5,z6,z7,z8,z9,z10,Int.reduceEq,z11,z12,z13,z14,z15,z16,z17,z18,z19,z20,z21,z22,z23,z24,z25,z26,z27,z28,z29,z30,Int.reduceLE,Int.reduceLT,z31,z32,z33,z34,qa3]
 try simp only[qb5,qb6,qd0,z31,z32,z2,z1]
 obtain⟨⟨x0,x1⟩,y0,y1⟩:=h
 simp only[x76 x0 x1,x76 y0 y1,w97 x0,w97 y0]
 have hmul:∀u v:Int,0<=u->u<=4294967295->0<=v->v<=4294967295->0<=u*v/\u*v<=18446744065119617025:=λu v a1 a2 a3 a4=>⟨Int.mul_nonneg a1 a3,Int.le_trans (Int.mul_le_mul a2 a4 a3 (by decide)) (by decide)⟩
 have P:=hmul (x % 4294967296) (y % 4294967296) (by omega) (by omega) (by omega) (by omega)
 have Q:=hmul (x / 4294967296) (y % 4294967296) (by omega) (by omega) (by omega) (by omega)
 have R:=hmul (x % 4294967296) (y / 4294967296) (by omega) (by omega) (by omega) (by omega)
 have S:=hmul (x / 4294967296) (y / 4294967296) (by omega) (by omega) (by omega) (by omega)
 have hxy:x*y=(x / 4294967296)*(y / 4294967296)*18446744073709551616+((x / 4294967296)*(y % 4294967296)+(x % 4294967296)*(y / 4294967296))*4294967296+(x % 4294967296)*(y % 4294967296):=by
  have e1:x=4294967296*(x / 4294967296)+x % 4294967296:=by omega
  have e2:y=4294967296*(y / 4294967296)+y % 4294967296:=by omega
  generalize x / 4294967296=a at e1 ⊢
  generalize x % 4294967296=b at e1 ⊢
  generalize y / 4294967296=c at e2 ⊢
  generalize y % 4294967296=d at e2 ⊢
  rw[e1,e2]
  grind
 rw[x0m (x*y)]
 unfold spl hiU loU
 generalize x*y=xy at hxy ⊢
 generalize x % 4294967296*(y % 4294967296)=p at P hxy ⊢
 generalize x / 4294967296*(y % 4294967296)=q at Q hxy ⊢
 generalize x % 4294967296*(y / 4294967296)=r at R hxy ⊢
 generalize x / 4294967296*(y / 4294967296)=s at S hxy ⊢
 have t0:0<=q+p / 4294967296:=by omega
 have t1:q+p / 4294967296<18446744073709551616:=by omega
 simp only[w97 P.1,x76 t0 t1,w97 t0]
 have u0:0<=(q+p / 4294967296) % 4294967296+r:=by omega
 simp only[w97 u0]
 refine⟨xn8 (by omega) (by omega),xn8 (by omega) (by omega),xn8 (by omega) (by omega),xn8 (by omega) (by omega),xn8 (by omega) (by omega),xn8 (by omega) (by omega),xn8 (by omega) (by omega),xn8 (by omega) (by omega),?_,trivial⟩
 (try dsimp only); omega
abbrev x78:qb9:=qg2 true none [tInt] [tU64] (λx=>qd6 BIG x.1) (λx=>((x.1.natAbs:Int),()))
theorem wa8:Meets Tryz.prog 230 x78:=by
 refine meets (x7u [6,7] (SpecsOk.nil _)) Tryz.func230 rfl rfl (λ_ _=>none) (λ_=>by kernel_rfl) (by decide) ?_
 rintro⟨x,⟨⟩⟩ h
 revert x
 intro(x:Int) (h:qd6 BIG x)
 refine @qe1 _ ((decide (x<(0:Int))=true->IntKind.wrap IntKind.u64 ((0:Int)-IntKind.wrap IntKind.u64 x)=(↑(Int.natAbs x):Int))/\(decide (x<(0:Int))=false->fits IntKind.u64 x/\x=(↑(Int.natAbs x):Int))) (by kernel_rfl) ?_
 try simp only[z0,z1,z2,z3,z4,z5,z6,z7,z8,z9,z10,Int.reduceEq,z11,z12,z13,z14,z15,z16,z17,z18,z19,z20,z21,z22,z23,z24,z25,z26,z27,z28,z29,z30,Int.reduceLE,Int.reduceLT,z31,z32,z33,z34,qa3]
 try simp only[qb5,qb6,qd0,z31,z32,z2,z1]
 have hB:BIG=4000000000000000000:=rfl
 unfold qd6 at h
 refine⟨λhl=>?_,λhl=>⟨xn8 (by omega) (by omega),by omega⟩⟩
 rw[x0m,x0m]; omega
structure ws3 (a b:Int):Prop where
 fa:qd6 BIG a
 fb:qd6 BIG b
 sg:decide (a<0)=decide (b<0)
abbrev x79:qb9:=qg2 true none [tInt,tInt] [w96] (λx=>ws3 x.1 x.2.1) (λx=>(spl (x.1*x.2.1),()))
theorem w46:Meets Tryz.prog 195 x79:=by
 refine meets (snd (SpecsOk.cons wa7 (SpecsOk.cons wa8 (SpecsOk.nil _)))) Tryz.func195 rfl rfl (λ_ _=>none) (λ_=>by kernel_rfl) (by decide) ?_
 rintro⟨x,y,⟨⟩⟩ h
 revert x y
 intro(x:Int) (y:Int) (h:ws3 x y)
 refine @qe1 _ (let Q0:=Int.natAbs y; let Q1:=Int.natAbs x; qd6 BIG x/\qd6 BIG y/\(((0:Ty.den tU64)<=(↑Q1:Int)/\(↑Q1:Int)<(18446744073709551616:Ty.den tU64))/\(0:Ty.den tU64)<=(↑Q0:Int)/\(↑Q0:Int)<(18446744073709551616:Ty.den tU64))/\fits .i64 (spl ((↑Q1:Int)*(↑Q0:Int))).1/\((decide (x<(0:Int)) != decide (y<(0:Int)))=true->False)/\((decide (x<(0:Int)) != decide (y<(0:Int)))=false->(spl ((↑Q1:Int)*(↑Q0:Int))).1=(spl (x*y)).1/\(spl ((↑Q1:Int)*(↑Q0:Int))).2=(spl (x*y)).2/\True)) (by kernel_rfl) ?_
 try simp only[z0,z1,z2,z3,z4,z5,z6,z7,z8,z9,z10,Int.reduceEq,z11,z12,z13,z14,z15,z16,z17,z18,z19,z20,z21,z22,z23,z24,z25,z26,z27,z28,z29,z30,Int.reduceLE,Int.reduceLT,z31,z32,z33,z34,qa3]
 try simp only[qb5,qb6,qd0,z31,z32,z2,z1]
 have hB:BIG=4000000000000000000:=rfl
 obtain⟨hx,hy,hs⟩:=h
 have e:(x.natAbs:Int)*(y.natAbs:Int)=x*y:=by
  rw[decide_eq_decide] at hs
  rcases Int.lt_or_le x 0 with q | q
  ·rw[show((x.natAbs:Nat):Int)=-x by omega,show((y.natAbs:Nat):Int)=-y by omega,Int.neg_mul_neg]
  ·rw[show((x.natAbs:Nat):Int)=x by omega,show((y.natAbs:Nat):Int)=y by omega]
 have hb:0<=x*y/\x*y<=16000000000000000000000000000000000000:=by
  unfold qd6 at hx hy
  rw[<- e]
  exact⟨Int.mul_nonneg (by omega) (by omega),Int.le_trans (Int.mul_le_mul (show(x.natAbs:Int)<=4000000000000000000 by omega) (show(y.natAbs:Int)<=4000000000000000000 by omega) (by omega) (by decide)) (by decide)⟩
 rw[e]
 unfold spl hiU loU
 refine⟨hx,hy,?_,qa9 (by(try dsimp only); omega) (by(try dsimp only); omega),λq=>absurd hs q,λ_=>⟨rfl,rfl⟩⟩
 unfold qd6 at hx hy
 omega
structure ws4 (w:Int × Int) (n:Int):Prop where
 h0:0<=w.1
 h1:w.1<=1000000000000000
 l0:0<=w.2
 l1:w.2<18446744073709551616
 n0:0<=n
 n1:n<=1000
def w98 (w:Int × Int) (n:Int):Int × Int:=(w.1*n+(spl (w.2*n)).1,(spl (w.2*n)).2)
abbrev x8a:qb9:=qg2 true none [w96,tInt] [w96] (λx=>ws4 x.1 x.2.1) (λx=>(w98 x.1 x.2.1,()))
theorem w47:Meets Tryz.prog 196 x8a:=by
 refine meets (snd (SpecsOk.cons wa7 (SpecsOk.cons wa8 (SpecsOk.nil _)))) Tryz.func196 rfl rfl (λ_ _=>none) (λ_=>by kernel_rfl) (by decide) ?_
 rintro⟨w,n,⟨⟩⟩ h
 revert w n
 intro(w:Int × Int) (n:Int) (h:ws4 w n)
 refine @qe1 _ (let Q0:=Int.natAbs n; (decide (w.1<(0:Int))=true->False)/\(decide (w.1<(0:Int))=false->qd6 BIG n/\(((0:Ty.den tU64)<=w.2/\w.2<(18446744073709551616:Ty.den tU64))/\(0:Ty.den tU64)<=(↑Q0:Int)/\(↑Q0:Int)<(18446744073709551616:Ty.den tU64))/\qd6 BIG n/\fits .i64 (↑Q0:Int)/\fits .i64 (w.1*(↑Q0:Int))/\fits .i64 (spl (w.2*(↑Q0:Int))).1/\fits .i64 (w.1*(↑Q0:Int)+(spl (w.2*(↑Q0:Int))).1)/\(decide (n<(0:Int))=true->False)/\(decide (n<(0:Int))=false->w.1*(↑Q0:Int)+(spl (w.2*(↑Q0:Int))).1=(w98 w n).1/\(spl (w.2*(↑Q0:Int))).2=(w98 w n).2/\True))) (by kernel_rfl) ?_
 try simp only[z0,z1,z2,z3,z4,z5,z6,z7,z8,z9,z10,Int.reduceEq,z11,z12,z13,z14,z15,z16,z17,z18,z19,z20,z21,z22,z23,z24,z25,z26,z27,z28,z29,z30,Int.reduceLE,Int.reduceLT,z31,z32,z33,z34,qa3]
 try simp only[qb5,qb6,qd0,z31,z32,z2,z1]
 have hB:BIG=4000000000000000000:=rfl
 obtain⟨h0,h1,l0,l1,n0,n1⟩:=h
 have en:((n.natAbs:Nat):Int)=n:=by omega
 have hn:qd6 BIG n:=by unfold qd6; omega
 have hb1:0<=w.1*n/\w.1*n<=1000000000000000000:=⟨Int.mul_nonneg h0 n0,Int.le_trans (Int.mul_le_mul h1 n1 n0 (by decide)) (by decide)⟩
 have hb2:0<=w.2*n/\w.2*n<=18446744073709551616000:=⟨Int.mul_nonneg l0 n0,Int.le_trans (Int.mul_le_mul (show w.2<=18446744073709551616 by omega) n1 n0 (by decide)) (by decide)⟩
 rw[en]
 refine⟨λq=>absurd q (by omega),λ_=>⟨hn,⟨⟨l0,l1⟩,by omega⟩,hn,qa9 (by omega) (by omega),qa9 (by omega) (by omega),?_,?_,λq=>absurd q (by omega),λ_=>⟨rfl,rfl⟩⟩⟩
 ·unfold spl hiU loU; exact qa9 (by(try dsimp only); omega) (by(try dsimp only); omega)
 ·unfold spl hiU loU; exact qa9 (by(try dsimp only); omega) (by(try dsimp only); omega)
theorem x4o (u v:Int):((spl v).1<(spl u).1\/(spl u).1=(spl v).1/\(spl v).2<(spl u).2)↔v<u:=by
 unfold spl hiU loU; dsimp only; omega
abbrev qu5:Ty:=.prod (.int .i64) (.prod (.int .i64) (.int .i64))
structure qq3 (c:Int × Int × Int):Prop where
 p:qd6 1000000000000000 c.2.1
 l0:0<=c.2.2
 l1:c.2.2<=1000
def w5q (a b:Int × Int × Int):Bool:=decide (b.2.1*b.2.1*a.2.2<a.2.1*a.2.1*b.2.2)
theorem w99 {u n:Int}:w98 (spl u) n=spl (u*n):=by
 have e:u*n=(u / 18446744073709551616)*n*18446744073709551616+(u % 18446744073709551616)*n:=by
  have:u=18446744073709551616*(u / 18446744073709551616)+u % 18446744073709551616:=by omega
  generalize u / 18446744073709551616=a at this ⊢
  generalize u % 18446744073709551616=b at this ⊢
  rw[this]; grind
 unfold w98 spl hiU loU
 dsimp only
 rw[e]
 generalize(u / 18446744073709551616)*n=a
 generalize(u % 18446744073709551616)*n=b
 refine Prod.ext ?_ ?_ <;> (dsimp only; omega)
theorem x4p {p:Int} (h:qd6 1000000000000000 p):0<=p*p/\p*p<=1000000000000000000000000000000:=by
 unfold qd6 at h
 have e:p*p=(p.natAbs:Int)*(p.natAbs:Int):=by
  rcases Int.lt_or_le p 0 with q | q
  ·rw[show((p.natAbs:Nat):Int)=-p by omega,Int.neg_mul_neg]
  ·rw[show((p.natAbs:Nat):Int)=p by omega]
 rw[e]
 exact⟨Int.mul_nonneg (by omega) (by omega),Int.le_trans (Int.mul_le_mul (show(p.natAbs:Int)<=1000000000000000 by omega) (show(p.natAbs:Int)<=1000000000000000 by omega) (by omega) (by decide)) (by decide)⟩
abbrev x4q:qb9:=qg2 true none [qu5,qu5] [.bool] (λx=>qq3 x.1/\qq3 x.2.1) (λx=>(w5q x.1 x.2.1,()))
set_option maxHeartbeats 4000000 in
theorem wa9:Meets Tryz.prog 146 x4q:=by
 refine meets (snd (SpecsOk.cons w46 (SpecsOk.cons w47 (SpecsOk.cons w45 (SpecsOk.nil _))))) Tryz.func146 rfl rfl (λ_ _=>none) (λ_=>by kernel_rfl) (by decide) ?_
 rintro⟨a,b,⟨⟩⟩ h
 revert a b
 intro(a:Int × Int × Int) (b:Int × Int × Int) (h:qq3 a/\qq3 b)
 refine @qe1 _ (let Q0:=((spl (b.2.1*b.2.1)).1,(spl (b.2.1*b.2.1)).2); let Q1:=((spl (a.2.1*a.2.1)).1,(spl (a.2.1*a.2.1)).2); ws3 a.2.1 a.2.1/\ws4 Q1 b.2.2/\ws3 b.2.1 b.2.1/\ws4 Q0 a.2.2/\True/\decide ((0:Int)<xd9 ((w98 Q1 b.2.2).1,(w98 Q1 b.2.2).2) ((w98 Q0 a.2.2).1,(w98 Q0 a.2.2).2))=w5q a b) (by kernel_rfl) ?_
 try simp only[z0,z1,z2,z3,z4,z5,z6,z7,z8,z9,z10,Int.reduceEq,z11,z12,z13,z14,z15,z16,z17,z18,z19,z20,z21,z22,z23,z24,z25,z26,z27,z28,z29,z30,Int.reduceLE,Int.reduceLT,z31,z32,z33,z34,qa3]
 try simp only[qb5,qb6,qd0,z31,z32,z2,z1]
 obtain⟨⟨ap,al0,al1⟩,bp,bl0,bl1⟩:=h
 have sa:=x4p ap
 have sb:=x4p bp
 have hB:BIG=4000000000000000000:=rfl
 have hpp:∀p:Int,qd6 1000000000000000 p->ws3 p p:=λp h=>⟨by unfold qd6 at *; omega,by unfold qd6 at *; omega,rfl⟩
 have htp:∀u n:Int,(0<=u/\u<=1000000000000000000000000000000)->0<=n->n<=1000->ws4 (spl u) n:=λu n h h0 h1=>by
  unfold spl hiU loU
  exact⟨by(try dsimp only); omega,by(try dsimp only); omega,by(try dsimp only); omega,by(try dsimp only); omega,h0,h1⟩
 refine⟨hpp _ ap,htp _ _ sa bl0 bl1,hpp _ bp,htp _ _ sb al0 al1,?_⟩
 change decide (0<xd9 (w98 (spl (a.2.1*a.2.1)) b.2.2) (w98 (spl (b.2.1*b.2.1)) a.2.2))=w5q a b
 rw[w99,w99]
 unfold w5q
 rw[decide_eq_decide,<- x4o (a.2.1*a.2.1*b.2.2) (b.2.1*b.2.1*a.2.2)]
 unfold xd9
 generalize spl (a.2.1*a.2.1*b.2.2)=u
 generalize spl (b.2.1*b.2.1*a.2.2)=v
 split
 ·omega
 ·split <;> omega
abbrev ya8:qb9:=qg2 true none [tInt] [.bool] (λ_=>True) (λx=>(x.1 != 0,()))
theorem xa1:Meets Tryz.prog 194 ya8:=by
 refine meets (snd (SpecsOk.nil _)) Tryz.func194 rfl rfl (λ_ _=>none) (λ_=>by kernel_rfl) (by decide) ?_
 rintro⟨n,⟨⟩⟩ -
 revert n
 intro(n:Int)
 refine @qe1 _ ((n != (0:Int))=(n != (0:Ty.den tInt))) (by kernel_rfl) ?_
 try simp only[z0,z1,z2,z3,z4,z5,z6,z7,z8,z9,z10,Int.reduceEq,z11,z12,z13,z14,z15,z16,z17,z18,z19,z20,z21,z22,z23,z24,z25,z26,z27,z28,z29,z30,Int.reduceLE,Int.reduceLT,z31,z32,z33,z34,qa3]
 try simp only[qb5,qb6,qd0,z31,z32,z2,z1]
 done
def q0j (l:List Int):Bool:=!(l.any λe=>e != 0)
abbrev sOv:qb9:=qg2 true none [tInts] [.bool] (λx=>x.1.length<=1000000) (λx=>(q0j x.1,()))
theorem xn9:Meets Tryz.prog 143 sOv:=by
 refine meets (snd (SpecsOk.cons (q3q (fs:=[(194,ya8)]) (SpecsOk.cons xa1 (SpecsOk.nil _))) (SpecsOk.nil _))) Tryz.func143 rfl rfl (λ_ _=>none) (λ_=>by kernel_rfl) (by decide) ?_
 rintro⟨l,⟨⟩⟩ h
 revert l
 intro(l:List Int) (h:l.length<=1000000)
 refine @qe1 _ (∃(v0:qa5 [Ty.int .i64]->Prop),∃(v1:qa5 [Ty.int .i64]->Bool),(∀(v2:Int × qa5._f [] PUnit.unit),v0 v2->True/\(v2.1 != (0:Ty.den tInt))=v1 v2)/\(l.length<=(1000000:Nat)/\∀(v2:Nat),v2<l.length->v0 (nI l v2,()))/\(!List.any l λ(v2:Int)=>v1 (v2,()))=q0j l) (by kernel_rfl) ?_
 try simp only[z0,z1,z2,z3,z4,z5,z6,z7,z8,z9,z10,Int.reduceEq,z11,z12,z13,z14,z15,z16,z17,z18,z19,z20,z21,z22,z23,z24,z25,z26,z27,z28,z29,z30,Int.reduceLE,Int.reduceLT,z31,z32,z33,z34,qa3]
 try simp only[qb5,qb6,qd0,z31,z32,z2,z1]
 exact⟨λ_=>True,λx=>x.1 != 0,λ_ _=>rfl,⟨h,λ_ _=>trivial⟩,by simp[q0j]⟩
abbrev x4r:Ty:=.list (.prod (.int .i64) (.prod (.int .i64) (.int .i64)))
def nC (l:List (Int × Int × Int)) (i:Nat):Int × Int × Int:=qd4 qu5 l i
def qd5 (l:List (Int × Int × Int)):Nat->Int × Int × Int
 | 0=>(0,0,0)
 | i+1=>if i=0\/w5q (nC l i) (qd5 l i)=true then nC l i else qd5 l i
theorem ws5 {l:List (Int × Int × Int)} (h:∀i,i<l.length->qq3 (nC l i)):∀i,i<=l.length->qq3 (qd5 l i)
 | 0,_=>⟨by show qd6 1000000000000000 0; unfold qd6; omega,by show(0:Int)<=0; omega,by show(0:Int)<=1000; omega⟩
 | i+1,hi=>by
  rw[qd5]; split
  ·exact h i (by omega)
  ·exact ws5 h i (by omega)
abbrev ya9 (c:Int × Int × Int):AObj:=.box 163 (.cons (.lit (.int .i64 c.1)) (.cons (.lit (.int .i64 c.2.1)) (.cons (.lit (.int .i64 c.2.2)) .nil)))
def x8c (l:List (Int × Int × Int)):Nat->Option Inv
 | 0=>some (Inv.of [11] 2 (λi:Nat=>[(11,.lit (.int .i64 i))]) (λi=>[ya9 (0,0,0),ya9 (qd5 l i)]) (λi=>i<=l.length) (λi=>l.length-i))
 | _=>none
abbrev x8d:qb9:=hspec [(146,x4q)] true none [.d x4r,.fn [qu5,qu5] .bool] [qu5,.bool] (λx=>x.1.length<=1000000/\(∀i,i<x.1.length->qq3 (nC x.1 i))/\(∀a b,qq3 a->qq3 b->x.2.1.1 (a,b,()))/\∀a b,qq3 a->qq3 b->x.2.1.2 (a,b,())=w5q a b) (λx=>(qd5 x.1 x.1.length,decide (0<(x.1.length:Int)),()))
theorem w48:Meets Tryz.prog 145 x8d:=by
 refine qr1 (SpecsOk.cons wa9 (SpecsOk.nil _)) (snd (SpecsOk.nil _)) Tryz.func145 rfl rfl (λx=>x8c x.1) (λ_=>by kernel_rfl) (by decide) ?_
 rintro⟨l,⟨p,f⟩,⟨⟩⟩ h
 revert l p f
 intro(l:List (Int × Int × Int)) (p:qa5 [qu5,qu5]->Prop) (f:qa5 [qu5,qu5]->Bool) (h:l.length<=1000000/\(∀i,i<l.length->qq3 (nC l i))/\(∀a b,qq3 a->qq3 b->p (a,b,()))/\∀a b,qq3 a->qq3 b->f (a,b,())=w5q a b)
 refine @qe1 _ (let Q0:=qd5 l l.length; ∃(v0:Unit),∃(v1:Nat),Nat.le v1 l.length/\(((0:Int)=(↑v1:Int)/\True)/\((0:Int)=(0:Int)/\(0:Int)=(0:Int)/\(0:Int)=(0:Int)/\True)/\((0:Int)=(qd5 l v1).1/\(0:Int)=(qd5 l v1).2.1/\(0:Int)=(qd5 l v1).2.2/\True)/\True)/\∀(v2:Nat),Nat.le v2 l.length->(decide ((↑v2:Int)<(↑l.length:Int))=true->((0:Int)<=(↑v2:Int)/\(↑v2:Int)<(↑l.length:Int))/\(((↑v2:Int)==(0:Int))=true->fits .i64 ((↑v2:Int)+(1:Int))/\∃(v6:Nat),Nat.le v6 l.length/\l.length-v6<l.length-v2/\((↑v2:Int)+(1:Int)=(↑v6:Int)/\True)/\((0:Int)=(0:Int)/\(0:Int)=(0:Int)/\(0:Int)=(0:Int)/\True)/\((qd4 (Ty.prod (Ty.int .i64) (Ty.prod (Ty.int .i64) (Ty.int .i64))) l v2).1=(qd5 l v6).1/\(qd4 (Ty.prod (Ty.int .i64) (Ty.prod (Ty.int .i64) (Ty.int .i64))) l v2).2.1=(qd5 l v6).2.1/\(qd4 (Ty.prod (Ty.int .i64) (Ty.prod (Ty.int .i64) (Ty.int .i64))) l v2).2.2=(qd5 l v6).2.2/\True)/\True)/\(((↑v2:Int)==(0:Int))=false->p (((qd4 (Ty.prod (Ty.int .i64) (Ty.prod (Ty.int .i64) (Ty.int .i64))) l v2).1,(qd4 (Ty.prod (Ty.int .i64) (Ty.prod (Ty.int .i64) (Ty.int .i64))) l v2).2.1,(qd4 (Ty.prod (Ty.int .i64) (Ty.prod (Ty.int .i64) (Ty.int .i64))) l v2).2.2),((qd5 l v2).1,(qd5 l v2).2.1,(qd5 l v2).2.2),())/\(f (((qd4 (Ty.prod (Ty.int .i64) (Ty.prod (Ty.int .i64) (Ty.int .i64))) l v2).1,(qd4 (Ty.prod (Ty.int .i64) (Ty.prod (Ty.int .i64) (Ty.int .i64))) l v2).2.1,(qd4 (Ty.prod (Ty.int .i64) (Ty.prod (Ty.int .i64) (Ty.int .i64))) l v2).2.2),((qd5 l v2).1,(qd5 l v2).2.1,(qd5 l v2).2.2),())=true->fits .i64 ((↑v2:Int)+(1:Int))/\∃(v7:Nat),Nat.le v7 l.length/\l.length-v7<l.length-v2/\((↑v2:Int)+(1:Int)=(↑v7:Int)/\True)/\((0:Int)=(0:Int)/\(0:Int)=(0:Int)/\(0:Int)=(0:Int)/\True)/\((qd4 (Ty.prod (Ty.int .i64) (Ty.prod (Ty.int .i64) (Ty.int .i64))) l v2).1=(qd5 l v7).1/\(qd4 (Ty.prod (Ty.int .i64) (Ty.prod (Ty.int .i64) (Ty.int .i64))) l v2).2.1=(qd5 l v7).2.1/\(qd4 (Ty.prod (Ty.int .i64) (Ty.prod (Ty.int .i64) (Ty.int .i64))) l v2).2.2=(qd5 l v7).2.2/\True)/\True)/\(f (((qd4 (Ty.prod (Ty.int .i64) (Ty.prod (Ty.int .i64) (Ty.int .i64))) l v2).1,(qd4 (Ty.prod (Ty.int .i64) (Ty.prod (Ty.int .i64) (Ty.int .i64))) l v2).2.1,(qd4 (Ty.prod (Ty.int .i64) (Ty.prod (Ty.int .i64) (Ty.int .i64))) l v2).2.2),((qd5 l v2).1,(qd5 l v2).2.1,(qd5 l v2).2.2),())=false->fits .i64 ((↑v2:Int)+(1:Int))/\∃(v7:Nat),Nat.le v7 l.length/\l.length-v7<l.length-v2/\((↑v2:Int)+(1:Int)=(↑v7:Int)/\True)/\((0:Int)=(0:Int)/\(0:Int)=(0:Int)/\(0:Int)=(0:Int)/\True)/\((qd5 l v2).1=(qd5 l v7).1/\(qd5 l v2).2.1=(qd5 l v7).2.1/\(qd5 l v2).2.2=(qd5 l v7).2.2/\True)/\True)))/\(decide ((↑v2:Int)<(↑l.length:Int))=false->((qd5 l v2).1=Q0.1/\(qd5 l v2).2.1=Q0.2.1/\(qd5 l v2).2.2=Q0.2.2/\True)/\decide ((0:Int)<(↑l.length:Int))=decide ((0:Int)<(↑l.length:Int))/\True)) (by kernel_rfl) ?_
 try simp only[z0,z1,z2,z3,z4,z5,z6,z7,z8,z9,z10,Int.reduceEq,z11,z12,z13,z14,z15,z16,z17,z18,z19,z20,z21,z22,z23,z24,z25,z26,z27,z28,z29,z30,Int.reduceLE,Int.reduceLT,z31,z32,z33,z34,qa3]
 try simp only[qb5,qb6,qd0,z31,z32,z2,z1]
 obtain⟨hl,hc,hp,hf⟩:=h
 have hb:=ws5 hc
 refine⟨(),0,Nat.zero_le _,⟨rfl,rfl,rfl,rfl⟩,λi hi=>⟨λhlt=>⟨hlt,λh0=>?_,λh0=>?_⟩,λhge=>?_⟩⟩
 ·have e:qd5 l (i+1)=nC l i:=by rw[qd5,if_pos (.inl (by omega))]
  exact⟨qa9 (by omega) (by omega),i+1,by omega,by omega,by omega,by rw[e]; rfl,by rw[e]; rfl,by rw[e]; rfl⟩
 ·have hne:¬i=0:=λq=>h0 (by omega)
  have hx:=hf (nC l i) (qd5 l i) (hc i hlt) (hb i (by omega))
  change f (nC l i,qd5 l i,())=_ at hx
  refine⟨hp _ _ (hc i hlt) (hb i (by omega)),λh1=>?_,λh1=>?_⟩
  ·change f (nC l i,qd5 l i,())=true at h1
   have e:qd5 l (i+1)=nC l i:=by rw[qd5,if_pos (.inr (hx ▸ h1))]
   exact⟨qa9 (by omega) (by omega),i+1,by omega,by omega,by omega,by rw[e]; rfl,by rw[e]; rfl,by rw[e]; rfl⟩
  ·change f (nC l i,qd5 l i,())=false at h1
   have e:qd5 l (i+1)=qd5 l i:=by rw[qd5,if_neg (λq=>q.elim hne λq=>by rw[<- hx,h1] at q; cases q)]
   exact⟨qa9 (by omega) (by omega),i+1,by omega,by omega,by omega,by rw[e],by rw[e],by rw[e]⟩
 ·obtain rfl:i=l.length:=by omega
  exact⟨rfl,rfl,rfl⟩
def qh6 (m:List (List Int)) (r:List Int):Nat->List (Int × Int × Int)
 | 0=>[]
 | j+1=>if q0j (colL m j)=true then qh6 m r j else qh6 m r j++[((j:Int),qh0 (colL m j) r m.length,qh0 (colL m j) (colL m j) m.length)]
def qr8 (m:List (List Int)) (r:List Int):List (Int × Int × Int):=qh6 m r (nL m 0).length
def wb0 (m:List (List Int)) (r:List Int):Int × Int:=if q0j r=true then(0,8) else if(qr8 m r).length=0\/(qd5 (qr8 m r) (qr8 m r).length).2.1=0 then(0,10) else((qd5 (qr8 m r) (qr8 m r).length).1,0)
def qk4 (m:List (List Int)) (y C:List Int):Int × Int:=wb0 m (qg9 m y C)
structure xo0 (m:List (List Int)) (y C:List Int):Prop where
 rs:w95 m y C
 one:0<m.length
 pix:(nL m 0).length<=1000
 col:∀j:Nat,j<(nL m 0).length->q2i m j
 dot:∀j,j<(nL m 0).length->qv6 (colL m j) (qg9 m y C)/\qv6 (colL m j) (colL m j)
 cnd:∀j,j<(nL m 0).length->qq3 ((j:Int),qh0 (colL m j) (qg9 m y C) m.length,qh0 (colL m j) (colL m j) m.length)
theorem q42 (m:List (List Int)) (r:List Int):∀j,(qh6 m r j).length<=j
 | 0=>Nat.le_refl _
 | j+1=>by
  have:=q42 m r j
  rw[qh6]; split
  ·omega
  ·simp; omega
theorem q6f {m:List (List Int)} {r:List Int}:∀{J:Nat} {c:Int × Int × Int},c∈qh6 m r J->∃j,j<J/\c=((j:Int),qh0 (colL m j) r m.length,qh0 (colL m j) (colL m j) m.length)
 | 0,c,h=>by cases h
 | J+1,c,h=>by
  rw[qh6] at h
  split at h
  ·obtain⟨j,h1,h2⟩:=q6f h
   exact⟨j,by omega,h2⟩
  ·rcases List.mem_append.1 h with h | h
   ·obtain⟨j,h1,h2⟩:=q6f h
    exact⟨j,by omega,h2⟩
   ·exact⟨J,Nat.lt_succ_self J,List.mem_singleton.1 h⟩
abbrev yf7:qb9:=qg2 true none [tP] [tInt,tInt] (λx=>xo0 x.1.1.1 x.1.1.2 x.1.2) (λx=>((qk4 x.1.1.1 x.1.1.2 x.1.2).1,(qk4 x.1.1.1 x.1.1.2 x.1.2).2,()))
def x8e (m:List (List Int)) (y C:List Int):Nat->Option Inv
 | 0=>some (Inv.of [6,21] 2 (λj:Nat=>[(6,.own 1),(21,.lit (.int .i64 j))]) (λj=>[pBox m y C,.vec 163 qu5 (qh6 m (qg9 m y C) j)]) (λj=>j<=(nL m 0).length) (λj=>(nL m 0).length-j))
 | _=>none
theorem xa2:Meets Tryz.prog 85 yf7:=by
 refine meets (snd (SpecsOk.cons wz5 (SpecsOk.cons xn9 (SpecsOk.cons q9z (SpecsOk.cons wa5 (SpecsOk.cons wa6 (SpecsOk.cons w48 (SpecsOk.cons wa9 (SpecsOk.nil _))))))))) Tryz.func85 rfl rfl (λx=>x8e x.1.1.1 x.1.1.2 x.1.2) (λ_=>by kernel_rfl) (by decide) ?_
 rintro⟨p,⟨⟩⟩ h
 revert p
 intro(p:(List (List Int) × List Int) × List Int) (h:xo0 p.1.1 p.1.2 p.2)
 refine @qe1 _ (let Q0:=qg9 p.1.1 p.1.2 p.2; let Q1:=qk4 p.1.1 p.1.2 p.2; w95 p.1.1 p.1.2 p.2/\Q0.length<=(1000000:Nat)/\(q0j Q0=true->(0:Int)=Q1.1/\(8:Int)=Q1.2/\True)/\(q0j Q0=false->(0:Nat)<p.1.1.length/\∃(v1:Unit),∃(v2:Nat),Nat.le v2 (nL p.1.1 (0:Nat)).length/\((True/\(0:Int)=(↑v2:Int)/\True)/\(p.1.1=p.1.1/\p.1.2=p.1.2/\p.2=p.2/\True)/\qh6 p.1.1 Q0 v2=[]/\True)/\∀(v3:Nat),Nat.le v3 (nL p.1.1 (0:Nat)).length->(decide ((↑v3:Int)<(↑(nL p.1.1 (0:Nat)).length:Int))=true->q2i p.1.1 (↑v3:Int)/\(colL p.1.1 v3).length<=(1000000:Nat)/\((!q0j (colL p.1.1 v3))=true->qv6 (colL p.1.1 v3) Q0/\qv6 (colL p.1.1 v3) (colL p.1.1 v3)/\((0:Nat)<List.length [((↑v3:Int),qh0 (colL p.1.1 v3) Q0 (colL p.1.1 v3).length,qh0 (colL p.1.1 v3) (colL p.1.1 v3) (colL p.1.1 v3).length)]/\Nat.le ((qh6 p.1.1 Q0 v3).length+List.length [((↑v3:Int),qh0 (colL p.1.1 v3) Q0 (colL p.1.1 v3).length,qh0 (colL p.1.1 v3) (colL p.1.1 v3) (colL p.1.1 v3).length)]) (1000000:Nat))/\fits .i64 ((↑v3:Int)+(1:Int))/\∃(v7:Nat),Nat.le v7 (nL p.1.1 (0:Nat)).length/\(nL p.1.1 (0:Nat)).length-v7<(nL p.1.1 (0:Nat)).length-v3/\(True/\(↑v3:Int)+(1:Int)=(↑v7:Int)/\True)/\(p.1.1=p.1.1/\p.1.2=p.1.2/\p.2=p.2/\True)/\qh6 p.1.1 Q0 v3++[((↑v3:Int),qh0 (colL p.1.1 v3) Q0 (colL p.1.1 v3).length,qh0 (colL p.1.1 v3) (colL p.1.1 v3) (colL p.1.1 v3).length)]=qh6 p.1.1 Q0 v7/\True)/\((!q0j (colL p.1.1 v3))=false->fits .i64 ((↑v3:Int)+(1:Int))/\∃(v7:Nat),Nat.le v7 (nL p.1.1 (0:Nat)).length/\(nL p.1.1 (0:Nat)).length-v7<(nL p.1.1 (0:Nat)).length-v3/\(True/\(↑v3:Int)+(1:Int)=(↑v7:Int)/\True)/\(p.1.1=p.1.1/\p.1.2=p.1.2/\p.2=p.2/\True)/\qh6 p.1.1 Q0 v3=qh6 p.1.1 Q0 v7/\True))/\(decide ((↑v3:Int)<(↑(nL p.1.1 (0:Nat)).length:Int))=false->∃(v6:qa5 [qu5,qu5]->Prop),∃(v7:qa5 [qu5,qu5]->Bool),(∀(v8:(Int × Int × Int) × qa5._f [qu5] ⟨qa5._f [] PUnit.unit,PUnit.unit⟩),v6 v8->(qq3 (v8.1.1,v8.1.2.1,v8.1.2.2)/\qq3 (v8.2.1.1,v8.2.1.2.1,v8.2.1.2.2))/\w5q (v8.1.1,v8.1.2.1,v8.1.2.2) (v8.2.1.1,v8.2.1.2.1,v8.2.1.2.2)=v7 v8)/\((qh6 p.1.1 Q0 v3).length<=(1000000:Nat)/\(∀(v8:Nat),v8<(qh6 p.1.1 Q0 v3).length->qq3 (nC (qh6 p.1.1 Q0 v3) v8))/\(∀(v8 v9:Int × Int × Int),qq3 v8->qq3 v9->v6 (v8,v9,()))/\∀(v8 v9:Int × Int × Int),qq3 v8->qq3 v9->v7 (v8,v9,())=w5q v8 v9)/\((!decide ((0:Int)<(↑(qh6 p.1.1 Q0 v3).length:Int)))=true->(0:Int)=Q1.1/\(10:Int)=Q1.2/\True)/\((!decide ((0:Int)<(↑(qh6 p.1.1 Q0 v3).length:Int)))=false->(((qd5 (qh6 p.1.1 Q0 v3) (qh6 p.1.1 Q0 v3).length).2.1==(0:Int))=true->(0:Int)=Q1.1/\(10:Int)=Q1.2/\True)/\(((qd5 (qh6 p.1.1 Q0 v3) (qh6 p.1.1 Q0 v3).length).2.1==(0:Int))=false->(qd5 (qh6 p.1.1 Q0 v3) (qh6 p.1.1 Q0 v3).length).1=Q1.1/\(0:Int)=Q1.2/\True))))) (by kernel_rfl) ?_
 try simp only[z0,z1,z2,z3,z4,z5,z6,z7,z8,z9,z10,Int.reduceEq,z11,z12,z13,z14,z15,z16,z17,z18,z19,z20,z21,z22,z23,z24,z25,z26,z27,z28,z29,z30,Int.reduceLE,Int.reduceLT,z31,z32,z33,z34,qa3]
 try simp only[qb5,qb6,qd0,z31,z32,z2,z1]
 obtain⟨⟨m,y⟩,C⟩:=p
 dsimp only at h ⊢
 have h6:=h.rs.m6
 have hp:=h.pix
 have hl:=q1j m y C
 have hyl:=h.rs.ylen
 have hN:∀e:(if(qr8 m (qg9 m y C)).length=0\/(qd5 (qr8 m (qg9 m y C)) (qr8 m (qg9 m y C)).length).2.1=0 then((0,10):Int × Int) else((qd5 (qr8 m (qg9 m y C)) (qr8 m (qg9 m y C)).length).1,0))=(if(qr8 m (qg9 m y C)).length=0\/(qd5 (qr8 m (qg9 m y C)) (qr8 m (qg9 m y C)).length).2.1=0 then((0,10):Int × Int) else((qd5 (qr8 m (qg9 m y C)) (qr8 m (qg9 m y C)).length).1,0)),q0j (qg9 m y C)=false->qk4 m y C=(if(qr8 m (qg9 m y C)).length=0\/(qd5 (qr8 m (qg9 m y C)) (qr8 m (qg9 m y C)).length).2.1=0 then(0,10) else((qd5 (qr8 m (qg9 m y C)) (qr8 m (qg9 m y C)).length).1,0)):=λ_ ho=>by
  unfold qk4 wb0
  rw[if_neg (by rw[ho]; decide)]
 refine⟨h.rs,by omega,λho=>?_,λho=>⟨h.one,(),0,Nat.zero_le _,⟨rfl,rfl⟩,λj hj=>⟨λhlt=>⟨h.col j hlt,by rw[colL_len]; omega,λho2=>?_,λho2=>?_⟩,λhge=>?_⟩⟩⟩
 ·have e:qk4 m y C=(0,8):=by unfold qk4 wb0; rw[if_pos ho]
  rw[e]; exact⟨rfl,rfl⟩
 ·have hcl:=q42 m (qg9 m y C) j
  refine⟨(h.dot j hlt).1,(h.dot j hlt).2,by omega,qa9 (by omega) (by omega),j+1,by omega,by omega,by omega,?_⟩
  rw[qh6,if_neg (by rw[ho2]; decide),colL_len]
 ·refine⟨qa9 (by omega) (by omega),j+1,by omega,by omega,by omega,?_⟩
  rw[qh6,if_pos ho2]
 ·obtain rfl:j=(nL m 0).length:=by omega
  have hcl:=q42 m (qg9 m y C) (nL m 0).length
  have hN:=hN rfl ho
  have hcc:∀i,i<(qh6 m (qg9 m y C) (nL m 0).length).length->qq3 (nC (qh6 m (qg9 m y C) (nL m 0).length) i):=λi hi=>by
   obtain⟨j,h1,h2⟩:=q6f (List.getElem_mem hi)
   have e:nC (qh6 m (qg9 m y C) (nL m 0).length) i=(qh6 m (qg9 m y C) (nL m 0).length)[i]:=qj8 (t:=qu5) _ _ hi
   rw[e,h2]; exact h.cnd j h1
  refine⟨λx=>qq3 x.1/\qq3 x.2.1,λx=>w5q x.1 x.2.1,λx hx=>⟨hx,rfl⟩,⟨by omega,hcc,λa b h1 h2=>⟨h1,h2⟩,λa b _ _=>rfl⟩,λh0=>?_,λh0=>⟨λh1=>?_,λh1=>?_⟩⟩
  ·rw[hN,if_pos (.inl (show(qh6 m (qg9 m y C) (nL m 0).length).length=0 by omega))]; exact⟨rfl,rfl⟩
  ·rw[hN,if_pos (.inr h1)]; exact⟨rfl,rfl⟩
  ·rw[hN,if_neg λq=>q.elim (λq=>by
    have q:(qh6 m (qg9 m y C) (nL m 0).length).length=0:=q
    omega) h1]
   exact⟨rfl,rfl⟩
end Go.Proofs.YtmijnbjlhnpokaaGreat
