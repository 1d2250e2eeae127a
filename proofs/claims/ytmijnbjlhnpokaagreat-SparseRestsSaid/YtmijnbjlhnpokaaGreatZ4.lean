/- The rest of a reading after columns were chosen: contracts by the engine. No condition. -/
import Derived.Test.YtmijnbjlhnpokaaGreatW23
import Derived.Test.YtmijnbjlhnpokaaGreatW3
import Derived.Test.YtmijnbjlhnpokaaGreatW11
import Derived.Test.YtmijnbjlhnpokaaGreatZD
set_option linter.unusedVariables false
namespace Go.Proofs.YtmijnbjlhnpokaaGreat
open Go Go.RowKit Eng
theorem wt4 (m:List (List Int)) (y l:List Int) (r:List (List Int)) (T:Int) (i:Nat):∀K,rsE m y l r T K i=nI y i*T-sm K λk=>nI (qg2 m (nI l k).toNat) i*((T.tdiv (qx5 r l.length k))*q7m r l.length k)
 | 0=>by rw[rsE,sm]; omega
 | K+1=>by rw[rsE,wt4 m y l r T i K,sm]; omega
theorem x7e {m:List (List Int)} {y l:List Int} (h:xp9 m y l):∃z:Nat->Int,z l.length≠0/\Sol l.length (l.length+1) (rowOf (qb9 m y l)) z/\∀i,i<m.length->z l.length*rsE m y l (qa6 (qb9 m y l) l.length).1 (qh5 (qa6 (qb9 m y l) l.length).1 l.length l.length) l.length i=qh5 (qa6 (qb9 m y l) l.length).1 l.length l.length*sm (l.length+1) λc=>bN m y l i c*z c:=by
 obtain⟨z,z1,z2,z3⟩:=h.sol
 refine⟨z,z2,z1,λi hi=>?_⟩
 obtain⟨T,hT⟩:∃T,T=qh5 (qa6 (qb9 m y l) l.length).1 l.length l.length:=⟨_,rfl⟩
 rw[<- hT,wt4,sm]
 have e1:(sm l.length λc=>bN m y l i c*z c)=sm l.length λc=>aN m l i c*z c:=qc9 λc hc=>by unfold bN; rw[if_pos hc]
 have e2:bN m y l i l.length=nI y i:=by unfold bN; rw[if_neg (Nat.lt_irrefl _)]
 rw[e1,e2]
 have e3:z l.length*(sm l.length λk=>nI (qg2 m (nI l k).toNat) i*((T.tdiv (qx5 (qa6 (qb9 m y l) l.length).1 l.length k))*q7m (qa6 (qb9 m y l) l.length).1 l.length k))=- (T*sm l.length λc=>aN m l i c*z c):=by
  have e4:- (T*sm l.length λc=>aN m l i c*z c)=(-T)*sm l.length λc=>aN m l i c*z c:=by rw[Int.neg_mul]
  rw[e4,<- qi5,<- qi5]
  refine qc9 λk hk=>?_
  rw[q4n _ _ _ hi]
  have hz:=z3 k hk
  obtain⟨_,d2,d3⟩:=h.den k hk
  rw[<- hT] at d3
  have hm:T.tdiv (qx5 (qa6 (qb9 m y l) l.length).1 l.length k)*qx5 (qa6 (qb9 m y l) l.length).1 l.length k=T:=Int.tdiv_mul_cancel d3
  unfold aN
  generalize T.tdiv (qx5 (qa6 (qb9 m y l) l.length).1 l.length k)=t at hm ⊢
  generalize qx5 (qa6 (qb9 m y l) l.length).1 l.length k=A at hm hz
  generalize q7m (qa6 (qb9 m y l) l.length).1 l.length k=C at hz ⊢
  generalize z k=zk at hz ⊢
  generalize z l.length=zn at hz ⊢
  generalize nI (nL m i) (nI l k).toNat=a
  rw[<- hm]
  have:C*zn=- (A*zk):=by omega
  calc zn*(a*(t*C))=a*t*(C*zn):=by grind
   _=a*t*(- (A*zk)):=by rw[this]
   _=-(t*A)*(a*zk):=by grind
 rw[Int.mul_sub,e3,Int.mul_add]
 grind
theorem xo0 {m:List (List Int)} {y l:List Int} (h:xp9 m y l) {x:Nat} (hx:x<l.length):(sm m.length λi=>aN m l i x*rsE m y l (qa6 (qb9 m y l) l.length).1 (qh5 (qa6 (qb9 m y l) l.length).1 l.length l.length) l.length i)=0:=by
 obtain⟨z,z1,z2,z3⟩:=x7e h
 refine qd1 (a:=z l.length) ?_ z1
 rw[<- qi5]
 have e1:(sm m.length λi=>z l.length*(aN m l i x*rsE m y l (qa6 (qb9 m y l) l.length).1 (qh5 (qa6 (qb9 m y l) l.length).1 l.length l.length) l.length i))=sm m.length λi=>qh5 (qa6 (qb9 m y l) l.length).1 l.length l.length*sm (l.length+1) λc=>aN m l i x*bN m y l i c*z c:=qc9 λi hi=>by
  have:=z3 i hi
  rw[show z l.length*(aN m l i x*rsE m y l (qa6 (qb9 m y l) l.length).1 (qh5 (qa6 (qb9 m y l) l.length).1 l.length l.length) l.length i)=aN m l i x*(z l.length*rsE m y l (qa6 (qb9 m y l) l.length).1 (qh5 (qa6 (qb9 m y l) l.length).1 l.length l.length) l.length i) by grind,this]
  have e2:(sm (l.length+1) λc=>aN m l i x*bN m y l i c*z c)=aN m l i x*sm (l.length+1) λc=>bN m y l i c*z c:=by
   rw[<- qi5]; exact qc9 λc _=>Int.mul_assoc _ _ _
  rw[e2]; grind
 rw[e1,qi5,q4a]
 have e3:(sm (l.length+1) λc=>sm m.length λi=>aN m l i x*bN m y l i c*z c)=sm (l.length+1) λc=>rowOf (qb9 m y l) x c*z c:=qc9 λc hc=>by
  rw[qx2 m y l hx hc,Int.mul_comm,<- qi5]
  exact qc9 λi _=>Int.mul_comm _ _
 rw[e3,z2 x hx,Int.mul_zero]
structure AskC (m:List (List Int)) (y C:List Int):Prop where
 msk:Mk m
 val:qe6 m=true
 ylen:y.length=m.length
 ybd:∀i,i<m.length->(nI y i).natAbs<=1000000
 inw:InW (nL m 0).length C
theorem AskC.gr {m:List (List Int)} {y C:List Int} (h:AskC m y C):GrOk m y (qe4 m C):=by
 obtain⟨h1,h2,h3,_⟩:=xn7 h.msk h.inw
 have:=h.msk.rows6
 exact⟨h.msk,h.ylen,h.ybd,h1,h2,by omega⟩
theorem AskC.rs {m:List (List Int)} {y C:List Int} (h:AskC m y C):xp9 m y (qe4 m C):=h.gr.rs
theorem w0z (m:List (List Int)) (y C:List Int) {i:Nat} (hi:i<y.length):nI (qh9 m y C) i=rsE m y (qe4 m C) (gP m y C) (qj5 m y C) (qe4 m C).length i:=by
 rw[qh2 _ _ (by rw[q05]; exact hi)]; simp[qh9,rsL]
theorem AskC.orth {m:List (List Int)} {y C:List Int} (h:AskC m y C) {j:Nat} (hj:j<C.length):(sm m.length λi=>nI (nL m i) (nI C j).toNat*nI (qh9 m y C) i)=0:=by
 have hCl:=h.inw.len
 have hrs:=h.rs
 obtain⟨r,hr⟩:∃r:Nat->Int,∀i,r i=nI (qh9 m y C) i:=⟨_,λ_=>rfl⟩
 have ho:∀x,x<(qe4 m C).length->(sm m.length λi=>aN m (qe4 m C) i x*r i)=0:=λx hx=>by
  rw[<- xo0 hrs hx]
  exact qc9 λi hi=>by rw[hr,w0z m y C (by rw[h.ylen]; exact hi)]; rfl
 have e0:(sm m.length λi=>nI (nL m i) (nI C j).toNat*nI (qh9 m y C) i)=sm m.length λi=>nI (nL m i) (nI C j).toNat*r i:=qc9 λi _=>by rw[hr]
 rw[e0]
 have hO:=q3q h.msk h.inw (by omega)
 have hst:=hO.stP
 have el:qe4 m C=(qa6 (qg7 m C) C.length).2.map λk=>nI C k.toNat:=by unfold qe4 qi1; rw[qv2]
 have hq:∀q,q<(qa6 (qg7 m C) C.length).2.length->(sm m.length λi=>rowOf (qg7 m C) i (nI (qa6 (qg7 m C) C.length).2 q).toNat*r i)=0:=λq hq=>by
  have hp:=hst.pos q hq
  rw[<- ho q (by rw[el,List.length_map]; exact hq)]
  refine qc9 λi hi=>?_
  unfold aN
  rw[qv7 m C hi (by omega),el,q42 (f:=λk=>nI C k.toNat) hq]
 by_cases hp:isP (qa6 (qg7 m C) C.length).2 j
 ·obtain⟨q,h1,h2⟩:=hp
  have:=hq q h1
  rw[h2,Int.toNat_natCast] at this
  rw[<- this]
  exact qc9 λi hi=>by rw[qv7 m C hi hj]
 ·have hnp:=q7k.1 hp
  obtain⟨z,z1,z2,z3⟩:=hst.free (Nat.le_refl _) hj hnp λi h1 h2=>hst.zero i h1 h2 j hj
  refine qd1 (a:=z j) ?_ z2
  rw[<- qi5]
  have e1:∀i,i<m.length->nI (nL m i) (nI C j).toNat*z j=- sm (qa6 (qg7 m C) C.length).2.length λq=>rowOf (qg7 m C) i (nI (qa6 (qg7 m C) C.length).2 q).toNat*z (nI (qa6 (qg7 m C) C.length).2 q).toNat:=λi hi=>by
   have himg:(sm C.length λc=>rowOf (qg7 m C) i c*z c)=(sm (qa6 (qg7 m C) C.length).2.length λq=>rowOf (qg7 m C) i (nI (qa6 (qg7 m C) C.length).2 q).toNat*z (nI (qa6 (qg7 m C) C.length).2 q).toNat)+rowOf (qg7 m C) i j*z j:=by
    rw[q3p ((qa6 (qg7 m C) C.length).2.length+1) (n:=C.length) (f:=λc=>rowOf (qg7 m C) i c*z c) (τ:=λq=>if q<(qa6 (qg7 m C) C.length).2.length then(nI (qa6 (qg7 m C) C.length).2 q).toNat else j) (λq hq=>?_) (λq k hq hk e=>?_) λb hb hq=>?_]
    ·rw[sm]
     try dsimp only
     rw[if_neg (Nat.lt_irrefl _)]
     congr 1
     exact qc9 λq hq=>by(try dsimp only); rw[if_pos hq]
    ·try dsimp only
     split
     ·rename_i h1; have:=hst.pos q h1; omega
     ·exact hj
    ·try dsimp only at e
     by_cases h1:q<(qa6 (qg7 m C) C.length).2.length
     ·have p1:=hst.pos q h1
      by_cases h2:k<(qa6 (qg7 m C) C.length).2.length
      ·have p2:=hst.pos k h2
       rw[if_pos h1,if_pos h2] at e
       exact hst.inj h1 h2 (by omega)
      ·rw[if_pos h1,if_neg h2] at e
       exact absurd (by omega) (hnp q h1)
     ·by_cases h2:k<(qa6 (qg7 m C) C.length).2.length
      ·have p2:=hst.pos k h2
       rw[if_neg h1,if_pos h2] at e
       exact absurd (by omega) (hnp k h2)
      ·omega
    ·try dsimp only
     rw[z3 b hb (λe=>hq (qa6 (qg7 m C) C.length).2.length (Nat.lt_succ_self _) (by(try dsimp only); rw[if_neg (Nat.lt_irrefl _),e])) λq h1 e=>hq q (by omega) (by(try dsimp only); rw[if_pos h1,e]; rfl),Int.mul_zero]
   rw[z1 i hi,qv7 m C hi hj] at himg
   omega
  have e2:(sm m.length λi=>z j*(nI (nL m i) (nI C j).toNat*r i))=sm m.length λi=>sm (qa6 (qg7 m C) C.length).2.length λq=>(- z (nI (qa6 (qg7 m C) C.length).2 q).toNat)*(rowOf (qg7 m C) i (nI (qa6 (qg7 m C) C.length).2 q).toNat*r i):=qc9 λi hi=>by
   rw[show z j*(nI (nL m i) (nI C j).toNat*r i)=r i*(nI (nL m i) (nI C j).toNat*z j) by grind,e1 i hi,show ∀a b:Int,a * -b=(-a)*b from λa b=>by grind,<- qi5]
   exact qc9 λq _=>by grind
  rw[e2,q4a]
  refine sm_zero λq h1=>?_
  rw[qi5,hq q h1,Int.mul_zero]
theorem AskC.new {m:List (List Int)} {y C:List Int} (h:AskC m y C) (hI:Ind m C) {j:Nat} (hs:(sm m.length λi=>nI (nL m i) j*nI (qh9 m y C) i)≠0):Ind m (C++[(j:Int)]):=by
 intro z hz
 rw[List.length_append,List.length_singleton] at hz ⊢
 have e1:∀i,i<m.length->(sm C.length λc=>nI (nL m i) (nI C c).toNat*z c)+nI (nL m i) j*z C.length=0:=λi hi=>by
  have:=hz i hi
  rw[sm,qn0,Int.toNat_natCast] at this
  rw[<- this]
  congr 1
  exact qc9 λc hc=>by rw[ql1 _ _ hc]
 have e2:(sm m.length λi=>nI (qh9 m y C) i*((sm C.length λc=>nI (nL m i) (nI C c).toNat*z c)+nI (nL m i) j*z C.length))=0:=sm_zero λi hi=>by rw[e1 i hi,Int.mul_zero]
 have e3:(sm m.length λi=>nI (qh9 m y C) i*((sm C.length λc=>nI (nL m i) (nI C c).toNat*z c)+nI (nL m i) j*z C.length))=z C.length*sm m.length λi=>nI (nL m i) j*nI (qh9 m y C) i:=by
  have e4:(sm m.length λi=>nI (qh9 m y C) i*((sm C.length λc=>nI (nL m i) (nI C c).toNat*z c)+nI (nL m i) j*z C.length))=(sm m.length λi=>sm C.length λc=>z c*(nI (nL m i) (nI C c).toNat*nI (qh9 m y C) i))+sm m.length λi=>z C.length*(nI (nL m i) j*nI (qh9 m y C) i):=by
   rw[<- q6q]
   refine qc9 λi _=>?_
   rw[Int.mul_add,<- qi5]
   congr 1
   ·exact qc9 λc _=>by grind
   ·grind
  rw[e4,q4a,qi5,sm_zero λc hc=>by rw[qi5,h.orth hc,Int.mul_zero],Int.zero_add]
 rw[e3] at e2
 have z0:z C.length=0:=by
  rcases Int.mul_eq_zero.1 e2 with q | q
  ·exact q
  ·exact absurd q hs
 intro c hc
 rcases Nat.lt_succ_iff_lt_or_eq.1 hc with q | q
 ·refine hI z (λi hi=>?_) c q
  have:=e1 i hi
  rw[z0,Int.mul_zero,Int.add_zero] at this
  exact this
 ·rw[q]; exact z0
end Go.Proofs.YtmijnbjlhnpokaaGreat
set_option linter.unusedSimpArgs false
namespace Go.Proofs.YtmijnbjlhnpokaaGreat
open Go Go.RowKit Eng
theorem w7o:Mk q86:=Mk.of (by decide +kernel)
theorem w7p {n:Nat} {s:List Int} {k:Nat} (h:s∈qf4 (n:Nat) (k:Nat)):Named n s:=by
 unfold qf4 at h
 split at h
 ·have hi:=w0f h
  refine⟨λj hj=>?_,λi j hij hj=>?_⟩
  ·have hj:j<(k:Int).toNat:=by rw[<- hi.len]; exact hj
   have h1:=hi.lo j hj
   have h2:=hi.hi j hj
   omega
  ·have hk:=hi.len
   induction j with
   | zero=>omega
   | succ j ih=>
    have h1:=hi.asc (j+1) (by omega) (by omega)
    rw[Nat.add_sub_cancel] at h1
    rcases Nat.lt_succ_iff_lt_or_eq.1 hij with q | q
    ·have:=ih q (by omega); omega
    ·rw[q]; exact h1
 ·cases h
theorem q9c {m:List (List Int)} {pix:List Int} (hM:Mk m) (hn:Named (nL m 0).length pix):Small m.length pix.length pix.length (qq3 m pix):=by
 have h6:=hM.rows6
 have hp10:=hM.pix10
 have hpl:=hn.len
 have hat:∀i,i<m.length->nL (qq3 m pix) i=qp3 (nL m i) pix:=λi hi=>by
  unfold qq3
  rw[q8u _ _ _ i hi,List.append_nil]
 have hlo:∀i,i<m.length->∀c,c<pix.length->(nI (nL (qq3 m pix) i) c).natAbs<=1:=λi hi c hc=>by
  rw[hat i hi,q3f _ _ _ hc]
  have h1:=hn.at_ c hc
  have h2:=hM.small i hi (nI pix c).toNat (by omega)
  omega
 exact⟨⟨qn7 _ _ _,λi hi=>by rw[hat i hi,ql0]⟩,h6,Nat.le_refl _,by omega,λa c ha hc=>hlo a ha c hc,λa c ha hc=>by have:=hlo a ha c hc; omega⟩
theorem xy0 {m:List (List Int)} (hM:Mk m):wk7 m:=by
 have:=q3n (q9c hM (Named.idx _))
 rw[qs8] at this
 exact⟨this⟩
def x3f (r:List (List Int)) (piv:List Int) (n:Nat):Bool:=
 ((List.range piv.length).all λk=>decide (nI (nL r k) (nI piv k).toNat≠0) && (List.range n).all λi=>decide (qd0 BIG (nI (nL r k) i)))
 && (List.range n).all λf=>(piv.any λe=>(f:Int)==e) || (((List.range (piv.length+1)).all λk=>decide (qd0 BIG (qf5 r piv f k)/\qf5 r piv f k≠0))
 && (List.range piv.length).all λk=>decide (qd0 BIG ((0-nI (nL r k) f)*qf5 r piv f piv.length)))
theorem xo1 {r:List (List Int)} {piv:List Int} {n:Nat} (h:x3f r piv n=true):xa6 r piv n:=by
 unfold x3f at h
 simp only[Bool.and_eq_true,Bool.or_eq_true,List.all_eq_true,List.mem_range,decide_eq_true_eq] at h
 obtain⟨h1,h2⟩:=h
 refine⟨λk hk=>(h1 k hk).1,λk hk=>(h1 k hk).2,λf hf hp k hk=>?_,λf hf hp k hk=>?_⟩
 ·rcases h2 f hf with q | q
  ·rw[hp] at q; cases q
  ·exact q.1 k (by omega)
 ·rcases h2 f hf with q | q
  ·rw[hp] at q; cases q
  ·exact q.2 k hk
theorem xo2:((List.range 3).all λk=>(qf4 (3:Nat) (k+1:Nat)).all λs=>x3f (qi1 q86 s).1 (qi1 q86 s).2 s.length)=true:=by decide +kernel
theorem xo3:ws1 q86:=by
 refine⟨λ_=>⟨xy0 w7o,λk hk s hs=>?_⟩,?_⟩
 ·have hn:(nL q86 0).length=3:=rfl
  rw[hn] at hk hs
  have h1:=w7p hs
  have h2:=List.all_eq_true.1 (List.all_eq_true.1 xo2 k (List.mem_range.2 hk)) s hs
  exact⟨ChoOk.of w7o h1 λ_ _=>⟨trivial,Nat.zero_le _⟩,q3n (q9c w7o h1),xo1 h2⟩
 ·decide +kernel
theorem xo4:qz6 q86=true:=by decide +kernel
theorem xo5:q1u q86:=by
 have h:∀i,i<q86.length->(nL q86 i).length<=9223372036854775807:=by decide
 exact⟨by decide,h⟩
theorem w00:w3f q86 [1,1]=(([1],[(1,1)]),0):=by decide +kernel
abbrev xo6:qc7:=qg0 true none [] [.bool] (λ_=>True) (λ_=>(true,()))
theorem wm7:Meets Tryz.prog 25 xo6:=by
 refine meets (snd (SpecsOk.cons w6z (SpecsOk.cons w61 (SpecsOk.cons w2u (SpecsOk.cons wr5 (SpecsOk.nil _)))))) Tryz.func25 rfl rfl (λ_ _=>none) (λ_=>by kernel_rfl) (by decide) ?_
 rintro⟨⟩ -
 refine @qe0 _ (True/\q7d q86 [(1:Int),(1:Int)]/\True/\ws1 q86/\(((0:Int)==(0:Int))=true->w6r ((w3f q86 [(1:Int),(1:Int)]).1.1,(w3f q86 [(1:Int),(1:Int)]).1.2)/\(wr1 ((w3f q86 [(1:Int),(1:Int)]).1.1,(w3f q86 [(1:Int),(1:Int)]).1.2) ([(1:Int)],[((1:Int),(1:Int))])=true->(((0:Int)==(0:Int))=true->((1:Int)==(1:Int))=true)/\(((0:Int)==(0:Int))=false->false=true))/\(wr1 ((w3f q86 [(1:Int),(1:Int)]).1.1,(w3f q86 [(1:Int),(1:Int)]).1.2) ([(1:Int)],[((1:Int),(1:Int))])=false->false=true))/\(((0:Int)==(0:Int))=false->false=true)) (by kernel_rfl) ?_
 try simp only[z0,z1,z2,z3,z4,z5,z6,z7,z8,z9,z10,Int.reduceEq,z11,z12,z13,z14,z15,z16,z17,z18,z19,z20,z21,z22,z23,z24,z25,z26,z27,z28,z29,z30,Int.reduceLE,Int.reduceLT,z31,z32,z33,z34,qa1]
 try simp only[qb4,qb5,qc8,z31,z32,z2,z1]
 refine⟨xx6 xo5 xo4,xo3,⟨?_,λ_ h=>absurd trivial h,λh=>?_⟩,λh=>absurd trivial h⟩
 ·rw[w00]; exact⟨by decide,by decide⟩
 ·rw[w00] at h; cases h
abbrev tP:Ty:=.prod (.prod (.list (.list (.int .i64))) (.list (.int .i64))) (.list (.int .i64))
abbrev pBox (m:List (List Int)) (y C:List Int):AObj:=.box 109 (.cons (.dat (.list (.int .i64)) m) (.cons (.dat (.int .i64) y) (.cons (.dat (.int .i64) C) .nil)))
structure qs4 (m:List (List Int)) (j:Int):Prop where
 rows:m.length<=1000
 at_:∀i,i<m.length->0<=j/\j<(nL m i).length
theorem wm8 (m:List (List Int)) (j k:Nat) (hk:k<m.length):(qg2 m j).take (k+1)=(qg2 m j).take k++[nI (nL m k) j]:=by
 rw[qq1 _ _ (by rw[qi6]; exact hk),q4n _ _ _ hk]
abbrev x3g:qc7:=qg0 true none [tP,qf8] [qd4] (λx=>qs4 x.1.1.1 x.2.1) (λx=>(qg2 x.1.1.1 x.2.1.toNat,()))
def xy1 (m:List (List Int)) (y C:List Int) (j:Nat):Nat->Option Inv
 | 0=>some (Inv.of [5,12] 2 (λk:Nat=>[(5,.own 1),(12,.lit (.int .i64 k))]) (λk=>[pBox m y C,.vec 3 (.int .i64) ((qg2 m j).take k)]) (λk=>k<=m.length) (λk=>m.length-k))
 | _=>none
theorem q9d:Meets Tryz.prog 137 x3g:=by
 refine meets (snd (SpecsOk.nil _)) Tryz.func137 rfl rfl (λx=>xy1 x.1.1.1 x.1.1.2 x.1.2 x.2.1.toNat) (λ_=>by kernel_rfl) (by decide) ?_
 rintro⟨p,j,⟨⟩⟩ h
 revert p j
 intro(p:(List (List Int) × List Int) × List Int) (j:Int) (h:qs4 p.1.1 j)
 refine @qe0 _ (let Q0:=qg2 p.1.1 j.toNat; ∃(v0:Unit),∃(v1:Nat),Nat.le v1 p.1.1.length/\((True/\(0:Int)=(↑v1:Int)/\True)/\(p.1.1=p.1.1/\p.1.2=p.1.2/\p.2=p.2/\True)/\List.take v1 Q0=[]/\True)/\∀(v2:Nat),Nat.le v2 p.1.1.length->(decide ((↑v2:Int)<(↑p.1.1.length:Int))=true->((0:Int)<=(↑v2:Int)/\(↑v2:Int)<(↑p.1.1.length:Int))/\((0:Int)<=j/\j<(↑(nL p.1.1 v2).length:Int))/\((0:Nat)<List.length [nI (nL p.1.1 v2) j.toNat]/\Nat.le ((List.take v2 Q0).length+List.length [nI (nL p.1.1 v2) j.toNat]) (1000000:Nat))/\fits .i64 ((↑v2:Int)+(1:Int))/\∃(v5:Nat),Nat.le v5 p.1.1.length/\p.1.1.length-v5<p.1.1.length-v2/\(True/\(↑v2:Int)+(1:Int)=(↑v5:Int)/\True)/\(p.1.1=p.1.1/\p.1.2=p.1.2/\p.2=p.2/\True)/\List.take v2 Q0++[nI (nL p.1.1 v2) j.toNat]=List.take v5 Q0/\True)/\(decide ((↑v2:Int)<(↑p.1.1.length:Int))=false->List.take v2 Q0=qg2 p.1.1 j.toNat)) (by kernel_rfl) ?_
 try simp only[z0,z1,z2,z3,z4,z5,z6,z7,z8,z9,z10,Int.reduceEq,z11,z12,z13,z14,z15,z16,z17,z18,z19,z20,z21,z22,z23,z24,z25,z26,z27,z28,z29,z30,Int.reduceLE,Int.reduceLT,z31,z32,z33,z34,qa1]
 try simp only[qb4,qb5,qc8,z31,z32,z2,z1]
 obtain⟨⟨m,y⟩,C⟩:=p
 dsimp only at h ⊢
 have hr:=h.rows
 refine⟨(),0,Nat.zero_le _,⟨rfl,rfl⟩,λk hk=>⟨λhlt=>⟨hlt,h.at_ k hlt,by rw[List.length_take]; omega,qa7 (by omega) (by omega),k+1,by omega,by omega,by omega,(wm8 _ _ _ hlt).symm⟩,λhge=>?_⟩⟩
 rw[List.take_of_length_le (by rw[qi6]; omega)]
structure wm9 (m:List (List Int)) (C:List Int):Prop where
 cho:ChoOk m C (λ_=>True) (λ_=>[])
 red:q0v (qq3 m C) C.length C.length
theorem w01 (m:List (List Int)) (C:List Int):(qe4 m C).length=(qi1 m C).2.length:=by simp[qe4]
theorem w7q (m:List (List Int)) (C:List Int) (k:Nat) (hk:k<(qi1 m C).2.length):(qe4 m C).take (k+1)=(qe4 m C).take k++[nI C (nI (qi1 m C).2 k).toNat]:=by
 rw[qq1 _ _ (by rw[w01]; exact hk)]
 congr 2
 unfold qe4
 rw[qh2 _ _ (by rw[List.length_map]; exact hk),List.getElem_map,qh2 _ _ hk]
abbrev x3h:qc7:=qg0 true none [tP] [qd4] (λx=>wm9 x.1.1.1 x.1.2) (λx=>(qe4 x.1.1.1 x.1.2,()))
def xy2 (m:List (List Int)) (y C:List Int):Nat->Option Inv
 | 0=>some (Inv.of [4,19] 3 (λk:Nat=>[(4,.own 2),(19,.lit (.int .i64 k))]) (λk=>[pBox m y C,.mat 34 3 (.int .i64) (qi1 m C).1 .none .none,.vec 3 (.int .i64) ((qe4 m C).take k)]) (λk=>k<=(qi1 m C).2.length) (λk=>(qi1 m C).2.length-k))
 | _=>none
theorem w23:Meets Tryz.prog 135 x3h:=by
 refine meets (w6g [] [] (SpecsOk.cons (q3g (fs:=[(73,w96)]) (SpecsOk.cons q4e (SpecsOk.nil _))) (SpecsOk.nil _)) (MutsOk.cons q0w MutsOk.nil)) Tryz.func135 rfl rfl (λx=>xy2 x.1.1.1 x.1.1.2 x.1.2) (λ_=>by kernel_rfl) (by decide) ?_
 rintro⟨p,⟨⟩⟩ h
 revert p
 intro(p:(List (List Int) × List Int) × List Int) (h:wm9 p.1.1 p.2)
 refine @qe0 _ (let Q0:=qi1 p.1.1 p.2; let Q1:=qe4 p.1.1 p.2; ∃(v0:qa5 [qf8]->Prop),∃(v1:qa5 [qf8]->List Int),(∀(v2:Int × qa5._f [] PUnit.unit),v0 v2->True/\[]=v1 v2)/\ChoOk p.1.1 p.2 v0 v1/\((0:Ty.den qf8)<=(↑p.2.length:Int)/\∃(v2:Nat),q0v (qa9 p.1.1 p.2 λ(v3:Int)=>v1 (v3,())) (↑p.2.length:Int).toNat v2)/\∃(v2:Unit),∃(v3:Nat),Nat.le v3 Q0.2.length/\((True/\(0:Int)=(↑v3:Int)/\True)/\(p.1.1=p.1.1/\p.1.2=p.1.2/\p.2=p.2/\True)/\((qa6 (qa9 p.1.1 p.2 λ(v4:Int)=>v1 (v4,())) (↑p.2.length:Int).toNat).1=Q0.1/\True/\True)/\List.take v3 Q1=[]/\True)/\∀(v4:Nat),Nat.le v4 Q0.2.length->(decide ((↑v4:Int)<(↑(qa6 (qa9 p.1.1 p.2 λ(v7:Int)=>v1 (v7,())) (↑p.2.length:Int).toNat).2.length:Int))=true->((0:Int)<=(↑v4:Int)/\(↑v4:Int)<(↑(qa6 (qa9 p.1.1 p.2 λ(v7:Int)=>v1 (v7,())) (↑p.2.length:Int).toNat).2.length:Int))/\((0:Int)<=nI (qa6 (qa9 p.1.1 p.2 λ(v7:Int)=>v1 (v7,())) (↑p.2.length:Int).toNat).2 v4/\nI (qa6 (qa9 p.1.1 p.2 λ(v7:Int)=>v1 (v7,())) (↑p.2.length:Int).toNat).2 v4<(↑p.2.length:Int))/\((0:Nat)<List.length [nI p.2 (nI (qa6 (qa9 p.1.1 p.2 λ(v7:Int)=>v1 (v7,())) (↑p.2.length:Int).toNat).2 v4).toNat]/\Nat.le ((List.take v4 Q1).length+List.length [nI p.2 (nI (qa6 (qa9 p.1.1 p.2 λ(v7:Int)=>v1 (v7,())) (↑p.2.length:Int).toNat).2 v4).toNat]) (1000000:Nat))/\fits .i64 ((↑v4:Int)+(1:Int))/\∃(v7:Nat),Nat.le v7 Q0.2.length/\Q0.2.length-v7<Q0.2.length-v4/\(True/\(↑v4:Int)+(1:Int)=(↑v7:Int)/\True)/\(p.1.1=p.1.1/\p.1.2=p.1.2/\p.2=p.2/\True)/\(Q0.1=Q0.1/\True/\True)/\List.take v4 Q1++[nI p.2 (nI (qa6 (qa9 p.1.1 p.2 λ(v8:Int)=>v1 (v8,())) (↑p.2.length:Int).toNat).2 v4).toNat]=List.take v7 Q1/\True)/\(decide ((↑v4:Int)<(↑(qa6 (qa9 p.1.1 p.2 λ(v7:Int)=>v1 (v7,())) (↑p.2.length:Int).toNat).2.length:Int))=false->List.take v4 Q1=qe4 p.1.1 p.2)) (by kernel_rfl) ?_
 try simp only[z0,z1,z2,z3,z4,z5,z6,z7,z8,z9,z10,Int.reduceEq,z11,z12,z13,z14,z15,z16,z17,z18,z19,z20,z21,z22,z23,z24,z25,z26,z27,z28,z29,z30,Int.reduceLE,Int.reduceLT,z31,z32,z33,z34,qa1]
 try simp only[qb4,qb5,qc8,z31,z32,z2,z1]
 obtain⟨⟨m,y⟩,C⟩:=p
 dsimp only at h ⊢
 have hcr:=h.cho.rows
 have hcc:=h.cho.cols
 have hrw:=h.red.w
 refine⟨λ_=>True,λ_=>[],λ_ _=>rfl,h.cho,⟨C.length,h.red⟩,?_⟩
 have hkr:qa6 (qa9 m C λ_=>[]) C.length=qi1 m C:=rfl
 have hsh:=qu8 h.red C.length
 have hpv:=q0y (qq3 m C) C.length
 rw[hkr]
 change RedSh _ _ (qi1 m C) _ at hsh
 change ∀e∈(qi1 m C).2,_ at hpv
 have hP:∀k,k<(qi1 m C).2.length->0<=nI (qi1 m C).2 k/\nI (qi1 m C).2 k<C.length:=λk hk=>hpv _ (by rw[qh2 _ k hk]; exact List.getElem_mem hk)
 have hlen:=w01 m C
 have hpj:=hsh.pivj
 refine⟨(),0,Nat.zero_le _,⟨rfl,rfl,rfl⟩,λk hk=>⟨λhlt=>⟨hlt,hP k hlt,by rw[List.length_take]; omega,qa7 (by omega) (by omega),k+1,by omega,by omega,by omega,(w7q m C k hlt).symm⟩,λhge=>?_⟩⟩
 rw[List.take_of_length_le (by omega)]
structure ql5 (a b:List Int):Prop where
 len:a.length<=10
 le:a.length<=b.length
 sa:∀i,i<a.length->-1<=nI a i/\nI a i<=1
 sb:∀i,i<a.length->qd0 10000000000000000 (nI b i)
theorem q7n {a b:List Int} (h:ql5 a b):∀k,k<=a.length->qd0 (10000000000000000*k) (qg8 a b k)
 | 0,_=>by unfold qd0; simp[qg8]
 | k+1,hk=>by
  have h1:=q7n h k (by omega)
  have h2:=q7c (h.sa k (by omega)) (h.sb k (by omega))
  unfold qd0 at *
  rw[qg8]
  omega
theorem DotOk.big {a b:List Int} (h:DotOk a b):ql5 a b:=⟨h.len,h.le,h.sa,λi hi=>by have:=h.sb i hi; unfold qd0 at *; omega⟩
abbrev xy3:qc7:=qg0 true none [qd4,qd4] [qf8] (λx=>ql5 x.1 x.2.1) (λx=>(qg8 x.1 x.2.1 x.1.length,()))
def xy4 (a b:List Int):Nat->Option Inv
 | 0=>some (Inv.of [5,10] 0 (λk:Nat=>[(5,.lit (.int .i64 (qg8 a b k))),(10,.lit (.int .i64 k))]) (λ_=>[]) (λk=>k<=a.length) (λk=>a.length-k))
 | _=>none
theorem q9e:Meets Tryz.prog 136 xy3:=by
 refine meets (snd (SpecsOk.nil _)) Tryz.func136 rfl rfl (λx=>xy4 x.1 x.2.1) (λ_=>by kernel_rfl) (by decide) ?_
 rintro⟨a,b,⟨⟩⟩ h
 revert a b
 intro(a:List Int) (b:List Int) (h:ql5 a b)
 refine @qe0 _ (∃(v0:Unit),∃(v1:Nat),Nat.le v1 a.length/\(((0:Int)=qg8 a b v1/\(0:Int)=(↑v1:Int)/\True)/\True)/\∀(v2:Nat),Nat.le v2 a.length->(decide ((↑v2:Int)<(↑a.length:Int))=true->((0:Int)<=(↑v2:Int)/\(↑v2:Int)<(↑a.length:Int))/\((0:Int)<=(↑v2:Int)/\(↑v2:Int)<(↑b.length:Int))/\fits .i64 (nI a v2*nI b v2)/\fits .i64 (qg8 a b v2+nI a v2*nI b v2)/\fits .i64 ((↑v2:Int)+(1:Int))/\∃(v5:Nat),Nat.le v5 a.length/\a.length-v5<a.length-v2/\(qg8 a b v2+nI a v2*nI b v2=qg8 a b v5/\(↑v2:Int)+(1:Int)=(↑v5:Int)/\True)/\True)/\(decide ((↑v2:Int)<(↑a.length:Int))=false->qg8 a b v2=qg8 a b a.length)) (by kernel_rfl) ?_
 try simp only[z0,z1,z2,z3,z4,z5,z6,z7,z8,z9,z10,Int.reduceEq,z11,z12,z13,z14,z15,z16,z17,z18,z19,z20,z21,z22,z23,z24,z25,z26,z27,z28,z29,z30,Int.reduceLE,Int.reduceLT,z31,z32,z33,z34,qa1]
 try simp only[qb4,qb5,qc8,z31,z32,z2,z1]
 have hl:=h.len
 have hle:=h.le
 refine⟨(),0,Nat.zero_le _,⟨rfl,rfl⟩,λk hk=>⟨λhlt=>?_,λhge=>?_⟩⟩
 ·have h1:=q7n h k hk
  have h2:=q7c (h.sa k hlt) (h.sb k hlt)
  unfold qd0 at h1 h2
  exact⟨hlt,by omega,qa7 (by omega) (by omega),qa7 (by omega) (by omega),qa7 (by omega) (by omega),k+1,hlt,by omega,rfl,by omega⟩
 ·obtain rfl:k=a.length:=by omega
  rfl
def xy5 (a b:List Int):Nat->Option Inv
 | 0=>some (Inv.of [5,9] 0 (λk:Nat=>[(5,.lit (.int .i64 (qg8 a b k))),(9,.lit (.int .i64 k))]) (λ_=>[]) (λk=>k<=a.length) (λk=>a.length-k))
 | _=>none
theorem q9f:Meets Tryz.prog 98 xy3:=by
 refine meets (snd (SpecsOk.nil _)) Tryz.func98 rfl rfl (λx=>xy5 x.1 x.2.1) (λ_=>by kernel_rfl) (by decide) ?_
 rintro⟨a,b,⟨⟩⟩ h
 revert a b
 intro(a:List Int) (b:List Int) (h:ql5 a b)
 refine @qe0 _ (∃(v0:Unit),∃(v1:Nat),Nat.le v1 a.length/\(((0:Int)=qg8 a b v1/\(0:Int)=(↑v1:Int)/\True)/\True)/\∀(v2:Nat),Nat.le v2 a.length->(decide ((↑v2:Int)<(↑a.length:Int))=true->((0:Int)<=(↑v2:Int)/\(↑v2:Int)<(↑a.length:Int))/\((0:Int)<=(↑v2:Int)/\(↑v2:Int)<(↑b.length:Int))/\fits .i64 (nI a v2*nI b v2)/\fits .i64 (qg8 a b v2+nI a v2*nI b v2)/\fits .i64 ((↑v2:Int)+(1:Int))/\∃(v5:Nat),Nat.le v5 a.length/\a.length-v5<a.length-v2/\(qg8 a b v2+nI a v2*nI b v2=qg8 a b v5/\(↑v2:Int)+(1:Int)=(↑v5:Int)/\True)/\True)/\(decide ((↑v2:Int)<(↑a.length:Int))=false->qg8 a b v2=qg8 a b a.length)) (by kernel_rfl) ?_
 try simp only[z0,z1,z2,z3,z4,z5,z6,z7,z8,z9,z10,Int.reduceEq,z11,z12,z13,z14,z15,z16,z17,z18,z19,z20,z21,z22,z23,z24,z25,z26,z27,z28,z29,z30,Int.reduceLE,Int.reduceLT,z31,z32,z33,z34,qa1]
 try simp only[qb4,qb5,qc8,z31,z32,z2,z1]
 have hl:=h.len
 have hle:=h.le
 refine⟨(),0,Nat.zero_le _,⟨rfl,rfl⟩,λk hk=>⟨λhlt=>?_,λhge=>?_⟩⟩
 ·have h1:=q7n h k hk
  have h2:=q7c (h.sa k hlt) (h.sb k hlt)
  unfold qd0 at h1 h2
  exact⟨hlt,by omega,qa7 (by omega) (by omega),qa7 (by omega) (by omega),qa7 (by omega) (by omega),k+1,hlt,by omega,rfl,by omega⟩
 ·obtain rfl:k=a.length:=by omega
  rfl
end Go.Proofs.YtmijnbjlhnpokaaGreat
