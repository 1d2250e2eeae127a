/- The rest of a reading after columns were chosen: contracts by the engine. No condition. -/
import Derived.Test.YtmijnbjlhnpokaaGreatW23
import Derived.Test.YtmijnbjlhnpokaaGreatW3
import Derived.Test.YtmijnbjlhnpokaaGreatW11
import Derived.Test.YtmijnbjlhnpokaaGreatZD
set_option linter.unusedVariables false
namespace Go.Proofs.YtmijnbjlhnpokaaGreat
open Go Go.RowKit Eng
theorem w1r:∀(n:Nat) {A:Nat->Nat->Int},(∀i,i<n+1->A i n=if i=n then 1 else 0)->det (n+1) A=det n A
 | 0,A,h=>by
  have:=h 0 (by omega)
  rw[if_pos rfl] at this
  simp[det,sm,sgn,this]
 | n+1,A,h=>by
  rw[det,sm]
  have e0:det (n+1) (λa b=>A (skp (n+1) a) (b+1))=0:=w1k (r:=n) (by omega) λi hi=>by
   try dsimp only
   rw[show skp (n+1) i=i by unfold skp; rw[if_pos hi],h i (by omega),if_neg (by omega)]
  rw[e0,Int.mul_zero,Int.add_zero,det]
  refine qb4 λi hi=>?_
  rw[w1r n (A:=λa b=>A (skp i a) (b+1)) λa ha=>?_]
  try dsimp only
  rw[h _ (q68 ha)]
  by_cases q:a=n
  ·rw[if_pos q,if_pos (by unfold skp; rw[if_neg (by omega)]; omega)]
  ·rw[if_neg q,if_neg (by unfold skp; split <;> omega)]
theorem wv8:∀(n:Nat) {f:Nat->Int},(∀i,i<n->0<=f i)->0<=sm n f
 | 0,_,_=>Int.le_refl _
 | n+1,f,h=>by rw[sm]; have:=wv8 n (f:=f) λi hi=>h i (by omega); have:=h n (by omega); omega
theorem xl7 (n:Nat) (w b:Nat->Int):(sm n λi=>w i*b i)*(sm n λi=>w i*b i)<=(sm n λi=>w i*w i)*sm n λi=>b i*b i:=by
 obtain⟨A,hA⟩:∃A,A=sm n λi=>w i*w i:=⟨_,rfl⟩
 obtain⟨B,hB⟩:∃B,B=sm n λi=>w i*b i:=⟨_,rfl⟩
 obtain⟨C,hC⟩:∃C,C=sm n λi=>b i*b i:=⟨_,rfl⟩
 rw[<- hA,<- hB,<- hC]
 have hC0:0<=C:=by rw[hC]; exact wv8 n λi _=>q71 _
 have h1:0<=sm n λi=>(C*w i-B*b i)*(C*w i-B*b i):=wv8 n λi _=>q71 _
 have h2:(sm n λi=>(C*w i-B*b i)*(C*w i-B*b i))=C*(C*A-B*B):=by
  have e:(sm n λi=>(C*w i-B*b i)*(C*w i-B*b i))=sm n λi=>(C*C)*(w i*w i)-(2*C*B)*(w i*b i)+(B*B)*(b i*b i):=qb4 λi _=>by grind
  rw[e,q5h,w0t,qg5,qg5,qg5,<- hA,<- hB,<- hC]
  grind
 rw[h2] at h1
 rcases Int.lt_or_eq_of_le hC0 with q | q
 ·have h3:0<=C*A-B*B:=Int.not_lt.1 λk=>by
   have:=Int.mul_neg_of_pos_of_neg q k
   omega
  rw[Int.mul_comm A C]; omega
 ·have hb:=w8j n (f:=b) (by rw[<- hC,<- q])
  have hB0:B=0:=by rw[hB]; exact sm_zero λi hi=>by rw[hb i hi,Int.mul_zero]
  rw[hB0,<- q]; simp
def gm (m:Nat) (a:Nat->Nat->Int) (x c:Nat):Int:=sm m λi=>a i x*a i c
theorem w1s {m:Nat} {a:Nat->Nat->Int} (hm:m<=6):∀n,(∀i x,i<m->x<n->(a i x).natAbs<=1)->(∀z:Nat->Int,(∀i,i<m->(sm n λc=>a i c*z c)=0)->∀c,c<n->z c=0)->0<det n (gm m a)/\det n (gm m a)<=6 ^ n
 | 0,_,_=>⟨by rw[det]; decide,by rw[det]; decide⟩
 | n+1,h1,hI=>by
  have hIn:∀z:Nat->Int,(∀i,i<m->(sm n λc=>a i c*z c)=0)->∀c,c<n->z c=0:=λz hz c hc=>by
   have:=hI (λc=>if c<n then z c else 0) (λi hi=>by
    rw[sm]
    refine Eq.trans ?_ (hz i hi)
    try dsimp only
    rw[if_neg (Nat.lt_irrefl _),Int.mul_zero,Int.add_zero]
    exact qb4 λc hc=>by(try dsimp only); rw[if_pos hc]) c (by omega)
   (try dsimp only at this); rw[if_pos hc] at this; exact this
  obtain⟨d1,d2⟩:=w1s hm n (λi x hi hx=>h1 i x hi (by omega)) hIn
  obtain⟨lam,hlam⟩:∃lam:Nat->Int,∀x,lam x=det (n+1) (qr4 (gm m a) n λi=>if i=x then 1 else 0):=⟨_,λ_=>rfl⟩
  have hs:∀f:Nat->Int,(sm (n+1) λx=>f x*lam x)=det (n+1) (qr4 (gm m a) n f):=λf=>by
   rw[qb4 (g:=λx=>f x*det (n+1) (qr4 (gm m a) n λi=>if i=x then 1 else 0)) λx _=>by rw[hlam x],<- q4e (gm m a) (Nat.lt_succ_self n) f (λx i=>if i=x then 1 else 0) (n+1)]
   refine qf7 _ λi j hi hj=>?_
   unfold qr4; split
   ·exact w1m f hi
   ·rfl
  have hsym:∀x c,gm m a x c=gm m a c x:=λx c=>qb4 λi _=>Int.mul_comm _ _
  have l0:∀c,c<n->(sm (n+1) λx=>gm m a x c*lam x)=0:=λc hc=>by
   rw[hs λx=>gm m a x c]
   refine wf4 (k:=n) (l:=c) (by omega) (by omega) (by omega) λi hi=>?_
   unfold qr4; rw[if_pos rfl,if_neg (by omega)]
  have l1:(sm (n+1) λx=>gm m a x n*lam x)=det (n+1) (gm m a):=by
   rw[hs λx=>gm m a x n]
   refine qf7 _ λi j hi hj=>?_
   unfold qr4; split
   ·rename_i q; rw[q]
   ·rfl
  have l2:lam n=det n (gm m a):=by
   rw[hlam,w1r n λi hi=>by unfold qr4; rw[if_pos rfl]]
   refine qf7 _ λi j hi hj=>?_
   unfold qr4; rw[if_neg (by omega)]
  obtain⟨w,hw⟩:∃w:Nat->Int,∀i,w i=sm (n+1) λx=>lam x*a i x:=⟨_,λ_=>rfl⟩
  have wc:∀c,(sm m λi=>w i*a i c)=sm (n+1) λx=>gm m a x c*lam x:=λc=>by
   have e:(sm m λi=>w i*a i c)=sm m λi=>sm (n+1) λx=>lam x*(a i x*a i c):=qb4 λi _=>by
    rw[hw,Int.mul_comm,<- qg5]
    exact qb4 λx _=>by grind
   rw[e,qs7]
   refine qb4 λx _=>?_
   rw[qg5,Int.mul_comm]; rfl
  have ww:(sm m λi=>w i*w i)=det n (gm m a)*det (n+1) (gm m a):=by
   have e:(sm m λi=>w i*w i)=sm m λi=>sm (n+1) λx=>lam x*(w i*a i x):=qb4 λi _=>by
    have:w i*w i=w i*sm (n+1) λx=>lam x*a i x:=by rw[<- hw]
    rw[this,<- qg5]
    exact qb4 λx _=>by grind
   rw[e,qs7,qo7 (k:=n) (Nat.lt_succ_self n) λx hx hne=>by
    (try dsimp only); rw[qg5,wc,l0 x (by omega),Int.mul_zero]]
   try dsimp only
   rw[qg5,wc,l1,l2]
  have hne:det (n+1) (gm m a)≠0:=wf5 λz hz=>hI z λi hi=>by
   have hq:=w8j m (f:=λi=>sm (n+1) λc=>a i c*z c) (by
    have e:(sm m λi=>(sm (n+1) λc=>a i c*z c)*sm (n+1) λc=>a i c*z c)=sm m λi=>sm (n+1) λc=>z c*(a i c*sm (n+1) λc=>a i c*z c):=qb4 λi _=>by
     rw[<- qg5]
     exact qb4 λx _=>by grind
    rw[e,qs7]
    refine sm_zero λc hc=>?_
    rw[qg5]
    have e2:(sm m λi=>a i c*sm (n+1) λc=>a i c*z c)=sm (n+1) λx=>z x*gm m a x c:=by
     have e3:(sm m λi=>a i c*sm (n+1) λc=>a i c*z c)=sm m λi=>sm (n+1) λx=>z x*(a i x*a i c):=qb4 λi _=>by
      rw[<- qg5]
      exact qb4 λx _=>by grind
     rw[e3,qs7]
     exact qb4 λx _=>by rw[qg5]; rfl
    rw[e2,hz c hc,Int.mul_zero]) i hi
   exact hq
  have hcs:=xl7 m w λi=>a i n
  rw[wc n,l1,ww] at hcs
  have haa:0<=(sm m λi=>a i n*a i n)/\(sm m λi=>a i n*a i n)<=6:=by
   refine⟨wv8 m λi _=>q71 _,?_⟩
   have:=wc8 (n:=m) (f:=λi=>a i n*a i n) (B:=1) λi hi=>by
    rw[Int.natAbs_mul]
    have:=h1 i n hi (by omega)
    exact Nat.le_trans (Nat.mul_le_mul this this) (Nat.le_refl _)
   omega
  have hww:0<=det n (gm m a)*det (n+1) (gm m a):=by rw[<- ww]; exact wv8 m λi _=>q71 _
  generalize(sm m λi=>a i n*a i n)=s at hcs haa
  generalize det (n+1) (gm m a)=E at hcs hww hne ⊢
  generalize det n (gm m a)=D at d1 d2 hcs hww ⊢
  have hE:0<E:=by
   rcases Int.lt_or_lt_of_ne hne with q | q
   ·have:=Int.mul_neg_of_pos_of_neg d1 q
    omega
   ·exact q
  refine⟨hE,?_⟩
  have h3:E*E<=(D*E)*6:=Int.le_trans hcs (Int.mul_le_mul_of_nonneg_left haa.2 hww)
  have h4:E<=6*D:=Int.le_of_mul_le_mul_right (a:=E) (by rw[show 6*D*E=D*E*6 by grind]; exact h3) hE
  rw[Int.pow_succ]
  omega
theorem x5r {n:Nat} (h:n<=6):(6:Int) ^ n<=46656:=by
 have:∀k:Fin 7,(6:Int) ^ k.val<=46656:=by decide
 exact this ⟨n,by omega⟩
theorem RsOk.tms_le {m:List (List Int)} {y l:List Int} (h:RsOk m y l) (hG:GrOk m y l):qi2 (qa6 (qd0 m y l) l.length).1 l.length l.length<=46656:=by
 have h6:=hG.n6
 obtain⟨d1,d2⟩:=w1s (m:=m.length) (a:=aN m l) hG.msk.rows6 l.length hG.one λz hz=>hG.ind z hz
 have e:det l.length (rowOf (qd0 m y l))=det l.length (gm m.length (aN m l)):=qf7 _ λx c hx hc=>by
  rw[qu8 m y l hx (by omega)]
  refine qb4 λi _=>?_
  unfold bN; rw[if_pos hc]
 have h1:=h.dvd
 rw[e] at h1
 have h2:=Int.le_of_dvd d1 h1
 have:=x5r h6
 omega
theorem wf9 (m:List (List Int)) (y l:List Int) (r:List (List Int)) (T:Int) (i:Nat):∀K,rsE m y l r T K i=nI y i*T-sm K λk=>nI (qi1 m (nI l k).toNat) i*((T.tdiv (q0e r l.length k))*q8d r l.length k)
 | 0=>by rw[rsE,sm]; omega
 | K+1=>by rw[rsE,wf9 m y l r T i K,sm]; omega
theorem ya8 {m:List (List Int)} {y l:List Int} (h:RsOk m y l):∃z:Nat->Int,z l.length≠0/\Sol l.length (l.length+1) (rowOf (qd0 m y l)) z/\∀i,i<m.length->z l.length*rsE m y l (qa6 (qd0 m y l) l.length).1 (qi2 (qa6 (qd0 m y l) l.length).1 l.length l.length) l.length i=qi2 (qa6 (qd0 m y l) l.length).1 l.length l.length*sm (l.length+1) λc=>bN m y l i c*z c:=by
 obtain⟨z,z1,z2,z3⟩:=h.sol
 refine⟨z,z2,z1,λi hi=>?_⟩
 obtain⟨T,hT⟩:∃T,T=qi2 (qa6 (qd0 m y l) l.length).1 l.length l.length:=⟨_,rfl⟩
 rw[<- hT,wf9,sm]
 have e1:(sm l.length λc=>bN m y l i c*z c)=sm l.length λc=>aN m l i c*z c:=qb4 λc hc=>by unfold bN; rw[if_pos hc]
 have e2:bN m y l i l.length=nI y i:=by unfold bN; rw[if_neg (Nat.lt_irrefl _)]
 rw[e1,e2]
 have e3:z l.length*(sm l.length λk=>nI (qi1 m (nI l k).toNat) i*((T.tdiv (q0e (qa6 (qd0 m y l) l.length).1 l.length k))*q8d (qa6 (qd0 m y l) l.length).1 l.length k))=- (T*sm l.length λc=>aN m l i c*z c):=by
  have e4:- (T*sm l.length λc=>aN m l i c*z c)=(-T)*sm l.length λc=>aN m l i c*z c:=by rw[Int.neg_mul]
  rw[e4,<- qg5,<- qg5]
  refine qb4 λk hk=>?_
  rw[q0d _ _ _ hi]
  have hz:=z3 k hk
  obtain⟨_,d2,d3⟩:=h.den k hk
  rw[<- hT] at d3
  have hm:T.tdiv (q0e (qa6 (qd0 m y l) l.length).1 l.length k)*q0e (qa6 (qd0 m y l) l.length).1 l.length k=T:=Int.tdiv_mul_cancel d3
  unfold aN
  generalize T.tdiv (q0e (qa6 (qd0 m y l) l.length).1 l.length k)=t at hm ⊢
  generalize q0e (qa6 (qd0 m y l) l.length).1 l.length k=A at hm hz
  generalize q8d (qa6 (qd0 m y l) l.length).1 l.length k=C at hz ⊢
  generalize z k=zk at hz ⊢
  generalize z l.length=zn at hz ⊢
  generalize nI (nL m i) (nI l k).toNat=a
  rw[<- hm]
  have:C*zn=- (A*zk):=by omega
  calc zn*(a*(t*C))=a*t*(C*zn):=by grind
   _=a*t*(- (A*zk)):=by rw[this]
   _=-(t*A)*(a*zk):=by grind
 rw[Int.mul_sub,e3,Int.mul_add]
 grind
theorem xt5 {m:List (List Int)} {y l:List Int} (h:RsOk m y l) {x:Nat} (hx:x<l.length):(sm m.length λi=>aN m l i x*rsE m y l (qa6 (qd0 m y l) l.length).1 (qi2 (qa6 (qd0 m y l) l.length).1 l.length l.length) l.length i)=0:=by
 obtain⟨z,z1,z2,z3⟩:=ya8 h
 refine qd3 (a:=z l.length) ?_ z1
 rw[<- qg5]
 have e1:(sm m.length λi=>z l.length*(aN m l i x*rsE m y l (qa6 (qd0 m y l) l.length).1 (qi2 (qa6 (qd0 m y l) l.length).1 l.length l.length) l.length i))=sm m.length λi=>qi2 (qa6 (qd0 m y l) l.length).1 l.length l.length*sm (l.length+1) λc=>aN m l i x*bN m y l i c*z c:=qb4 λi hi=>by
  have:=z3 i hi
  rw[show z l.length*(aN m l i x*rsE m y l (qa6 (qd0 m y l) l.length).1 (qi2 (qa6 (qd0 m y l) l.length).1 l.length l.length) l.length i)=aN m l i x*(z l.length*rsE m y l (qa6 (qd0 m y l) l.length).1 (qi2 (qa6 (qd0 m y l) l.length).1 l.length l.length) l.length i) by grind,this]
  have e2:(sm (l.length+1) λc=>aN m l i x*bN m y l i c*z c)=aN m l i x*sm (l.length+1) λc=>bN m y l i c*z c:=by
   rw[<- qg5]; exact qb4 λc _=>Int.mul_assoc _ _ _
  rw[e2]; grind
 rw[e1,qg5,qs7]
 have e3:(sm (l.length+1) λc=>sm m.length λi=>aN m l i x*bN m y l i c*z c)=sm (l.length+1) λc=>rowOf (qd0 m y l) x c*z c:=qb4 λc hc=>by
  rw[qu8 m y l hx hc,Int.mul_comm,<- qg5]
  exact qb4 λi _=>Int.mul_comm _ _
 rw[e3,z2 x hx,Int.mul_zero]
structure AskC (m:List (List Int)) (y C:List Int):Prop where
 msk:Mk m
 val:qe9 m=true
 ylen:y.length=m.length
 ybd:∀i,i<m.length->(nI y i).natAbs<=1000000
 inw:InW (nL m 0).length C
theorem AskC.gr {m:List (List Int)} {y C:List Int} (h:AskC m y C):GrOk m y (qf0 m C):=by
 obtain⟨h1,h2,h3,_⟩:=wf6 h.msk h.inw
 have:=h.msk.rows6
 exact⟨h.msk,h.ylen,h.ybd,h1,h2,by omega⟩
theorem AskC.rs {m:List (List Int)} {y C:List Int} (h:AskC m y C):RsOk m y (qf0 m C):=h.gr.rs
theorem wg1 (m:List (List Int)) (y C:List Int) {i:Nat} (hi:i<y.length):nI (qe8 m y C) i=rsE m y (qf0 m C) (gP m y C) (qh0 m y C) (qf0 m C).length i:=by
 rw[qh7 _ _ (by rw[qy3]; exact hi)]; simp[qe8,rsL]
theorem AskC.orth {m:List (List Int)} {y C:List Int} (h:AskC m y C) {j:Nat} (hj:j<C.length):(sm m.length λi=>nI (nL m i) (nI C j).toNat*nI (qe8 m y C) i)=0:=by
 have hCl:=h.inw.len
 have hrs:=h.rs
 obtain⟨r,hr⟩:∃r:Nat->Int,∀i,r i=nI (qe8 m y C) i:=⟨_,λ_=>rfl⟩
 have ho:∀x,x<(qf0 m C).length->(sm m.length λi=>aN m (qf0 m C) i x*r i)=0:=λx hx=>by
  rw[<- xt5 hrs hx]
  exact qb4 λi hi=>by rw[hr,wg1 m y C (by rw[h.ylen]; exact hi)]; rfl
 have e0:(sm m.length λi=>nI (nL m i) (nI C j).toNat*nI (qe8 m y C) i)=sm m.length λi=>nI (nL m i) (nI C j).toNat*r i:=qb4 λi _=>by rw[hr]
 rw[e0]
 have hO:=wo5 h.msk h.inw (by omega)
 have hst:=hO.stP
 have el:qf0 m C=(qa6 (qj9 m C) C.length).2.map λk=>nI C k.toNat:=by unfold qf0 qi8; rw[qw1]
 have hq:∀q,q<(qa6 (qj9 m C) C.length).2.length->(sm m.length λi=>rowOf (qj9 m C) i (nI (qa6 (qj9 m C) C.length).2 q).toNat*r i)=0:=λq hq=>by
  have hp:=hst.pos q hq
  rw[<- ho q (by rw[el,List.length_map]; exact hq)]
  refine qb4 λi hi=>?_
  unfold aN
  rw[q2y m C hi (by omega),el,q7u (f:=λk=>nI C k.toNat) hq]
 by_cases hp:isP (qa6 (qj9 m C) C.length).2 j
 ·obtain⟨q,h1,h2⟩:=hp
  have:=hq q h1
  rw[h2,Int.toNat_natCast] at this
  rw[<- this]
  exact qb4 λi hi=>by rw[q2y m C hi hj]
 ·have hnp:=q7z.1 hp
  obtain⟨z,z1,z2,z3⟩:=hst.free (Nat.le_refl _) hj hnp λi h1 h2=>hst.zero i h1 h2 j hj
  refine qd3 (a:=z j) ?_ z2
  rw[<- qg5]
  have e1:∀i,i<m.length->nI (nL m i) (nI C j).toNat*z j=- sm (qa6 (qj9 m C) C.length).2.length λq=>rowOf (qj9 m C) i (nI (qa6 (qj9 m C) C.length).2 q).toNat*z (nI (qa6 (qj9 m C) C.length).2 q).toNat:=λi hi=>by
   have himg:(sm C.length λc=>rowOf (qj9 m C) i c*z c)=(sm (qa6 (qj9 m C) C.length).2.length λq=>rowOf (qj9 m C) i (nI (qa6 (qj9 m C) C.length).2 q).toNat*z (nI (qa6 (qj9 m C) C.length).2 q).toNat)+rowOf (qj9 m C) i j*z j:=by
    rw[q6b ((qa6 (qj9 m C) C.length).2.length+1) (n:=C.length) (f:=λc=>rowOf (qj9 m C) i c*z c) (τ:=λq=>if q<(qa6 (qj9 m C) C.length).2.length then(nI (qa6 (qj9 m C) C.length).2 q).toNat else j) (λq hq=>?_) (λq k hq hk e=>?_) λb hb hq=>?_]
    ·rw[sm]
     try dsimp only
     rw[if_neg (Nat.lt_irrefl _)]
     congr 1
     exact qb4 λq hq=>by(try dsimp only); rw[if_pos hq]
    ·try dsimp only
     split
     ·rename_i h1; have:=hst.pos q h1; omega
     ·exact hj
    ·try dsimp only at e
     by_cases h1:q<(qa6 (qj9 m C) C.length).2.length
     ·have p1:=hst.pos q h1
      by_cases h2:k<(qa6 (qj9 m C) C.length).2.length
      ·have p2:=hst.pos k h2
       rw[if_pos h1,if_pos h2] at e
       exact hst.inj h1 h2 (by omega)
      ·rw[if_pos h1,if_neg h2] at e
       exact absurd (by omega) (hnp q h1)
     ·by_cases h2:k<(qa6 (qj9 m C) C.length).2.length
      ·have p2:=hst.pos k h2
       rw[if_neg h1,if_pos h2] at e
       exact absurd (by omega) (hnp k h2)
      ·omega
    ·try dsimp only
     rw[z3 b hb (λe=>hq (qa6 (qj9 m C) C.length).2.length (Nat.lt_succ_self _) (by(try dsimp only); rw[if_neg (Nat.lt_irrefl _),e])) λq h1 e=>hq q (by omega) (by(try dsimp only); rw[if_pos h1,e]; rfl),Int.mul_zero]
   rw[z1 i hi,q2y m C hi hj] at himg
   omega
  have e2:(sm m.length λi=>z j*(nI (nL m i) (nI C j).toNat*r i))=sm m.length λi=>sm (qa6 (qj9 m C) C.length).2.length λq=>(- z (nI (qa6 (qj9 m C) C.length).2 q).toNat)*(rowOf (qj9 m C) i (nI (qa6 (qj9 m C) C.length).2 q).toNat*r i):=qb4 λi hi=>by
   rw[show z j*(nI (nL m i) (nI C j).toNat*r i)=r i*(nI (nL m i) (nI C j).toNat*z j) by grind,e1 i hi,show ∀a b:Int,a * -b=(-a)*b from λa b=>by grind,<- qg5]
   exact qb4 λq _=>by grind
  rw[e2,qs7]
  refine sm_zero λq h1=>?_
  rw[qg5,hq q h1,Int.mul_zero]
theorem xt6 {m:List (List Int)} {C:List Int} (hM:Mk m) (hC:InW (nL m 0).length C) (hI:Ind m C):qf0 m C=C:=by
 rcases Nat.eq_zero_or_pos C.length with q | q
 ·obtain rfl:C=[]:=List.length_eq_zero_iff.1 q
  rfl
 ·have hO:=wo5 hM hC q
  have hst:=hO.stP
  have hl:(qa6 (qj9 m C) C.length).2.length=C.length:=hst.ind_iff.2 λz hz=>hI z λi hi=>by
   rw[<- hz i hi]
   exact qb4 λc hc=>by rw[q2y m C hi hc]
  have hA:Asc C.length (qa6 (qj9 m C) C.length).2:=⟨λq hq=>⟨(hst.pos q hq).1,(hst.pos q hq).2.1⟩,hst.asc⟩
  unfold qf0 qi8
  rw[qw1]
  apply List.ext_getElem (by rw[List.length_map]; exact hl)
  intro i h1 h2
  have e:=q7u (f:=λk=>nI C k.toNat) (l:=(qa6 (qj9 m C) C.length).2) (c:=i) (by omega)
  rw[qh7 _ _ h1,hA.id hl h2,Int.toNat_natCast,qh7 _ _ h2] at e
  exact e
theorem xt7 {m:List (List Int)} {C:List Int} (hM:Mk m) (hC:InW (nL m 0).length C) (hI:Ind m C):C.length<=m.length:=by
 have:=(wf6 hM hC).2.2.1
 rw[xt6 hM hC hI] at this
 exact this
theorem AskC.new {m:List (List Int)} {y C:List Int} (h:AskC m y C) (hI:Ind m C) {j:Nat} (hs:(sm m.length λi=>nI (nL m i) j*nI (qe8 m y C) i)≠0):Ind m (C++[(j:Int)]):=by
 intro z hz
 rw[List.length_append,List.length_singleton] at hz ⊢
 have e1:∀i,i<m.length->(sm C.length λc=>nI (nL m i) (nI C c).toNat*z c)+nI (nL m i) j*z C.length=0:=λi hi=>by
  have:=hz i hi
  rw[sm,qu7,Int.toNat_natCast] at this
  rw[<- this]
  congr 1
  exact qb4 λc hc=>by rw[qp8 _ _ hc]
 have e2:(sm m.length λi=>nI (qe8 m y C) i*((sm C.length λc=>nI (nL m i) (nI C c).toNat*z c)+nI (nL m i) j*z C.length))=0:=sm_zero λi hi=>by rw[e1 i hi,Int.mul_zero]
 have e3:(sm m.length λi=>nI (qe8 m y C) i*((sm C.length λc=>nI (nL m i) (nI C c).toNat*z c)+nI (nL m i) j*z C.length))=z C.length*sm m.length λi=>nI (nL m i) j*nI (qe8 m y C) i:=by
  have e4:(sm m.length λi=>nI (qe8 m y C) i*((sm C.length λc=>nI (nL m i) (nI C c).toNat*z c)+nI (nL m i) j*z C.length))=(sm m.length λi=>sm C.length λc=>z c*(nI (nL m i) (nI C c).toNat*nI (qe8 m y C) i))+sm m.length λi=>z C.length*(nI (nL m i) j*nI (qe8 m y C) i):=by
   rw[<- q5h]
   refine qb4 λi _=>?_
   rw[Int.mul_add,<- qg5]
   congr 1
   ·exact qb4 λc _=>by grind
   ·grind
  rw[e4,qs7,qg5,sm_zero λc hc=>by rw[qg5,h.orth hc,Int.mul_zero],Int.zero_add]
 rw[e3] at e2
 have z0:z C.length=0:=by
  rcases Int.mul_eq_zero.1 e2 with q | q
  ·exact q
  ·exact absurd q hs
 intro c hc
 rcases Nat.lt_succ_iff_lt_or_eq.1 hc with q | q
 ·refine hI z (λi hi=>?_) c q
  have:=e1 i hi
  rw[z0,Int.mul_zero,Int.add_zero] at this
  exact this
 ·rw[q]; exact z0
end Go.Proofs.YtmijnbjlhnpokaaGreat
set_option linter.unusedSimpArgs false
namespace Go.Proofs.YtmijnbjlhnpokaaGreat
open Go Go.RowKit Eng
theorem w8n:Mk q9m:=Mk.of (by decide +kernel)
theorem w8o {n:Nat} {s:List Int} {k:Nat} (h:s∈qg1 (n:Nat) (k:Nat)):Named n s:=by
 unfold qg1 at h
 split at h
 ·have hi:=w05 h
  refine⟨λj hj=>?_,λi j hij hj=>?_⟩
  ·have hj:j<(k:Int).toNat:=by rw[<- hi.len]; exact hj
   have h1:=hi.lo j hj
   have h2:=hi.hi j hj
   omega
  ·have hk:=hi.len
   induction j with
   | zero=>omega
   | succ j ih=>
    have h1:=hi.asc (j+1) (by omega) (by omega)
    rw[Nat.add_sub_cancel] at h1
    rcases Nat.lt_succ_iff_lt_or_eq.1 hij with q | q
    ·have:=ih q (by omega); omega
    ·rw[q]; exact h1
 ·cases h
theorem q9u {m:List (List Int)} {pix:List Int} (hM:Mk m) (hn:Named (nL m 0).length pix):Small m.length pix.length pix.length (qq6 m pix):=by
 have h6:=hM.rows6
 have hp10:=hM.pix10
 have hpl:=hn.len
 have hat:∀i,i<m.length->nL (qq6 m pix) i=qx5 (nL m i) pix:=λi hi=>by
  unfold qq6
  rw[q9b _ _ _ i hi,List.append_nil]
 have hlo:∀i,i<m.length->∀c,c<pix.length->(nI (nL (qq6 m pix) i) c).natAbs<=1:=λi hi c hc=>by
  rw[hat i hi,q55 _ _ _ hc]
  have h1:=hn.at_ c hc
  have h2:=hM.small i hi (nI pix c).toNat (by omega)
  omega
 exact⟨⟨qo3 _ _ _,λi hi=>by rw[hat i hi,qn5]⟩,h6,Nat.le_refl _,by omega,λa c ha hc=>hlo a ha c hc,λa c ha hc=>by have:=hlo a ha c hc; omega⟩
theorem x1n {m:List (List Int)} (hM:Mk m):wm8 m:=by
 have:=q4c (q9u hM (Named.idx _))
 rw[qt5] at this
 exact⟨this⟩
def x5s (r:List (List Int)) (piv:List Int) (n:Nat):Bool:=
 ((List.range piv.length).all λk=>decide (nI (nL r k) (nI piv k).toNat≠0) && (List.range n).all λi=>decide (qc8 BIG (nI (nL r k) i)))
 && (List.range n).all λf=>(piv.any λe=>(f:Int)==e) || (((List.range (piv.length+1)).all λk=>decide (qc8 BIG (qg2 r piv f k)/\qg2 r piv f k≠0))
 && (List.range piv.length).all λk=>decide (qc8 BIG ((0-nI (nL r k) f)*qg2 r piv f piv.length)))
theorem xt8 {r:List (List Int)} {piv:List Int} {n:Nat} (h:x5s r piv n=true):xf2 r piv n:=by
 unfold x5s at h
 simp only[Bool.and_eq_true,Bool.or_eq_true,List.all_eq_true,List.mem_range,decide_eq_true_eq] at h
 obtain⟨h1,h2⟩:=h
 refine⟨λk hk=>(h1 k hk).1,λk hk=>(h1 k hk).2,λf hf hp k hk=>?_,λf hf hp k hk=>?_⟩
 ·rcases h2 f hf with q | q
  ·rw[hp] at q; cases q
  ·exact q.1 k (by omega)
 ·rcases h2 f hf with q | q
  ·rw[hp] at q; cases q
  ·exact q.2 k hk
theorem xt9:((List.range 3).all λk=>(qg1 (3:Nat) (k+1:Nat)).all λs=>x5s (qi8 q9m s).1 (qi8 q9m s).2 s.length)=true:=by decide +kernel
theorem xu0:wu5 q9m:=by
 refine⟨λ_=>⟨x1n w8n,λk hk s hs=>?_⟩,?_⟩
 ·have hn:(nL q9m 0).length=3:=rfl
  rw[hn] at hk hs
  have h1:=w8o hs
  have h2:=List.all_eq_true.1 (List.all_eq_true.1 xt9 k (List.mem_range.2 hk)) s hs
  exact⟨ChoOk.of w8n h1 λ_ _=>⟨trivial,Nat.zero_le _⟩,q4c (q9u w8n h1),xt8 h2⟩
 ·decide +kernel
theorem xu1:w1b q9m=true:=by decide +kernel
theorem xu2:wh2 q9m:=by
 have h:∀i,i<q9m.length->(nL q9m i).length<=9223372036854775807:=by decide
 exact⟨by decide,h⟩
theorem w1t:w4m q9m [1,1]=(([1],[(1,1)]),0):=by decide +kernel
abbrev xu3:qc9:=qg4 true none [] [.bool] (λ_=>True) (λ_=>(true,()))
theorem wo7:Meets Tryz.prog 25 xu3:=by
 refine meets (snd (SpecsOk.cons w70 (SpecsOk.cons w72 (SpecsOk.cons w3z (SpecsOk.cons wt9 (SpecsOk.nil _)))))) Tryz.func25 rfl rfl (λ_ _=>none) (λ_=>by kernel_rfl) (by decide) ?_
 rintro⟨⟩ -
 refine @qe1 _ (True/\q7s q9m [(1:Int),(1:Int)]/\True/\wu5 q9m/\(((0:Int)==(0:Int))=true->w7u ((w4m q9m [(1:Int),(1:Int)]).1.1,(w4m q9m [(1:Int),(1:Int)]).1.2)/\(wt8 ((w4m q9m [(1:Int),(1:Int)]).1.1,(w4m q9m [(1:Int),(1:Int)]).1.2) ([(1:Int)],[((1:Int),(1:Int))])=true->(((0:Int)==(0:Int))=true->((1:Int)==(1:Int))=true)/\(((0:Int)==(0:Int))=false->false=true))/\(wt8 ((w4m q9m [(1:Int),(1:Int)]).1.1,(w4m q9m [(1:Int),(1:Int)]).1.2) ([(1:Int)],[((1:Int),(1:Int))])=false->false=true))/\(((0:Int)==(0:Int))=false->false=true)) (by kernel_rfl) ?_
 try simp only[z0,z1,z2,z3,z4,z5,z6,z7,z8,z9,z10,Int.reduceEq,z11,z12,z13,z14,z15,z16,z17,z18,z19,z20,z21,z22,z23,z24,z25,z26,z27,z28,z29,z30,Int.reduceLE,Int.reduceLT,z31,z32,z33,z34,qa1]
 try simp only[qb5,qb6,qd2,z31,z32,z2,z1]
 refine⟨x1i xu2 xu1,xu0,⟨?_,λ_ h=>absurd trivial h,λh=>?_⟩,λh=>absurd trivial h⟩
 ·rw[w1t]; exact⟨by decide,by decide⟩
 ·rw[w1t] at h; cases h
abbrev tP:Ty:=.prod (.prod (.list (.list (.int .i64))) (.list (.int .i64))) (.list (.int .i64))
abbrev pBox (m:List (List Int)) (y C:List Int):AObj:=.box 109 (.cons (.dat (.list (.int .i64)) m) (.cons (.dat (.int .i64) y) (.cons (.dat (.int .i64) C) .nil)))
structure qw2 (m:List (List Int)) (j:Int):Prop where
 rows:m.length<=1000
 at_:∀i,i<m.length->0<=j/\j<(nL m i).length
theorem wo8 (m:List (List Int)) (j k:Nat) (hk:k<m.length):(qi1 m j).take (k+1)=(qi1 m j).take k++[nI (nL m k) j]:=by
 rw[q0c _ _ (by rw[qi7]; exact hk),q0d _ _ _ hk]
abbrev x5t:qc9:=qg4 true none [tP,qg0] [qf1] (λx=>qw2 x.1.1.1 x.2.1) (λx=>(qi1 x.1.1.1 x.2.1.toNat,()))
def x1o (m:List (List Int)) (y C:List Int) (j:Nat):Nat->Option Inv
 | 0=>some (Inv.of [5,12] 2 (λk:Nat=>[(5,.own 1),(12,.lit (.int .i64 k))]) (λk=>[pBox m y C,.vec 3 (.int .i64) ((qi1 m j).take k)]) (λk=>k<=m.length) (λk=>m.length-k))
 | _=>none
theorem q9v:Meets Tryz.prog 137 x5t:=by
 refine meets (snd (SpecsOk.nil _)) Tryz.func137 rfl rfl (λx=>x1o x.1.1.1 x.1.1.2 x.1.2 x.2.1.toNat) (λ_=>by kernel_rfl) (by decide) ?_
 rintro⟨p,j,⟨⟩⟩ h
 revert p j
 intro(p:(List (List Int) × List Int) × List Int) (j:Int) (h:qw2 p.1.1 j)
 refine @qe1 _ (let Q0:=qi1 p.1.1 j.toNat; ∃(v0:Unit),∃(v1:Nat),Nat.le v1 p.1.1.length/\((True/\(0:Int)=(↑v1:Int)/\True)/\(p.1.1=p.1.1/\p.1.2=p.1.2/\p.2=p.2/\True)/\List.take v1 Q0=[]/\True)/\∀(v2:Nat),Nat.le v2 p.1.1.length->(decide ((↑v2:Int)<(↑p.1.1.length:Int))=true->((0:Int)<=(↑v2:Int)/\(↑v2:Int)<(↑p.1.1.length:Int))/\((0:Int)<=j/\j<(↑(nL p.1.1 v2).length:Int))/\((0:Nat)<List.length [nI (nL p.1.1 v2) j.toNat]/\Nat.le ((List.take v2 Q0).length+List.length [nI (nL p.1.1 v2) j.toNat]) (1000000:Nat))/\fits .i64 ((↑v2:Int)+(1:Int))/\∃(v5:Nat),Nat.le v5 p.1.1.length/\p.1.1.length-v5<p.1.1.length-v2/\(True/\(↑v2:Int)+(1:Int)=(↑v5:Int)/\True)/\(p.1.1=p.1.1/\p.1.2=p.1.2/\p.2=p.2/\True)/\List.take v2 Q0++[nI (nL p.1.1 v2) j.toNat]=List.take v5 Q0/\True)/\(decide ((↑v2:Int)<(↑p.1.1.length:Int))=false->List.take v2 Q0=qi1 p.1.1 j.toNat)) (by kernel_rfl) ?_
 try simp only[z0,z1,z2,z3,z4,z5,z6,z7,z8,z9,z10,Int.reduceEq,z11,z12,z13,z14,z15,z16,z17,z18,z19,z20,z21,z22,z23,z24,z25,z26,z27,z28,z29,z30,Int.reduceLE,Int.reduceLT,z31,z32,z33,z34,qa1]
 try simp only[qb5,qb6,qd2,z31,z32,z2,z1]
 obtain⟨⟨m,y⟩,C⟩:=p
 dsimp only at h ⊢
 have hr:=h.rows
 refine⟨(),0,Nat.zero_le _,⟨rfl,rfl⟩,λk hk=>⟨λhlt=>⟨hlt,h.at_ k hlt,by rw[List.length_take]; omega,qa7 (by omega) (by omega),k+1,by omega,by omega,by omega,(wo8 _ _ _ hlt).symm⟩,λhge=>?_⟩⟩
 rw[List.take_of_length_le (by rw[qi7]; omega)]
structure wo9 (m:List (List Int)) (C:List Int):Prop where
 cho:ChoOk m C (λ_=>True) (λ_=>[])
 red:q08 (qq6 m C) C.length C.length
theorem w1u (m:List (List Int)) (C:List Int):(qf0 m C).length=(qi8 m C).2.length:=by simp[qf0]
theorem w8p (m:List (List Int)) (C:List Int) (k:Nat) (hk:k<(qi8 m C).2.length):(qf0 m C).take (k+1)=(qf0 m C).take k++[nI C (nI (qi8 m C).2 k).toNat]:=by
 rw[q0c _ _ (by rw[w1u]; exact hk)]
 congr 2
 unfold qf0
 rw[qh7 _ _ (by rw[List.length_map]; exact hk),List.getElem_map,qh7 _ _ hk]
abbrev x5u:qc9:=qg4 true none [tP] [qf1] (λx=>wo9 x.1.1.1 x.1.2) (λx=>(qf0 x.1.1.1 x.1.2,()))
def x1p (m:List (List Int)) (y C:List Int):Nat->Option Inv
 | 0=>some (Inv.of [4,19] 3 (λk:Nat=>[(4,.own 2),(19,.lit (.int .i64 k))]) (λk=>[pBox m y C,.mat 34 3 (.int .i64) (qi8 m C).1 .none .none,.vec 3 (.int .i64) ((qf0 m C).take k)]) (λk=>k<=(qi8 m C).2.length) (λk=>(qi8 m C).2.length-k))
 | _=>none
theorem w38:Meets Tryz.prog 135 x5u:=by
 refine meets (w7k [] [] (SpecsOk.cons (q3y (fs:=[(73,xe2)]) (SpecsOk.cons q4y (SpecsOk.nil _))) (SpecsOk.nil _)) (MutsOk.cons q09 MutsOk.nil)) Tryz.func135 rfl rfl (λx=>x1p x.1.1.1 x.1.1.2 x.1.2) (λ_=>by kernel_rfl) (by decide) ?_
 rintro⟨p,⟨⟩⟩ h
 revert p
 intro(p:(List (List Int) × List Int) × List Int) (h:wo9 p.1.1 p.2)
 refine @qe1 _ (let Q0:=qi8 p.1.1 p.2; let Q1:=qf0 p.1.1 p.2; ∃(v0:qa5 [qg0]->Prop),∃(v1:qa5 [qg0]->List Int),(∀(v2:Int × qa5._f [] PUnit.unit),v0 v2->True/\[]=v1 v2)/\ChoOk p.1.1 p.2 v0 v1/\((0:Ty.den qg0)<=(↑p.2.length:Int)/\∃(v2:Nat),q08 (qa9 p.1.1 p.2 λ(v3:Int)=>v1 (v3,())) (↑p.2.length:Int).toNat v2)/\∃(v2:Unit),∃(v3:Nat),Nat.le v3 Q0.2.length/\((True/\(0:Int)=(↑v3:Int)/\True)/\(p.1.1=p.1.1/\p.1.2=p.1.2/\p.2=p.2/\True)/\((qa6 (qa9 p.1.1 p.2 λ(v4:Int)=>v1 (v4,())) (↑p.2.length:Int).toNat).1=Q0.1/\True/\True)/\List.take v3 Q1=[]/\True)/\∀(v4:Nat),Nat.le v4 Q0.2.length->(decide ((↑v4:Int)<(↑(qa6 (qa9 p.1.1 p.2 λ(v7:Int)=>v1 (v7,())) (↑p.2.length:Int).toNat).2.length:Int))=true->((0:Int)<=(↑v4:Int)/\(↑v4:Int)<(↑(qa6 (qa9 p.1.1 p.2 λ(v7:Int)=>v1 (v7,())) (↑p.2.length:Int).toNat).2.length:Int))/\((0:Int)<=nI (qa6 (qa9 p.1.1 p.2 λ(v7:Int)=>v1 (v7,())) (↑p.2.length:Int).toNat).2 v4/\nI (qa6 (qa9 p.1.1 p.2 λ(v7:Int)=>v1 (v7,())) (↑p.2.length:Int).toNat).2 v4<(↑p.2.length:Int))/\((0:Nat)<List.length [nI p.2 (nI (qa6 (qa9 p.1.1 p.2 λ(v7:Int)=>v1 (v7,())) (↑p.2.length:Int).toNat).2 v4).toNat]/\Nat.le ((List.take v4 Q1).length+List.length [nI p.2 (nI (qa6 (qa9 p.1.1 p.2 λ(v7:Int)=>v1 (v7,())) (↑p.2.length:Int).toNat).2 v4).toNat]) (1000000:Nat))/\fits .i64 ((↑v4:Int)+(1:Int))/\∃(v7:Nat),Nat.le v7 Q0.2.length/\Q0.2.length-v7<Q0.2.length-v4/\(True/\(↑v4:Int)+(1:Int)=(↑v7:Int)/\True)/\(p.1.1=p.1.1/\p.1.2=p.1.2/\p.2=p.2/\True)/\(Q0.1=Q0.1/\True/\True)/\List.take v4 Q1++[nI p.2 (nI (qa6 (qa9 p.1.1 p.2 λ(v8:Int)=>v1 (v8,())) (↑p.2.length:Int).toNat).2 v4).toNat]=List.take v7 Q1/\True)/\(decide ((↑v4:Int)<(↑(qa6 (qa9 p.1.1 p.2 λ(v7:Int)=>v1 (v7,())) (↑p.2.length:Int).toNat).2.length:Int))=false->List.take v4 Q1=qf0 p.1.1 p.2)) (by kernel_rfl) ?_
 try simp only[z0,z1,z2,z3,z4,z5,z6,z7,z8,z9,z10,Int.reduceEq,z11,z12,z13,z14,z15,z16,z17,z18,z19,z20,z21,z22,z23,z24,z25,z26,z27,z28,z29,z30,Int.reduceLE,Int.reduceLT,z31,z32,z33,z34,qa1]
 try simp only[qb5,qb6,qd2,z31,z32,z2,z1]
 obtain⟨⟨m,y⟩,C⟩:=p
 dsimp only at h ⊢
 have hcr:=h.cho.rows
 have hcc:=h.cho.cols
 have hrw:=h.red.w
 refine⟨λ_=>True,λ_=>[],λ_ _=>rfl,h.cho,⟨C.length,h.red⟩,?_⟩
 have hkr:qa6 (qa9 m C λ_=>[]) C.length=qi8 m C:=rfl
 have hsh:=qv8 h.red C.length
 have hpv:=q1b (qq6 m C) C.length
 rw[hkr]
 change RedSh _ _ (qi8 m C) _ at hsh
 change ∀e∈(qi8 m C).2,_ at hpv
 have hP:∀k,k<(qi8 m C).2.length->0<=nI (qi8 m C).2 k/\nI (qi8 m C).2 k<C.length:=λk hk=>hpv _ (by rw[qh7 _ k hk]; exact List.getElem_mem hk)
 have hlen:=w1u m C
 have hpj:=hsh.pivj
 refine⟨(),0,Nat.zero_le _,⟨rfl,rfl,rfl⟩,λk hk=>⟨λhlt=>⟨hlt,hP k hlt,by rw[List.length_take]; omega,qa7 (by omega) (by omega),k+1,by omega,by omega,by omega,(w8p m C k hlt).symm⟩,λhge=>?_⟩⟩
 rw[List.take_of_length_le (by omega)]
structure qw3 (a b:List Int):Prop where
 len:a.length<=10
 le:a.length<=b.length
 sa:∀i,i<a.length->-1<=nI a i/\nI a i<=1
 sb:∀i,i<a.length->qc8 10000000000000000 (nI b i)
theorem wp0 {a b:List Int} (h:qw3 a b):∀k,k<=a.length->qc8 (10000000000000000*k) (ql0 a b k)
 | 0,_=>by unfold qc8; simp[ql0]
 | k+1,hk=>by
  have h1:=wp0 h k (by omega)
  have h2:=wn5 (h.sa k (by omega)) (h.sb k (by omega))
  unfold qc8 at *
  rw[ql0]
  omega
theorem DotOk.big {a b:List Int} (h:DotOk a b):qw3 a b:=⟨h.len,h.le,h.sa,λi hi=>by have:=h.sb i hi; unfold qc8 at *; omega⟩
abbrev x5v:qc9:=qg4 true none [qf1,qf1] [qg0] (λx=>qw3 x.1 x.2.1) (λx=>(ql0 x.1 x.2.1 x.1.length,()))
def x1q (a b:List Int):Nat->Option Inv
 | 0=>some (Inv.of [5,10] 0 (λk:Nat=>[(5,.lit (.int .i64 (ql0 a b k))),(10,.lit (.int .i64 k))]) (λ_=>[]) (λk=>k<=a.length) (λk=>a.length-k))
 | _=>none
theorem q9w:Meets Tryz.prog 136 x5v:=by
 refine meets (snd (SpecsOk.nil _)) Tryz.func136 rfl rfl (λx=>x1q x.1 x.2.1) (λ_=>by kernel_rfl) (by decide) ?_
 rintro⟨a,b,⟨⟩⟩ h
 revert a b
 intro(a:List Int) (b:List Int) (h:qw3 a b)
 refine @qe1 _ (∃(v0:Unit),∃(v1:Nat),Nat.le v1 a.length/\(((0:Int)=ql0 a b v1/\(0:Int)=(↑v1:Int)/\True)/\True)/\∀(v2:Nat),Nat.le v2 a.length->(decide ((↑v2:Int)<(↑a.length:Int))=true->((0:Int)<=(↑v2:Int)/\(↑v2:Int)<(↑a.length:Int))/\((0:Int)<=(↑v2:Int)/\(↑v2:Int)<(↑b.length:Int))/\fits .i64 (nI a v2*nI b v2)/\fits .i64 (ql0 a b v2+nI a v2*nI b v2)/\fits .i64 ((↑v2:Int)+(1:Int))/\∃(v5:Nat),Nat.le v5 a.length/\a.length-v5<a.length-v2/\(ql0 a b v2+nI a v2*nI b v2=ql0 a b v5/\(↑v2:Int)+(1:Int)=(↑v5:Int)/\True)/\True)/\(decide ((↑v2:Int)<(↑a.length:Int))=false->ql0 a b v2=ql0 a b a.length)) (by kernel_rfl) ?_
 try simp only[z0,z1,z2,z3,z4,z5,z6,z7,z8,z9,z10,Int.reduceEq,z11,z12,z13,z14,z15,z16,z17,z18,z19,z20,z21,z22,z23,z24,z25,z26,z27,z28,z29,z30,Int.reduceLE,Int.reduceLT,z31,z32,z33,z34,qa1]
 try simp only[qb5,qb6,qd2,z31,z32,z2,z1]
 have hl:=h.len
 have hle:=h.le
 refine⟨(),0,Nat.zero_le _,⟨rfl,rfl⟩,λk hk=>⟨λhlt=>?_,λhge=>?_⟩⟩
 ·have h1:=wp0 h k hk
  have h2:=wn5 (h.sa k hlt) (h.sb k hlt)
  unfold qc8 at h1 h2
  exact⟨hlt,by omega,qa7 (by omega) (by omega),qa7 (by omega) (by omega),qa7 (by omega) (by omega),k+1,hlt,by omega,rfl,by omega⟩
 ·obtain rfl:k=a.length:=by omega
  rfl
end Go.Proofs.YtmijnbjlhnpokaaGreat
