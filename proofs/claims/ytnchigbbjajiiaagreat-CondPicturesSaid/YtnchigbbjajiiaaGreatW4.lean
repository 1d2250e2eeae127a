/- Both eliminations, and what they need: plain mathematics. No condition. -/
import Derived.Test.YtnchigbbjajiiaaGreatV29
import Derived.Test.YtnchigbbjajiiaaGreatW10
set_option linter.unusedVariables false
set_option linter.unusedSimpArgs false
namespace Go.Proofs.YtnchigbbjajiiaaGreat
open Go Go.RowKit Eng
def svT (m:List (List Int)) (pix y:List Int):List (Int × Int) × Int:=if(svR m pix y).2.2=false then([],8) else if 0<(svR m pix y).2.1 then([],11) else((svR m pix y).1,0)
def w7k (m:List (List Int)) (pix y:List Int):List (Int × Int) × Int:=if q4j m y pix=0 then svT m pix y else([],q4j m y pix)
structure wm4 (m:List (List Int)) (pix y:List Int):Prop where
 fit:q6g m
 len:pix.length<=100000
 ok:q4j m y pix=0->x9t m pix y
abbrev yy9:qb3:=qe8 true (some 43) [tMask,tInts,tInts] [q4g,tInt] (λx=>wm4 x.1 x.2.1 x.2.2.1) (λx=>((w7k x.1 x.2.1 x.2.2.1).1,(w7k x.1 x.2.1 x.2.2.1).2,()))
theorem xh9:Meets Tryz.prog 280 yy9:=by
 refine mt0 (SpecsOk.cons q6y (SpecsOk.cons wu3 (SpecsOk.cons w6u (SpecsOk.cons ww9 (SpecsOk.nil _))))) Tryz.func280 ?_
 rintro⟨m,pix,y,⟨⟩⟩ h
 revert m pix y
 intro(m:List (List Int)) (pix:List Int) (y:List Int) (h:wm4 m pix y)
 refine vcs (let Q0:=w7k m pix y; let Q1:=svR m pix y; q6g m/\((!validB m)=true->Q0.1=[]/\(1:Int)=Q0.2/\True)/\((!validB m)=false->(((↑y.length:Int) != (↑m.length:Int))=true->Q0.1=[]/\(9:Int)=Q0.2/\True)/\(((↑y.length:Int) != (↑m.length:Int))=false->m.length<=(1000000:Nat)/\((w1f m y != (0:Int))=true->Q0.1=[]/\w1f m y=Q0.2/\True)/\((w1f m y != (0:Int))=false->(((0:Nat)<m.length/\(nL m (0:Nat)).length<=(1000000:Nat))/\pix.length<=(1000000:Nat))/\((wo3 (↑(nL m (0:Nat)).length:Int) pix != (0:Int))=true->Q0.1=[]/\wo3 (↑(nL m (0:Nat)).length:Int) pix=Q0.2/\True)/\((wo3 (↑(nL m (0:Nat)).length:Int) pix != (0:Int))=false->x9t m pix y/\((!Q1.2.2)=true->Q0.1=[]/\(8:Int)=Q0.2/\True)/\((!Q1.2.2)=false->(decide ((0:Int)<Q1.2.1)=true->Q0.1=[]/\(11:Int)=Q0.2/\True)/\(decide ((0:Int)<Q1.2.1)=false->Q1.1=Q0.1/\(0:Int)=Q0.2/\True))))))) ?_
 have hC:q4j m y pix=if validB m=false then 1 else if ¬y.length=m.length then 9 else if w6s y then 7 else x2f m pix:=rfl
 have hD:w1f m y=if ¬y.length=m.length then 9 else if w6s y then 7 else 0:=rfl
 have hN:x2f m pix=if validB m=false then 1 else wo3 (nL m 0).length pix:=rfl
 have hS:w7k m pix y=if q4j m y pix=0 then svT m pix y else([],q4j m y pix):=rfl
 refine⟨h.fit,λhv=>?_,λhv=>⟨λhl=>?_,λhl=>?_⟩⟩
 ·grind
 ·grind
 have hl:y.length=m.length:=ow
 have hM:=Mk.of hv
 have hm6:=hM.rows6
 have hm1:=hM.rows1
 have hn10:=hM.pix10
 have hlen:=h.len
 refine⟨ow,λhr=>?_,λhr=>⟨⟨⟨ow,ow⟩,ow⟩,λhn=>?_,λhn=>?_⟩⟩
 ·grind
 all_goals
  have ho:w6s y=false:=by
   cases e:w6s y with
   | false=>rfl
   | true=>rw[hD,zak (λq=>q hl),zao e] at hr; cases hr
  have e:q4j m y pix=wo3 (nL m 0).length pix:=by rw[hC,zak (by rw[hv]; decide),zak (λq=>q hl),zak (by rw[ho]; decide),hN,zak (by rw[hv]; decide)]
 ·grind
 ·have hz:q4j m y pix=0:=ow
  rw[hS,zao hz]
  have hT:svT m pix y=if(svR m pix y).2.2=false then([],8) else if 0<(svR m pix y).2.1 then([],11) else((svR m pix y).1,0):=rfl
  refine⟨h.ok hz,λh1=>by grind,λh1=>⟨λh2=>by grind,λh2=>by grind⟩⟩
theorem x0m {m:List (List Int)} {pix y:List Int} (h:wm4 m pix y):(w7k m pix y).1.length<=1000000:=by
 unfold w7k
 split
 ·rename_i he
  have hO:=h.ok he
  unfold svT
  split
  ·simp
  ·split
   ·simp
   ·unfold svR
    split
    ·simp
    ·dsimp only
     rw[qz2]
     have:=hO.pl
     omega
 simp
def w7l (l:List (Int × Int)):Bool:=l.any λr=>r.1==0
def x6z (s:List (Int × Int) × Int) (pix:List Int):Fit × Bool:=if s.2≠0\/w7l s.1=true then(([],[]),false) else((pix,s.1),true)
def wo6 (m:List (List Int)) (y pix:List Int):Fit × Bool:=x6z (w7k m pix y) pix
abbrev ym8:qb3:=qe8 false none [tMask,tInts,tInts] [tFit,.bool] (λx=>wm4 x.1 x.2.2.1 x.2.1) (λx=>((wo6 x.1 x.2.1 x.2.2.1).1,(wo6 x.1 x.2.1 x.2.2.1).2,()))
structure ye7 (l:List (Int × Int)) (k:Nat):Prop where
 le:k<=l.length
 all:∀i,i<k->(nQ l i).1≠0
def x9u (l:List (Int × Int)):Nat->Option Inv
 | 0=>some (Inv.of [24] 2 (λk:Nat=>[(24,.lit (.int .i64 k))]) (λ_=>[.box 55 (.cons (.lit (.slice none 0 0)) (.cons (.lit (.slice none 0 0)) .nil)),.dead]) (λk=>ye7 l k) (λk=>l.length-k))
 | _=>none
theorem w7m:Meets Tryz.prog 257 ym8:=by
 refine meets (x4h [] [35] (SpecsOk.cons xh9 (SpecsOk.nil _))) Tryz.func257 rfl rfl (λx=>x9u (w7k x.1 x.2.2.1 x.2.1).1) (λ_=>by kernel_rfl) dc ?_
 rintro⟨m,y,pix,⟨⟩⟩ h
 revert m y pix
 intro(m:List (List Int)) (y:List Int) (pix:List Int) (h:wm4 m pix y)
 refine vcs (let Q0:=w7k m pix y; let Q1:=wo6 m y pix; wm4 m pix y/\((Q0.2 != (0:Int))=true->(Q1.1.1=[]/\Q1.1.2=[]/\True)/\false=Q1.2/\True)/\((Q0.2 != (0:Int))=false->∃(v1:Unit),∃(v2:Nat),ye7 Q0.1 v2/\(((0:Int)=(↑v2:Int)/\True)/\(Value.slice none (0:Nat) (0:Nat)=Value.slice none (0:Nat) (0:Nat)/\Value.slice none (0:Nat) (0:Nat)=Value.slice none (0:Nat) (0:Nat)/\True)/\True/\True)/\∀(v3:Nat),ye7 Q0.1 v3->(decide ((↑v3:Int)<(↑Q0.1.length:Int))=true->((0:Int)<=(↑v3:Int)/\(↑v3:Int)<(↑Q0.1.length:Int))/\(((qe0 (Ty.prod (Ty.int .i64) (Ty.int .i64)) Q0.1 v3).1==(0:Int))=true->(Q1.1.1=[]/\Q1.1.2=[]/\True)/\false=Q1.2/\True)/\(((qe0 (Ty.prod (Ty.int .i64) (Ty.int .i64)) Q0.1 v3).1==(0:Int))=false->fits .i64 ((↑v3:Int)+(1:Int))/\∃(v7:Nat),ye7 Q0.1 v7/\Q0.1.length-v7<Q0.1.length-v3/\((↑v3:Int)+(1:Int)=(↑v7:Int)/\True)/\(Value.slice none (0:Nat) (0:Nat)=Value.slice none (0:Nat) (0:Nat)/\Value.slice none (0:Nat) (0:Nat)=Value.slice none (0:Nat) (0:Nat)/\True)/\True/\True))/\(decide ((↑v3:Int)<(↑Q0.1.length:Int))=false->Nat.le ((0:Nat)+pix.length) (1000000:Nat)/\([]++pix=Q1.1.1/\Q0.1=Q1.1.2/\True)/\true=Q1.2/\True))) ?_
 have hl:=x0m h
 have hpx:=h.len
 have hF:wo6 m y pix=x6z (w7k m pix y) pix:=rfl
 generalize w7k m pix y=s at hl hF ⊢
 refine⟨h,λhe=>?_,λhe=>⟨(),0,⟨zae _,λi hi=>absurd hi ow⟩,rfl,λk hk=>⟨λhlt=>⟨hlt,λhz=>?_,λhz=>⟨qa3,k+1,⟨hlt,λi hi=>?_⟩,ow,ow⟩⟩,λhge=>⟨ow,?_⟩⟩⟩⟩
 ·rw[hF,x6z,zao (.inl he)]; simp
 ·have:w7l s.1=true:=by
   unfold w7l
   rw[zbm]
   exact⟨nQ s.1 k,by show qe0 qo4 s.1 k∈s.1; simp_all [qo5,qo4,List.getElem_mem],beq_iff_eq.2 hz⟩
  rw[hF,x6z,zao (.inr this)]; simp
 ·by_cases e:i=k
  ·subst e; exact hz
  ·exact hk.all i ow
 ·have:¬(s.2≠0\/w7l s.1=true):=by
   rintro(q | q)
   ·omega
   ·unfold w7l at q
    rw[zbm] at q
    obtain⟨x,hx,hx0⟩:=q
    obtain⟨i,hi,rfl⟩:=zaz hx
    have:=hk.all i ow
    simp_all [nQ,qo5,qo4,beq_iff_eq]
  rw[hF,x6z,zak this]; simp
theorem w4l {m:List (List Int)} {y:List Int} {pix:List Int} (h:qn5 m y=0):q4j m y pix=wo3 (nL m 0).length pix/\validB m=true:=by
 have hC:q4j m y pix=if validB m=false then 1 else if ¬y.length=m.length then 9 else if w6s y then 7 else x2f m pix:=rfl
 have hN:x2f m pix=if validB m=false then 1 else wo3 (nL m 0).length pix:=rfl
 unfold qn5 at h
 split at h
 ·cases h
 ·rename_i hv
  unfold w1f at h
  grind
theorem x5f {m:List (List Int)} {y:List Int} {pix:List Int} (h:qn5 m y≠0):q4j m y pix=qn5 m y:=by
 have hC:q4j m y pix=if validB m=false then 1 else if ¬y.length=m.length then 9 else if w6s y then 7 else x2f m pix:=rfl
 unfold qn5 w1f at *
 grind
abbrev yz0:qb3:=qe8 true none [tMask,tInts] [.bool] (λx=>q6g x.1) (λx=>(qn5 x.1 x.2.1==0,()))
theorem xi0:Meets Tryz.prog 113 yz0:=by
 refine mt0 (SpecsOk.cons q76 (SpecsOk.nil _)) Tryz.func113 ?_
 rintro⟨m,y,⟨⟩⟩ h
 revert m y
 intro(m:List (List Int)) (y:List Int) (h:q6g m)
 refine vcr (q6g m/\(qn5 m y==(0:Int))=(qn5 m y==(0:Int))) ?_
 grind
def qk6 (m:List (List Int)) (y:List Int) (s:List (List Int)):List Fit:=s.filterMap λpix=>if(wo6 m y pix).2=true then some (wo6 m y pix).1 else none
def q5n (m:List (List Int)) (y:List Int):List Fit:=qk6 m y (qc8 (nL m 0).length)
structure q5o (m:List (List Int)) (y:List Int):Prop where
 one:0<m.length
 pix:(nL m 0).length<=7
 each:∀s∈qc8 (nL m 0).length,wm4 m s y
abbrev ym9:qb3:=qe8 false none [tMask,tInts] [x8u] (λx=>q5o x.1 x.2.1) (λx=>(q5n x.1 x.2.1,()))
def x9v (m:List (List Int)) (y:List Int) (L:List (List Int)):Nat->Option Inv
 | 0=>some (Inv.of [5,16] 1 (λk:Nat=>[(5,.own 0),(16,.lit (.int .i64 k))]) (λk=>[.vec 55 tFit (qk6 m y (L.take k))]) (λk=>k<=L.length) (λk=>L.length-k))
 | _=>none
theorem wm5 (m:List (List Int)) (y:List Int) {s:List (List Int)} {c:Nat} (h:c<s.length):qk6 m y (s.take (c+1))=qk6 m y (s.take c)++if(wo6 m y (nL s c)).2=true then[(wo6 m y (nL s c)).1] else[]:=by
 rw[qm3 s c h,zea,zam h]
 unfold qk6
 grind
theorem q6a (m:List (List Int)) (y:List Int) (s:List (List Int)):(qk6 m y s).length<=s.length:=List.length_filterMap_le _ s
theorem w7n:Meets Tryz.prog 207 ym9:=by
 refine mts (SpecsOk.cons q8i (SpecsOk.cons w7m (SpecsOk.nil _))) Tryz.func207 (λx=>x9v x.1 x.2.1 (qc8 (nL x.1 0).length)) ?_
 rintro⟨m,y,⟨⟩⟩ h
 revert m y
 intro(m:List (List Int)) (y:List Int) (h:q5o m y)
 refine vcs (((0:Int)<=(0:Int)/\(0:Int)<(↑m.length:Int))/\((0:Ty.den tInt)<=(↑(nL m (0:Nat)).length:Int)/\(↑(nL m (0:Nat)).length:Int)<=(7:Ty.den tInt))/\∃(v0:Unit),∃(v1:Nat),Nat.le v1 (qc8 (nL m (0:Nat)).length).length/\((True/\(0:Int)=(↑v1:Int)/\True)/\qk6 m y (List.take v1 (qc8 (nL m (0:Nat)).length))=[]/\True)/\∀(v2:Nat),Nat.le v2 (qc8 (nL m (0:Nat)).length).length->(decide ((↑v2:Int)<(↑(qc8 (↑(nL m (0:Nat)).length:Int).toNat).length:Int))=true->((0:Int)<=(↑v2:Int)/\(↑v2:Int)<(↑(qc8 (↑(nL m (0:Nat)).length:Int).toNat).length:Int))/\wm4 m (nL (qc8 (↑(nL m (0:Nat)).length:Int).toNat) v2) y/\((wo6 m y (nL (qc8 (↑(nL m (0:Nat)).length:Int).toNat) v2)).2=true->((0:Nat)<List.length [((wo6 m y (nL (qc8 (↑(nL m (0:Nat)).length:Int).toNat) v2)).1.1,(wo6 m y (nL (qc8 (↑(nL m (0:Nat)).length:Int).toNat) v2)).1.2)]/\Nat.le ((qk6 m y (List.take v2 (qc8 (nL m (0:Nat)).length))).length+List.length [((wo6 m y (nL (qc8 (↑(nL m (0:Nat)).length:Int).toNat) v2)).1.1,(wo6 m y (nL (qc8 (↑(nL m (0:Nat)).length:Int).toNat) v2)).1.2)]) (1000000:Nat))/\fits .i64 ((↑v2:Int)+(1:Int))/\∃(v6:Nat),Nat.le v6 (qc8 (nL m (0:Nat)).length).length/\(qc8 (nL m (0:Nat)).length).length-v6<(qc8 (nL m (0:Nat)).length).length-v2/\(True/\(↑v2:Int)+(1:Int)=(↑v6:Int)/\True)/\qk6 m y (List.take v2 (qc8 (nL m (0:Nat)).length))++[((wo6 m y (nL (qc8 (↑(nL m (0:Nat)).length:Int).toNat) v2)).1.1,(wo6 m y (nL (qc8 (↑(nL m (0:Nat)).length:Int).toNat) v2)).1.2)]=qk6 m y (List.take v6 (qc8 (nL m (0:Nat)).length))/\True)/\((wo6 m y (nL (qc8 (↑(nL m (0:Nat)).length:Int).toNat) v2)).2=false->fits .i64 ((↑v2:Int)+(1:Int))/\∃(v6:Nat),Nat.le v6 (qc8 (nL m (0:Nat)).length).length/\(qc8 (nL m (0:Nat)).length).length-v6<(qc8 (nL m (0:Nat)).length).length-v2/\(True/\(↑v2:Int)+(1:Int)=(↑v6:Int)/\True)/\qk6 m y (List.take v2 (qc8 (nL m (0:Nat)).length))=qk6 m y (List.take v6 (qc8 (nL m (0:Nat)).length))/\True))/\(decide ((↑v2:Int)<(↑(qc8 (↑(nL m (0:Nat)).length:Int).toNat).length:Int))=false->qk6 m y (List.take v2 (qc8 (nL m (0:Nat)).length))=q5n m y)) ?_
 have h1:=h.one
 have h2:=h.pix
 have hlen:(qc8 (nL m 0).length).length<=128:=(q1q (n:=(nL m 0).length) (k:=128) h2 (zab _)).1
 have hea:=h.each
 have hR:q5n m y=qk6 m y (qc8 (nL m 0).length):=rfl
 rw[hR]
 generalize qc8 (nL m 0).length=L at hlen hea ⊢
 refine⟨ow,ow,(),0,zae _,⟨rfl,by rfl⟩,λc hc=>⟨λhlt=>?_,λhge=>?_⟩⟩
 ·have hl:=q6a m y (L.take c)
  rw[List.length_take] at hl
  have hs:=wm5 m y hlt
  refine⟨hlt,hea _ (qn7 L c hlt),λhf=>⟨ow,qa3,c+1,hlt,ow,ow,?_⟩,λhf=>⟨qa3,c+1,hlt,ow,ow,?_⟩⟩
  all_goals grind
 grind
def xi1 (k:Int) (L:List Fit):List Fit:=L.filter λf=>decide ((f.1.length:Int)<=k)
structure yn0 (m:List (List Int)) (y:List Int):Prop where
 fit:q6g m
 all:qn5 m y=0->q5o m y
theorem w4m {m:List (List Int)} {y:List Int} (h:q5o m y):(q5n m y).length<=128:=by
 have h1:=q6a m y (qc8 (nL m 0).length)
 have h2:=(q1q (n:=(nL m 0).length) (k:=128) h.pix (zab _)).1
 have e:qc8 (nL m 0).length=qb6 (nL m 0).length 128:=rfl
 grind [q5n]
def dt (W:Nat) (r:List Int) (z:Nat->Int):Int:=sm W λc=>nI r c*z c
theorem w4n {W:Nat} {r' r p:List Int} {z:Nat->Int} {α β γ:Int} (h:∀c,c<W->α*nI r' c=β*nI r c-γ*nI p c):α*dt W r' z=β*dt W r z-γ*dt W p z:=by
 unfold dt
 rw[<- qk8,<- qk8,<- qk8,<- x2i]
 grind [qe1,Int.mul_assoc,Int.sub_mul]
theorem qk9 (P:List Int) (x:Int) {q:Nat} (h:q<P.length):nI (P++[x]) q=nI P q:=by
 grind [qf1,List.length_append,List.getElem_append_left]
theorem qn9 (P:List Int) (x:Int):nI (P++[x]) P.length=x:=by
 simp_all [qf1,List.length_append,Nat.lt_succ_self,List.getElem_append_right,Nat.le_refl]
theorem q4q {a x:Int} (ha:0<a) (h:0<a*x):0<x:=Int.lt_of_mul_lt_mul_left (a:=a) ow ow
structure Elm (W j:Nat) (r' r p:List Int):Prop where
 zero:nI r' j=0
 rel:∃α β γ:Int,0<α/\0<β/\∀c,c<W->α*nI r' c=β*nI r c-γ*nI p c
 nice:∀f,x9r W f (nI r)->x9r W f (nI r')
structure St (n W:Nat) (R:Nat->Nat->Int) (j:Nat) (rows:List (List Int)) (P:List Int):Prop where
 len:rows.length=n
 each:∀i,i<n->(nL rows i).length=W
 tag:∃(ρ:Nat->Nat->Int) (pv:Nat->Option Nat) (τ:Nat->Nat),El n W R ρ pv/\(∀i,i<n->τ i<n)/\(∀i k,i<n->k<n->τ i=τ k->i=k)/\(∀a,a<n->∃i,i<n/\τ i=a)/\(∀i,i<n->∀c,c<W->ρ (τ i) c=nI (nL rows i) c)/\(∀q,q<n->pv (τ q)=if q<P.length then some (nI P q).toNat else none)/\∀i,i<n->x9r W (R (τ i)) (nI (nL rows i))
 sol:∀z:Nat->Int,(∀a,a<n->(sm W λc=>R a c*z c)=0)↔∀i,i<n->dt W (nL rows i) z=0
 pl:P.length<=n
 zero:∀i,P.length<=i->i<n->∀c,c<j->nI (nL rows i) c=0
 pos:∀q,q<P.length->0<=nI P q/\nI P q<j/\0<nI (nL rows q) (nI P q).toNat/\(∀c,c<(nI P q).toNat->nI (nL rows q) c=0)/\∀i,i<n->i≠q->nI (nL rows i) (nI P q).toNat=0
 asc:∀q k,q<k->k<P.length->nI P q<nI P k
theorem St.skip {n W:Nat} {R:Nat->Nat->Int} {j:Nat} {rows:List (List Int)} {P:List Int} (h:St n W R j rows P) (hz:∀i,P.length<=i->i<n->nI (nL rows i) j=0):St n W R (j+1) rows P:=by
 refine⟨h.len,h.each,h.tag,h.sol,h.pl,λi h1 h2 c hc=>?_,λq hq=>?_,h.asc⟩
 ·rcases zat.1 hc with e | e
  ·exact h.zero i h1 h2 c e
  grind
 ·obtain⟨q1,q2,q3,q4,q5⟩:=h.pos q hq
  grind
theorem St.step {n W:Nat} {R:Nat->Nat->Int} {j:Nat} {rows rows':List (List Int)} {P:List Int} (h:St n W R j rows P) (hj:j<W) (hk:P.length<n) (hlen:rows'.length=n) (heach:∀i,i<n->(nL rows' i).length=W)
  (π:Nat->Nat) (hπ:∀i,i<n->π i<n) (hinj:∀i k,i<n->k<n->π i=π k->i=k) (hsur:∀i,i<n->∃k,k<n/\π k=i) (hfix:∀i,i<P.length->π i=i)
  (hx:∃s:Int,(s=1\/s=-1)/\∀c,c<W->nI (nL rows' P.length) c=s*nI (nL rows (π P.length)) c) (hpos:0<nI (nL rows' P.length) j)
  (ho:∀i,i<n->i≠P.length->Elm W j (nL rows' i) (nL rows (π i)) (nL rows' P.length)):St n W R (j+1) rows' (P++[(j:Int)]):=by
 obtain⟨s,hs,hsx⟩:=hx
 have hs0:s≠0:=by rcases hs with rfl | rfl <;> decide
 have hge:∀i,P.length<=i->i<n->P.length<=π i:=λi h1 h2=>by
  rcases zap (π i) P.length with e | e
  ·have:=hinj (π i) i (hπ i h2) h2 (hfix _ e)
   omega
  ·exact e
 have hnx:nI (nL rows (π P.length)) j≠0:=λe=>by
  have:=hsx j hj
  rw[e,zbl] at this
  omega
 have hpk:∀c,c<j->nI (nL rows' P.length) c=0:=λc hc=>by
  rw[hsx c ow,h.zero _ (hge _ (zab _) hk) (hπ _ hk) c hc,zbl]
 have hpz:∀q,q<P.length->nI (nL rows' P.length) (nI P q).toNat=0:=λq hq=>by
  have:=h.pos q hq
  exact hpk _ ow
 obtain⟨ρ,pv,τ,hE,t1,t2,t3,t4,t5,t6⟩:=h.tag
 have hsur2:∀a,∃i,a<n->i<n/\τ (π i)=a:=λa=>by
  by_cases ha:a<n
  ·obtain⟨i,hi,e⟩:=t3 a ha
   obtain⟨k,hk,e2⟩:=hsur i hi
   exact⟨k,λ_=>⟨hk,by rw[e2,e]⟩⟩
  ·exact⟨0,λq=>absurd q ha⟩
 obtain⟨σ,hσ⟩:=zbq hsur2
 have hστ:∀i,i<n->σ (τ (π i))=i:=λi hi=>by
  obtain⟨q1,q2⟩:=hσ (τ (π i)) (t1 _ (hπ i hi))
  exact hinj _ _ q1 hi (t2 _ _ (hπ _ q1) (hπ _ hi) q2)
 refine⟨hlen,heach,⟨λa c=>nI (nL rows' (σ a)) c,λb=>if b=τ (π P.length) then some j else pv b,λi=>τ (π i),?_,λi hi=>t1 _ (hπ i hi),λi k hi hk e=>hinj _ _ hi hk (t2 _ _ (hπ i hi) (hπ k hk) e),λa ha=>⟨σ a,hσ a ha⟩,λi hi c hc=>by dsimp only; rw[hστ i hi],λq hq=>?_,λi hi=>?_⟩,λz=>?_,by rw[zay]; exact hk,λi h1 h2 c hc=>?_,λq hq=>?_,λq k h1 h2=>?_⟩
 ·refine hE.step (t1 _ (hπ _ hk)) ?_ hj ?_ ⟨s,hs0,λc hc=>?_⟩ λa ha hne=>?_
  ·rw[t5 _ (hπ _ hk),zak (Nat.not_lt.2 (hge _ (zab _) hk))]
  ·rw[t4 _ (hπ _ hk) j hj]; exact hnx
  ·try dsimp only
   rw[hστ _ hk,hsx c hc,t4 _ (hπ _ hk) c hc]
  ·obtain⟨q1,q2⟩:=hσ a ha
   have hne2:σ a≠P.length:=λe=>hne (by rw[<- q2,e])
   have hel:=ho _ q1 hne2
   refine⟨hel.zero,?_⟩
   obtain⟨α,β,γ,hα,hβ,hr⟩:=hel.rel
   refine⟨α,β,γ,ow,ow,λc hc=>?_⟩
   try dsimp only
   rw[hστ _ hk,hr c hc]
   have:=t4 _ (hπ _ q1) c hc
   rw[q2] at this
   rw[this]
 ·dsimp only
  by_cases e:q=P.length
  ·subst e
   rw[zao rfl,zao (by rw[zay]; exact zeh _),qn9]
   rfl
  ·rw[zak λq2=>e (hinj _ _ hq hk (t2 _ _ (hπ _ hq) (hπ _ hk) q2)),t5 _ (hπ _ hq),zay]
   rcases zap q P.length with e2 | e2
   ·rw[hfix _ e2,zao e2,zao ow,qk9 _ _ e2]
   ·rw[zak (Nat.not_lt.2 (hge _ e2 hq)),zak (by simp; omega)]
 ·dsimp only
  by_cases e:i=P.length
  ·subst e
   rcases t6 _ (hπ _ hi) with⟨u,hu,hr⟩ | hr | hr
   ·refine .inl ⟨s*u,?_,λc hc=>by rw[hsx c hc,hr c hc,ze4]⟩
    rcases hs with rfl | rfl <;> rcases hu with rfl | rfl <;> simp
   ·exact .inr (.inl λc hc=>by rw[hsx c hc,hr c hc,zbl])
   ·refine .inr (.inr λd hd=>hr d λc hc=>?_)
    have:=hd c hc
    rw[hsx c hc,zbp] at this
    have h1:s.natAbs=1:=by rcases hs with rfl | rfl <;> rfl
    rwa [h1,zdu] at this
  ·exact(ho i hi e).nice _ (t6 _ (hπ _ hi))
 ·rw[h.sol z]
  have hdk:dt W (nL rows' P.length) z=s*dt W (nL rows (π P.length)) z:=by
   have:=w4n (W:=W) (r':=nL rows' P.length) (r:=nL rows (π P.length)) (p:=[]) (z:=z) (α:=1) (β:=s) (γ:=0) λc hc=>by rw[hsx c hc]; simp
   simpa using this
  constructor
  ·intro hz i hi
   have hzk:dt W (nL rows' P.length) z=0:=by rw[hdk,hz _ (hπ _ hk),zbl]
   by_cases e:i=P.length
   ·rw[e]; exact hzk
   ·obtain⟨α,β,γ,hα,hβ,hr⟩:=(ho i hi e).rel
    have:=w4n (z:=z) hr
    rw[hzk,hz _ (hπ _ hi),zbl,zbl] at this
    exact qc9 ow (show α≠0 by omega)
  ·intro hz i' hi'
   obtain⟨i,hi,rfl⟩:=hsur i' hi'
   by_cases e:i=P.length
   ·have:=hz _ hk
    rw[hdk] at this
    rw[e]
    exact qc9 this hs0
   ·obtain⟨α,β,γ,hα,hβ,hr⟩:=(ho i hi e).rel
    have:=w4n (z:=z) hr
    rw[hz _ hk,hz _ hi,zbl,zbl] at this
    exact qc9 (a:=β) ow ow
 ·rw[zay] at h1
  have h1:P.length+1<=i:=h1
  have hel:=ho i h2 ow
  rcases zat.1 hc with e | e
  ·obtain⟨α,β,γ,hα,hβ,hr⟩:=hel.rel
   have:=hr c ow
   rw[hpk c e,h.zero _ (hge _ ow h2) (hπ _ h2) c e] at this
   exact qc9 (a:=α) (by simpa using this) ow
  ·rw[e]; exact hel.zero
 ·rw[zay] at hq
  have hq:q<P.length+1:=hq
  rcases zat.1 hq with e | e
  ·rw[qk9 _ _ e]
   obtain⟨q1,q2,q3,q4,q5⟩:=h.pos q e
   have hel:=ho q ow ow
   obtain⟨α,β,γ,hα,hβ,hr⟩:=hel.rel
   refine⟨q1,ow,q4q hα ?_,λc hc=>?_,λi hi hne=>?_⟩
   ·rw[hr _ ow,hpz q e,hfix _ e,zbl,Int.sub_zero]
    exact zb8 hβ q3
   ·have:=hr c ow
    rw[hpk c ow,hfix _ e,q4 c hc] at this
    exact qc9 (a:=α) (by simpa using this) ow
   ·by_cases e3:i=P.length
    ·rw[e3]; exact hpz q e
    ·obtain⟨α,β,γ,hα,hβ,hr⟩:=(ho i hi e3).rel
     have:=hr (nI P q).toNat ow
     rw[hpz q e,q5 (π i) (hπ _ hi) λe4=>hne (hinj _ _ hi ow (by rw[e4,hfix _ e]))] at this
     exact qc9 (a:=α) (by simpa using this) ow
  ·subst e
   rw[qn9]
   refine⟨ow,ow,hpos,λc hc=>hpk c hc,λi hi hne=>(ho i hi hne).zero⟩
 ·rw[zay] at h2
  have h2:k<P.length+1:=h2
  rcases zat.1 h2 with e | e
  ·rw[qk9 _ _ e,qk9 _ _ ow]; exact h.asc q k h1 e
  ·subst e
   rw[qn9,qk9 _ _ h1]
   have:=h.pos q h1
   omega
theorem St.bound {n W:Nat} {R:Nat->Nat->Int} {j:Nat} {rows:List (List Int)} {P:List Int} (h:St n W R j rows P) (hone:∀a c,a<n->c<j->(R a c).natAbs<=1) {i c B:Nat} (hi:i<n) (hc:c<W) (hB:∀b,b<n->(R b c).natAbs<=B):(nI (nL rows i) c).natAbs<=n ^ n*B:=by
 obtain⟨ρ,pv,τ,hE,t1,t2,t3,t4,t5,t6⟩:=h.tag
 rw[<- t4 i hi c hc]
 refine hE.bound (λt p ht hp b hb=>?_) (t1 i hi) ?_ hc hB
 ·obtain⟨q,hq,rfl⟩:=t3 t ht
  rw[t5 q hq] at hp
  split at hp
  ·rename_i hqP
   obtain rfl:=zaa hp
   have:=h.pos q hqP
   exact hone b _ hb ow
  ·cases hp
 ·rcases t6 i hi with⟨s,hs,hr⟩ | hr | hr
  ·exact .inl ⟨s,hs,λc hc=>by rw[t4 i hi c hc]; exact hr c hc⟩
  ·exact .inr (.inl λc hc=>by rw[t4 i hi c hc]; exact hr c hc)
  ·exact .inr (.inr λd hd=>hr d λc hc=>by rw[<- t4 i hi c hc]; exact hd c hc)
theorem wm6 (l:List Int) {c:Nat} (h:l.length<=c):nI l c=0:=by
 unfold nI qe0
 simp[List.getElem?_eq_none h]
 rfl
theorem xi2 {l:List Int} {f:Int->Int} {c:Nat} (h:c<l.length):nI (l.map f) c=f (nI l c):=by
 grind [qf1]
theorem q8y {l:List Int} {c:Nat} (h:c<l.length):nI l c∈l:=by grind [qf1,List.getElem_mem]
theorem q8z {l:List Int} {x:Int} (h:x∈l):∃c,c<l.length/\x=nI l c:=by
 obtain⟨c,hc,rfl⟩:=zby.1 h
 exact⟨c,hc,(qf1 l c hc).symm⟩
theorem xi3 (a b:Int):(gcdI a b).natAbs=Nat.gcd a.natAbs b.natAbs:=rfl
theorem x9w:∀(l:List Int) (a:Int),(l.foldl gcdI a).natAbs∣a.natAbs/\(∀x∈l,(l.foldl gcdI a).natAbs∣x.natAbs)/\∀d:Nat,d∣a.natAbs->(∀x∈l,d∣x.natAbs)->d∣(l.foldl gcdI a).natAbs
 | [],a=>⟨Nat.dvd_refl _,λx hx=>(by grind),λd h _=>h⟩
 | y :: l,a=>by
  obtain⟨h1,h2,h3⟩:=x9w l (gcdI a y)
  rw[List.foldl_cons]
  rw[xi3] at h1 h3
  refine⟨Nat.dvd_trans h1 (zb0 _ _),λx hx=>?_,λd ha hx=>h3 d (Nat.dvd_gcd ha (hx y (by simp))) λx hx'=>hx x (by grind)⟩
  rcases zas.1 hx with rfl | hx
  all_goals grind [Nat.dvd_trans,Nat.gcd_dvd_right]
theorem q80:∀(l:List Int) (a:Int),0<=a->0<=l.foldl gcdI a
 | [],a,h=>h
 | y :: l,a,_=>q80 l _ (q72 _ _)
theorem q3n (l:List Int):0<=gcdL l:=q80 l 0 dc
theorem q6b (l:List Int):qe4 l=qk1 l:=by
 have h0:=q3n l
 unfold qe4 qk1
 split
 ·grind
 simp_all [max,gcdL]
theorem qz3 (l:List Int) {c:Nat} (hc:c<l.length):max (gcdL l) 1*nI (qk1 l) c=nI l c:=by
 have h0:=q3n l
 unfold qk1
 rw[xi2 hc]
 apply za9
 rcases zcq 0 (gcdL l) with h | h
 ·grind [max,gcdL,Int.natAbs_dvd_natAbs,x9w,q8y]
 ·rw[show max (gcdL l) 1=1 by omega]
  simp
def Prim (l:List Int):Prop:=(∀c,c<l.length->nI l c=0)\/∀d:Nat,(∀c,c<l.length->d∣(nI l c).natAbs)->d=1
theorem qp3 (l:List Int):Prim (qk1 l):=by
 have h0:=q3n l
 unfold Prim
 rw[qn6]
 rcases zcq 0 (gcdL l) with h | h
 ·refine .inr λd hd=>?_
  have hm:max (gcdL l) 1=gcdL l:=ow
  have h1:(gcdL l).natAbs*d∣(gcdL l).natAbs:=(x9w l 0).2.2 _ (Nat.dvd_zero _) λx hx=>by
   obtain⟨c,hc,rfl⟩:=q8z hx
   grind [qz3,Int.natAbs_mul,Nat.mul_dvd_mul_left]
  have h2:(gcdL l).natAbs*d∣(gcdL l).natAbs*1:=by grind
  exact Nat.dvd_one.1 (Nat.dvd_of_mul_dvd_mul_left ow h2)
 ·refine .inl λc hc=>?_
  have h1:nI l c=0:=by
   have:=(x9w l 0).2.1 _ (q8y hc)
   have e:(l.foldl gcdI 0).natAbs=0:=by
    grind [gcdL]
   simp_all
  have:=qz3 l hc
  grind
theorem Prim.nice {l:List Int} {W:Nat} (h:Prim l) (hl:l.length=W) (f:Nat->Int):x9r W f (nI l):=by
 subst hl
 exact .inr (h.imp id id)
theorem x0n (l:List Int) (c:Nat):(nI (qk1 l) c).natAbs<=(nI l c).natAbs:=by
 rcases zap c l.length with h | h
 ·unfold qk1
  rw[xi2 h,zck]; exact zcp _ _
 grind [wm6,qn6]
theorem x2p {W j:Nat} {u r p:List Int} {β γ:Int} (hj:j<W) (hu:u.length=W) (h0:nI u j=0) (hβ:0<β) (h:∀c,c<W->nI u c=β*nI r c-γ*nI p c):Elm W j (qk1 u) r p:=by
 subst hu
 have hG:0<max (gcdL u) 1:=ow
 refine⟨?_,⟨max (gcdL u) 1,β,γ,hG,hβ,λc hc=>by grind [qz3]⟩,λf _=>(qp3 u).nice (qn6 u) f⟩
 grind [qz3,qc9]
theorem x0o {W j:Nat} {r p:List Int} (h0:nI r j=0):Elm W j r r p:=⟨h0,⟨1,1,0,dc,dc,λc _=>by simp⟩,λ_ h=>h⟩
theorem xi4 (r b:List Int) (j:Nat) {c:Nat} (hc:c<r.length):nI (q57 r b j) c=x6u r b j c:=by
 grind [qf1,q2e,q57]
theorem xi5 {W j:Nat} {r p:List Int} (hj:j<W) (hr:r.length=W) (hp:0<nI p j):Elm W j (qy9 r p j) r p:=by
 have hg:0<gcdI (nI r j) (nI p j):=ql9 (.inr ow)
 have e1:gcdI (nI r j) (nI p j)*q1 r p j=nI p j:=za9 (za5.1 (zb3 _ _))
 have e2:gcdI (nI r j) (nI p j)*q2 r p j=nI r j:=za9 (za5.1 (zb0 _ _))
 unfold qy9
 rw[q6b]
 refine x2p (β:=q1 r p j) (γ:=q2 r p j) hj (by grind [q2e]) ?_ (q4q hg ow) λc hc=>?_
 all_goals grind [xi4,x6u,nI,q1,q2,gcdI]
theorem w4o (r p:List Int) (j:Nat) {c:Nat} (hc:c<r.length):nI (q5i r p j) c=nI r c*nI p j-nI p c*nI r j:=by
 grind [qf1,q5i]
theorem xi6 (r p:List Int) (j:Nat):(q5i r p j).length=r.length:=by simp[q5i]
theorem q81 {W j:Nat} {r p:List Int} (hj:j<W) (hr:r.length=W) (hp:0<nI p j):Elm W j (qe3 r p j) r p:=by
 unfold qe3
 refine x2p (β:=nI p j) (γ:=nI r j) hj (by grind [xi6]) ?_ hp λc hc=>?_
 all_goals grind [w4o]
structure Mat (n W:Nat) (M:List (List Int)):Prop where
 len:M.length=n
 each:∀i,i<n->(nL M i).length=W
def rowOf (M:List (List Int)):Nat->Nat->Int:=λa c=>nI (nL M a) c
theorem wx0 (r:List Int) (c:Nat):nI (xx2 r) c=- nI r c:=by
 grind [Nat.lt_or_ge,qf1,wk5,xx2,wm6]
theorem xi7 (r:List (List Int)) (k i:Nat):nL (r.drop k) i=nL r (k+i):=by
 grind [nL,qe0]
theorem xi8 {r:List (List Int)} {k j:Nat} (h:qu8 r k j<0):∀i,k<=i->i<r.length->nI (nL r i) j=0:=λi h1 h2=>by
 unfold qu8 ixT at h
 split at h
 ·omega
 ·rename_i hn
  have:=zbr.1 (zec.2 hn) (nL r i) (by
   have:=xi7 r k (i-k)
   grind [qn7,List.length_drop])
  grind
theorem w4p {r:List (List Int)} {k j:Nat} (h:0<=qu8 r k j):nI (nL r (k+(qu8 r k j).toNat)) j≠0:=by
 unfold qu8 ixT at h ⊢
 split at h
 ·rename_i ha
  rw[zao ha]
  have h1:=List.findIdx_getElem (xs:=r.drop k) (p:=λr=>nI r j != 0) (w:=List.findIdx_lt_length.2 (by grind))
  grind [nI,List.findIdx_lt_length,qm3,xi7]
 omega
theorem St.zero_ {n W:Nat} {M:List (List Int)} (h:Mat n W M):St n W (rowOf M) 0 M []:=by
 refine⟨h.len,h.each,⟨rowOf M,λ_=>none,id,El.start λa _=>⟨1,dc,λj _=>ze0 _⟩,λi hi=>hi,λi k _ _ e=>e,λa ha=>⟨a,ha,rfl⟩,λi _ c _=>rfl,λq _=>by simp,λi _=>.inl ⟨1,.inl rfl,λc _=>(ze0 _).symm⟩⟩,λz=>zep,zae _,λi _ _ c hc=>absurd hc (zav _),λq hq=>absurd hq (zav _),λq k _ hk=>absurd hk (zav _)⟩
theorem we8 {n W j:Nat} {R:Nat->Nat->Int} {s:List (List Int) × List Int} (hj:j<W) (h:St n W R j s.1 s.2):St n W R (j+1) (qx7 s j).1 (qx7 s j).2:=by
 obtain⟨r,P⟩:=s
 have h:St n W R j r P:=h
 unfold qx7
 split
 ·rename_i hn
  exact h.skip λi h1 h2=>xi8 hn i h1 (by rw[h.len]; omega)
 ·rename_i hn
  have hn:0<=qu8 r P.length j:=zbd.1 hn
  have hlen:=h.len
  have hpl:=h.pl
  have hb:=q2h r P.length j ow hn
  have hk:P.length<n:=ow
  have hne:=w4p hn
  show St n W R (j+1) (xq8 (qj0 r P.length j) P.length j) (P++[(j:Int)])
  obtain⟨b,hbd⟩:∃b,b=P.length+(qu8 r P.length j).toNat:=⟨_,rfl⟩
  rw[<- hbd] at hb hne
  have hsw:∀i,i<n->nL (q2g r P.length j) i=nL r (if i=P.length then b else if i=b then P.length else i):=λi hi=>by
   unfold q2g
   rw[<- hbd,q4k _ _ _ ow hb i ow]
   grind
  have hpr:∀i,i<n->i≠P.length->nL (qj0 r P.length j) i=nL (q2g r P.length j) i:=λi hi hne=>by
   simp_all [q4l,if_neg]
  have hpk:∃s:Int,(s=1\/s=-1)/\(∀c,nI (nL (qj0 r P.length j) P.length) c=s*nI (nL r b) c)/\0<nI (nL (qj0 r P.length j) P.length) j:=by
   have e:=hsw P.length hk
   rw[zao rfl] at e
   rw[q4l _ _ _ _ ow,e]
   by_cases q:nI (nL r b) j<0
   ·rw[zao ⟨rfl,q⟩]
    refine⟨-1,.inr rfl,λc=>by grind [wx0],by grind [wx0]⟩
   ·rw[zak λk=>q k.2]
    exact⟨1,.inl rfl,λc=>by omega,ow⟩
  obtain⟨s,hs,hsx,hpos⟩:=hpk
  have hcl:xq8 (qj0 r P.length j) P.length j=xq8 (qj0 r P.length j) P.length j:=rfl
  have hat:∀i,i<n->nL (xq8 (qj0 r P.length j) P.length j) i=wo4 (qj0 r P.length j) P.length j i:=λi hi=>xd2 _ _ _ _ (by grind [qm4])
  have heach:=q2i (r:=r) (k:=P.length) (j:=j) (W:=W) ow hn λi hi=>h.each i ow
  have hatk:nL (xq8 (qj0 r P.length j) P.length j) P.length=nL (qj0 r P.length j) P.length:=by
   rw[hat _ hk]; unfold wo4; simp
  refine h.step hj hk (by grind [wk8,qm4]) (λi hi=>?_) (λi=>if i=P.length then b else if i=b then P.length else i) (λi hi=>?_) (λi k hi hk2 e=>?_) (λi hi=>?_) (λi hi=>?_) ⟨s,hs,λc hc=>?_⟩ ?_ λi hi hne2=>?_
  ·grind [wo4,wd5]
  ·grind
  ·grind
  ·refine⟨if i=P.length then b else if i=b then P.length else i,?_,?_⟩
   all_goals grind
  ·grind
  ·grind
  ·grind
  ·rw[hatk,hat i hi]
   try dsimp only
   rw[<- hsw i hi,<- hpr i hi hne2]
   unfold wo4
   by_cases q:nI (nL (qj0 r P.length j) i) j=0
   ·simp_all [if_neg,x0o]
   ·rw[zao ⟨hne2,q⟩]
    grind [xi5]
theorem qt2 {n W:Nat} {M:List (List Int)} (h:Mat n W M):∀j,j<=W->St n W (rowOf M) j (qb7 M j).1 (qb7 M j).2
 | 0,_=>St.zero_ h
 | j+1,hj=>we8 ow (qt2 h j ow)
structure Small (n C W:Nat) (M:List (List Int)):Prop extends Mat n W M where
 n6:n<=6
 cw:C<=W
 w:W<=1000
 one:∀a c,a<n->c<C->(nI (nL M a) c).natAbs<=1
 read:∀a c,a<n->c<W->(nI (nL M a) c).natAbs<=1000000
theorem yz1 {n:Nat} (h:n<=6):n ^ n<=46656:=by
 have:∀k:Fin 7,k.val ^ k.val<=46656:=dc
 exact this ⟨n,ow⟩
theorem St.small {n C W j:Nat} {M rows:List (List Int)} {P:List Int} (hM:Small n C W M) (h:St n W (rowOf M) j rows P) (hj:j<=C) {i:Nat} (hi:i<n):(∀c,c<C->(nI (nL rows i) c).natAbs<=46656)/\∀c,c<W->(nI (nL rows i) c).natAbs<=46656000000:=by
 have h6:=yz1 hM.n6
 have hcw:=hM.cw
 refine⟨λc hc=>?_,λc hc=>?_⟩
 ·have:=h.bound (λa c ha hc=>hM.one a c ha ow) hi (show c<W by omega) (B:=1) λb hb=>hM.one b c hb hc
  omega
 ·have:=h.bound (λa c ha hc=>hM.one a c ha ow) hi hc (B:=1000000) λb hb=>hM.read b c hb hc
  omega
theorem q0v {a b:Int} {A B:Nat} (ha:a.natAbs<=A) (hb:b.natAbs<=B):(a*b).natAbs<=A*B:=by
 simp_all [Int.natAbs_mul,Nat.mul_le_mul]
theorem q0w (a b:Int):(a.tdiv b).natAbs<=a.natAbs:=by rw[zck]; exact zcp _ _
structure Sml (n C W K B:Nat) (M:List (List Int)):Prop extends Mat n W M where
 n6:n<=6
 cw:C<=W
 w:W<=1000
 k1:1<=K
 kk:K*K<=B
 kB:K<=691200
 bB:B<=700000000000
 read:∀a c,a<n->c<W->(nI (nL M a) c).natAbs<=B
 small:∀j rows P,j<=C->St n W (rowOf M) j rows P->∀i,i<n->(∀c,c<C->(nI (nL rows i) c).natAbs<=K)/\∀c,c<W->(nI (nL rows i) c).natAbs<=B
theorem Small.sml {n C W:Nat} {M:List (List Int)} (h:Small n C W M):Sml n C W 46656 46656000000 M:=
 ⟨h.toMat,h.n6,h.cw,h.w,dc,dc,dc,dc,λa c ha hc=>by have:=h.read a c ha hc; omega,λj rows P hj hs i hi=>hs.small h hj hi⟩
theorem x5g {n C W K B:Nat} {M:List (List Int)} (hM:Sml n C W K B M):q78 M C W:=by
 have hkB:=hM.kB
 have hbB:=hM.bB
 have hBK:B*K<=700000000000*691200:=zbj hbB hkB
 have hn:=hM.n6
 have hl:=hM.len
 have hw:=hM.w
 have hcw:=hM.cw
 refine⟨ow,hw,hM.cw,λi hi=>hM.each i ow,λj hj hp=>?_⟩
 have hst:=qt2 hM.toMat j ow
 have hsm:=λ{i} (hi:i<n)=>hM.small _ _ _ ow hst i hi
 have hlen:=hst.len
 have hpl:=hst.pl
 generalize qb7 M j=s at hp hst hsm hlen hpl ⊢
 obtain⟨r,P⟩:=s
 simp only[] at hp hst hsm hlen hpl ⊢
 have hb:=q2h r P.length j ow hp
 have heachS:=q8a (r:=r) (k:=P.length) (j:=j) (W:=W) ow hp λi hi=>hst.each i ow
 have heach:=q2i (r:=r) (k:=P.length) (j:=j) (W:=W) ow hp λi hi=>hst.each i ow
 have hsw:∀i,i<n->(∀c,c<C->(nI (nL (q2g r P.length j) i) c).natAbs<=K)/\∀c,c<W->(nI (nL (q2g r P.length j) i) c).natAbs<=B:=λi hi=>by
  unfold q2g
  grind [q4k]
 have hpr:∀i,i<n->(∀c,c<C->(nI (nL (qj0 r P.length j) i) c).natAbs<=K)/\∀c,c<W->(nI (nL (qj0 r P.length j) i) c).natAbs<=B:=λi hi=>by
  rw[q4l _ _ _ _ ow]
  split
  all_goals grind [wx0,Int.natAbs_neg]
 have hst2:=we8 (j:=j) ow (show St n W (rowOf M) j (r,P).1 (r,P).2 from hst)
 have hpk:nI (nL (qj0 r P.length j) P.length) j≠0:=by
  have e:=w4p hp
  have hs:nL (q2g r P.length j) P.length=nL r (P.length+(qu8 r P.length j).toNat):=by
   unfold q2g
   rw[q4k _ _ _ ow hb _ ow]
   grind
  rw[q4l _ _ _ _ ow]
  split
  ·rw[wx0,hs]; omega
  ·rw[hs]; exact e
 have hB:BIG=4000000000000000000:=rfl
 have hB2:x8c=2000000000000000000:=rfl
 refine⟨λx hx=>?_,λi hi hne hz=>⟨?_,?_,?_,hpk,?_,?_,λc hc=>?_,λc hc=>?_⟩⟩
 ·obtain⟨c,hc,rfl⟩:=q8z hx
  grind
 ·grind
 ·grind
 ·grind
 ·grind
 ·have:=(hpr P.length ow).1 j hj
  constructor <;> omega
 ·rw[heach i ow] at hc
  have h1:=(hpr i ow).2 c hc
  have h2:=(hpr P.length ow).1 j hj
  have h3:(q1 (nL (qj0 r P.length j) i) (nL (qj0 r P.length j) P.length) j).natAbs<=K:=zaj (q0w _ _) h2
  have:=q0v h1 h3
  omega
 ·rw[heach i ow] at hc
  have h1:=(hpr P.length ow).2 c hc
  have h2:=(hpr i ow).1 j hj
  have h3:(q2 (nL (qj0 r P.length j) i) (nL (qj0 r P.length j) P.length) j).natAbs<=K:=zaj (q0w _ _) h2
  have:=q0v h1 h3
  omega
theorem wx1 {n C W:Nat} {M:List (List Int)} (hM:Small n C W M):q78 M C W:=x5g hM.sml
end Go.Proofs.YtnchigbbjajiiaaGreat
