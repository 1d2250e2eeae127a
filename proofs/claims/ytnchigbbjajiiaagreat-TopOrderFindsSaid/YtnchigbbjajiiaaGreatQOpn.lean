/- Lengths of a slice of slices. No condition. -/
import Derived.Test.YtnchigbbjajiiaaGreatR18
import Derived.Test.YtnchigbbjajiiaaGreatQLay
import Derived.Test.YtnchigbbjajiiaaGreatV12
import Derived.Test.YtnchigbbjajiiaaGreatN1
import Derived.Test.YtnchigbbjajiiaaGreatEng2
import Derived.Shelf.Strings.Builder1
import Derived.Maps.AppendAt
import Derived.Test.YtnchigbbjajiiaaGreatTys
import Derived.Shelf.Lay
import Derived.Ground.NamesProg
import Derived.Test.YtnchigbbjajiiaaGreatEng3
import Derived.Test.YtnchigbbjajiiaaGreatRows
import Derived.Test.YtnchigbbjajiiaaGreatCore
import Derived.ProofKit
import Derived.OpenShut
import Derived.ShutString
import Derived.ChangeOld
import Derived.Below
import Derived.Deep.Matrix
set_option linter.unusedVariables false
set_option linter.unusedSimpArgs false
namespace Go.Proofs.YtnchigbbjajiiaaGreat
open Go Go.RowKit Eng
def leF (f g:Fit):Prop:=nmN f.2 f.2.length*nmD g.2 g.2.length<=nmN g.2 g.2.length*nmD f.2 f.2.length
theorem q71 {m:List (List Int)} {y:List Int} {f:Fit}:f∈qc9 m y 10↔∃pix,(qg5 m y pix).2=true/\f=(qg5 m y pix).1/\pix.length<=10:=by
 constructor
 ·intro h
  obtain⟨pix,h1,h2⟩:=q5d _ f h
  have hI:=qn8 h1
  have hN:=(Asked.of hI.chk)
  have h3:=hI.rows
  have h4:=hN.msk.rows6
  grind
 ·rintro⟨pix,h1,rfl,h2⟩
  exact q6c h1 _ ((w0z h1).2 ow)
theorem xt5 {m:List (List Int)} {x:List Int} {S:List Int}:∀k,k<=S.length->nmD (S.map λj=>(nI x j.toNat,(1:Int))) k=1/\nmN (S.map λj=>(nI x j.toNat,(1:Int))) k=sm k λj=>qd5 (nI x (nI S j).toNat)
 | 0,_=>⟨rfl,rfl⟩
 | k+1,hk=>by
  obtain⟨h1,h2⟩:=xt5 (m:=m) (x:=x) (S:=S) k ow
  have e:nR (S.map λj=>(nI x j.toNat,(1:Int))) k=(nI x (nI S k).toNat,1):=by
   grind [q15,qg3]
  rw[nmD,nmN,h1,h2,e]
  refine⟨rfl,?_⟩
  show _*1+qd5 (nI x (nI S k).toNat)*1=_
  rw[ze2,ze2]; rfl
theorem w6f (m:List (List Int)) (x:List Int):nmD (q19 m x).2 (q19 m x).2.length=1/\nmN (q19 m x).2 (q19 m x).2.length=sA (nL m 0).length (nI x):=by
 obtain⟨n1,_⟩:=qf3 (nI x) (nL m 0).length
 have e:(q19 m x).2.length=(qk6 (nL m 0).length (nI x)).length:=by simp[q19]
 obtain⟨h1,h2⟩:=xt5 (m:=m) (x:=x) (S:=qk6 (nL m 0).length (nI x)) _ (zac _)
 rw[e]
 refine⟨h1,h2.trans ?_⟩
 exact wq8 n1 wq9
theorem w9h {m:List (List Int)} {x:List Int} (hv:qb6 m=true) (h7:(nL m 0).length<=7) (hl:x.length=(nL m 0).length) (h0:qm7 m (qc8 m x) []=0) {C:List Fit} (hC:Gath leF (qc9 m (qc8 m x) 10) C) (hnd:C.Nodup) :
  C=[q19 m x]↔∀h∈(qh9 m).1,agB h x=false:=by
 have hM:=Mk.of hv
 have hcl:∀h∈(qh9 m).1,h.length=(nL m 0).length/\Sol m.length (nL m 0).length (rowOf m) (nI h)/\∃i,i<(nL m 0).length/\nI h i≠0:=λh hh=>by
  obtain⟨i,hi,rfl⟩:=zbt hh
  obtain⟨s,hc⟩:=q3h hv h7 hi
  rw[qn5 _ i hi] at hc
  exact⟨hc.len,hc.sol,(nI s 0).toNat,by have:=hc.nam.at_ 0 hc.pos; omega,hc.on 0 hc.pos⟩
 obtain⟨x1,x2⟩:=w6f m x
 constructor
 ·intro hc h hh
  cases hag:agB h x with
  | false=>rfl
  | true=>
   exfalso
   obtain⟨k1,k2,k3⟩:=hcl h hh
   have hno:¬(0<fF (nL m 0).length (nI x) (nI h)/\0<fF (nL m 0).length (nI x) (λi=>-(nI h i))):=λq=>by
    grind [xt4]
   obtain⟨pix,f1,f2,f3⟩:∃pix,(qg5 m (qc8 m x) pix).2=true/\nmN (qg5 m (qc8 m x) pix).1.2 pix.length<=sA (nL m 0).length (nI x)*nmD (qg5 m (qc8 m x) pix).1.2 pix.length /\
     ¬(pix=qk6 (nL m 0).length (nI x)/\∀j,j<pix.length->nR (qg5 m (qc8 m x) pix).1.2 j=(nI x (nI pix j).toNat,1)):=by
    rcases zc8 0 (fF (nL m 0).length (nI x) (nI h)) with q | q
    ·refine w00 hM h0 (h:=λi=>-(nI h i)) (λa ha=>?_) ?_ (zbn.1 λw=>hno ⟨q,w⟩)
     ·have h2:=k2 a ha
      have e1:sm (nL m 0).length (λi=>rowOf m a i * -(nI h i))=(-1)*sm (nL m 0).length (λi=>rowOf m a i*nI h i):=by
       rw[<- qj5]; grind
      grind
     grind
    grind [w00]
   have hI:=qn8 f1
   have hrow:=hI.rows
   have h6:=hM.rows6
   have hmem:(qg5 m (qc8 m x) pix).1∈qc9 m (qc8 m x) 10:=q71.2 ⟨pix,f1,rfl,ow⟩
   have hxC:q19 m x∈C:=by grind
   have hmin:=(hC.least _ hxC).2
   have hlt:∀g∈qc9 m (qc8 m x) 10,leF (qg5 m (qc8 m x) pix).1 g:=λg hg=>by
    have q:=hmin g hg
    unfold leF at q ⊢
    rw[x1,x2,ze2] at q
    rw[hI.len]
    obtain⟨b,E,hE,_,hvv,_⟩:=wa8 f1
    have hdp:=(w9d (V:=(qg5 m (qc8 m x) pix).1.2) (β:=λj=>b (nI pix j).toNat) hE pix.length hvv).1
    obtain⟨pg,g1,g2,_⟩:=q71.1 hg
    obtain⟨b',E',hE',_,hvv',_⟩:=wa8 g1
    have hgp:=(w9d (V:=(qg5 m (qc8 m x) pg).1.2) (β:=λj=>b' (nI pg j).toNat) hE' pg.length hvv').1
    have hgl:=(qn8 g1).len
    rw[<- hgl,<- g2] at hgp
    have s1:=zai f2 (show 0<=nmD g.2 g.2.length by omega)
    have s2:=zai q (show 0<=nmD (qg5 m (qc8 m x) pix).1.2 pix.length by omega)
    grind
   have hin:=hC.all _ hmem hlt
   rw[hc] at hin
   have hin:=zat.1 hin
   refine f3 ⟨?_,λj hj=>?_⟩
   ·have:=za1 Prod.fst hin
    rw[hI.fst] at this
    exact this
   ·have e1:pix=qk6 (nL m 0).length (nI x):=by
     have:=za1 Prod.fst hin
     rw[hI.fst] at this
     exact this
    rw[hin]
    show nR ((qk6 (nL m 0).length (nI x)).map _) j=_
    grind [q15,qg3]
 ·intro hsafe
  have hgrow:∀d:Nat->Int,Sol m.length (nL m 0).length (rowOf m) d->(∃i,i<(nL m 0).length/\d i≠0)->0<fF (nL m 0).length (nI x) d:=λd hd hne=>
   w6a hv h7 (λh hh=>by
    grind [xt4]) _ d (zac _) hd hne
  have hfx:=x8v hM h0 (x22 hgrow)
  have hf2:(qg5 m (qc8 m x) (qk6 (nL m 0).length (nI x))).2=true:=by grind
  have hlen:(qk6 (nL m 0).length (nI x)).length<=10:=by
   have h1:=(qf3 (nI x) (nL m 0).length).1.len
   omega
  have hX:q19 m x∈qc9 m (qc8 m x) 10:=q71.2 ⟨_,hf2,by grind,hlen⟩
  have hother:∀g∈qc9 m (qc8 m x) 10,g=q19 m x\/(leF (q19 m x) g/\¬leF g (q19 m x)):=λg hg=>by
   obtain⟨pg,g1,g2,_⟩:=q71.1 hg
   by_cases e:pg=qk6 (nL m 0).length (nI x)
   ·grind
   ·right
    have h1:=xs1 hM hgrow g1 e
    have hgl:=(qn8 g1).len
    rw[<- hgl,<- g2] at h1
    unfold leF
    grind
  have hmin:q19 m x∈C:=hC.all _ hX λg hg=>by
   rcases hother g hg with e | e
   ·rw[e]; exact zbo _
   grind
  have hall:∀f∈C,f=q19 m x:=λf hf=>by
   obtain⟨k1,k2⟩:=hC.least f hf
   grind
  cases hC':C with
  | nil=>grind
  | cons a t=>
   rw[hC'] at hall hnd
   have ha:=hall a za9
   cases t with
   | nil=>rw[ha]
   | cons b t=>
    simp_all
structure NmOk (f:Fit):Prop where
 each:∀j,j<f.2.length->(nR f.2 j).1≠0/\0<(nR f.2 j).2
theorem xt6 {V:List (Int × Int)}:∀k,(∀j,j<k->0<(nR V j).2)->0<nmD V k
 | 0,_=>(show(0:Int)<1 by decide)
 | k+1,h=>zca (xt6 k λj hj=>h j ow) (h k ow)
theorem NmOk.pos {f:Fit} (h:NmOk f):0<nmD f.2 f.2.length:=xt6 _ λj hj=>(h.each j hj).2
def xx4 (f:Fit):Int × Int:=if 0<nmD f.2 f.2.length then(nmN f.2 f.2.length,nmD f.2 f.2.length) else(0,1)
theorem wr6 (f:Fit):0<(xx4 f).2:=by grind [xx4]
def leK (f g:Fit):Prop:=(xx4 f).1*(xx4 g).2<=(xx4 g).1*(xx4 f).2
theorem wa9 (a b c:Fit) (h1:leK a b) (h2:leK b c):leK a c:=by
 have pa:=wr6 a
 have pb:=wr6 b
 have pc:=wr6 c
 unfold leK at *
 generalize xx4 a=A at *
 generalize xx4 b=B at *
 generalize xx4 c=C at *
 have s1:=zai h1 (show 0<=C.2 by omega)
 have s2:=zai h2 (show 0<=A.2 by omega)
 refine zc1 ?_ pb
 grind
theorem x3j {f g:Fit} (hf:NmOk f) (hg:NmOk g):leK f g↔leF f g:=by
 unfold leK xx4 leF
 rw[zam hf.pos,zam hg.pos]
theorem x5s {m:List (List Int)} {y:List Int} {k:Int} {f:Fit} (h:f∈qc9 m y k):NmOk f/\y0z f.2/\f.1.length<=1000/\∃pix,(qg5 m y pix).2=true/\f=(qg5 m y pix).1:=by
 obtain⟨pix,h1,rfl⟩:=q5d _ f h
 have hI:=qn8 h1
 have hA:=Asked.of hI.chk
 have h6:=hA.msk.rows6
 have hr:=hI.rows
 have hv:=wp9 h1
 have hat:∀j,j<(qg5 m y pix).1.2.length->q7g (nR (qg5 m y pix).1.2 j)=true/\(nR (qg5 m y pix).1.2 j).1≠0:=λj hj=>by
  grind [q15,List.getElem_mem]
 have hb:∀j,j<(qg5 m y pix).1.2.length->1<=(nR (qg5 m y pix).1.2 j).2/\(nR (qg5 m y pix).1.2 j).2<=400/\-10000000000<=(nR (qg5 m y pix).1.2 j).1/\(nR (qg5 m y pix).1.2 j).1<=10000000000:=λj hj=>by
  simp_all [q7g,Bool.and_eq_true,decide_eq_true_eq]
 refine⟨⟨λj hj=>⟨(hat j hj).2,by grind⟩⟩,⟨by rw[hI.len]; omega,λj hj=>?_⟩,by rw[hI.fst]; omega,pix,h1,rfl⟩
 have:=hb j hj
 unfold qe6 BIG
 omega
theorem x9d {w:Int × Int} (h:0<=val w) (hw:Wd w):¬qx8 w (0,0)<0:=by
 have:=(xs6 (val w) 0).2 h
 rw[hw.spl] at this
 exact zbn.2 this
theorem x3k {w:Int × Int} (hw:Wd w):qx8 w (0,0)=0↔val w=0:=by
 obtain⟨h1,h2,h3⟩:=hw
 unfold qe6 at h1
 grind [qx8,val]
theorem wr7 {n d:Int} (h0:0<=n) (hd:0<d):∃P Q g:Nat,ofR n d=((P:Int),(Q:Int))/\n=((P*g:Nat):Int)/\d=((Q*g:Nat):Int)/\0<g/\0<Q/\Nat.Coprime P Q:=by
 obtain⟨N,rfl⟩:=zbc h0
 obtain⟨M,rfl⟩:=zbc (show 0<=d by omega)
 have hM:0<M:=ow
 have hg:0<Nat.gcd N M:=Nat.gcd_pos_of_pos_right _ hM
 have eg:gcdI (N:Int) (M:Int)=((Nat.gcd N M:Nat):Int):=rfl
 have h2:M / Nat.gcd N M*Nat.gcd N M=M:=Nat.div_mul_cancel (zb2 N M)
 refine⟨N / Nat.gcd N M,M / Nat.gcd N M,Nat.gcd N M,?_,by rw[Nat.div_mul_cancel (zb0 N M)],by rw[h2],hg,zda λz=>by grind,Nat.gcd_div_gcd_div_gcd_of_pos_right hM⟩
 rfl
theorem x3l {P Q g k:Nat} (hg:0<g) (hc:Nat.Coprime P Q):(P*g) % (Q*g)*k % (Q*g)=0↔Q∣k:=by
 rw[Nat.mod_mul_mod,<- Nat.dvd_iff_mod_eq_zero,Nat.mul_right_comm]
 constructor
 ·intro h
  have h2:Q∣P*k:=Nat.dvd_of_mul_dvd_mul_right hg h
  exact Nat.Coprime.dvd_of_dvd_mul_left hc.symm h2
 ·rintro⟨j,rfl⟩
  exact Nat.mul_dvd_mul_right ⟨P*j,by grind⟩ g
theorem x3m {P Q g:Nat} (hg:0<g) (hQ:0<Q):(P*g) / (Q*g)*Q+(P*g) % (Q*g)*Q / (Q*g)=P:=by
 have h1:=Nat.div_add_mod (P*g) (Q*g)
 have hp:0<Q*g:=Nat.mul_pos hQ hg
 have e:(P*g) % (Q*g)*Q / (Q*g)=(P*g) % (Q*g) / g:=by grind [Nat.mul_comm,Nat.mul_div_mul_left]
 rw[e]
 generalize hx:P*g / (Q*g)=x at *
 generalize hy:P*g % (Q*g)=y at *
 have h2:P=(Q*g*x+y) / g:=by simp_all
 conv=>rhs; rw[h2]
 rw[show Q*g*x+y=y+g*(x*Q) by grind,Nat.add_mul_div_left _ _ hg,Nat.add_comm]
structure RtP (s:(Int × Int) × (Int × Int)):Prop where
 wn:Wd s.1
 wd:Wd s.2
 n0:0<=val s.1/\val s.1<=1267650600228229401496703205376
 d0:0<val s.2/\val s.2<=18446744073709551615
 r1:(ofR (val s.1) (val s.2)).1<=10000000000
 r2:(ofR (val s.1) (val s.2)).2<=400
abbrev y54:qa7:=qe0 true none [x8w] [qw6,.bool] (λx=>RtP x.1) (λx=>(ofR (val x.1.1) (val x.1.2),true,()))
structure RtI (n d k:Int):Prop where
 lo:1<=k
 hi:k<=400
 no:∀j:Int,1<=j->j<k->¬n % d*j % d=0
def y01 (s:(Int × Int) × (Int × Int)):Nat->Option Inv
 | 0=>some (Inv.of [7] 5 (λk:Int=>[(7,.lit (.int .i64 k))]) (λ_=>[.box 151 (.cons (.lit (.int .i64 s.1.1)) (.cons (.lit (.int .u64 s.1.2)) (.cons (.lit (.int .i64 s.2.1)) (.cons (.lit (.int .u64 s.2.2)) .nil)))),.box 43 (.cons (.lit (.int .i64 0)) (.cons (.lit (.int .i64 0)) .nil)),.box 149 (.cons (.lit (.int .i64 s.1.1)) (.cons (.lit (.int .u64 s.1.2)) .nil)),
   .box 149 (.cons (.lit (.int .i64 (spl (val s.1 / val s.2)).1)) (.cons (.lit (.int .u64 (spl (val s.1 / val s.2)).2)) .nil)),.box 149 (.cons (.lit (.int .i64 (spl (val s.1 % val s.2)).1)) (.cons (.lit (.int .u64 (spl (val s.1 % val s.2)).2)) .nil))]) (λk=>RtI (val s.1) (val s.2) k) (λk=>(400-k).toNat))
 | _=>none
set_option maxHeartbeats 4000000 in
theorem xt7:Meets Tryz.prog 122 y54:=by
 refine mts (SpecsOk.cons xs2 (SpecsOk.cons w0f (SpecsOk.cons xs7 (SpecsOk.cons w01 (SpecsOk.cons wm9 (SpecsOk.cons w8h (SpecsOk.nil _))))))) Tryz.func122 (λx=>y01 x.1) ?_
 rintro⟨s,⟨⟩⟩ h
 revert s
 intro(s:(Int × Int) × (Int × Int)) (h:RtP s)
 refine vcs (let Q0:=spl (val s.1 % val s.2); let Q1:=spl (val s.1 / val s.2); let Q2:=ofR (val s.1) (val s.2); True/\(decide (qx8 s.1 ((0:Int),(0:Int))<(0:Int))=true->Wd s.1/\OvP (spl (-val s.1)) s.2/\(((spl (val (spl (-val s.1)) / val s.2)).1 != (0:Int))=true->((0:Int)=Q2.1/\(0:Int)=Q2.2/\True)/\false=true/\True)/\(((spl (val (spl (-val s.1)) / val s.2)).1 != (0:Int))=false->(decide ((10000000000:Int)<(spl (val (spl (-val s.1)) / val s.2)).2)=true->((0:Int)=Q2.1/\(0:Int)=Q2.2/\True)/\false=true/\True)/\(decide ((10000000000:Int)<(spl (val (spl (-val s.1)) / val s.2)).2)=false->∃(v3:Unit),∃(v4:Int),RtI (val s.1) (val s.2) v4/\(((1:Int)=v4/\True)/\(s.1.1=s.1.1/\s.1.2=s.1.2/\s.2.1=s.2.1/\s.2.2=s.2.2/\True)/\((0:Int)=(0:Int)/\(0:Int)=(0:Int)/\True)/\((spl (-val s.1)).1=s.1.1/\(spl (-val s.1)).2=s.1.2/\True)/\((spl (val (spl (-val s.1)) / val s.2)).1=Q1.1/\(spl (val (spl (-val s.1)) / val s.2)).2=Q1.2/\True)/\((spl (val (spl (-val s.1)) % val s.2)).1=Q0.1/\(spl (val (spl (-val s.1)) % val s.2)).2=Q0.2/\True)/\True)/\∀(v5:Int),RtI (val s.1) (val s.2) v5->(decide (v5<=(400:Int))=true->TmP Q0 v5/\OvP (spl (val Q0*v5)) s.2/\True/\((qx8 (spl (val (spl (val Q0*v5)) % val s.2)) ((0:Int),(0:Int)) != (0:Int))=true->fits .i64 (v5+(1:Int))/\∃(v9:Int),RtI (val s.1) (val s.2) v9/\((400:Int)-v9).toNat<((400:Int)-v5).toNat/\(v5+(1:Int)=v9/\True)/\(s.1.1=s.1.1/\s.1.2=s.1.2/\s.2.1=s.2.1/\s.2.2=s.2.2/\True)/\((0:Int)=(0:Int)/\(0:Int)=(0:Int)/\True)/\(s.1.1=s.1.1/\s.1.2=s.1.2/\True)/\(Q1.1=Q1.1/\Q1.2=Q1.2/\True)/\(Q0.1=Q0.1/\Q0.2=Q0.2/\True)/\True)/\((qx8 (spl (val (spl (val Q0*v5)) % val s.2)) ((0:Int),(0:Int)) != (0:Int))=false->fits .i64 Q1.2/\fits .i64 (Q1.2*v5)/\fits .i64 (spl (val (spl (val Q0*v5)) / val s.2)).2/\fits .i64 (Q1.2*v5+(spl (val (spl (val Q0*v5)) / val s.2)).2)/\(((-4000000000000000000:Int)<=Q1.2*v5+(spl (val (spl (val Q0*v5)) / val s.2)).2/\Q1.2*v5+(spl (val (spl (val Q0*v5)) / val s.2)).2<=BIG)/\((-4000000000000000000:Int)<=v5/\v5<=BIG)/\v5≠(0:Ty.den qc0))/\True/\(decide (qx8 s.1 ((0:Int),(0:Int))<(0:Int))=true->fits .i64 ((0:Int)-(ofR (Q1.2*v5+(spl (val (spl (val Q0*v5)) / val s.2)).2) v5).1)/\True/\((0:Int)-(ofR (Q1.2*v5+(spl (val (spl (val Q0*v5)) / val s.2)).2) v5).1=Q2.1/\(ofR (Q1.2*v5+(spl (val (spl (val Q0*v5)) / val s.2)).2) v5).2=Q2.2/\True)/\q7g ((0:Int)-(ofR (Q1.2*v5+(spl (val (spl (val Q0*v5)) / val s.2)).2) v5).1,(ofR (Q1.2*v5+(spl (val (spl (val Q0*v5)) / val s.2)).2) v5).2)=true/\True)/\(decide (qx8 s.1 ((0:Int),(0:Int))<(0:Int))=false->True/\((ofR (Q1.2*v5+(spl (val (spl (val Q0*v5)) / val s.2)).2) v5).1=Q2.1/\(ofR (Q1.2*v5+(spl (val (spl (val Q0*v5)) / val s.2)).2) v5).2=Q2.2/\True)/\q7g (ofR (Q1.2*v5+(spl (val (spl (val Q0*v5)) / val s.2)).2) v5)=true/\True)))/\(decide (v5<=(400:Int))=false->((0:Int)=Q2.1/\(0:Int)=Q2.2/\True)/\false=true/\True))))/\(decide (qx8 s.1 ((0:Int),(0:Int))<(0:Int))=false->OvP s.1 s.2/\((Q1.1 != (0:Int))=true->((0:Int)=Q2.1/\(0:Int)=Q2.2/\True)/\false=true/\True)/\((Q1.1 != (0:Int))=false->(decide ((10000000000:Int)<Q1.2)=true->((0:Int)=Q2.1/\(0:Int)=Q2.2/\True)/\false=true/\True)/\(decide ((10000000000:Int)<Q1.2)=false->∃(v3:Unit),∃(v4:Int),RtI (val s.1) (val s.2) v4/\(((1:Int)=v4/\True)/\(s.1.1=s.1.1/\s.1.2=s.1.2/\s.2.1=s.2.1/\s.2.2=s.2.2/\True)/\((0:Int)=(0:Int)/\(0:Int)=(0:Int)/\True)/\(s.1.1=s.1.1/\s.1.2=s.1.2/\True)/\(Q1.1=Q1.1/\Q1.2=Q1.2/\True)/\(Q0.1=Q0.1/\Q0.2=Q0.2/\True)/\True)/\∀(v5:Int),RtI (val s.1) (val s.2) v5->(decide (v5<=(400:Int))=true->TmP Q0 v5/\OvP (spl (val Q0*v5)) s.2/\True/\((qx8 (spl (val (spl (val Q0*v5)) % val s.2)) ((0:Int),(0:Int)) != (0:Int))=true->fits .i64 (v5+(1:Int))/\∃(v9:Int),RtI (val s.1) (val s.2) v9/\((400:Int)-v9).toNat<((400:Int)-v5).toNat/\(v5+(1:Int)=v9/\True)/\(s.1.1=s.1.1/\s.1.2=s.1.2/\s.2.1=s.2.1/\s.2.2=s.2.2/\True)/\((0:Int)=(0:Int)/\(0:Int)=(0:Int)/\True)/\(s.1.1=s.1.1/\s.1.2=s.1.2/\True)/\(Q1.1=Q1.1/\Q1.2=Q1.2/\True)/\(Q0.1=Q0.1/\Q0.2=Q0.2/\True)/\True)/\((qx8 (spl (val (spl (val Q0*v5)) % val s.2)) ((0:Int),(0:Int)) != (0:Int))=false->fits .i64 Q1.2/\fits .i64 (Q1.2*v5)/\fits .i64 (spl (val (spl (val Q0*v5)) / val s.2)).2/\fits .i64 (Q1.2*v5+(spl (val (spl (val Q0*v5)) / val s.2)).2)/\(((-4000000000000000000:Int)<=Q1.2*v5+(spl (val (spl (val Q0*v5)) / val s.2)).2/\Q1.2*v5+(spl (val (spl (val Q0*v5)) / val s.2)).2<=BIG)/\((-4000000000000000000:Int)<=v5/\v5<=BIG)/\v5≠(0:Ty.den qc0))/\True/\(decide (qx8 s.1 ((0:Int),(0:Int))<(0:Int))=true->fits .i64 ((0:Int)-(ofR (Q1.2*v5+(spl (val (spl (val Q0*v5)) / val s.2)).2) v5).1)/\True/\((0:Int)-(ofR (Q1.2*v5+(spl (val (spl (val Q0*v5)) / val s.2)).2) v5).1=Q2.1/\(ofR (Q1.2*v5+(spl (val (spl (val Q0*v5)) / val s.2)).2) v5).2=Q2.2/\True)/\q7g ((0:Int)-(ofR (Q1.2*v5+(spl (val (spl (val Q0*v5)) / val s.2)).2) v5).1,(ofR (Q1.2*v5+(spl (val (spl (val Q0*v5)) / val s.2)).2) v5).2)=true/\True)/\(decide (qx8 s.1 ((0:Int),(0:Int))<(0:Int))=false->True/\((ofR (Q1.2*v5+(spl (val (spl (val Q0*v5)) / val s.2)).2) v5).1=Q2.1/\(ofR (Q1.2*v5+(spl (val (spl (val Q0*v5)) / val s.2)).2) v5).2=Q2.2/\True)/\q7g (ofR (Q1.2*v5+(spl (val (spl (val Q0*v5)) / val s.2)).2) v5)=true/\True)))/\(decide (v5<=(400:Int))=false->((0:Int)=Q2.1/\(0:Int)=Q2.2/\True)/\false=true/\True))))) ?_
 obtain⟨wn,wd,⟨n0,n9⟩,⟨d0,d9⟩,r1,r2⟩:=h
 have hneg:=x9d n0 wn
 have hOv:OvP s.1 s.2:=⟨wn,wd,⟨n0,n9⟩,d0,ow⟩
 obtain⟨P,Q,g,e,en,ed,hg,hQ,hc⟩:=wr7 n0 d0
 rw[e] at r1 r2
 dsimp only at r1 r2
 have hw:0<=val s.1 / val s.2/\val s.1 / val s.2<=P:=by
  rw[en,ed,<- Int.natCast_ediv]
  have:P*g / (Q*g)<=P:=by simp_all [Nat.mul_div_mul_right,Nat.div_le_self]
  grind
 have hm:=zdv (val s.1) (show val s.2≠0 by omega)
 have hm2:=zde (val s.1) d0
 have sm:∀x:Int,0<=x->x<18446744073709551616->spl x=(0,x):=λx h0 h1=>by unfold spl hiU loU; grind
 have hdv:∀j:Nat,val s.1 % val s.2*(j:Int) % val s.2=0↔Q∣j:=λj=>by
  rw[<- x3l hg hc,en,ed,<- Int.natCast_emod,<- Int.natCast_mul,<- Int.natCast_emod]
  omega
 have hwh:val s.1 / val s.2*(Q:Int)+val s.1 % val s.2*(Q:Int) / val s.2=P:=by
  have:=x3m (P:=P) hg hQ
  grind
 have hPQ:ofR (P:Int) (Q:Int)=((P:Int),(Q:Int)):=by
  simp_all [gcdI,congrArg,Nat.cast,ofR,if_neg,Int.tdiv_one]
 have hv:q7g ((P:Int),(Q:Int))=true:=by
  have eg:gcdI (P:Int) (Q:Int)=1:=za1 Nat.cast hc
  unfold q7g
  grind
 simp only[q0t,e,sm _ hw.1 ow]
 refine⟨λq=>absurd q hneg,λ_=>⟨hOv,λq=>absurd trivial q,λ_=>⟨λq=>absurd q ow,λ_=>⟨(),1,⟨dc,dc,λj a b=>by omega⟩,rfl,λk hk=>⟨λhle=>?_,λhgt=>by have:=hk.hi; omega⟩⟩⟩⟩⟩
 obtain⟨K,rfl⟩:∃K:Nat,k=K:=⟨k.toNat,by have:=hk.lo; omega⟩
 have hk1:=hk.lo
 have hb:0<=val s.1 % val s.2*(K:Int)/\val s.1 % val s.2*(K:Int)<=7378697629483820646400:=⟨za2 hm ow,zcv (zby (show val s.1 % val s.2<=18446744073709551616 by omega) hle ow dc) dc⟩
 have hb2:=zdv (val s.1 % val s.2*(K:Int)) (show val s.2≠0 by omega)
 have hb3:=zde (val s.1 % val s.2*(K:Int)) d0
 have hz:=x3k (q64 (x:=val s.1 % val s.2*(K:Int) % val s.2) hb2 ow)
 rw[q0t,hdv] at hz
 refine⟨by rw[sm _ hm ow]; exact⟨zbo _,(show(0:Int)<=100000000 by decide),hm,ow,ow,ow⟩,⟨q64 hb.1 ow,wd,by grind [q0t],d0,ow⟩,λhne=>?_,λhe=>?_⟩
 ·have hlt:K<400:=zae λw=>by
   have hK:K=400:=ow
   rcases zap Q K with q | q
   ·exact hk.no Q ow ow ((hdv Q).2 (ze6 Q))
   grind [Nat.dvd_refl]
  refine⟨qa8,(K:Int)+1,⟨ow,ow,λj j1 j2=>?_⟩,ow,rfl⟩
  by_cases q:j<(K:Int)
  ·exact hk.no j j1 q
  grind
 ·have hQK:=hz.1 he
  obtain rfl:K=Q:=by
   have h1:=zdd ow hQK
   rcases zap Q K with q | q
   ·exact absurd ((hdv Q).2 (ze6 Q)) (hk.no Q ow ow)
   omega
  have hy:0<=val s.1 % val s.2*(K:Int) / val s.2:=Int.ediv_nonneg hb.1 ow
  have hx:0<=val s.1 / val s.2*(K:Int):=za2 hw.1 ow
  have hB:BIG=4000000000000000000:=rfl
  simp only[sm _ hy ow,hwh,hPQ,hv]
  exact⟨qa8,qa8,qa8,qa8,⟨⟨ow,ow⟩,⟨ow,ow⟩,ow⟩,λq=>absurd q hneg,λ_=>⟨⟨trivial,trivial⟩,trivial⟩⟩
structure DnP (x:List (Int × Int)):Prop where
 len:x.length<=6
 val:∀j,j<x.length->-10000000000<=(nR x j).1/\(nR x j).1<=10000000000/\1<=(nR x j).2/\(nR x j).2<=400
theorem DnP.bd {x:List (Int × Int)} (h:DnP x):∀k,k<=x.length->(1<=nmD x k/\nmD x k<=400 ^ k)/\0<=nmN x k/\nmN x k<=10000000000*k*400 ^ k
 | 0,_=>⟨⟨zbo 1,zbo 1⟩,zbo 0,by simp[nmN]⟩
 | k+1,hk=>by
  obtain⟨⟨d1,d2⟩,n1,n2⟩:=h.bd k ow
  obtain⟨v1,v2,v3,v4⟩:=h.val k ow
  have ha:0<=qd5 (nR x k).1/\qd5 (nR x k).1<=10000000000:=by grind [qd5]
  have hp:(0:Int)<400 ^ k:=Int.pow_pos dc
  rw[nmD,nmN,Int.pow_succ]
  have q1:=zby d2 v4 ow ow
  have q2:=zby n2 v4 ow (za2 ow ow)
  have q3:=zby ha.2 d2 ow dc
  have q4:=za2 n1 (show 0<=(nR x k).2 by omega)
  have q5:=za2 ha.1 (show 0<=nmD x k by omega)
  have q6:=zby d1 v3 dc ow
  grind
theorem y02:∀k:Nat,k<7->(400:Int) ^ k<=4096000000000000/\10000000000*(k:Int)*400 ^ k<=245760000000000000000000000:=by decide +kernel
theorem y03:∀k:Nat,k<6->(400:Int) ^ k<=10240000000000/\10000000000*(k:Int)*400 ^ k<=512000000000000000000000:=by decide +kernel
theorem DnP.step {x:List (Int × Int)} (h:DnP x) {k:Nat} (hk:k<x.length) {a:Int} (ha:a=qd5 (nR x k).1):SmP (spl (nmN x k),spl (nmD x k)) (a,(nR x k).2) 1/\sumW (spl (nmN x k),spl (nmD x k)) (a,(nR x k).2)=(spl (nmN x (k+1)),spl (nmD x (k+1))):=by
 obtain⟨⟨d1,d2⟩,n1,n2⟩:=h.bd k ow
 obtain⟨v1,v2,v3,v4⟩:=h.val k hk
 obtain⟨p1,p2⟩:=y03 k (by have:=h.len; omega)
 refine⟨⟨?_,?_,?_,rfl⟩,?_⟩
 ·grind [spl,hiU,loU]
 ·grind [spl,hiU,loU]
 all_goals grind [qd5,sumW,q0t,nmN,nmD,Int.mul_comm]
abbrev y04:qa7:=qe0 true none [q27] [x8w] (λx=>DnP x.1) (λx=>((spl (nmN x.1 x.1.length),spl (nmD x.1 x.1.length)),()))
def x5t (s:(Int × Int) × (Int × Int)):AV:=.cons (.lit (.int .i64 s.1.1)) (.cons (.lit (.int .u64 s.1.2)) (.cons (.lit (.int .i64 s.2.1)) (.cons (.lit (.int .u64 s.2.2)) .nil)))
def ym1 (x:List (Int × Int)):Nat->Option Inv
 | 0=>some (Inv.of [9] 2 (λk:Nat=>[(9,.lit (.int .i64 k))]) (λk=>[.box 151 (x5t ((0,0),(0,0))),.box 151 (x5t (spl (nmN x k),spl (nmD x k)))]) (λk=>k<=x.length) (λk=>x.length-k))
 | _=>none
theorem w9i:Meets Tryz.prog 121 y04:=by
 refine mts (SpecsOk.cons xs3 (SpecsOk.cons xs4 (SpecsOk.nil _))) Tryz.func121 (λx=>ym1 x.1) ?_
 rintro⟨x,⟨⟩⟩ h
 revert x
 intro(x:List (Int × Int)) (h:DnP x)
 refine vcs (let Q0:=spl (nmN x x.length); let Q1:=spl (nmD x x.length); True/\∃(v0:Unit),∃(v1:Nat),Nat.le v1 x.length/\(((0:Int)=(↑v1:Int)/\True)/\((0:Int)=(0:Int)/\(0:Int)=(0:Int)/\(0:Int)=(0:Int)/\(0:Int)=(0:Int)/\True)/\((0:Int)=(spl (nmN x v1)).1/\(0:Int)=(spl (nmN x v1)).2/\(0:Int)=(spl (nmD x v1)).1/\(1:Int)=(spl (nmD x v1)).2/\True)/\True)/\∀(v2:Nat),Nat.le v2 x.length->(decide ((↑v2:Int)<(↑x.length:Int))=true->((0:Int)<=(↑v2:Int)/\(↑v2:Int)<(↑x.length:Int))/\(decide ((nR x v2).1<(0:Int))=true->fits .i64 ((0:Int)-(nR x v2).1)/\SmP ((spl (nmN x v2)),(spl (nmD x v2)).1,(spl (nmD x v2)).2) ((0:Int)-(nR x v2).1,(nR x v2).2) (1:Int)/\fits .i64 ((↑v2:Int)+(1:Int))/\∃(v6:Nat),Nat.le v6 x.length/\x.length-v6<x.length-v2/\((↑v2:Int)+(1:Int)=(↑v6:Int)/\True)/\((0:Int)=(0:Int)/\(0:Int)=(0:Int)/\(0:Int)=(0:Int)/\(0:Int)=(0:Int)/\True)/\((sumW ((spl (nmN x v2)),(spl (nmD x v2)).1,(spl (nmD x v2)).2) ((0:Int)-(nR x v2).1,(nR x v2).2)).1.1=(spl (nmN x v6)).1/\(sumW ((spl (nmN x v2)),(spl (nmD x v2)).1,(spl (nmD x v2)).2) ((0:Int)-(nR x v2).1,(nR x v2).2)).1.2=(spl (nmN x v6)).2/\(sumW ((spl (nmN x v2)),(spl (nmD x v2)).1,(spl (nmD x v2)).2) ((0:Int)-(nR x v2).1,(nR x v2).2)).2.1=(spl (nmD x v6)).1/\(sumW ((spl (nmN x v2)),(spl (nmD x v2)).1,(spl (nmD x v2)).2) ((0:Int)-(nR x v2).1,(nR x v2).2)).2.2=(spl (nmD x v6)).2/\True)/\True)/\(decide ((nR x v2).1<(0:Int))=false->SmP ((spl (nmN x v2)),(spl (nmD x v2)).1,(spl (nmD x v2)).2) (nR x v2) (1:Int)/\fits .i64 ((↑v2:Int)+(1:Int))/\∃(v6:Nat),Nat.le v6 x.length/\x.length-v6<x.length-v2/\((↑v2:Int)+(1:Int)=(↑v6:Int)/\True)/\((0:Int)=(0:Int)/\(0:Int)=(0:Int)/\(0:Int)=(0:Int)/\(0:Int)=(0:Int)/\True)/\((sumW ((spl (nmN x v2)),(spl (nmD x v2)).1,(spl (nmD x v2)).2) (nR x v2)).1.1=(spl (nmN x v6)).1/\(sumW ((spl (nmN x v2)),(spl (nmD x v2)).1,(spl (nmD x v2)).2) (nR x v2)).1.2=(spl (nmN x v6)).2/\(sumW ((spl (nmN x v2)),(spl (nmD x v2)).1,(spl (nmD x v2)).2) (nR x v2)).2.1=(spl (nmD x v6)).1/\(sumW ((spl (nmN x v2)),(spl (nmD x v2)).1,(spl (nmD x v2)).2) (nR x v2)).2.2=(spl (nmD x v6)).2/\True)/\True))/\(decide ((↑v2:Int)<(↑x.length:Int))=false->(spl (nmN x v2)).1=Q0.1/\(spl (nmN x v2)).2=Q0.2/\(spl (nmD x v2)).1=Q1.1/\(spl (nmD x v2)).2=Q1.2/\True)) ?_
 refine⟨(),0,zaf _,⟨rfl,rfl,rfl,rfl,rfl⟩,λk hk=>⟨λhlt=>⟨hlt,λhn=>?_,λhn=>?_⟩,λhge=>?_⟩⟩
 ·have hl:=h.len
  have hv:=h.val k hlt
  obtain⟨q1,q2⟩:=h.step hlt (a:=0-(nR x k).1) (by grind [nR,qd5])
  exact⟨qa8,q1,qa8,k+1,hlt,ow,by rfl,za1 (λs=>s.1.1) q2,za1 (λs=>s.1.2) q2,za1 (λs=>s.2.1) q2,za1 (λs=>s.2.2) q2⟩
 ·have hl:=h.len
  obtain⟨q1,q2⟩:=h.step hlt (a:=(nR x k).1) (by grind [nR,qd5])
  exact⟨q1,qa8,k+1,hlt,ow,by rfl,za1 (λs=>s.1.1) q2,za1 (λs=>s.1.2) q2,za1 (λs=>s.2.1) q2,za1 (λs=>s.2.2) q2⟩
 grind
theorem w6g (g:Int->Int):∀n,q0v g (qp0 n)=sm n λc=>g (c:Int)
 | 0=>rfl
 | n+1=>by rw[wx7,q7z,w6g g n]; simp[q0v,sm]
theorem ym2 (h:List Int) {P:List Int} (hP:Named h.length P):inL h P=sm h.length λc=>if(c:Int)∈P then qd5 (nI h c) else 0:=by
 rw[q17]
 have hp:((qp0 h.length).filter λx=>decide (x∈P)).Perm P:=by
  rw[zcg ((q0w (w56 _)).sublist zc7) (q0w (q20 hP))]
  intro a
  rw[zdu,za5]
  refine⟨λq=>q.2,λq=>⟨wa4.2 ?_,q⟩⟩
  obtain⟨i,hi,rfl⟩:=zbl.1 q
  have:=hP.at_ i hi
  grind [qg3]
 have h1:q0v (λx=>if x∈P then szV h x else 0) (qp0 h.length)=sm h.length λc=>if(c:Int)∈P then qd5 (nI h c) else 0:=by
  grind [w6g,qd4,szV,Int.toNat_natCast]
 rw[<- h1,<- wr5 (q:=λx=>decide (x∈P)) _ λx _ hx=>zaj (zdf hx),<- q49 _ hp]
 have:∀l:List Int,q0v (szV h) (l.filter λx=>decide (x∈P))=q0v (λx=>if x∈P then szV h x else 0) (l.filter λx=>decide (x∈P)):=λl=>by
  induction l with
  | nil=>rfl
  | cons x l ih=>
   by_cases q:x∈P
   all_goals simp_all [List.filter_cons_of_pos,q0v,if_pos,List.filter_cons_of_neg]
 grind
theorem x3n {m:List (List Int)} {x:List Int} (hM:Mk m) (hl:x.length=(nL m 0).length) {f:Fit} (hf:f∈qc9 m (qc8 m x) 10):yl6 [spF m f] x=true↔f=q19 m x:=by
 obtain⟨h1,_,_,pix,k1,rfl⟩:=x5s hf
 have hI:=qn8 k1
 have hN:=(Asked.of hI.chk).nam
 obtain⟨n1,n2⟩:=qf3 (nI x) (nL m 0).length
 have n4:=qo2 (nI x) (nL m 0).length
 have hsp:spF m (qg5 m (qc8 m x) pix).1=wc2 (nL m 0).length pix (qg5 m (qc8 m x) pix).1.2 pix.length:=by unfold spF; rw[hI.fst]
 have hB:yl6 [spF m (qg5 m (qc8 m x) pix).1] x=true↔∀c,c<(nL m 0).length->nR (spF m (qg5 m (qc8 m x) pix).1) c=(nI x c,1):=by
  unfold yl6
  rw[zas]
  have e:w91 [spF m (qg5 m (qc8 m x) pix).1]=spF m (qg5 m (qc8 m x) pix).1:=rfl
  rw[e,show(spF m (qg5 m (qc8 m x) pix).1).length=(nL m 0).length by rw[hsp,q21]]
  simp
 rw[hB,hsp]
 constructor
 ·intro h
  have hv:∀j,j<pix.length->nR (qg5 m (qc8 m x) pix).1.2 j=(nI x (nI pix j).toNat,1):=λj hj=>by
   have hp:=hN.at_ j hj
   rw[<- w3c hN (v:=(qg5 m (qc8 m x) pix).1.2) _ (zac _) j hj]
   grind
  have hz:∀c,c<(nL m 0).length->(∀j,j<pix.length->nI pix j≠(c:Int))->nI x c=0:=λc hc hno=>by
   have:=xr7 hN (v:=(qg5 m (qc8 m x) pix).1.2) hc hno _ (zac _)
   grind
  have hpix:pix=qk6 (nL m 0).length (nI x):=w3d hN n1 λc hc=>by
   constructor
   ·rintro⟨j,hj,e⟩
    refine n4 c hc λq=>?_
    have:=(h1.each j (by rw[hI.len]; omega)).1
    grind
   grind
  refine Prod.ext (hI.fst.trans hpix) ?_
  show _=(qk6 (nL m 0).length (nI x)).map _
  rw[<- hpix]
  refine zbv (by rw[hI.len,za3]) λi h2 h3=>?_
  grind [q15,qg3]
 ·intro e c hc
  have e1:pix=qk6 (nL m 0).length (nI x):=hI.fst.symm.trans (za1 Prod.fst e)
  have e2:(qg5 m (qc8 m x) pix).1.2=pix.map λj=>(nI x j.toNat,1):=by rw[e]; show(qk6 _ _).map _=_; grind
  by_cases q:∃j,j<pix.length/\nI pix j=(c:Int)
  ·obtain⟨j,hj,w⟩:=q
   have:=w3c hN (v:=(qg5 m (qc8 m x) pix).1.2) _ (zac _) j hj
   grind [Int.toNat_natCast,q15,qg3]
  ·rw[xr7 hN hc (λj hj w=>q ⟨j,hj,w⟩) _ (zac _)]
   grind
theorem xt8 (m:List (List Int)) (x:List Int):agI m x<0↔∀h∈(qh9 m).1,agB h x=false:=by
 have h1:=qy8 (.list (.int .i64)) (λh=>agB h x) (qh9 m).1
 have h2:(agI m x<0)↔(decide (0<=ixT (.list (.int .i64)) (λh=>agB h x) (qh9 m).1)=false):=by
  rw[decide_eq_false_iff_not,zds]; rfl
 grind
def yo8 (m:List (List Int)) (x:List Int):Bool:=decide (wb3 m x=0) && decide (agI m x<0)
theorem x3o {m:List (List Int)} {x:List Int} (hF:x5q m) (he:wb3 m x=0) (hk:nzTo x x.length<=ordL m):yo8 m x=true:=by
 have hS:=Shw.of he
 have hn:=hF.n7 hS.val
 have hs:yo8 m x=decide (agI m x<0):=by grind [yo8,decide_eq_true]
 rw[hs]
 refine zcq ((xt8 m x).2 λh hh=>?_)
 obtain⟨n1,n2⟩:=qf3 (nI x) (nL m 0).length
 have n4:=qo2 (nI x) (nL m 0).length
 have hlen:(qk6 (nL m 0).length (nI x)).length<=ordL m:=by rw[qx4,<- q48,<- hS.len]; omega
 have hsafe:=x9c hS.val hn n1 hlen
 have hO:yo6 (qh9 m).1 (qk6 (nL m 0).length (nI x)):=⟨q70 hS.val,λi hi=>by
  obtain⟨s,hc⟩:=q3h hS.val hn hi
  exact w0x hS.val hc n1⟩
 obtain⟨i,hi,rfl⟩:=zbt hh
 obtain⟨s,hc⟩:=q3h hS.val hn hi
 rw[qn5 _ i hi] at hc
 have hsh:=w0x hS.val hc n1
 have hge:=(wq5 hO _ (zac _)).1 i hi
 rw[qn5 _ i hi] at hge
 have hq:=w29 (wi5 hsh).pos (x5r hS.val hn n1).pos hge hsafe
 rw[w3j hsh,decide_eq_false_iff_not] at hq
 have hin:=ym2 (qh9 m).1[i] (P:=qk6 (nL m 0).length (nI x)) (by rw[hc.len]; omega)
 generalize(qh9 m).1[i]=h at *
 have hmem:∀c,c<h.length->((c:Int)∈qk6 (nL m 0).length (nI x)↔nI x c≠0):=λc hcl=>by
  rw[w9b]
  constructor
  ·grind
  ·exact λq=>n4 c (by rw[<- hc.len]; omega) q
 have hsum:∀k,k<=h.length->qd5 (x3e h x k)<=(sm k λc=>if(c:Int)∈qk6 (nL m 0).length (nI x) then qd5 (nI h c) else 0)/\wr1 h x k+(sm k λc=>if(c:Int)∈qk6 (nL m 0).length (nI x) then qd5 (nI h c) else 0)=wb4 h k:=λk=>by
  induction k with
  | zero=>exact λ_=>⟨zbo 0,rfl⟩
  | succ k ih=>
   intro hk2
   obtain⟨a1,a2⟩:=ih ow
   have hmk:=hmem k ow
   rw[x3e,wr1,wb4,sm]
   unfold qd5 at *
   grind
 obtain⟨s1,s2⟩:=hsum h.length (zac _)
 rw[<- hin] at s1 s2
 unfold agB
 refine zep ?_
 have e:szL h=wb4 h h.length:=rfl
 omega
def nrQ (f:Fit):Int × Int:=ofR (nmN f.2 f.2.length) (nmD f.2 f.2.length)
def dn (d:Int):Int:=if d<1 then 1 else d
def q65 (a b:Int × Int):Int:=wi2 (a.1,dn a.2) (b.1,dn b.2)
def xt9 (out:List Fit) (f:Fit):List Fit:=if out=[]\/q65 (nrQ f) (nrQ (nF out 0))<0 then[f] else if q65 (nrQ f) (nrQ (nF out 0))=0 then out++[f] else out
def qf8 (L:List Fit):Nat->List Fit
 | 0=>[]
 | k+1=>xt9 (qf8 L k) (nF L k)
def xu0 (L:List Fit):List Fit:=qf8 L L.length
theorem xu1 (out:List Fit) (f:Fit):(xt9 out f).length<=out.length+1/\∀x∈xt9 out f,x∈out\/x=f:=by
 grind [xt9,List.mem_singleton]
theorem q6d (L:List Fit):∀k,k<=L.length->(qf8 L k).length<=k/\∀x∈qf8 L k,x∈L
 | 0,_=>⟨zac _,λx hx=>by cases hx⟩
 | k+1,hk=>by
  obtain⟨h1,h2⟩:=q6d L k ow
  obtain⟨k1,k2⟩:=xu1 (qf8 L k) (nF L k)
  rw[qf8]
  refine⟨ow,λx hx=>?_⟩
  rcases k2 x hx with q | rfl
  all_goals grind [wj0]
theorem xu2 (L:List Fit) (k:Nat):0<(qf8 L (k+1)).length:=by
 rw[qf8]; unfold xt9
 grind
structure ya4 (f:Fit):Prop where
 dn:DnP f.2
 nm:NmOk f
 n0:0<=(nrQ f).1
 n1:(nrQ f).1<=5760000000
 d0:1<=(nrQ f).2
 d1:(nrQ f).2<=160
theorem ym3 {m:List (List Int)} {y:List Int} {k:Int} {f:Fit} (h:f∈qc9 m y k):ya4 f:=by
 obtain⟨hm,_,_,pix,h1,rfl⟩:=x5s h
 have hI:=qn8 h1
 have hA:=Asked.of hI.chk
 have h6:=hA.msk.rows6
 have hr:=hI.rows
 obtain⟨E,e0,e1,hE⟩:=xp7 h1
 have hdn:DnP (qg5 m y pix).1.2:=⟨by rw[hI.len]; omega,λj hj=>by
  obtain⟨_,_,_,hv,_⟩:=hE j hj
  simp_all [q7g,Bool.and_eq_true,decide_eq_true_eq]⟩
 obtain⟨X,hX⟩:∃X:Nat->Int,∀j,j<(qg5 m y pix).1.2.length->(X j).natAbs<=960000000/\(nR (qg5 m y pix).1.2 j).1*E=X j*(nR (qg5 m y pix).1.2 j).2:=
  ⟨λj=>if hj:j<(qg5 m y pix).1.2.length then Classical.choose (hE j hj) else 0,λj hj=>by
   grind⟩
 have hlen:=hdn.len
 obtain⟨b1,b2⟩:=hdn.bd _ (zac _)
 obtain⟨p0,p1⟩:=w9d (V:=(qg5 m y pix).1.2) (β:=X) e0 _ λj hj=>⟨(hm.each j hj).2,(hX j hj).2⟩
 have hS:(sm (qg5 m y pix).1.2.length λj=>qd5 (X j)).natAbs<=(qg5 m y pix).1.2.length*960000000:=x1t λj hj=>by
  grind [qd5]
 unfold nrQ at *
 generalize(qg5 m y pix).1=f at *
 obtain⟨P,Q,g,q1,q2,q3,q4,q5,q6⟩:=wr7 b2.1 p0
 have hP:(P:Int)*E=(sm f.2.length λj=>qd5 (X j))*Q:=by
  rw[q2,q3] at p1
  have:(g:Int)*((P:Int)*E)=g*((sm f.2.length λj=>qd5 (X j))*Q):=by grind
  grind [Int.eq_of_mul_eq_mul_left]
 generalize(sm f.2.length λj=>qd5 (X j))=S at *
 have hn:P*E.natAbs=S.natAbs*Q:=by
  have:=za1 Int.natAbs hP
  grind [Int.natAbs_mul,Int.natAbs_natCast]
 have d1:Q∣E.natAbs:=q6.symm.dvd_of_dvd_mul_left ⟨S.natAbs,by grind⟩
 have d2:P∣S.natAbs:=q6.dvd_of_dvd_mul_right ⟨E.natAbs,hn.symm⟩
 have l1:=zdd ow d1
 have l2:P<=S.natAbs:=by
  rcases zbs S.natAbs with z | z
  ·rw[z,zdl] at hn
   grind [Nat.mul_eq_zero]
  simp_all [Nat.le_of_dvd]
 refine⟨hdn,hm,?_,?_,?_,?_⟩ <;> (grind [nrQ,q1])
theorem x3p {f g:Fit} (hf:ya4 f) (hg:ya4 g):(q65 (nrQ f) (nrQ g)<0↔¬leF g f)/\(q65 (nrQ f) (nrQ g)=0↔leF f g/\leF g f):=by
 have f1:=hf.d0
 have g1:=hg.d0
 have e1:dn (nrQ f).2=(nrQ f).2:=zaj ow
 have e2:dn (nrQ g).2=(nrQ g).2:=zaj ow
 obtain⟨P,Q,a,q1,q2,q3,q4,_,_⟩:=wr7 (hf.dn.bd _ (zac _)).2.1 hf.nm.pos
 obtain⟨P',Q',b,r1,r2,r3,r4,_,_⟩:=wr7 (hg.dn.bd _ (zac _)).2.1 hg.nm.pos
 unfold q65 leF
 rw[e1,e2,show nrQ f=((P:Int),(Q:Int)) from q1,show nrQ g=((P':Int),(Q':Int)) from r1,q2,q3,r2,r3]
 have hab:(0:Int)<(a*b:Nat):=by have:=Nat.mul_pos q4 r4; omega
 have m1:((P*a:Nat):Int)*((Q' * b:Nat):Int)=(P:Int)*Q' * (a*b:Nat):=by grind
 have m2:((P' * b:Nat):Int)*((Q*a:Nat):Int)=(P':Int)*Q*(a*b:Nat):=by grind
 rw[m1,m2]
 have c1:∀u v:Int,u*(a*b:Nat)<=v*(a*b:Nat)↔u<=v:=λu v=>⟨λh=>zc1 h hab,λh=>zai h ow⟩
 rw[c1,c1]
 grind [wi2]
theorem w6h {L:List Fit} (hL:∀f∈L,ya4 f) (hn:L.Nodup):∀k,k<=L.length->Gath leK (L.take k) (qf8 L k)/\(qf8 L k).Nodup
 | 0,_=>⟨Gath.nil leK,List.nodup_nil⟩
 | k+1,hk=>by
  obtain⟨h1,h2⟩:=w6h hL hn k ow
  have hkm:=q6d L k ow
  have hf:nF L k∈L:=wj0 ow
  have hnew:∀x∈qf8 L k,x≠nF L k:=λx hx e=>by
   have hx2:=(h1.least x hx).1
   grind [wo3,List.mem_iff_getElem,List.length_take,List.pairwise_iff_getElem]
  have e:L.take (k+1)=L.take k++[nF L k]:=by grind [List.take_add_one,List.getElem?_eq_getElem,wo3]
  have hc:∀g∈qf8 L k,(q65 (nrQ (nF L k)) (nrQ g)<0↔¬leK g (nF L k))/\(q65 (nrQ (nF L k)) (nrQ g)=0↔leK (nF L k) g/\leK g (nF L k)):=λg hg=>by
   have k1:=hL _ hf
   have k2:=hL _ (hkm.2 g hg)
   rw[x3j k1.nm k2.nm,x3j k2.nm k1.nm]
   grind [x3p]
  rw[e,qf8]
  by_cases h0:qf8 L k=[]
  ·have eS:xt9 (qf8 L k) (nF L k)=[nF L k]:=by simp_all [xt9,if_pos]
   rw[eS]
   exact⟨Gath.step (le:=leK) (λa=>zbo _) wa9 h1 (nF L k) (λ_=>rfl) (λg hg=>by grind) (λg hg=>by simp) (λg hg=>by grind) λa b=>zd8 (_*_) _,by simp⟩
  ·have hlen:0<(qf8 L k).length:=zd0.2 h0
   have hg0:nF (qf8 L k) 0∈qf8 L k:=wj0 hlen
   have hall:∀g∈qf8 L k,(leK (nF L k) g↔leK (nF L k) (nF (qf8 L k) 0))/\(leK g (nF L k)↔leK (nF (qf8 L k) 0) (nF L k)):=λg hg=>by
    obtain⟨q1,q2⟩:=h1.least g hg
    obtain⟨r1,r2⟩:=h1.least _ hg0
    grind [wa9,q2,q1]
   obtain⟨c1,c2⟩:=hc _ hg0
   have eS:xt9 (qf8 L k) (nF L k)=if q65 (nrQ (nF L k)) (nrQ (nF (qf8 L k) 0))<0 then[nF L k] else if q65 (nrQ (nF L k)) (nrQ (nF (qf8 L k) 0))=0 then qf8 L k++[nF L k] else qf8 L k:=by
    unfold xt9
    grind
   refine⟨Gath.step (le:=leK) (λa=>zbo _) wa9 h1 (nF L k) (λq=>absurd q h0) (λg hg q=>?_) (λg hg q=>?_) (λg hg q1 q2 x=>?_) λa b=>zd8 (_*_) _,?_⟩
   ·have q:=λw=>q ((hall g hg).1.2 w)
    have t:leK (nF (qf8 L k) 0) (nF L k):=(zd8 _ _).resolve_left q
    grind
   all_goals grind
theorem w6i {m:List (List Int)} {y:List Int} (h7:(nL m 0).length<=7):Gath leF (qc9 m y 10) (xu0 (qc9 m y 10))/\(xu0 (qc9 m y 10)).Nodup:=by
 have hn:(qc9 m y 10).Nodup:=(List.pairwise_map.1 (wi9 y 10 h7)).imp λq e=>q (by rw[e])
 have hok:∀f∈qc9 m y 10,ya4 f:=λf hf=>ym3 hf
 obtain⟨h1,h2⟩:=w6h hok hn _ (zac _)
 rw[zel] at h1
 refine⟨⟨h1.none,h1.some,λf hf=>?_,λf hf hg=>?_⟩,h2⟩
 ·obtain⟨k1,k2⟩:=h1.least f hf
  exact⟨k1,λg hg=>(x3j (hok f k1).nm (hok g hg).nm).1 (k2 g hg)⟩
 ·exact h1.all f hf λg hq=>(x3j (hok f hf).nm (hok g hq).nm).2 (hg g hq)
open Go Go.Proofs Go.RowKit Eng
structure CmP (a:Int × Int):Prop where
 n0:0<=a.1
 n1:a.1<=10000000000
 d0:0<=a.2
 d1:a.2<=400
abbrev ym4:qa7:=qe0 true none [qw6,qw6] [qc0] (λx=>CmP x.1/\CmP x.2.1) (λx=>(q65 x.1 x.2.1,()))
theorem x3q (u v:Int):qx8 (spl u) (spl v)=if u=v then 0 else if u<v then -1 else 1:=by
 unfold qx8 spl hiU loU
 omega
theorem CmP.prd {a:Int × Int} (ha:CmP a) {d:Int} (h0:0<=d) (h1:d<=400):qw3 a.1 d:=by
 obtain⟨a1,a2,a3,a4⟩:=ha
 have hB:BIG=4000000000000000000:=rfl
 refine⟨?_,?_,?_⟩
 all_goals grind
theorem w3l:Meets Tryz.prog 173 ym4:=by
 refine mt0 (SpecsOk.cons w8x (SpecsOk.cons q2w (SpecsOk.nil _))) Tryz.func173 ?_
 rintro⟨⟨a,b⟩,⟨c,d⟩,⟨⟩⟩ h
 revert a b c d
 intro(a:Int) (b:Int) (c:Int) (d:Int) (h:CmP (a,b)/\CmP (c,d))
 refine vcs (let Q0:=((spl (c*b)).1,(spl (c*b)).2); let Q1:=((spl (a*d)).1,(spl (a*d)).2); (decide (b<(1:Int))=true->(decide (d<(1:Int))=true->qw3 a (1:Int)/\qw3 c (1:Int)/\True/\qx8 ((spl (a*(1:Int))).1,(spl (a*(1:Int))).2) ((spl (c*(1:Int))).1,(spl (c*(1:Int))).2)=q65 (a,b) (c,d))/\(decide (d<(1:Int))=false->qw3 a d/\qw3 c (1:Int)/\True/\qx8 Q1 ((spl (c*(1:Int))).1,(spl (c*(1:Int))).2)=q65 (a,b) (c,d)))/\(decide (b<(1:Int))=false->(decide (d<(1:Int))=true->qw3 a (1:Int)/\qw3 c b/\True/\qx8 ((spl (a*(1:Int))).1,(spl (a*(1:Int))).2) Q0=q65 (a,b) (c,d))/\(decide (d<(1:Int))=false->qw3 a d/\qw3 c b/\True/\qx8 Q1 Q0=q65 (a,b) (c,d)))) ?_
 obtain⟨h1,h2⟩:=h
 have key:∀x y:Int,x=dn b->y=dn d->qx8 ((spl (a*y)).1,(spl (a*y)).2) ((spl (c*x)).1,(spl (c*x)).2)=q65 (a,b) (c,d):=λx y hx hy=>by
  subst hx hy
  exact x3q _ _
 have b1:b<1->1=dn b:=λq=>(zam q).symm
 have b2:1<=b->b=dn b:=λq=>(zaj ow).symm
 have d1:d<1->1=dn d:=λq=>(zam q).symm
 have d2:1<=d->d=dn d:=λq=>(zaj ow).symm
 have e1:qw3 a 1:=h1.prd dc dc
 have e2:qw3 c 1:=h2.prd dc dc
 have e3:qw3 a d:=h1.prd h2.d0 h2.d1
 have e4:qw3 c b:=h2.prd h1.d0 h1.d1
 grind
theorem w3m:Meets Tryz.prog 123 ym4:=by
 refine mt0 (SpecsOk.cons w3l (SpecsOk.nil _)) Tryz.func123 ?_
 rintro⟨⟨a,b⟩,⟨c,d⟩,⟨⟩⟩ h
 revert a b c d
 intro(a:Int) (b:Int) (c:Int) (d:Int) (h:CmP (a,b)/\CmP (c,d))
 refine vcr ((CmP (a,b)/\CmP (c,d))/\q65 (a,b) (c,d)=q65 (a,b) (c,d)) ?_
 grind
abbrev y55:qa7:=qe0 false none [tQ] [w2j] (λx=>q41 x.1.1 x.1.2 10=0->qj7 x.1.1 x.1.2 10) (λx=>((qh2 x.1.1 x.1.2 10).1,()))
theorem xu3:Meets Tryz.prog 120 y55:=by
 refine mt0 (SpecsOk.cons w2o (SpecsOk.nil _)) Tryz.func120 ?_
 rintro⟨⟨m,y⟩,⟨⟩⟩ h
 revert m y
 intro(m:List (List Int)) (y:List Int) (h:q41 m y 10=0->qj7 m y 10)
 refine vcr ((q41 m y (10:Int)=(0:Int)->qj7 m y (10:Int))/\(qh2 m y (10:Int)).1=(qh2 m y (10:Int)).1) ?_
 grind
structure w6j (m:List (List Int)) (f:Fit):Prop where
 pos:0<m.length
 spr:x3c (nL m 0).length f.1 f.2
abbrev y56:qa7:=qe0 true (some 43) [tQ,qq8] [q27] (λx=>w6j x.1.1 x.2.1) (λx=>(spF x.1.1 x.2.1,()))
theorem xu4:Meets Tryz.prog 118 y56:=by
 refine mt0 (SpecsOk.cons xt1 (SpecsOk.nil _)) Tryz.func118 ?_
 rintro⟨⟨m,y⟩,⟨p,v⟩,⟨⟩⟩ h
 revert m y p v
 intro(m:List (List Int)) (y:List Int) (p:List Int) (v:List (Int × Int)) (h:w6j m (p,v))
 refine vcs (((0:Int)<=(0:Int)/\(0:Int)<(↑m.length:Int))/\x3c (↑(nL m (0:Nat)).length:Int) p v/\wc2 (↑(nL m (0:Nat)).length:Int).toNat p v p.length=spF m (p,v)) ?_
 have:=h.pos
 exact⟨ow,h.spr,rfl⟩
set_option maxRecDepth 100000 in
theorem xu5 {x:Int} (h:x=0\/x=1) (w:World):Calls Tryz.prog 232 #[.int .u64 x] w λe w'=>e=.returned (.int .i64 x)/\w=w':=by
 rcases h with rfl | rfl <;> (go_enter Tryz.func232,Tryz.ntmps232; go_wp2; go_ret)
 ·exact⟨za1 (λz=>Ending.returned (Value.int .i64 z)) (show wrap64 (wrap64 (Lib.len8 0))=0 by decide +kernel),rfl⟩
 ·exact⟨za1 (λz=>Ending.returned (Value.int .i64 z)) (show wrap64 (wrap64 (Lib.len8 1))=1 by decide +kernel),rfl⟩
theorem len_any {x:Int} (h:x=0\/x=1) (w:World):Calls Tryz.prog 175 #[.int .u64 x] w λe w'=>e=.returned (.int .i64 x)/\w=w':=by
 go_enter Tryz.func175,Tryz.ntmps175
 go_wp2_with fail
 refine(xu5 h w).mono ?_
 rintro e w1 ⟨rfl,rfl⟩
 go_wp2
 go_ret
 simp
abbrev sLen:qa7:=qe0 true none [tU64] [qc0] (λx=>x.1=0\/x.1=1) (λx=>(x.1,()))
theorem xu6:Meets Tryz.prog 175 sLen:=q2n ⟨_,_,Tryz.func175,rfl,rfl⟩ λw m x vs hm hp hx=>by
 obtain⟨x,⟨⟩⟩:=x
 obtain⟨u,rest,rfl,h1,rfl⟩:=hx
 obtain rfl:u=.int .u64 x:=h1
 exact(len_any hp w).mono λe w' ⟨h1,h2⟩=>⟨_,h1,by grind [Below.refl],[_],rfl,_,[],rfl,rfl,rfl⟩
abbrev x9e:PTy:=.fn [qq8,qq8] qc0
abbrev y05 (fs:List (Nat × qa7)):qa7:=hspec fs true none [.d w2j,.d qc0,.d qc0,x9e] [] (λx=>x.2.1=0/\x.2.2.1<=1) (λ_=>())
def ym5:Nat->Option Inv
 | 0=>some (Inv.of [8] 0 (λk:Nat=>[(8,.lit (.int .i64 k))]) (λ_=>[]) (λk=>k=1) (λ_=>0))
 | _=>none
theorem w9j {fs:List (Nat × qa7)} (hfs:SpecsOk Tryz.prog fs):Meets Tryz.prog 223 (y05 fs):=by
 refine ql2 hfs (snd (SpecsOk.nil _)) Tryz.func223 rfl rfl (λ_=>ym5) (λ_=>by kernel_rfl) dc ?_
 rintro⟨l,a,b,⟨p,f⟩,⟨⟩⟩ h
 revert l a b p f
 intro(l:List Fit) (a:Int) (b:Int) (p:qa3 [qq8,qq8]->Prop) (f:qa3 [qq8,qq8]->Int) (h:a=0/\b<=1)
 refine vcs (fits .i64 (a+(1:Int))/\∃(v0:Unit),∃(v1:Nat),v1=(1:Nat)/\((a+(1:Int)=(↑v1:Int)/\True)/\True)/\∀(v2:Nat),v2=(1:Nat)->(decide ((↑v2:Int)<b)=true->False)/\(decide ((↑v2:Int)<b)=false->True)) ?_
 obtain⟨rfl,hb⟩:=h
 exact⟨qa8 dc dc,(),1,rfl,rfl,λk hk hlt=>by omega⟩
abbrev y06 (fs:List (Nat × qa7)):qa7:=hspec fs true none [.d w2j,.d qc0,.d qc0,.d qc0,x9e] [] (λx=>x.2.1=0/\0<=x.2.2.1/\x.2.2.1<=1) (λ_=>())
def ym6 (n:Int):Nat->Option Inv
 | 0=>some (Inv.of [1,2] 0 (λ_:Nat=>[(1,.lit (.int .i64 0)),(2,.lit (.int .i64 n))]) (λ_=>[]) (λk=>k=0) (λ_=>0))
 | _=>none
theorem w9k {fs:List (Nat × qa7)} (hfs:SpecsOk Tryz.prog fs):Meets Tryz.prog 174 (y06 fs):=by
 refine ql2 hfs (snd (SpecsOk.cons (w9j (fs:=fs) hfs) (SpecsOk.nil _))) Tryz.func174 rfl rfl (λx=>ym6 x.2.2.1) (λ_=>by kernel_rfl) dc ?_
 rintro⟨l,a,b,c,⟨p,f⟩,⟨⟩⟩ h
 revert l a b c p f
 intro(l:List Fit) (a:Int) (b:Int) (c:Int) (p:qa3 [qq8,qq8]->Prop) (f:qa3 [qq8,qq8]->Int) (h:a=0/\0<=b/\b<=1)
 refine vcs (∃(v0:Unit),∃(v1:Nat),v1=(0:Nat)/\((a=(0:Int)/\b=b/\True)/\True)/\∀(v2:Nat),v2=(0:Nat)->fits .i64 (b-(0:Int))/\(decide (b-(0:Int)<=(12:Int))=true->∃(v5:qa3 [qq8,qq8]->Prop),∃(v6:qa3 [qq8,qq8]->Int),([qq8,qq8]=[qq8,qq8]/\qc0=qc0/\p ≍ v5/\f ≍ v6)/\((0:Int)=(0:PTy.den (PTy.d qc0))/\b<=(1:PTy.den (PTy.d qc0)))/\True)/\(decide (b-(0:Int)<=(12:Int))=false->False)) ?_
 obtain⟨rfl,h0,h1⟩:=h
 exact⟨(),0,rfl,rfl,λk hk=>⟨qa8,λ_=>⟨p,f,⟨HEq.rfl,HEq.rfl⟩,h1⟩,λq=>by omega⟩⟩
abbrev y07 (fs:List (Nat × qa7)):qa7:=hspec fs true none [.d w2j,x9e] [] (λx=>x.1.length<=1) (λ_=>())
theorem w9l {fs:List (Nat × qa7)} (hfs:SpecsOk Tryz.prog fs):Meets Tryz.prog 124 (y07 fs):=by
 refine ql2 hfs (snd (SpecsOk.cons xu6 (SpecsOk.cons (w9k (fs:=fs) hfs) (SpecsOk.nil _)))) Tryz.func124 rfl rfl (λ_ _=>none) (λ_=>by kernel_rfl) dc ?_
 rintro⟨l,⟨p,f⟩,⟨⟩⟩ h
 revert l p f
 intro(l:List Fit) (p:qa3 [qq8,qq8]->Prop) (f:qa3 [qq8,qq8]->Int) (h:l.length<=1)
 refine vcs (fits IntKind.u64 (↑l.length:Int)/\((↑l.length:Int)=(0:Ty.den tU64)\/(↑l.length:Int)=(1:Ty.den tU64))/\∃(v0:qa3 [qq8,qq8]->Prop),∃(v1:qa3 [qq8,qq8]->Int),([qq8,qq8]=[qq8,qq8]/\qc0=qc0/\p ≍ v0/\f ≍ v1)/\((0:Int)=(0:PTy.den (PTy.d qc0))/\(0:PTy.den (PTy.d qc0))<=(↑l.length:Int)/\(↑l.length:Int)<=(1:PTy.den (PTy.d qc0)))/\True) ?_
 exact⟨w2v ow ow,ow,p,f,⟨HEq.rfl,HEq.rfl⟩,ow⟩
abbrev y57:Ty:=.prod tQ (.prod qw6 w2j)
abbrev Ans:=(List (List Int) × List Int) × (Int × Int) × List Fit
abbrev ym7:qa7:=qe0 true none [qq8,qq8] [qc0] (λ_=>False) (λ_=>(0,()))
theorem w9m:Meets Tryz.prog 125 ym7:=q2n ⟨_,_,Tryz.func125,rfl,rfl⟩ λw m x vs hm hp hx=>hp.elim
def nmS (x:List (Int × Int)):(Int × Int) × (Int × Int):=(spl (nmN x x.length),spl (nmD x x.length))
def rtQ (s:(Int × Int) × (Int × Int)):Int × Int:=ofR (val s.1) (val s.2)
abbrev y08:qa7:=qe0 true none [q27] [x8w] (λx=>DnP x.1) (λx=>(nmS x.1,()))
theorem w9n:Meets Tryz.prog 121 y08:=w9i
abbrev y58:qa7:=qe0 true none [x8w] [qw6,.bool] (λx=>RtP x.1) (λx=>(rtQ x.1,true,()))
theorem xu7:Meets Tryz.prog 122 y58:=xt7
theorem ym8 (f:Fit):rtQ (nmS f.2)=nrQ f:=by
 grind [rtQ,nmS,nrQ,q0t]
def yo9:Ans:=(([],[]),(0,0),[])
def yp0 (m:List (List Int)) (y:List Int):Ans:=((m,y),nrQ (nF (xu0 (qc9 m y 10)) 0),xu0 (qc9 m y 10))
def q6e (m:List (List Int)) (y:List Int):Ans × Int:=if qm7 m y []≠0 then(yo9,qm7 m y []) else if xu0 (qc9 m y 10)=[] then(yo9,10) else(yp0 m y,0)
structure xu8 (m:List (List Int)) (y:List Int):Prop where
 pre:qm7 m y []=0->qj7 m y 10
 nq:qm7 m y []=0->∀f∈qc9 m y 10,ya4 f
 one:qm7 m y []=0->(xu0 (qc9 m y 10)).length<=1
def y3o (m:List (List Int)) (y:List Int) (q:Int × Int) (c:AV):AV:=.cons (.dat (.list (.int .i64)) m) (.cons (.dat (.int .i64) y) (.cons (.lit (.int .i64 q.1)) (.cons (.lit (.int .i64 q.2)) (.cons c .nil))))
def y59:AV:=.cons (.lit (.slice none 0 0)) (.cons (.lit (.slice none 0 0)) (.cons (.lit (.int .i64 0)) (.cons (.lit (.int .i64 0)) (.cons (.lit (.slice none 0 0)) .nil))))
abbrev y6a:qa7:=qe0 false none [qg4,qf0] [y57,qc0] (λx=>xu8 x.1 x.2.1) (λx=>((q6e x.1 x.2.1).1,(q6e x.1 x.2.1).2,()))
def y09:Option Inv:=some (Inv.of [] 1 (λ_:Nat=>[]) (λ_=>[]) (λ_=>False) (λ_=>0))
def y1a (m:List (List Int)) (y:List Int) (L:List Fit):Nat->Option Inv
 | 0=>some (Inv.of [28] 11 (λk:Nat=>[(28,.lit (.int .i64 k))]) (λk=>[.box 110 y59,.box 110 (y3o m y (nrQ (nF (qf8 L k) 0)) (.own 6)),.dead,.dead,.dead,.dead,.vec 55 qq8 (qf8 L k),.dead,.dead,.dead,.dead]) (λk=>1<=k/\k<=L.length) (λk=>L.length-k))
 | 5000=>y09
 | 6000=>y09
 | 900000=>y09
 | _=>none
theorem w03:Meets Tryz.prog 77 y6a:=by
 refine meets (y3e [53] (SpecsOk.cons q1v (SpecsOk.cons xu3 (SpecsOk.cons w9n (SpecsOk.cons xu7 (SpecsOk.cons w3m (SpecsOk.cons (w9l (fs:=[(125,ym7)]) (SpecsOk.cons w9m (SpecsOk.nil _))) (SpecsOk.nil _)))))))) Tryz.func77 rfl rfl (λx=>y1a x.1 x.2.1 (qc9 x.1 x.2.1 10)) (λ_=>by kernel_rfl) dc ?_
 rintro⟨m,y,⟨⟩⟩ h
 revert m y
 intro(m:List (List Int)) (y:List Int) (h:xu8 m y)
 refine vcs (let Q0:=q6e m y; Value.slice none (0:Nat) (0:Nat)=Value.slice none (0:Nat) (0:Nat)/\(0:Nat)<=(1000000:Nat)/\((qm7 m y [] != (0:Int))=true->(Q0.1.1.1=[]/\Q0.1.1.2=[]/\(0:Int)=Q0.1.2.1.1/\(0:Int)=Q0.1.2.1.2/\Q0.1.2.2=[]/\True)/\qm7 m y []=Q0.2/\True)/\((qm7 m y [] != (0:Int))=false->(q41 m y (10:Int)=(0:Int)->qj7 m y (10:Int))/\(decide ((0:Int)<(↑(qh2 m y (10:Int)).1.length:Int))=true->((0:Int)<=(0:Int)/\(0:Int)<(↑(qh2 m y (10:Int)).1.length:Int))/\DnP (nF (qh2 m y (10:Int)).1 (0:Nat)).2/\RtP ((nmS (nF (qh2 m y (10:Int)).1 (0:Nat)).2).1,(nmS (nF (qh2 m y (10:Int)).1 (0:Nat)).2).2.1,(nmS (nF (qh2 m y (10:Int)).1 (0:Nat)).2).2.2)/\(CmP (rtQ ((nmS (nF (qh2 m y (10:Int)).1 (0:Nat)).2).1,(nmS (nF (qh2 m y (10:Int)).1 (0:Nat)).2).2.1,(nmS (nF (qh2 m y (10:Int)).1 (0:Nat)).2).2.2))/\CmP ((0:Int),(0:Int)))/\fits .i64 (1:Int)/\∃(v2:Unit),∃(v3:Nat),((1:Nat)<=v3/\Nat.le v3 (qc9 m y (10:Int)).length)/\(((1:Int)=(↑v3:Int)/\True)/\(Value.slice none (0:Nat) (0:Nat)=Value.slice none (0:Nat) (0:Nat)/\Value.slice none (0:Nat) (0:Nat)=Value.slice none (0:Nat) (0:Nat)/\(0:Int)=(0:Int)/\(0:Int)=(0:Int)/\Value.slice none (0:Nat) (0:Nat)=Value.slice none (0:Nat) (0:Nat)/\True)/\(m=m/\y=y/\(rtQ ((nmS (nF (qh2 m y (10:Int)).1 (0:Nat)).2).1,(nmS (nF (qh2 m y (10:Int)).1 (0:Nat)).2).2.1,(nmS (nF (qh2 m y (10:Int)).1 (0:Nat)).2).2.2)).1=(nrQ (nF (qf8 (qc9 m y (10:Int)) v3) (0:Nat))).1/\(rtQ ((nmS (nF (qh2 m y (10:Int)).1 (0:Nat)).2).1,(nmS (nF (qh2 m y (10:Int)).1 (0:Nat)).2).2.1,(nmS (nF (qh2 m y (10:Int)).1 (0:Nat)).2).2.2)).2=(nrQ (nF (qf8 (qc9 m y (10:Int)) v3) (0:Nat))).2/\True/\True)/\True/\True/\True/\True/\[(nF (qh2 m y (10:Int)).1 (0:Nat))]=qf8 (qc9 m y (10:Int)) v3/\True/\True/\True/\True/\True)/\∀(v4:Nat),(1:Nat)<=v4/\Nat.le v4 (qc9 m y (10:Int)).length->(decide ((↑v4:Int)<(↑(qh2 m y (10:Int)).1.length:Int))=true->((0:Int)<=(↑v4:Int)/\(↑v4:Int)<(↑(qh2 m y (10:Int)).1.length:Int))/\DnP (nF (qh2 m y (10:Int)).1 v4).2/\RtP ((nmS (nF (qh2 m y (10:Int)).1 v4).2).1,(nmS (nF (qh2 m y (10:Int)).1 v4).2).2.1,(nmS (nF (qh2 m y (10:Int)).1 v4).2).2.2)/\(CmP (rtQ ((nmS (nF (qh2 m y (10:Int)).1 v4).2).1,(nmS (nF (qh2 m y (10:Int)).1 v4).2).2.1,(nmS (nF (qh2 m y (10:Int)).1 v4).2).2.2))/\CmP (nrQ (nF (qf8 (qc9 m y (10:Int)) v4) (0:Nat))))/\(0:Nat)<(qf8 (qc9 m y (10:Int)) v4).length/\(decide (q65 (rtQ ((nmS (nF (qh2 m y (10:Int)).1 v4).2).1,(nmS (nF (qh2 m y (10:Int)).1 v4).2).2.1,(nmS (nF (qh2 m y (10:Int)).1 v4).2).2.2)) (nrQ (nF (qf8 (qc9 m y (10:Int)) v4) (0:Nat)))<(0:Int))=true->fits .i64 ((↑v4:Int)+(1:Int))/\∃(v8:Nat),((1:Nat)<=v8/\Nat.le v8 (qc9 m y (10:Int)).length)/\(qc9 m y (10:Int)).length-v8<(qc9 m y (10:Int)).length-v4/\((↑v4:Int)+(1:Int)=(↑v8:Int)/\True)/\(Value.slice none (0:Nat) (0:Nat)=Value.slice none (0:Nat) (0:Nat)/\Value.slice none (0:Nat) (0:Nat)=Value.slice none (0:Nat) (0:Nat)/\(0:Int)=(0:Int)/\(0:Int)=(0:Int)/\Value.slice none (0:Nat) (0:Nat)=Value.slice none (0:Nat) (0:Nat)/\True)/\(m=m/\y=y/\(rtQ ((nmS (nF (qh2 m y (10:Int)).1 v4).2).1,(nmS (nF (qh2 m y (10:Int)).1 v4).2).2.1,(nmS (nF (qh2 m y (10:Int)).1 v4).2).2.2)).1=(nrQ (nF (qf8 (qc9 m y (10:Int)) v8) (0:Nat))).1/\(rtQ ((nmS (nF (qh2 m y (10:Int)).1 v4).2).1,(nmS (nF (qh2 m y (10:Int)).1 v4).2).2.1,(nmS (nF (qh2 m y (10:Int)).1 v4).2).2.2)).2=(nrQ (nF (qf8 (qc9 m y (10:Int)) v8) (0:Nat))).2/\True/\True)/\True/\True/\True/\True/\[(nF (qh2 m y (10:Int)).1 v4)]=qf8 (qc9 m y (10:Int)) v8/\True/\True/\True/\True/\True)/\(decide (q65 (rtQ ((nmS (nF (qh2 m y (10:Int)).1 v4).2).1,(nmS (nF (qh2 m y (10:Int)).1 v4).2).2.1,(nmS (nF (qh2 m y (10:Int)).1 v4).2).2.2)) (nrQ (nF (qf8 (qc9 m y (10:Int)) v4) (0:Nat)))<(0:Int))=false->((q65 (rtQ ((nmS (nF (qh2 m y (10:Int)).1 v4).2).1,(nmS (nF (qh2 m y (10:Int)).1 v4).2).2.1,(nmS (nF (qh2 m y (10:Int)).1 v4).2).2.2)) (nrQ (nF (qf8 (qc9 m y (10:Int)) v4) (0:Nat)))==(0:Int))=true->((0:Nat)<List.length [(nF (qh2 m y (10:Int)).1 v4)]/\Nat.le ((qf8 (qc9 m y (10:Int)) v4).length+List.length [(nF (qh2 m y (10:Int)).1 v4)]) (1000000:Nat))/\fits .i64 ((↑v4:Int)+(1:Int))/\∃(v9:Nat),((1:Nat)<=v9/\Nat.le v9 (qc9 m y (10:Int)).length)/\(qc9 m y (10:Int)).length-v9<(qc9 m y (10:Int)).length-v4/\((↑v4:Int)+(1:Int)=(↑v9:Int)/\True)/\(Value.slice none (0:Nat) (0:Nat)=Value.slice none (0:Nat) (0:Nat)/\Value.slice none (0:Nat) (0:Nat)=Value.slice none (0:Nat) (0:Nat)/\(0:Int)=(0:Int)/\(0:Int)=(0:Int)/\Value.slice none (0:Nat) (0:Nat)=Value.slice none (0:Nat) (0:Nat)/\True)/\(m=m/\y=y/\(nrQ (nF (qf8 (qc9 m y (10:Int)) v4) (0:Nat))).1=(nrQ (nF (qf8 (qc9 m y (10:Int)) v9) (0:Nat))).1/\(nrQ (nF (qf8 (qc9 m y (10:Int)) v4) (0:Nat))).2=(nrQ (nF (qf8 (qc9 m y (10:Int)) v9) (0:Nat))).2/\True/\True)/\True/\True/\True/\True/\qf8 (qc9 m y (10:Int)) v4++[(nF (qh2 m y (10:Int)).1 v4)]=qf8 (qc9 m y (10:Int)) v9/\True/\True/\True/\True/\True)/\((q65 (rtQ ((nmS (nF (qh2 m y (10:Int)).1 v4).2).1,(nmS (nF (qh2 m y (10:Int)).1 v4).2).2.1,(nmS (nF (qh2 m y (10:Int)).1 v4).2).2.2)) (nrQ (nF (qf8 (qc9 m y (10:Int)) v4) (0:Nat)))==(0:Int))=false->fits .i64 ((↑v4:Int)+(1:Int))/\∃(v9:Nat),((1:Nat)<=v9/\Nat.le v9 (qc9 m y (10:Int)).length)/\(qc9 m y (10:Int)).length-v9<(qc9 m y (10:Int)).length-v4/\((↑v4:Int)+(1:Int)=(↑v9:Int)/\True)/\(Value.slice none (0:Nat) (0:Nat)=Value.slice none (0:Nat) (0:Nat)/\Value.slice none (0:Nat) (0:Nat)=Value.slice none (0:Nat) (0:Nat)/\(0:Int)=(0:Int)/\(0:Int)=(0:Int)/\Value.slice none (0:Nat) (0:Nat)=Value.slice none (0:Nat) (0:Nat)/\True)/\(m=m/\y=y/\(nrQ (nF (qf8 (qc9 m y (10:Int)) v4) (0:Nat))).1=(nrQ (nF (qf8 (qc9 m y (10:Int)) v9) (0:Nat))).1/\(nrQ (nF (qf8 (qc9 m y (10:Int)) v4) (0:Nat))).2=(nrQ (nF (qf8 (qc9 m y (10:Int)) v9) (0:Nat))).2/\True/\True)/\True/\True/\True/\True/\qf8 (qc9 m y (10:Int)) v4=qf8 (qc9 m y (10:Int)) v9/\True/\True/\True/\True/\True)))/\(decide ((↑v4:Int)<(↑(qh2 m y (10:Int)).1.length:Int))=false->(0:Nat)<(qf8 (qc9 m y (10:Int)) v4).length/\∃(v7:qa3 [qq8,qq8]->Prop),∃(v8:qa3 [qq8,qq8]->Int),(∀(v9:(List Int × List (Int × Int)) × qa3._f [qq8] ⟨qa3._f [] PUnit.unit,PUnit.unit⟩),v7 v9->False/\(0:Ty.den qc0)=v8 v9)/\(qf8 (qc9 m y (10:Int)) v4).length<=(1:Nat)/\(m=Q0.1.1.1/\y=Q0.1.1.2/\(nrQ (nF (qf8 (qc9 m y (10:Int)) v4) (0:Nat))).1=Q0.1.2.1.1/\(nrQ (nF (qf8 (qc9 m y (10:Int)) v4) (0:Nat))).2=Q0.1.2.1.2/\qf8 (qc9 m y (10:Int)) v4=Q0.1.2.2/\True)/\(0:Int)=Q0.2/\True))/\(decide ((0:Int)<(↑(qh2 m y (10:Int)).1.length:Int))=false->(Q0.1.1.1=[]/\Q0.1.1.2=[]/\(0:Int)=Q0.1.2.1.1/\(0:Int)=Q0.1.2.1.2/\Q0.1.2.2=[]/\True)/\(10:Int)=Q0.2/\True))) ?_
 have hR:q6e m y=if qm7 m y []≠0 then(yo9,qm7 m y []) else if xu0 (qc9 m y 10)=[] then(yo9,10) else(yp0 m y,0):=rfl
 refine⟨dc,λhe=>by rw[hR,zam he]; exact⟨⟨rfl,rfl,rfl,rfl,rfl⟩,rfl⟩,λhe=>⟨λ_=>h.pre he,?_⟩⟩
 have hL:(qh2 m y 10).1=qc9 m y 10:=by
  have hc:q41 m y 10=0:=by unfold q41; rw[zam he]; rfl
  simp_all [qh2,if_pos]
 have hq:=h.nq he
 have h1:=h.one he
 have hlen:=(h.pre he).len
 rw[hL,hR,zaj (λq=>q he)]
 unfold yp0
 clear hR hL
 revert hq h1 hlen
 generalize qc9 m y 10=L
 intro hq h1 hlen
 have hn:∀k,k<L.length->DnP (nF L k).2/\RtP (nmS (nF L k).2)/\CmP (nrQ (nF L k)):=λk hk=>by
  have hk:=hq _ (wj0 hk)
  obtain⟨k1,k2,k3,k4,k5,k6⟩:=hk
  obtain⟨⟨b1,b2⟩,b3,b4⟩:=k1.bd _ (zac _)
  obtain⟨p1,p2⟩:=y02 (nF L k).2.length (by have:=k1.len; omega)
  refine⟨k1,⟨q64 b3 ow,q64 ow ow,?_,?_,?_,?_⟩,k3,ow,ow,ow⟩
  all_goals grind [nmS,q0t,rtQ,nF,ym8,Int.le_trans]
 have rt:∀k,rtQ (nmS (nF L k).2)=nrQ (nF L k):=λk=>ym8 _
 have keep:=q6d L
 have h0:CmP (0,0):=⟨dc,dc,dc,dc⟩
 refine⟨λhpos=>⟨hpos,(hn 0 ow).1,(hn 0 ow).2.1,⟨?_,h0⟩,?_⟩,λhz=>?_⟩
 ·grind
 ·have e1:qf8 L 1=[nF L 0]:=rfl
  refine⟨qa8 dc dc,(),1,⟨zac _,ow⟩,⟨rfl,⟨?_,?_⟩,rfl⟩,λk ⟨k1,k2⟩=>?_⟩
  ·show(rtQ (nmS (nF L 0).2)).1=_; rw[rt,e1]; rfl
  ·show(rtQ (nmS (nF L 0).2)).2=_; rw[rt,e1]; rfl
  obtain⟨j,rfl⟩:∃j,k=j+1:=⟨k-1,ow⟩
  have hpj:=xu2 L j
  obtain⟨c1,c2⟩:=keep (j+1) k2
  have hlt0:nF (qf8 L (j+1)) 0∈L:=c2 _ (wj0 hpj)
  have hne:qf8 L (j+1)≠[]:=zd0.1 hpj
  have hS:qf8 L (j+2)=xt9 (qf8 L (j+1)) (nF L (j+1)):=rfl
  unfold xt9 at hS
  refine⟨λhlt=>⟨hlt,(hn _ hlt).1,(hn _ hlt).2.1,⟨?_,?_⟩,hpj,λhc=>?_,λhc=>⟨λhd=>?_,λhd=>?_⟩⟩,λhge=>⟨hpj,?_⟩⟩
  ·grind
  ·have k:=hq _ hlt0
   exact⟨k.n0,by have:=k.n1; omega,by have:=k.d0; omega,by have:=k.d1; omega⟩
  ·have hc:q65 (rtQ (nmS (nF L (j+1)).2)) (nrQ (nF (qf8 L (j+1)) 0))<0:=hc
   rw[rt] at hc
   rw[zam (.inr hc)] at hS
   refine⟨qa8,j+2,⟨ow,ow⟩,ow,by rfl,⟨?_,?_⟩,hS.symm⟩
   ·show(rtQ (nmS (nF L (j+1)).2)).1=_; rw[rt,hS]; rfl
   ·show(rtQ (nmS (nF L (j+1)).2)).2=_; rw[rt,hS]; rfl
  ·have hc:0<=q65 (rtQ (nmS (nF L (j+1)).2)) (nrQ (nF (qf8 L (j+1)) 0)):=hc
   have hd:q65 (rtQ (nmS (nF L (j+1)).2)) (nrQ (nF (qf8 L (j+1)) 0))=0:=hd
   rw[rt] at hc hd
   rw[zaj (by grind),zam hd] at hS
   grind [nF,qf8,wo3,List.getElem_append_left,qa8]
  ·have hc:0<=q65 (rtQ (nmS (nF L (j+1)).2)) (nrQ (nF (qf8 L (j+1)) 0)):=hc
   have hd:¬q65 (rtQ (nmS (nF L (j+1)).2)) (nrQ (nF (qf8 L (j+1)) 0))=0:=hd
   rw[rt] at hc hd
   rw[zaj (by grind),zaj hd] at hS
   grind [qa8]
  ·have hA:qf8 L (j+1)=xu0 L:=by grind [xu0]
   rw[hA] at hne ⊢
   rw[zaj hne]
   exact⟨λ_=>False,λ_=>0,λ_ q=>q.elim,h1,⟨rfl,rfl,rfl,rfl,rfl⟩,rfl⟩
 ·have hA:xu0 L=[]:=by
   have:L=[]:=zay ow
   subst this; rfl
  rw[zam hA]
  exact⟨⟨rfl,rfl,rfl,rfl,rfl⟩,rfl⟩
abbrev y1b:qa7:=qe0 true none [qg4,qf0] [qw6,qc0] (λx=>xu8 x.1 x.2.1) (λx=>((q6e x.1 x.2.1).1.2.1,(q6e x.1 x.2.1).2,()))
theorem w9o:Meets Tryz.prog 31 y1b:=by
 refine mt0 (SpecsOk.cons w03 (SpecsOk.nil _)) Tryz.func31 ?_
 rintro⟨m,y,⟨⟩⟩ h
 revert m y
 intro(m:List (List Int)) (y:List Int) (h:xu8 m y)
 refine vcr (xu8 m y/\((q6e m y).1.2.1.1=(q6e m y).1.2.1.1/\(q6e m y).1.2.1.2=(q6e m y).1.2.1.2/\True)/\(q6e m y).2=(q6e m y).2/\True) ?_
 grind
structure yp1 (m:List (List Int)) (y:List Int):Prop where
 ask:xu8 m y
 spr:∀f∈(q6e m y).1.2.2,w6j (q6e m y).1.1.1 f
theorem x3r {m:List (List Int)} {y:List Int} (h:xu8 m y):(q6e m y).1.2.2.length<=1:=by
 unfold q6e
 split
 ·exact zaf _
 ·rename_i h0
  split
  ·exact zaf _
  ·exact h.one (Classical.not_not.1 h0)
def wb5 (m:List (List Int)) (y:List Int):List (List (Int × Int)) × Int:=((q6e m y).1.2.2.map (spF (q6e m y).1.1.1),(q6e m y).2)
abbrev y6b:qa7:=qe0 false none [qg4,qf0] [.list q27,qc0] (λx=>yp1 x.1 x.2.1) (λx=>((wb5 x.1 x.2.1).1,(wb5 x.1 x.2.1).2,()))
def y1c (a:Ans):Nat->Option Inv
 | 0=>some (Inv.of [8,20] 2 (λk:Nat=>[(8,.own 1),(20,.lit (.int .i64 k))]) (λk=>[.box 110 (y3o a.1.1 a.1.2 a.2.1 (.dat qq8 a.2.2)),.vec 53 q27 ((a.2.2.take k).map (spF a.1.1))]) (λk=>k<=a.2.2.length) (λk=>a.2.2.length-k))
 | _=>none
theorem xu9:Meets Tryz.prog 75 y6b:=by
 refine mts (SpecsOk.cons w03 (SpecsOk.cons xu4 (SpecsOk.nil _))) Tryz.func75 (λx=>y1c (q6e x.1 x.2.1).1) ?_
 rintro⟨m,y,⟨⟩⟩ h
 revert m y
 intro(m:List (List Int)) (y:List Int) (h:yp1 m y)
 refine vcs (let Q0:=q6e m y; let Q1:=spF Q0.1.1.1; xu8 m y/\∃(v0:Unit),∃(v1:Nat),Nat.le v1 Q0.1.2.2.length/\((True/\(0:Int)=(↑v1:Int)/\True)/\(Q0.1.1.1=Q0.1.1.1/\Q0.1.1.2=Q0.1.1.2/\Q0.1.2.1.1=Q0.1.2.1.1/\Q0.1.2.1.2=Q0.1.2.1.2/\Q0.1.2.2=Q0.1.2.2/\True)/\List.map Q1 (List.take v1 Q0.1.2.2)=[]/\True)/\∀(v2:Nat),Nat.le v2 Q0.1.2.2.length->(decide ((↑v2:Int)<(↑Q0.1.2.2.length:Int))=true->((0:Int)<=(↑v2:Int)/\(↑v2:Int)<(↑Q0.1.2.2.length:Int))/\w6j Q0.1.1.1 (nF Q0.1.2.2 v2)/\((0:Nat)<(0:Nat)+(1:Nat)/\Nat.le ((List.map Q1 (List.take v2 Q0.1.2.2)).length+((0:Nat)+(1:Nat))) (1000000:Nat))/\fits .i64 ((↑v2:Int)+(1:Int))/\∃(v5:Nat),Nat.le v5 Q0.1.2.2.length/\Q0.1.2.2.length-v5<Q0.1.2.2.length-v2/\(True/\(↑v2:Int)+(1:Int)=(↑v5:Int)/\True)/\(Q0.1.1.1=Q0.1.1.1/\Q0.1.1.2=Q0.1.1.2/\Q0.1.2.1.1=Q0.1.2.1.1/\Q0.1.2.1.2=Q0.1.2.1.2/\Q0.1.2.2=Q0.1.2.2/\True)/\List.map Q1 (List.take v2 Q0.1.2.2)++[spF Q0.1.1.1 (nF Q0.1.2.2 v2)]=List.map Q1 (List.take v5 Q0.1.2.2)/\True)/\(decide ((↑v2:Int)<(↑Q0.1.2.2.length:Int))=false->List.map Q1 (List.take v2 Q0.1.2.2)=(wb5 m y).1/\Q0.2=(wb5 m y).2/\True)) ?_
 have hl:=x3r h.ask
 have hs:=h.spr
 refine⟨h.ask,?_⟩
 unfold wb5
 generalize q6e m y=R at *
 obtain⟨⟨⟨m',y'⟩,q,C⟩,e⟩:=R
 dsimp only at *
 refine⟨(),0,zaf _,⟨rfl,rfl⟩,λk hk=>⟨λhlt=>⟨hlt,hs _ (wj0 hlt),by grind,qa8,k+1,hlt,ow,by rfl,?_⟩,λhge=>?_⟩⟩
 ·grind [List.take_add_one,List.getElem?_eq_getElem,wo3]
 grind
def fdR (m:List (List Int)) (x:List Int):Bool × Int:=
 if wb3 m x≠0 then(false,wb3 m x) else if w2g (qc8 m x)=true then(false,10) else if(wb5 m (qc8 m x)).2≠0\/(wb5 m (qc8 m x)).1.length≠1 then(false,(wb5 m (qc8 m x)).2) else(yl6 (wb5 m (qc8 m x)).1 x,0)
structure FdP (m:List (List Int)) (x:List Int):Prop where
 len:x.length<=1000
 crd:wb3 m x=0->w2g (qc8 m x)=false->yp1 m (qc8 m x)/\((wb5 m (qc8 m x)).2=0->(wb5 m (qc8 m x)).1.length=1->(w91 (wb5 m (qc8 m x)).1).length<=x.length)
def y6c (l:List (Int × Int)) (x:List Int):Nat->Option Inv
 | 0=>some (Inv.of [41] 0 (λk:Nat=>[(41,.lit (.int .i64 k))]) (λ_=>[]) (λk=>x3d l x k) (λk=>l.length-k))
 | _=>none
abbrev sFd:qa7:=qe0 true none [qg4,qf0] [.bool,qc0] (λx=>FdP x.1 x.2.1) (λx=>((fdR x.1 x.2.1).1,(fdR x.1 x.2.1).2,()))
theorem x3s:Meets Tryz.prog 29 sFd:=by
 refine mts (SpecsOk.cons q52 (SpecsOk.cons wx6 (SpecsOk.cons (q1u (fs:=[(116,x7j)]) (SpecsOk.cons wg6 (SpecsOk.nil _))) (SpecsOk.cons xu9 (SpecsOk.nil _))))) Tryz.func29 (λx=>y6c (w91 (wb5 x.1 (qc8 x.1 x.2.1)).1) x.2.1) ?_
 rintro⟨m,x,⟨⟩⟩ h
 revert m x
 intro(m:List (List Int)) (x:List Int) (h:FdP m x)
 refine vcs (let Q0:=wb5 m (qt8 m x).1; let Q1:=w91 (wb5 m (qc8 m x)).1; let Q2:=qt8 m x; x.length<=(1000000:Nat)/\((Q2.2 != (0:Int))=true->false=(fdR m x).1/\Q2.2=(fdR m x).2/\True)/\((Q2.2 != (0:Int))=false->True/\∃(v1:qa3 [Ty.int .i64]->Prop),∃(v2:qa3 [Ty.int .i64]->Bool),(∀(v3:Int × qa3._f [] PUnit.unit),v1 v3->((0:PTy.den (PTy.cap qc0))<=(1000000:Int)/\(1000000:Int)<=BIG)/\(!inB v3.1 ((0:Int)-(1000000:Int)) (1000000:Int))=v2 v3)/\(Q2.1.length<=(1000000:Nat)/\∀(v3:Nat),v3<Q2.1.length->v1 (nI Q2.1 v3,()))/\((List.any Q2.1 λ(v4:Int)=>v2 (v4,()))=true->false=(fdR m x).1/\(10:Int)=(fdR m x).2/\True)/\((List.any Q2.1 λ(v4:Int)=>v2 (v4,()))=false->yp1 m Q2.1/\((Q0.2 != (0:Int))=true->false=(fdR m x).1/\Q0.2=(fdR m x).2/\True)/\((Q0.2 != (0:Int))=false->(((↑Q0.1.length:Int) != (1:Int))=true->false=(fdR m x).1/\Q0.2=(fdR m x).2/\True)/\(((↑Q0.1.length:Int) != (1:Int))=false->((0:Int)<=(0:Int)/\(0:Int)<(↑Q0.1.length:Int))/\∃(v6:Unit),∃(v7:Nat),x3d Q1 x v7/\(((0:Int)=(↑v7:Int)/\True)/\True)/\∀(v8:Nat),x3d Q1 x v8->(decide ((↑v8:Int)<(↑(qe9 q27 Q0.1 (0:Nat)).length:Int))=true->((0:Int)<=(↑v8:Int)/\(↑v8:Int)<(↑(qe9 q27 Q0.1 (0:Nat)).length:Int))/\((0:Int)<=(↑v8:Int)/\(↑v8:Int)<(↑x.length:Int))/\((!((nR (qe9 q27 Q0.1 (0:Nat)) v8).1==nI x v8 && (nR (qe9 q27 Q0.1 (0:Nat)) v8).2==(1:Int)))=true->false=(fdR m x).1/\(0:Int)=(fdR m x).2/\True)/\((!((nR (qe9 q27 Q0.1 (0:Nat)) v8).1==nI x v8 && (nR (qe9 q27 Q0.1 (0:Nat)) v8).2==(1:Int)))=false->fits .i64 ((↑v8:Int)+(1:Int))/\∃(v12:Nat),x3d Q1 x v12/\Q1.length-v12<Q1.length-v8/\((↑v8:Int)+(1:Int)=(↑v12:Int)/\True)/\True))/\(decide ((↑v8:Int)<(↑(qe9 q27 Q0.1 (0:Nat)).length:Int))=false->true=(fdR m x).1/\(0:Int)=(fdR m x).2/\True)))))) ?_
 have hlx:=h.len
 have hlen:(qt8 m x).1.length<=1000000:=by
  unfold qt8
  split
  ·rename_i he
   have:=(Shw.of he).msk.rows6
   grind [qc8,List.length_map,List.length_range]
  simp
 have hR:fdR m x=if wb3 m x≠0 then(false,wb3 m x) else if w2g (qc8 m x)=true then(false,10) else if(wb5 m (qc8 m x)).2≠0\/(wb5 m (qc8 m x)).1.length≠1 then(false,(wb5 m (qc8 m x)).2) else(yl6 (wb5 m (qc8 m x)).1 x,0):=rfl
 rw[wz5]
 refine⟨ow,λhe=>by grind,λhe=>⟨λ_=>True,λv=>!inB v.1 (0-1000000) 1000000,λv _=>⟨by grind [BIG],by simp⟩,⟨hlen,λ_ _=>trivial⟩,?_⟩⟩
 have hc:=h.crd he
 rw[wz6 he,hR,zaj (λq=>q he)]
 clear hR hlen h
 generalize qc8 m x=y at *
 refine⟨λho=>by have ho:w2g y=true:=ho; grind,λho=>?_⟩
 obtain⟨hp,hx⟩:=hc ho
 have ho2:¬w2g y=true:=by grind [w2g]
 rw[zaj ho2]
 refine⟨hp,?_⟩
 clear hc hp ho ho2
 generalize wb5 m y=R at *
 obtain⟨l,e⟩:=R
 dsimp only at *
 refine⟨λhe=>by grind,λhe=>⟨λhl=>by grind,λhl=>?_⟩⟩
 have h1:l.length=1:=ow
 have hxl:=hx he h1
 rw[zaj ow]
 have hB:∀k,k<(w91 l).length->(((nR (w91 l) k).1==nI x k) && ((nR (w91 l) k).2==1))=decide (nR (w91 l) k=(nI x k,1)):=λk _=>by
  grind
 refine⟨ow,(),0,⟨zaf _,ow⟩,rfl,λk hk=>⟨λhlt=>?_,λhge=>?_⟩⟩
 ·have hlt:k<(w91 l).length:=hlt
  refine⟨hlt,ow,λhf=>⟨?_,rfl⟩,λht=>⟨qa8,k+1,⟨hlt,λj hj=>?_⟩,ow,by rfl⟩⟩
  ·have hf:=(hB k hlt).symm.trans hf
   symm
   exact List.all_eq_false.2 ⟨k,za4.2 hlt,by grind⟩
  ·by_cases q:j=k
   ·subst q; exact zbf ((hB j hlt).symm.trans ht)
   ·exact hk.ok j ow
 ·have hge:¬k<(w91 l).length:=hge
  refine⟨?_,rfl⟩
  symm
  exact zas.2 λj hj=>zcq (hk.ok j (by grind))
open Go Go.RowKit Eng
open Go Go.Proofs Go.RowKit Eng Ls Go.Sort Go.Shelf
theorem x5u {m:List (List Int)} {x:List Int} (h:Shw m x):nzTo x x.length=qr0 (nL m 0).length (nI x):=by rw[q48,h.len]
theorem xv0 {m:List (List Int)} {x:List Int} (hl:q03 m=true) (hx:wb3 m x=0) (hy:wn3 m (qc8 m x)=0) (hs:(nzTo x x.length:Int)<=(w8n m).1):PicX m x/\∀d:Nat->Int,Sol m.length (nL m 0).length (rowOf m) d->(∃c,c<(nL m 0).length/\d c≠0)->2*qr0 (nL m 0).length (nI x)<qr0 (nL m 0).length d:=by
 have hS:=Shw.of hx
 rw[x5u hS] at hs
 have key:∀d:Nat->Int,Sol m.length (nL m 0).length (rowOf m) d->(∃c,c<(nL m 0).length/\d c≠0)->2*qr0 (nL m 0).length (nI x)<qr0 (nL m 0).length d:=λd hd hne=>by
  have:=x26 hl hS.val hd hne
  omega
 exact⟨⟨hS,by rw[w2u]; exact hy,λd hd hne=>by have:=key d hd hne; omega⟩,key⟩
theorem x9g {m:List (List Int)} (h:x5q m):(qb6 m=false/\qw1 m=([],1))\/(qb6 m=true/\(qh9 m).1=[]/\qw1 m=([],8))\/(qb6 m=true/\0<(qh9 m).1.length/\qw1 m=(nL (qh9 m).1 0,0)):=by
 have e:=x9a h.n7
 cases hv:qb6 m with
 | false=>
  have e1:qh9 m=([],1):=by simp[qh9,hv]
  refine .inl ⟨rfl,?_⟩
  unfold qw1
  rw[e,e1,zam dc]
 | true=>
  have e1:(qh9 m).2=0:=by simp[qh9,hv]
  by_cases q:(qh9 m).1=[]
  ·refine .inr (.inl ⟨rfl,q,?_⟩)
   unfold qw1
   rw[e,zaj (λz=>z e1),zam q]
  ·refine .inr (.inr ⟨rfl,zd0.2 q,?_⟩)
   unfold qw1
   rw[e,zaj (λz=>z e1),zaj q]
theorem x9h {m:List (List Int)} (h:x5q m):(qb6 m=false/\qs0 m=(0,1))\/(qb6 m=true/\(qh9 m).1=[]/\qs0 m=(0,8))\/(qb6 m=true/\∃s,0<(qh9 m).1.length/\w0s m s (nL (qh9 m).1 0)/\qs0 m=(((s.length:Nat):Int),0)):=by
 rcases x9g h with⟨hv,e⟩ | ⟨hv,hl,e⟩ | ⟨hv,hl,e⟩
 ·refine .inl ⟨hv,?_⟩
  unfold qs0
  rw[e,zam dc]
 ·refine .inr (.inl ⟨hv,hl,?_⟩)
  unfold qs0
  rw[e,zam dc]
 ·obtain⟨s,hc⟩:=q3h hv (h.n7 hv) hl
  refine .inr (.inr ⟨hv,s,hl,hc,?_⟩)
  unfold qs0
  rw[e,zaj λq=>q rfl]
  show((nzTo (nL (qh9 m).1 0) (nL (qh9 m).1 0).length:Int),(0:Int))=_
  rw[q48,hc.len,hc.nz]
theorem x3t {m:List (List Int)} (h:x5q m) (hv:qb6 m=true):(wj1 m).2=0/\((ordL m:Nat):Int)<=(wj1 m).1:=by
 rcases x9h h with⟨q,_⟩ | ⟨_,_,e⟩ | ⟨_,s,hl,hc,e⟩
 ·rw[hv] at q; cases q
 ·have:=yl8 m
  unfold wj1
  rw[e,zam rfl]
  exact⟨rfl,by dsimp only; omega⟩
 ·have:=x3i hv (h.n7 hv) hl hc
  unfold wj1
  rw[e,zaj (show ¬((0:Int)=8) by decide),zaj (λq=>q rfl)]
  refine⟨rfl,?_⟩
  dsimp only
  rw[zcz ow]
  omega
def y1d (mats:List Nat) (specs:List (Nat × qa7)) (muts:List (Nat × qm1)):Ctx:={ specs:=specs,tys:=tys,wr:=[],mats:=mats,muts:=muts }
theorem y1e (mats:List Nat) {specs:List (Nat × qa7)} {muts:List (Nat × qm1)} (h:SpecsOk Tryz.prog specs) (hm:MutsOk muts):Sound Tryz.prog (y1d mats specs muts):=SpecsOk.sound h q00 kr (hmu:=hm)
abbrev qr3:Ty:=.prod (.int .i64) (.prod (.int .i64) (.int .i64))
abbrev Flt:=Int × Int × Int
theorem wr9:Meets Tryz.prog 247 wn1:=by
 refine mt0 (SpecsOk.nil _) Tryz.func247 ?_
 rintro⟨n,lo,hi,⟨⟩⟩ -
 revert n lo hi
 intro(n:Int) (lo:Int) (hi:Int)
 refine vcs ((decide (lo<=n)=true->decide (n<=hi)=inB n lo hi)/\(decide (lo<=n)=false->false=inB n lo hi)) ?_
 grind [inB]
def w9p (m:List (List Int)) (f:Flt):Bool:=inB f.2.1 0 ((m.length:Int)-1)
def w9q (m:List (List Int)) (f:Flt):Bool:=inB f.2.2 0 (((nL m 0).length:Int)-1)
def x3u (m:List (List Int)) (i j:Int):Int:=nI (nL m i.toNat) j.toNat
def fvB (m:List (List Int)) (f:Flt):Bool:=
 if f.1=0 then decide (f.2.1=0) && decide (f.2.2=0) else if f.1=1 then w9p m f && decide (f.2.2=0) else if f.1=2 then w9q m f && decide (f.2.1=0)
 else if f.1=3 then w9p m f && w9q m f && decide (x3u m f.2.1 f.2.2≠0) else false
abbrev sFv:qa7:=qe0 true none [qg4,qr3] [.bool] (λx=>qb6 x.1=true) (λx=>(fvB x.1 x.2.1,()))
theorem ws0 (a b:Int):(a==b)=decide (a=b):=rfl
theorem x3v:Meets Tryz.prog 184 sFv:=by
 refine mt0 (SpecsOk.cons wr9 (SpecsOk.nil _)) Tryz.func184 ?_
 rintro⟨m,⟨kd,r,p⟩,⟨⟩⟩ hv
 revert m kd r p
 intro(m:List (List Int)) (kd:Int) (r:Int) (p:Int) (hv:qb6 m=true)
 refine vcs (fits .i64 ((↑m.length:Int)-(1:Int))/\True/\((0:Int)<=(0:Int)/\(0:Int)<(↑m.length:Int))/\fits .i64 ((↑(nL m (0:Nat)).length:Int)-(1:Int))/\True/\((kd==(0:Int))=true->(kd==(0:Int) && (r==(0:Int) && p==(0:Int)))=fvB m (kd,r,p))/\((kd==(0:Int))=false->((kd==(1:Int))=true->(inB r (0:Int) ((↑m.length:Int)-(1:Int))=true->(p==(0:Int))=fvB m (kd,r,p))/\(inB r (0:Int) ((↑m.length:Int)-(1:Int))=false->false=fvB m (kd,r,p)))/\((kd==(1:Int))=false->((kd==(2:Int))=true->(inB p (0:Int) ((↑(nL m (0:Nat)).length:Int)-(1:Int))=true->(r==(0:Int))=fvB m (kd,r,p))/\(inB p (0:Int) ((↑(nL m (0:Nat)).length:Int)-(1:Int))=false->false=fvB m (kd,r,p)))/\((kd==(2:Int))=false->((kd==(3:Int))=true->(inB r (0:Int) ((↑m.length:Int)-(1:Int))=true->(inB p (0:Int) ((↑(nL m (0:Nat)).length:Int)-(1:Int))=true->((0:Int)<=r/\r<(↑m.length:Int))/\((0:Int)<=p/\p<(↑(nL m r.toNat).length:Int))/\(nI (nL m r.toNat) p.toNat != (0:Int))=fvB m (kd,r,p))/\(inB p (0:Int) ((↑(nL m (0:Nat)).length:Int)-(1:Int))=false->false=fvB m (kd,r,p)))/\(inB r (0:Int) ((↑m.length:Int)-(1:Int))=false->false=fvB m (kd,r,p)))/\((kd==(3:Int))=false->false=fvB m (kd,r,p)))))) ?_
 have hM:=Mk.of hv
 have m1:=hM.rows1
 have m6:=hM.rows6
 have p1:=hM.pix1
 have p10:=hM.pix10
 refine⟨qa8,ow,qa8,λh0=>?_,λh0=>⟨λh1=>?_,λh1=>⟨λh2=>?_,λh2=>⟨λh3=>?_,λh3=>?_⟩⟩⟩⟩
 ·simp_all [fvB,ws0]
 ·simp_all [fvB,w9p,ws0]
 ·simp_all [fvB,w9q,ws0]
 ·subst h3
  refine⟨λc=>⟨λd=>?_,λd=>by simp[fvB,w9q,d]⟩,λc=>by simp[fvB,w9p,c]⟩
  have c1:=qj9.1 c
  have d1:=qj9.1 d
  refine⟨ow,⟨d1.1,by rw[hM.each _ ow]; omega⟩,?_⟩
  simp[fvB,w9p,w9q,c,d,x3u,ws0]; grind
 grind [fvB]
def xv1 (l:List Int):List Int:=List.replicate l.length 0
def qm9 (rows:List (List Int)) (p:Nat) (k:Nat):List (List Int):=(List.range rows.length).map λi=>if i<k then(nL rows i).set p 0 else nL rows i
def qt2 (rows:List (List Int)) (f:Flt):List (List Int):=
 if f.1=1 then rows.set f.2.1.toNat (xv1 (nL rows f.2.1.toNat)) else if f.1=2 then qm9 rows f.2.2.toNat rows.length
 else if f.1=3 then rows.set f.2.1.toNat ((nL rows f.2.1.toNat).set f.2.2.toNat (-(x3u rows f.2.1 f.2.2))) else rows
structure DeedPre (rows:List (List Int)) (f:Flt) (k:Int):Prop where
 kind:f.1=k
 valid:qb6 rows=true
 ok:fvB rows f=true
theorem DeedPre.row {rows:List (List Int)} {kd r p k:Int} (h:DeedPre rows (kd,r,p) k) (hk:kd=1\/kd=3):0<=r/\r<=(rows.length:Int)-1:=by
 have h1:=h.ok
 unfold fvB w9p at h1
 rcases hk with rfl | rfl <;> simp at h1
 all_goals grind [qj9]
theorem DeedPre.pix {rows:List (List Int)} {kd r p k:Int} (h:DeedPre rows (kd,r,p) k) (hk:kd=2\/kd=3):0<=p/\p<=((nL rows 0).length:Int)-1:=by
 have h1:=h.ok
 unfold fvB w9q at h1
 rcases hk with rfl | rfl <;> simp at h1
 all_goals grind [qj9]
abbrev ym9:qm1:=q7d (q1r [qr3]) true false 24 3 (.int .i64) (λrows x=>DeedPre rows x.1 0) (λ_ _=>.tup .nil) (λrows x=>qt2 rows x.1)
abbrev yn0:qm1:=q7d (q1r [qr3]) true false 24 3 (.int .i64) (λrows x=>DeedPre rows x.1 1) (λ_ _=>.tup .nil) (λrows x=>qt2 rows x.1)
abbrev yn1:qm1:=q7d (q1r [qr3]) true false 24 3 (.int .i64) (λrows x=>DeedPre rows x.1 2) (λ_ _=>.tup .nil) (λrows x=>qt2 rows x.1)
abbrev yn2:qm1:=q7d (q1r [qr3]) true false 24 3 (.int .i64) (λrows x=>DeedPre rows x.1 3) (λ_ _=>.tup .nil) (λrows x=>qt2 rows x.1)
theorem w3n:qq0 Tryz.prog 249 ym9:=by
 refine q1t (snd (SpecsOk.nil _)) Tryz.func249 rfl rfl (qm4 [qr3]) (λT rows x=>λ_=>none) (λ_ _ _=>by kernel_rfl) dc ?_ rfl
 rintro T rows ⟨⟨kd,r,p⟩,⟨⟩⟩ h -
 revert rows kd r p
 intro(rows:List (List Int)) (kd:Int) (r:Int) (p:Int) (h:DeedPre rows (kd,r,p) 0)
 refine vcs (rows=qt2 rows (kd,r,p)/\T=T/\True/\True) ?_
 obtain rfl:kd=0:=h.kind
 rfl
theorem w3o:qq0 Tryz.prog 250 yn0:=by
 refine q1t (snd (SpecsOk.nil _)) Tryz.func250 rfl rfl (qm4 [qr3]) (λT rows x=>λ_=>none) (λ_ _ _=>by kernel_rfl) dc ?_ rfl
 rintro T rows ⟨⟨kd,r,p⟩,⟨⟩⟩ h -
 revert rows kd r p
 intro(rows:List (List Int)) (kd:Int) (r:Int) (p:Int) (h:DeedPre rows (kd,r,p) 1)
 refine vcs (let Q0:=qe8 (qn2 true) r.toNat; ((0:Int)<=r/\r<(↑(qe1 rows.length (qn2 true)):Int))/\r.toNat<qe1 rows.length (qn2 true)/\List.set rows Q0 (List.replicate (nL rows Q0).length (0:Int))=qt2 rows (kd,r,p)/\T=T/\True/\True) ?_
 obtain rfl:kd=1:=h.kind
 have hr:0<=r/\r<=(rows.length:Int)-1:=h.row (.inl rfl)
 grind [qn2,qe1,qe8,qt2,xv1]
abbrev x5v (f:Flt):AObj:=.box 170 (.cons (.lit (.int .i64 f.1)) (.cons (.lit (.int .i64 f.2.1)) (.cons (.lit (.int .i64 f.2.2)) .nil)))
def yn3 (T:q66) (rows:List (List Int)) (f:Flt):Nat->Option Inv
 | 0=>some (Inv.of [6,8] 2 (λk:Nat=>[(6,.msl 0 .none),(8,.lit (.int .i64 k))]) (λk=>[.mat 24 3 (.int .i64) (qm9 rows f.2.2.toNat k) .none (some T),x5v f]) (λk=>k<=rows.length) (λk=>rows.length-k))
 | _=>none
theorem q72 (rows:List (List Int)) (p k:Nat):(qm9 rows p k).length=rows.length:=by simp[qm9]
theorem xv2 {rows:List (List Int)} {p k i:Nat} (h:i<rows.length):nL (qm9 rows p k) i=if i<k then(nL rows i).set p 0 else nL rows i:=by
 grind [qn5,q72,qm9]
theorem xv3 (rows:List (List Int)) (p:Nat):qm9 rows p 0=rows:=by
 grind [List.ext_getElem,q72,qm9,qn5]
theorem x3w {rows:List (List Int)} {p k:Nat} (hk:k<rows.length):(qm9 rows p k).set k ((nL (qm9 rows p k) k).set p 0)=qm9 rows p (k+1):=by
 rw[xv2 hk,zaj (zbb k)]
 apply zbv (by grind [List.length_set,q72])
 intro i h1 h2
 rw[zc4]
 simp only[qm9,List.getElem_map,List.getElem_range]
 grind
theorem w3p:qq0 Tryz.prog 251 yn1:=by
 refine q1t (snd (SpecsOk.nil _)) Tryz.func251 rfl rfl (qm4 [qr3]) (λT rows x=>yn3 T rows x.1) (λ_ _ _=>by kernel_rfl) dc ?_ rfl
 rintro T rows ⟨⟨kd,r,p⟩,⟨⟩⟩ h -
 revert rows kd r p
 intro(rows:List (List Int)) (kd:Int) (r:Int) (p:Int) (h:DeedPre rows (kd,r,p) 2)
 refine vcs (let Q0:=qe1 rows.length (qn2 true); ∃(v0:Unit),∃(v1:Nat),Nat.le v1 rows.length/\((True/\(0:Int)=(↑v1:Int)/\True)/\(rows=qm9 rows p.toNat v1/\True/\T=T)/\(kd=kd/\r=r/\p=p/\True)/\True)/\∀(v2:Nat),Nat.le v2 rows.length->(decide ((↑v2:Int)<(↑Q0:Int))=true->((0:Int)<=(↑v2:Int)/\(↑v2:Int)<(↑(qe1 (qm9 rows p.toNat v2).length none):Int))/\v2<qe1 (qm9 rows p.toNat v2).length none/\((0:Int)<=p/\p<(↑(nL (qm9 rows p.toNat v2) (qe8 none v2)).length:Int))/\p.toNat<(nL (qm9 rows p.toNat v2) (qe8 none v2)).length/\fits .i64 ((↑v2:Int)+(1:Int))/\∃(v5:Nat),Nat.le v5 rows.length/\rows.length-v5<rows.length-v2/\(True/\(↑v2:Int)+(1:Int)=(↑v5:Int)/\True)/\(List.set (qm9 rows p.toNat v2) (qe8 none v2) (List.set (nL (qm9 rows p.toNat v2) (qe8 none v2)) p.toNat (0:Int))=qm9 rows p.toNat v5/\True/\T=T)/\(kd=kd/\r=r/\p=p/\True)/\True)/\(decide ((↑v2:Int)<(↑Q0:Int))=false->qm9 rows p.toNat v2=qt2 rows (kd,r,p)/\T=T/\True/\True)) ?_
 obtain rfl:kd=2:=h.kind
 have hM:=Mk.of h.valid
 have m6:=hM.rows6
 have hp:0<=p/\p<=((nL rows 0).length:Int)-1:=h.pix (.inl rfl)
 simp only[qn2,qe1,qe8,q72]
 refine⟨(),0,zaf _,⟨rfl,(xv3 _ _).symm⟩,λk hk=>⟨λhlt=>?_,λhge=>?_⟩⟩
 ·have hl:=hM.each k hlt
  have e:nL (qm9 rows p.toNat k) k=nL rows k:=by rw[xv2 hlt,zaj (zbb k)]
  grind [qa8,x3w]
 ·obtain rfl:k=rows.length:=ow
  rfl
theorem w3q:qq0 Tryz.prog 252 yn2:=by
 refine q1t (snd (SpecsOk.nil _)) Tryz.func252 rfl rfl (qm4 [qr3]) (λT rows x=>λ_=>none) (λ_ _ _=>by kernel_rfl) dc ?_ rfl
 rintro T rows ⟨⟨kd,r,p⟩,⟨⟩⟩ h -
 revert rows kd r p
 intro(rows:List (List Int)) (kd:Int) (r:Int) (p:Int) (h:DeedPre rows (kd,r,p) 3)
 refine vcs (let Q0:=nL rows (qe8 (qn2 true) r.toNat); let Q1:=qn2 true; ((0:Int)<=r/\r<(↑(qe1 rows.length Q1):Int))/\r.toNat<qe1 rows.length Q1/\((0:Int)<=p/\p<(↑Q0.length:Int))/\p.toNat<Q0.length/\fits .i64 (nI Q0 p.toNat*(-1:Int))/\((0:Int)<=p/\p<(↑Q0.length:Int))/\p.toNat<Q0.length/\List.set rows (qe8 Q1 r.toNat) (List.set Q0 p.toNat (nI Q0 p.toNat*(-1:Int)))=qt2 rows (kd,r,p)/\T=T/\True/\True) ?_
 obtain rfl:kd=3:=h.kind
 have hM:=Mk.of h.valid
 have hr:0<=r/\r<=(rows.length:Int)-1:=h.row (.inr rfl)
 have hp:0<=p/\p<=((nL rows 0).length:Int)-1:=h.pix (.inr rfl)
 have hl:=hM.each r.toNat ow
 have hs:=hM.small r.toNat ow p.toNat ow
 simp only[qn2,qe1,qe8]
 grind [nI,nL,qa8,qt2,x3u]
abbrev yn4:qa7:=ww4 false none [] (λ_=>True) (λ_=>.agg (.cons (.clo 249 .nil) (.cons (.clo 250 .nil) (.cons (.clo 251 .nil) (.cons (.clo 252 .nil) .nil)))))
theorem w3r:Meets Tryz.prog 187 yn4:=by
 refine q6t (snd (SpecsOk.nil _)) Tryz.func187 rfl rfl (λ_ _=>none) (λ_=>by kernel_rfl) dc ?_
 rintro⟨⟩ -
 refine vcr (True/\True/\True/\True/\True) ?_
 simp
structure xv4 (m:List (List Int)) (f:Flt):Prop where
 valid:qb6 m=true
 ok:fvB m f=true
abbrev y6d:qa7:=q7c (q1r [qg4,qr3]) true (some 24) (some 3) (λx=>xv4 x.1 x.2.1) (λx=>.dat (.list (.int .i64)) (qt2 x.1 x.2.1))
def y1f (m:List (List Int)) (f:Flt):Nat->Option Inv
 | 0=>some (Inv.of [5,10] 2 (λk:Nat=>[(5,.msl 1 .none),(10,.lit (.int .i64 k))]) (λk=>[x5v f,.mat 24 3 (.int .i64) (m.take k) .none .none]) (λk=>k<=m.length) (λk=>m.length-k))
 | _=>none
theorem kd3 {kd:Int} (h0:¬kd=↑0) (h1:¬kd=↑1) (h2:¬kd=↑2) (h:kd=0\/kd=1\/kd=2\/kd=3):kd=↑3:=by
 omega
theorem xv5:Meets Tryz.prog 140 y6d:=by
 refine q6s (y1e [17] (SpecsOk.cons q86 (SpecsOk.cons w3r (SpecsOk.nil _))) (MutsOk.cons w3n (MutsOk.cons w3o (MutsOk.cons w3p (MutsOk.cons w3q MutsOk.nil))))) Tryz.func140 rfl rfl (qm4 _) (λx=>y1f x.1 x.2.1) (λ_=>by kernel_rfl) dc ?_
 rintro⟨m,⟨kd,r,p⟩,⟨⟩⟩ h
 revert m kd r p
 intro(m:List (List Int)) (kd:Int) (r:Int) (p:Int) (h:xv4 m (kd,r,p))
 refine vcs (∃(v0:Unit),∃(v1:Nat),Nat.le v1 m.length/\((True/\(0:Int)=(↑v1:Int)/\True)/\(kd=kd/\r=r/\p=p/\True)/\List.take v1 m=[]/\True)/\∀(v2:Nat),Nat.le v2 m.length->(decide ((↑v2:Int)<(↑m.length:Int))=true->((0:Int)<=(↑v2:Int)/\(↑v2:Int)<(↑m.length:Int))/\(nL m v2).length<=(100000:Nat)/\((0:Nat)<(0:Nat)+(1:Nat)/\(List.take v2 m).length+((0:Nat)+(1:Nat))<=(1000000:Nat))/\fits .i64 ((↑v2:Int)+(1:Int))/\∃(v5:Nat),Nat.le v5 m.length/\m.length-v5<m.length-v2/\(True/\(↑v2:Int)+(1:Int)=(↑v5:Int)/\True)/\(kd=kd/\r=r/\p=p/\True)/\(List.take v2 m++[nL m v2]=List.take v5 m/\True/\True)/\True)/\(decide ((↑v2:Int)<(↑m.length:Int))=false->True/\(decide (kd=(↑(0:Nat):Int))=true->DeedPre (List.take v2 m) (kd,r,p) (0:Int)/\qt2 (List.take v2 m) (kd,r,p)=qt2 m (kd,r,p))/\(decide (kd=(↑(0:Nat):Int))=false->(decide (kd=(↑(1:Nat):Int))=true->DeedPre (List.take v2 m) (kd,r,p) (1:Int)/\qt2 (List.take v2 m) (kd,r,p)=qt2 m (kd,r,p))/\(decide (kd=(↑(1:Nat):Int))=false->(decide (kd=(↑(2:Nat):Int))=true->DeedPre (List.take v2 m) (kd,r,p) (2:Int)/\qt2 (List.take v2 m) (kd,r,p)=qt2 m (kd,r,p))/\(decide (kd=(↑(2:Nat):Int))=false->kd=(↑(3:Nat):Int)/\DeedPre (List.take v2 m) (kd,r,p) (3:Int)/\qt2 (List.take v2 m) (kd,r,p)=qt2 m (kd,r,p)))))) ?_
 have hM:=Mk.of h.valid
 have m6:=hM.rows6
 have p10:=hM.pix10
 refine⟨(),0,zaf _,⟨rfl,rfl⟩,λk hk=>⟨λhlt=>?_,λhge=>?_⟩⟩
 ·have hl:=hM.each k hlt
  exact⟨hlt,ow,by grind,qa8,k+1,hlt,ow,by rfl,(q2q m k hlt).symm⟩
 ·rw[zcr ow]
  have hkd:kd=0\/kd=1\/kd=2\/kd=3:=by
   have h1:=h.ok
   grind [fvB]
  exact⟨λe=>⟨⟨e,h.valid,h.ok⟩,rfl⟩,λn0=>⟨λe=>⟨⟨e,h.valid,h.ok⟩,rfl⟩,λn1=>⟨λe=>⟨⟨e,h.valid,h.ok⟩,rfl⟩,λn2=>⟨kd3 n0 n1 n2 hkd,⟨kd3 n0 n1 n2 hkd,h.valid,h.ok⟩,rfl⟩⟩⟩⟩
def q7k (m:List (List Int)) (k i:Nat):Nat->List Flt
 | 0=>[]
 | j+1=>q7k m k i j++if fvB m ((k:Int),(i:Int),(j:Int)) then[((k:Int),(i:Int),(j:Int))] else[]
def q6f (m:List (List Int)) (k:Nat):Nat->List Flt
 | 0=>[]
 | i+1=>q6f m k i++q7k m k i (nL m 0).length
def ql4 (m:List (List Int)):Nat->List Flt
 | 0=>[]
 | k+1=>ql4 m k++q6f m k m.length
theorem x9i (m:List (List Int)) (k i:Nat) {a b:Nat} (h:a<=b):q7k m k i a <+: q7k m k i b:=by
 induction h with
 | refl=>simp
 | step _ ih=>exact ih.trans (List.prefix_append _ _)
theorem x9j (m:List (List Int)) (k:Nat) {a b:Nat} (h:a<=b):q6f m k a <+: q6f m k b:=by
 induction h with
 | refl=>simp
 | step _ ih=>exact ih.trans (List.prefix_append _ _)
theorem x9k (m:List (List Int)) {a b:Nat} (h:a<=b):ql4 m a <+: ql4 m b:=by
 induction h with
 | refl=>simp
 | step _ ih=>exact ih.trans (List.prefix_append _ _)
theorem yn5 {m:List (List Int)} {k i j:Nat} (hk:k<4) (hi:i<m.length) (hj:j<(nL m 0).length) (h:fvB m ((k:Int),(i:Int),(j:Int))=true):(ql4 m 4)[(ql4 m k).length+(q6f m k i).length+(q7k m k i j).length]? = some ((k:Int),(i:Int),(j:Int)):=by
 have p1:q7k m k i (j+1) <+: q7k m k i (nL m 0).length:=x9i m k i hj
 have p2:q6f m k i++q7k m k i (j+1) <+: q6f m k m.length:=((List.prefix_append_right_inj _).2 p1).trans (x9j m k (show i+1<=m.length from hi))
 have p3:ql4 m k++(q6f m k i++q7k m k i (j+1)) <+: ql4 m 4:=((List.prefix_append_right_inj _).2 p2).trans (x9k m (show k+1<=4 from hk))
 obtain⟨t,e⟩:=p3
 rw[<- e,q7k,zam h]
 grind
abbrev fA (f:Flt):qa3 [qr3]:=(f,())
abbrev y6e:q1b:=w17 [qg4] [qr3] (λx=>qb6 x.1=true) (λx=>(ql4 x.1 4).map fA)
def y6f (m:List (List Int)):Nat->Option Inv
 | 0=>some (Inv.of [7] 1 (λk:Nat=>[(7,.lit (.int .i64 k))]) (λk=>[.cnt (some (ql4 m k).length)]) (λk=>k<=4) (λk=>4-k))
 | 1=>some ⟨Nat,Nat,[12],1,λk i=>[(12,.lit (.int .i64 i))],λk i=>[.cnt (some ((ql4 m k).length+(q6f m k i).length))],λk i=>i<=m.length,λk i=>m.length-i⟩
 | 2=>some ⟨Nat × Nat,Nat,[19],1,λq j=>[(19,.lit (.int .i64 j))],λq j=>[.cnt (some ((ql4 m q.1).length+(q6f m q.1 q.2).length+(q7k m q.1 q.2 j).length))],λq j=>j<=(nL m 0).length,λq j=>(nL m 0).length-j⟩
 | _=>none
theorem x3x:q0y Tryz.prog 183 y6e:=by
 refine says (snd (SpecsOk.cons x3v (SpecsOk.nil _))) Tryz.func183 rfl rfl rfl [30] (λx=>y6f x.1) (λ_=>by kernel_rfl) dc ?_
 rintro⟨m,⟨⟩⟩ l h
 revert m
 intro(m:List (List Int)) (h:qb6 m=true)
 refine vcs (let Q0:=(m,PUnit.unit); ∃(v0:Unit),∃(v1:Nat),Nat.le v1 (4:Nat)/\(((0:Int)=(↑v1:Int)/\True)/\some (0:Nat)=some (ql4 m v1).length/\True)/\∀(v2:Nat),Nat.le v2 (4:Nat)->(decide ((↑v2:Int)<(4:Int))=true->∃(v5:Nat),∃(v6:Nat),Nat.le v6 m.length/\(((0:Int)=(↑v6:Int)/\True)/\some (ql4 m v2).length=some ((ql4 m v5).length+(q6f m v5 v6).length)/\True)/\∀(v7:Nat),Nat.le v7 m.length->(decide ((↑v7:Int)<(↑m.length:Int))=true->((0:Int)<=(0:Int)/\(0:Int)<(↑m.length:Int))/\∃(v10:Nat × Nat),∃(v11:Nat),Nat.le v11 (nL m (0:Nat)).length/\(((0:Int)=(↑v11:Int)/\True)/\some ((ql4 m v5).length+(q6f m v5 v7).length)=some ((ql4 m v10.1).length+(q6f m v10.1 v10.2).length+(q7k m v10.1 v10.2 v11).length)/\True)/\∀(v12:Nat),Nat.le v12 (nL m (0:Nat)).length->(decide ((↑v12:Int)<(↑(nL m (0:Nat)).length:Int))=true->qb6 m=true/\(fvB m ((↑v2:Int),(↑v7:Int),(↑v12:Int))=true->Value.func (Fn.yield l) #[] #[]=Value.func (Fn.yield (qh4.l (q07 [qg4] [qr3] [(30:Nat)] Q0 (List.map fA (ql4 m (4:Nat))) l))) #[] #[]/\(qh4.L (q07 [qg4] [qr3] [(30:Nat)] Q0 (List.map fA (ql4 m (4:Nat))) l))[(ql4 m v10.1).length+(q6f m v10.1 v10.2).length+(q7k m v10.1 v10.2 v12).length]?=some (((↑v2:Int),(↑v7:Int),(↑v12:Int)),())/\(fits .i64 ((↑v12:Int)+(1:Int))/\∃(v16:Nat),Nat.le v16 (nL m (0:Nat)).length/\(nL m (0:Nat)).length-v16<(nL m (0:Nat)).length-v12/\((↑v12:Int)+(1:Int)=(↑v16:Int)/\True)/\some ((ql4 m v10.1).length+(q6f m v10.1 v10.2).length+(q7k m v10.1 v10.2 v12).length+(1:Nat))=some ((ql4 m v10.1).length+(q6f m v10.1 v10.2).length+(q7k m v10.1 v10.2 v16).length)/\True)/\True)/\(fvB m ((↑v2:Int),(↑v7:Int),(↑v12:Int))=false->fits .i64 ((↑v12:Int)+(1:Int))/\∃(v16:Nat),Nat.le v16 (nL m (0:Nat)).length/\(nL m (0:Nat)).length-v16<(nL m (0:Nat)).length-v12/\((↑v12:Int)+(1:Int)=(↑v16:Int)/\True)/\some ((ql4 m v10.1).length+(q6f m v10.1 v10.2).length+(q7k m v10.1 v10.2 v12).length)=some ((ql4 m v10.1).length+(q6f m v10.1 v10.2).length+(q7k m v10.1 v10.2 v16).length)/\True))/\(decide ((↑v12:Int)<(↑(nL m (0:Nat)).length:Int))=false->fits .i64 ((↑v7:Int)+(1:Int))/\∃(v15:Nat),Nat.le v15 m.length/\m.length-v15<m.length-v7/\((↑v7:Int)+(1:Int)=(↑v15:Int)/\True)/\some ((ql4 m v10.1).length+(q6f m v10.1 v10.2).length+(q7k m v10.1 v10.2 v12).length)=some ((ql4 m v5).length+(q6f m v5 v15).length)/\True))/\(decide ((↑v7:Int)<(↑m.length:Int))=false->fits .i64 ((↑v2:Int)+(1:Int))/\∃(v10:Nat),Nat.le v10 (4:Nat)/\(4:Nat)-v10<(4:Nat)-v2/\((↑v2:Int)+(1:Int)=(↑v10:Int)/\True)/\some ((ql4 m v5).length+(q6f m v5 v7).length)=some (ql4 m v10).length/\True))/\(decide ((↑v2:Int)<(4:Int))=false->(ql4 m v2).length=(qh4.L (q07 [qg4] [qr3] [(30:Nat)] Q0 (List.map fA (ql4 m (4:Nat))) l)).length)) ?_
 have hM:=Mk.of h
 have m1:=hM.rows1
 have m6:=hM.rows6
 have p10:=hM.pix10
 refine⟨(),0,zaf _,⟨rfl,rfl⟩,λk hk=>⟨λhk4=>⟨k,0,zaf _,⟨rfl,rfl⟩,λi hi=>⟨λhi6=>⟨ow,(k,i),0,zaf _,⟨rfl,rfl⟩,λj hj=>⟨λhj10=>⟨h,λhv=>⟨rfl,?_,qa8,j+1,hj10,ow,ow,?_⟩,λhv=>⟨qa8,j+1,hj10,ow,ow,?_⟩⟩,λhj10=>⟨qa8,i+1,hi6,ow,ow,?_⟩⟩⟩,λhi6=>⟨qa8,k+1,ow,ow,ow,?_⟩⟩⟩,λhk4=>?_⟩⟩
 ·show((ql4 m 4).map fA)[(ql4 m k).length+(q6f m k i).length+(q7k m k i j).length]? = some (fA ((k:Int),(i:Int),(j:Int)))
  grind [yn5]
 ·rw[q7k,zam hv,zau]; rfl
 ·simp_all [q7k,if_neg,List.append_nil]
 ·obtain rfl:j=(nL m 0).length:=ow
  rw[q6f,zau,zcn]
 ·obtain rfl:i=m.length:=ow
  rw[ql4,zau]
 ·obtain rfl:k=4:=ow
  show _=((ql4 m 4).map fA).length
  simp
abbrev y1g:qa7:=ww4 false none [qg4] (λ_=>True) (λx=>.clo 183 (.cons (.imm (.cons (.dat (.list (.int .i64)) x.1) .nil) 0) .nil))
theorem w9r:Meets Tryz.prog 138 y1g:=by
 refine q6t (snd (SpecsOk.nil _)) Tryz.func138 rfl rfl (λx _=>none) (λ_=>by kernel_rfl) dc ?_
 rintro⟨m,⟨⟩⟩ -
 revert m
 intro(m:List (List Int))
 refine vcr (((m=m/\True)/\(0:Nat)=(0:Nat))/\True) ?_
 simp
end Go.Proofs.YtnchigbbjajiiaaGreat
namespace Eng
open Go Go.RowKit Go.Proofs Go.Shelf
variable {P : Program} {ρ : Ren}
theorem same_setCell {w:World} {b:Nat} {a:Addr} (h:a.block=b) (v:Value):Kept (λk=>k=b) w (w.setCell a v):=
 ⟨rfl,rfl,rfl,by simp,λk hk=>zdg _ _ _ _ (λe=>hk.2 ow)⟩
theorem Kept.trans {D D':Nat->Prop} {A B C:World} (h:Kept D A B) (k:Kept D' B C) (hd:∀b,D' b->D b\/A.heap.size<=b):Kept D A C:=
 ⟨k.os.trans h.os,k.tape.trans h.tape,k.output.trans h.output,zal h.size k.size,λb hb=>(k.block b ⟨zbd hb.1 h.size,λe=>(hd b e).elim hb.2 (λx=>by omega)⟩).trans (h.block b hb)⟩
theorem wb0 {D D':Nat->Prop} {A B:World} (h:Kept D A B) (hd:∀b,D b->D' b):Kept D' A B:=Same.mono h λb hb=>⟨hb.1,λe=>hb.2 (hd b e)⟩
theorem kept_alloc (w:World) (o:Obj):Kept (λ_=>False) w (w.alloc o):=by
 have:=Ls.below_alloc w o
 exact⟨this.os,this.tape,this.output,this.size,λb hb=>this.block b hb.1⟩
theorem bcc (L:Lays.n240 P ρ) (X:Builder.X72 P ρ) {w:World} {b:Nat} {v:Value} {q:ByteArray} (h:BldOk (λ_=>none) w 0 (ρ.t 72) (ρ.t 5) b v q) :
  Calls P (ρ.f 240) #[.pointer (some ⟨b,0,none⟩)] w λe w'=>e=.returned (.tuple #[])/\(w'.heap[b]? = some (.cells #[.pointer (some ⟨b,0,none⟩),v] (ρ.t 72) (0,0))/\Kept (λk=>k=b) w w'):=by
 obtain⟨p,hp,hc⟩:=h.cell
 rcases hp with rfl | rfl
 ·refine(Any.Builder_copyCheck_fresh L X b w (by grind [World.cell?]) (by grind [World.shape?]) (by grind [World.frozen?])).mono ?_
  rintro e w' ⟨rfl,rfl⟩
  exact⟨rfl,by grind [World.setCell],same_setCell (a:=⟨b,0,none⟩) rfl _⟩
 ·refine(Any.Builder_copyCheck_used L X b w (by grind [World.cell?])).mono ?_
  rintro e w' ⟨rfl,rfl⟩
  exact⟨rfl,hc,Same.refl _ _⟩
theorem y6g {T e b:Nat} {v v' p:Value} {q q':ByteArray} {w w1 w2:World} (h:BldOk (λ_=>none) w 0 T e b v q) (hTe:T≠e) (k1:Kept (λk=>k=b) w w1) (k2:Kept (λx=>v.ownBlock=some x) w1 w2) (hb:w2.heap[b]? = some (.cells #[.pointer (some ⟨b,0,none⟩),p] T (0,0))) (ho:w2.ownsRow 0 e 1 v' q'.size (Lib.byteCells q'.data.toList))
  (hn:∀x,v'.ownBlock=some x->v.ownBlock=some x\/w.heap.size<=x):xc1 w b v T e q' (w2.setCell ⟨b,1,none⟩ v'):=by
 have hne:v'.ownBlock≠some b:=Lib.ownBlock_ne ho hb hTe
 refine⟨Kept.trans (Kept.trans (wb0 k1 λx hx=>h.blkIs.2 (.inl hx)) k2 λx hx=>.inl (h.blkIs.2 (.inr hx))) (same_setCell (b:=b) rfl v') λx hx=>.inl (h.blkIs.2 (.inl hx)),v',⟨zaf _,⟨_,.inr rfl,?_⟩,?_,hne,rfl,λ_ _=>rfl⟩,hn⟩
 ·grind [World.setCell]
 ·exact ho.kept (row:=some b) ⟨rfl,rfl,rfl,by simp,λk _ hk=>zdg _ _ _ _ (λe=>hk (by grind))⟩ (Or.inr hne)
theorem x3y {w w1:World} {b e:Nat} {v:Value} {n:Nat} {xs:List Value} (h:w.ownsRow 0 e 1 v n xs) (hne:v.ownBlock≠some b) (k1:Kept (λk=>k=b) w w1):w1.ownsRow 0 e 1 v n xs:=
 qp7 h λx hx=>k1.block x ⟨(own_blk h hx).2.1,λe'=>hne (by grind [ql0])⟩
theorem w9s {w w':World} {row:Option Nat} (h:w.grownBy w' row):Kept (λx=>row=some x) w w':=qu2 h λr e=>e
theorem w9t (q:ByteArray) {c:Int} (h0:0<=c) (h1:c<256):Lib.byteCells q.data.toList++[.int .u8 c]=Lib.byteCells (q.push c.toNat.toUInt8).data.toList:=by
 have:((c.toNat.toUInt8).toNat:Int)=c:=by
  grind [Nat.toUInt8_eq,UInt8.toNat_ofNat']
 simp_all [Lib.byteCells,ByteArray.push,Array.toList_push,List.map_append,List.map_cons,List.map_nil]
set_option maxHeartbeats 2000000 in
set_option maxRecDepth 100000 in
theorem x3z (L:Lays.n167 P ρ) (X:Builder.Extra P ρ) {w:World} {b:Nat} {v:Value} {q:ByteArray} (h:BldOk (λ_=>none) w 0 (ρ.t 72) (ρ.t 5) b v q) (c:Int) (h0:0<=c) (h1:c<256) (hs:q.size+1<=1000000000) :
  Calls P (ρ.f 167) #[.pointer (some ⟨b,0,none⟩),.int .u8 c] w λe w'=>e=.returned .nilIface/\xc1 w b v (ρ.t 72) (ρ.t 5) (q.push c.toNat.toUInt8) w':=by
 obtain⟨i0,hi,hz0,hz1,hz2⟩:=info_parts X.infoByte
 have mixed:=L.mixed
 have t72:=L.t72; have a72:=L.a72; have z72:=L.z72; have v72:=L.v72; have u72:=run_underlying L.t72
 have t70:=L.t70; have a70:=L.a70; have z70:=L.z70; have v70:=L.v70; have u70:=run_underlying L.t70
 have t5:=L.t5; have a5:=L.a5; have z5:=L.z5; have v5:=L.v5; have u5:=run_underlying L.t5
 have t37:=L.t37; have a37:=L.a37; have z37:=L.z37; have v37:=L.v37; have u37:=run_underlying L.t37
 have t9:=L.t9; have a9:=L.a9; have z9:=L.z9; have v9:=L.v9; have u9:=run_underlying L.t9
 have t4:=L.t4; have a4:=L.a4; have z4:=L.z4; have v4:=L.v4; have u4:=run_underlying L.t4
 have t164:=L.t164; have a164:=L.a164; have z164:=L.z164; have v164:=L.v164; have u164:=run_underlying L.t164
 have e240:∀args w,(callFunc (ρ.f 240) args).run P w=.ok (.enter (ρ.f 240) args) w:=enters_of L.f240 kr rfl
 go_enter L.f167,Body.n167_ntmps ρ
 go_wp2_with (go_at_fn (ρ.f 240); refine(bcc { L with } X.toX72 h).mono ?_)
 rintro e w1 ⟨rfl,hbk,hk1⟩
 have hown:=x3y h.own h.ne hk1
 have c0:w1.cell? ⟨b,0,none⟩=some (.pointer (some ⟨b,0,none⟩)):=by rw[Lib.cell_of_heap hbk]; rfl
 have c1:w1.cell? ⟨b,1,none⟩=some v:=by rw[Lib.cell_of_heap hbk]; rfl
 go_wp2_with (at_builtin; refine wpList_append_own_at _ rfl _ _ (ρ.t 37) rfl 0 (ρ.t 5) i0 (.int .u8 0) 1 1 L.t37 hi hz0 hz1 hz2 rfl dc _ _ _ rfl (hown.alloc _) ⟨w1.heap.size,0,none⟩ 1 1 [.int .u8 c] rfl rfl ?c1 ?c2 ?c3 ?c4 ?c5 ?_)
 case c1=>grind [cell_one_new]
 case c2=>intro u hu; simp at hu; subst hu; rfl
 case c3=>grind [maxLen]
 case c4=>omega
 case c5=>simp
 intro v' w2 hown' hgrow _ hat
 have hlt:b<w1.heap.size:=(zao.1 hbk).1
 have hb2:w2.heap[b]? = some (.cells #[.pointer (some ⟨b,0,none⟩),v] (ρ.t 72) (0,0)):=by
  rw[hgrow.block b (by simp; omega) (λe=>h.ne e.symm),Lib.alloc_old w1 _ b hlt]
  omega
 have d0:w2.cell? ⟨b,0,none⟩=some (.pointer (some ⟨b,0,none⟩)):=by rw[Lib.cell_of_heap hb2]; rfl
 have d1:w2.cell? ⟨b,1,none⟩=some v:=by rw[Lib.cell_of_heap hb2]; rfl
 have f1:w2.frozen? ⟨b,1,none⟩=false:=Lib.frozen_of_heap hb2 1
 have hk2:Kept (λx=>v.ownBlock=some x) w1 w2:=Kept.trans (wb0 (kept_alloc w1 _) λ_ h=>h.elim) (w9s hgrow) λx hx=>.inl hx
 have hn:∀x,v'.ownBlock=some x->v.ownBlock=some x\/w.heap.size<=x:=λx hx=>by
  rcases hat with hat | hat
  ·grind
  ·rw[hat] at hx
   have:=zaa hx
   right; rw[<- this]; have:=hk1.size; omega
 rw[w9t q h0 h1] at hown'
 obtain⟨g,cap,rfl⟩:∃g cap,v'=.slice (some ⟨g,0,none⟩) (q.size+1) cap:=by
  rcases hown'.2 with⟨_,h0⟩ | ⟨g,cap,cur,hv,_⟩
  all_goals grind
 go_wp2
 go_ret
 exact⟨rfl,y6g h X.neB5 hk1 hk2 hb2 (by simp_all) hn⟩
set_option maxHeartbeats 1000000 in
set_option maxRecDepth 100000 in
theorem x9l (L:Lays.n169 P ρ) (X:Builder.Extra P ρ) {w:World} {b:Nat} {v:Value} {q:ByteArray} (h:BldOk (λ_=>none) w 0 (ρ.t 72) (ρ.t 5) b v q) :
  Calls P (ρ.f 169) #[.pointer (some ⟨b,0,none⟩)] w λe w'=>e=.returned (.string q)/\Kept (Blk (q7l b v)) w w':=by
 obtain⟨p,hp,hbk⟩:=h.cell
 have bel:∀{w':World},Below w.heap.size w w'->Kept (Blk (q7l b v)) w w':=λhb=>wk0 hb
 obtain⟨l,rfl⟩:∃l:List UInt8,q=⟨l.toArray⟩:=⟨q.data.toList,rfl⟩
 have hown:w.ownsRow 0 (ρ.t 5) 1 v l.length (Lib.byteCells l):=by
  have:=h.own
  rwa [show(ByteArray.mk l.toArray).size=l.length from rfl,show(ByteArray.mk l.toArray).data.toList=l from rfl] at this
 clear h
 by_cases h0:l=[]
 ·subst h0
  rcases hown.2 with⟨rfl,_⟩ | ⟨g,cap,cur,rfl,_,hg,_,_,_,_⟩
  ·exact(Any.Builder_String_nil L X w.heap.size b p w hbk).mono λe w' ⟨e1,e2⟩=>⟨e1,bel e2⟩
  ·by_cases hc0:cap=0
   ·subst hc0
    exact(Any.Builder_String_noroom L X w.heap.size b g p cur w (zac _) hbk hg).mono λe w' ⟨e1,e2⟩=>⟨e1,bel e2⟩
   ·exact(Any.Builder_String_room L X w.heap.size b g cap p w hc0 hbk).mono λe w' ⟨e1,e2⟩=>⟨e1,bel e2⟩
 have hl0:l.length≠0:=by grind
 obtain⟨g,cap,cur,rfl,hg,hnc,hcm,hcs,htake⟩:∃g cap cur,v=.slice (some ⟨g,0,none⟩) l.length cap/\w.heap[g]? = some (.cells cur (ρ.t 5) (0,0))/\l.length<=cap/\cap<=maxLen/\cur.size=cap*1/\cur.toList.take (l.length*1)=Lib.byteCells l:=by
  rcases hown.2 with⟨_,hz⟩ | ⟨g,cap,cur,hv,_,r⟩
  all_goals grind
 have c1:w.drew.cell? ⟨b,1,none⟩=some (.slice (some ⟨g,0,none⟩) l.length cap):=by
  have:w.drew.heap[b]? = some (.cells #[p,.slice (some ⟨g,0,none⟩) l.length cap] (ρ.t 72) (0,0)):=hbk
  rw[Lib.cell_of_heap this]; rfl
 have hSD:(Builtin.unsafeSliceData_ #[(ρ.t 37)] (ρ.t 127) #[.slice (some ⟨g,0,none⟩) l.length cap]).run P w.drew=.ok (.pointer (some ⟨g,0,none⟩)) w.drew:=
  Lib.run_unsafeSliceData_row _ _ _ _ _ _ ow
 have hUS:(Builtin.unsafeString_ #[(ρ.t 127),(ρ.t 3)] (ρ.t 9) #[.pointer (some ⟨g,0,none⟩),.int .i64 l.length]).run P w.drew=.ok (.string ⟨l.toArray⟩) (w.drew.freeze ⟨g,0,none⟩ l.length):=by
  refine Lib.run_unsafeString_row w.drew (ρ.t 127) (ρ.t 3) (ρ.t 9) (ρ.t 5) L.t127 X.cellsByte g cur.size (by have hg':w.drew.heap[g]? = some (.cells cur (ρ.t 5) (0,0)):=hg; grind [World.shape?]) l h0 ow (by grind [maxLen]) ?_
  intro j x hx
  have:=hown.cells (g:=g) rfl j (.int .u8 x.toNat) (by grind [Lib.byteCells])
  exact this
 have hfin:Kept (Blk (q7l b (.slice (some ⟨g,0,none⟩) l.length cap))) w (w.drew.freeze ⟨g,0,none⟩ l.length):=by
  refine wb0 (D:=λx=>x=g) ?_ λx hx=>q79.2 (.inr (by rw[hx]; rfl))
  unfold World.freeze
  split
  ·omega
  ·refine⟨rfl,rfl,rfl,by simp,λx hx=>?_⟩
   show(Array.modify w.heap g _)[x]? = _
   grind
 have mixed:=L.mixed
 have t72:=L.t72; have a72:=L.a72; have z72:=L.z72; have v72:=L.v72; have u72:=run_underlying L.t72
 have t70:=L.t70; have a70:=L.a70; have z70:=L.z70; have v70:=L.v70; have u70:=run_underlying L.t70
 have t37:=L.t37; have a37:=L.a37; have z37:=L.z37; have v37:=L.v37; have u37:=run_underlying L.t37
 have t127:=L.t127; have a127:=L.a127; have z127:=L.z127; have v127:=L.v127; have u127:=run_underlying L.t127
 have t3:=L.t3; have a3:=L.a3; have z3:=L.z3; have v3:=L.v3; have u3:=run_underlying L.t3
 have t9:=L.t9; have a9:=L.a9; have z9:=L.z9; have v9:=L.v9; have u9:=run_underlying L.t9
 have t5:=X.t5; have a5:=X.a5; have z5:=X.z5; have v5:=X.v5; have u5:=run_underlying X.t5
 go_enter L.f169,Body.n169_ntmps ρ
 go_wp2
 go_region_o
 all_goals (go_wp2; go_ret; simp_all)
end Eng
namespace Go.Proofs
open Go.Shelf
shelf_lay Lays.n169 Nm 169 at Tryz as Tryz.layOut
def Tryz.layWrt_ren:Go.Shelf.Ren:=⟨fun | 167=>185 | 240=>248 | 276=>278 | n=>n,fun | 0=>0 | 4=>4 | 5=>5 | 9=>9 | 20=>20 | 37=>208 | 70=>207 | 72=>210 | 75=>212 | 80=>214 | 164=>283 | n=>n,λn=>n⟩
theorem Tryz.layWrt:Lays.n167 Tryz.prog Tryz.layWrt_ren where
 mixed:=kr
 f167:=Tryz.func185.trans (za1 some kr)
 f240:=Tryz.func248.trans (za1 some kr)
 f276:=Tryz.func278.trans (za1 some kr)
 t0:=Tryz.underlying0
 a0:=Tryz.isAgg0
 z0:=Tryz.sizeOf0
 v0:=Tryz.zeroValue0
 t4:=Tryz.underlying4
 a4:=Tryz.isAgg4
 z4:=Tryz.sizeOf4
 v4:=Tryz.zeroValue4
 t5:=Tryz.underlying5
 a5:=Tryz.isAgg5
 z5:=Tryz.sizeOf5
 v5:=Tryz.zeroValue5
 t9:=Tryz.underlying9
 a9:=Tryz.isAgg9
 z9:=Tryz.sizeOf9
 v9:=Tryz.zeroValue9
 t20:=Tryz.underlying20
 a20:=Tryz.isAgg20
 z20:=Tryz.sizeOf20
 v20:=Tryz.zeroValue20
 t37:=Tryz.underlying208
 a37:=Tryz.isAgg208
 z37:=Tryz.sizeOf208
 v37:=Tryz.zeroValue208
 t70:=Tryz.underlying207
 a70:=Tryz.isAgg207
 z70:=Tryz.sizeOf207
 v70:=Tryz.zeroValue207
 t72:=Tryz.underlying210
 a72:=Tryz.isAgg210
 z72:=Tryz.sizeOf210
 v72:=Tryz.zeroValue210
 t75:=Tryz.underlying212
 a75:=Tryz.isAgg212
 z75:=Tryz.sizeOf212
 v75:=Tryz.zeroValue212
 t164:=Tryz.underlying283
 a164:=Tryz.isAgg283
 z164:=Tryz.sizeOf283
 v164:=Tryz.zeroValue283
theorem Tryz.extraWrt:Builder.Extra Tryz.prog Tryz.layWrt_ren where
 sizeBuilder:=kr
 liesBuilder:=kr
 t5:=Tryz.underlying5
 a5:=Tryz.isAgg5
 z5:=Tryz.sizeOf5
 v5:=Tryz.zeroValue5
 infoByte:=kr
 cellsByte:=kr
 sizeByte:=kr
 neB5:=dc
theorem Tryz.extraOut:Builder.Extra Tryz.prog Tryz.layOut_ren where
 sizeBuilder:=kr
 liesBuilder:=kr
 t5:=Tryz.underlying5
 a5:=Tryz.isAgg5
 z5:=Tryz.sizeOf5
 v5:=Tryz.zeroValue5
 infoByte:=kr
 cellsByte:=kr
 sizeByte:=kr
 neB5:=dc
end Go.Proofs
namespace Go.Proofs.YtnchigbbjajiiaaGreat
open Go Go.Proofs Go.RowKit Eng Ls Go.Shelf
theorem yn6:q6o Tryz.prog 185 ⟨210,5,0⟩:=
 ⟨⟨_,_,Tryz.func185,rfl,rfl⟩,λw b v q h=>λc h0 h1 hs=>x3z Tryz.layWrt Tryz.extraWrt h c h0 h1 hs⟩
theorem out_ok:q6o Tryz.prog 186 ⟨210,5,2⟩:=
 ⟨⟨_,_,Tryz.func186,rfl,rfl⟩,λw b v q h=>x9l Tryz.layOut Tryz.extraOut h⟩
def x9m:List (Nat × w1h):=[(185,⟨210,5,0⟩),(186,⟨210,5,2⟩)]
theorem x33:∀f B,find x9m f=some B->q6o Tryz.prog f B:=by
 intro f B h
 unfold x9m at h
 rcases q8t h with⟨rfl,rfl⟩ | h
 ·exact yn6
 rcases q8t h with⟨rfl,rfl⟩ | h
 ·exact out_ok
 cases h
def y1h (specs:List (Nat × qa7)):Ctx:={ specs:=specs,tys:=tys,wr:=[],blds:=x9m }
theorem y1i {specs:List (Nat × qa7)} (h:SpecsOk Tryz.prog specs):Sound Tryz.prog (y1h specs):=SpecsOk.sound h q00 kr (hbl:=x33)
open Go Go.Proofs Go.RowKit Eng Ls
def yn7:ByteArray:=⟨#[45,46,43]⟩
def x9o (i:Nat):Int:=Eng.byteAt yn7 i
theorem w9u (s:ByteArray) (i:Nat):0<=byteAt s i/\byteAt s i<256:=by
 unfold byteAt
 split
 ·rename_i b _; have:=b.toNat_lt; omega
 simp
def rowT (s:ByteArray) (r:List Int):Nat->ByteArray
 | 0=>s
 | k+1=>(rowT s r k).push (x9o (nI r k+1).toNat).toNat.toUInt8
def w04 (m:List (List Int)):Nat->ByteArray
 | 0=>⟨#[]⟩
 | k+1=>(rowT (w04 m k) (nL m k) (nL m k).length).push 10
theorem wb1 (s:ByteArray) (r:List Int):∀k,(rowT s r k).size=s.size+k
 | 0=>rfl
 | k+1=>by rw[rowT,ByteArray.size_push,wb1 s r k]; omega
theorem w05 {m:List (List Int)} (h:Mk m):∀k,k<=m.length->(w04 m k).size=k*((nL m 0).length+1)
 | 0,_=>by rw[zdl]; rfl
 | k+1,hk=>by rw[w04,ByteArray.size_push,wb1,w05 h k ow,h.each k ow,zd3]; omega
def w92 (m:List (List Int)):ByteArray:=if qb6 m then w04 m m.length else⟨#[]⟩
abbrev y6h:qa7:=qe0 true none [qg4] [.str] (λ_=>True) (λx=>(w92 x.1,()))
def y1j (m:List (List Int)):Nat->Option Inv
 | 0=>some (Inv.of [3,13] 1 (λk:Nat=>[(3,.msl 0 none),(13,.lit (.int .i64 k))]) (λk=>[.bld 210 5 (w04 m k)]) (λk=>k<=m.length) (λk=>m.length-k))
 | 1=>some ⟨Nat,Nat,[3,19],1,λk t=>[(3,.msl 0 none),(19,.lit (.int .i64 t))],λk t=>[.bld 210 5 (rowT (w04 m k) (nL m k) t)],λk t=>t<=(nL m k).length,λk t=>(nL m k).length-t⟩
 | _=>none
theorem w06:Meets Tryz.prog 139 y6h:=by
 refine meets (y1i (SpecsOk.cons qx2 (SpecsOk.nil _))) Tryz.func139 rfl rfl (λx=>y1j x.1) (λ_=>by kernel_rfl) dc ?_
 rintro⟨m,⟨⟩⟩ -
 revert m
 intro(m:List (List Int))
 refine vcs (True/\((!qb6 m)=true->Value.string { data:=#[] }=Value.string (w92 m))/\((!qb6 m)=false->∃(v1:Unit),∃(v2:Nat),Nat.le v2 m.length/\((True/\(0:Int)=(↑v2:Int)/\True)/\{ data:=#[] }=w04 m v2/\True)/\∀(v3:Nat),Nat.le v3 m.length->(decide ((↑v3:Int)<(↑m.length:Int))=true->((0:Int)<=(↑v3:Int)/\(↑v3:Int)<(↑m.length:Int))/\∃(v6:Nat),∃(v7:Nat),Nat.le v7 (nL m v6).length/\((True/\(0:Int)=(↑v7:Int)/\True)/\w04 m v3=rowT (w04 m v6) (nL m v6) v7/\True)/\∀(v8:Nat),Nat.le v8 (nL m v6).length->(decide ((↑v8:Int)<(↑(nL m v3).length:Int))=true->((0:Int)<=(↑v8:Int)/\(↑v8:Int)<(↑(nL m v3).length:Int))/\fits .i64 (nI (nL m v3) v8+(1:Int))/\((0:Int)<=nI (nL m v3) v8+(1:Int)/\nI (nL m v3) v8+(1:Int)<(↑(3:Nat):Int))/\((0:Int)<=byteAt { data:=#[(45:UInt8),(46:UInt8),(43:UInt8)] } (nI (nL m v3) v8+(1:Int)).toNat/\byteAt { data:=#[(45:UInt8),(46:UInt8),(43:UInt8)] } (nI (nL m v3) v8+(1:Int)).toNat<(256:Int)/\ByteArray.size (rowT (w04 m v6) (nL m v6) v8)+(1:Nat)<=(1000000000:Nat))/\fits .i64 ((↑v8:Int)+(1:Int))/\∃(v11:Nat),Nat.le v11 (nL m v6).length/\(nL m v6).length-v11<(nL m v6).length-v8/\(True/\(↑v8:Int)+(1:Int)=(↑v11:Int)/\True)/\ByteArray.push (rowT (w04 m v6) (nL m v6) v8) (Nat.toUInt8 (byteAt { data:=#[(45:UInt8),(46:UInt8),(43:UInt8)] } (nI (nL m v3) v8+(1:Int)).toNat).toNat)=rowT (w04 m v6) (nL m v6) v11/\True)/\(decide ((↑v8:Int)<(↑(nL m v3).length:Int))=false->((0:Int)<=(10:Int)/\(10:Int)<(256:Int)/\ByteArray.size (rowT (w04 m v6) (nL m v6) v8)+(1:Nat)<=(1000000000:Nat))/\fits .i64 ((↑v3:Int)+(1:Int))/\∃(v11:Nat),Nat.le v11 m.length/\m.length-v11<m.length-v3/\(True/\(↑v3:Int)+(1:Int)=(↑v11:Int)/\True)/\ByteArray.push (rowT (w04 m v6) (nL m v6) v8) (Nat.toUInt8 (10:Nat))=w04 m v11/\True))/\(decide ((↑v3:Int)<(↑m.length:Int))=false->Value.string (w04 m v3)=Value.string (w92 m)))) ?_
 refine⟨λh=>by simp[w92,h],λhv=>?_⟩
 have hM:=Mk.of hv
 have hsz:=w05 hM
 have m6:=hM.rows6
 have p10:=hM.pix10
 refine⟨(),0,zaf _,⟨rfl,rfl⟩,λk hk=>⟨λhlt=>⟨hlt,k,0,zaf _,⟨rfl,rfl⟩,λt ht=>?_⟩,λhge=>?_⟩⟩
 ·have hs0:=hsz k hk
  have hk6:k*((nL m 0).length+1)<=6*11:=zbi ow ow
  have hl:=hM.each k hlt
  have hs1:=wb1 (w04 m k) (nL m k) t
  refine⟨λh1=>?_,λh1=>?_⟩
  ·have hb:=hM.small k hlt t ow
   have hby:=w9u ⟨#[45,46,43]⟩ (Int.toNat (nI (nL m k) t+1))
   exact⟨h1,qa8,⟨ow,by grind⟩,⟨hby.1,hby.2,ow⟩,qa8,t+1,ow,ow,ow,rfl⟩
  ·obtain rfl:t=(nL m k).length:=ow
   exact⟨ow,qa8,k+1,ow,ow,ow,rfl⟩
 ·obtain rfl:k=m.length:=ow
  grind [w92]
def textF (m:List (List Int)) (f:Flt):ByteArray:=w92 (qt2 m f)
abbrev nFt (l:List Flt) (k:Nat):Flt:=l.getD k (0,0,0)
def q5e (m:List (List Int)) (L:List Flt):Nat->List (ByteArray × Bool)
 | 0=>[]
 | k+1=>q7a (q5e m L k) (textF m (nFt L k)) true
def y1k (m:List (List Int)) (L:List Flt) (k:Nat):Bool:=(q5i (q5e m L k) (textF m (nFt L k))).getD false
def w07 (m:List (List Int)) (L:List Flt):Nat->List Flt
 | 0=>[]
 | k+1=>w07 m L k++if y1k m L k then[] else[nFt L k]
theorem w6k (m:List (List Int)) (L:List Flt):∀k,(w07 m L k).length<=k
 | 0=>zac _
 | k+1=>by
  have:=w6k m L k
  grind [w07,List.length_append]
theorem w6l (m:List (List Int)) (k i:Nat):∀j,(q7k m k i j).length<=j
 | 0=>zac _
 | j+1=>by
  have:=w6l m k i j
  grind [q7k,List.length_append]
theorem w6m {m:List (List Int)} (h:Mk m) (k:Nat):∀i,(q6f m k i).length<=i*10
 | 0=>zaf _
 | i+1=>by
  have h1:=w6m h k i
  have h2:=w6l m k i (nL m 0).length
  have h3:=h.pix10
  grind [q6f,List.length_append]
theorem x35 {m:List (List Int)} (h:Mk m):(ql4 m 4).length<=240:=by
 have h1:=h.rows6
 grind [w6m,ql4,List.length_append,List.length_nil]
theorem w6n {m:List (List Int)} {k i:Nat} {f:Flt}:∀j,f∈q7k m k i j->fvB m f=true
 | 0,h=>by cases h
 | j+1,h=>by
  rw[q7k] at h
  rcases zak.1 h with h | h
  ·exact w6n j h
  grind
theorem w6o {m:List (List Int)} {k:Nat} {f:Flt}:∀i,f∈q6f m k i->fvB m f=true
 | 0,h=>by cases h
 | i+1,h=>by
  rw[q6f] at h
  rcases zak.1 h with h | h
  ·exact w6o i h
  grind [w6n]
theorem w6p {m:List (List Int)} {f:Flt}:∀k,f∈ql4 m k->fvB m f=true
 | 0,h=>by cases h
 | k+1,h=>by
  rw[ql4] at h
  rcases zak.1 h with h | h
  ·exact w6p k h
  grind [w6o]
abbrev sAl:qa7:=qe0 true (some 170) [qg4] [.list qr3] (λx=>qb6 x.1=true) (λx=>(w07 x.1 (ql4 x.1 4) (ql4 x.1 4).length,()))
def y1l (m:List (List Int)) (k:Nat):List AObj:=[.box 23 (.cons (.dat (.list (.int .i64)) m) .nil),.box 70 (.cons (.own 4) .nil),.mp .bool (q5e m (ql4 m 4) k),.box 166 (.cons (.own 2) .nil),.vec 170 qr3 (w07 m (ql4 m 4) k)]
def y6i (m:List (List Int)):Nat->Option Inv
 | 0=>some (Inv.of [] 5 (λ_=>[]) (λc:Nat=>y1l m c) (λc=>c<=(ql4 m 4).length) (λc=>c))
 | _=>none
theorem x36:Meets Tryz.prog 92 sAl:=by
 refine meets (yf1 (SpecsOk.cons w9r (SpecsOk.cons xv5 (SpecsOk.cons w06 (SpecsOk.nil _)))) (ItsOk.cons x3x ItsOk.nil)) Tryz.func92 rfl rfl (λx=>y6i x.1) (λ_=>by kernel_rfl) dc ?_
 rintro⟨m,⟨⟩⟩ h
 revert m
 intro(m:List (List Int)) (h:qb6 m=true)
 refine vcs (True/\qb6 m=true/\∃(v0:Unit),∃(v1:Nat),Nat.le v1 (ql4 m (4:Nat)).length/\v1=(0:Nat)/\((m=m/\True)/\(True/\True)/\[]=q5e m (ql4 m (4:Nat)) v1/\(True/\True)/\w07 m (ql4 m (4:Nat)) v1=[]/\True)/\∀(v2:Nat),Nat.le v2 (ql4 m (4:Nat)).length->(∀(v4:(Int × Int × Int) × qa3._f [] PUnit.unit),(List.map fA (ql4 m (4:Nat)))[v2]?=some v4->xv4 m (v4.1.1,v4.1.2.1,v4.1.2.2)/\True/\((!Option.getD (q5i (q5e m (ql4 m (4:Nat)) v2) (w92 (q3j (Ty.int .i64) (qt2 m (v4.1.1,v4.1.2.1,v4.1.2.2)) none))) (Ty.dflt Ty.bool))=true->((0:Nat)<List.length [(v4.1.1,v4.1.2.1,v4.1.2.2)]/\Nat.le ((w07 m (ql4 m (4:Nat)) v2).length+List.length [(v4.1.1,v4.1.2.1,v4.1.2.2)]) (1000000:Nat))/\∃(v7:Nat),Nat.le v7 (ql4 m (4:Nat)).length/\v7=v2+(1:Nat)/\(m=m/\True)/\(True/\True)/\q7a (q5e m (ql4 m (4:Nat)) v2) (w92 (q3j (Ty.int .i64) (qt2 m (v4.1.1,v4.1.2.1,v4.1.2.2)) none)) true=q5e m (ql4 m (4:Nat)) v7/\(True/\True)/\w07 m (ql4 m (4:Nat)) v2++[(v4.1.1,v4.1.2.1,v4.1.2.2)]=w07 m (ql4 m (4:Nat)) v7/\True)/\((!Option.getD (q5i (q5e m (ql4 m (4:Nat)) v2) (w92 (q3j (Ty.int .i64) (qt2 m (v4.1.1,v4.1.2.1,v4.1.2.2)) none))) (Ty.dflt Ty.bool))=false->∃(v7:Nat),Nat.le v7 (ql4 m (4:Nat)).length/\v7=v2+(1:Nat)/\(m=m/\True)/\(True/\True)/\q7a (q5e m (ql4 m (4:Nat)) v2) (w92 (q3j (Ty.int .i64) (qt2 m (v4.1.1,v4.1.2.1,v4.1.2.2)) none)) true=q5e m (ql4 m (4:Nat)) v7/\(True/\True)/\w07 m (ql4 m (4:Nat)) v2=w07 m (ql4 m (4:Nat)) v7/\True))/\(v2=(List.map fA (ql4 m (4:Nat))).length->w07 m (ql4 m (4:Nat)) v2=w07 m (ql4 m (4:Nat)) (ql4 m (4:Nat)).length)) ?_
 have hM:=Mk.of h
 have hle:=x35 hM
 refine⟨h,(),0,zaf _,rfl,⟨rfl,rfl⟩,λk hk=>⟨?_,λe=>?_⟩⟩
 ·rintro⟨⟨kd,r,p⟩,⟨⟩⟩ hf
  rw[zbg] at hf
  obtain⟨f',h1,h2⟩:=zbx.1 hf
  obtain rfl:f'=(kd,r,p):=za1 Prod.fst h2
  have hlt:=(zag.1 h1).1
  have hn:nFt (ql4 m 4) k=(kd,r,p):=by grind
  have hv:fvB m (kd,r,p)=true:=w6p 4 (zah h1)
  have hlen:=w6k m (ql4 m 4) k
  have e1:y1k m (ql4 m 4) k=(q5i (q5e m (ql4 m 4) k) (w92 (qt2 m (kd,r,p)))).getD false:=by grind [y1k,textF]
  have e2:q7a (q5e m (ql4 m 4) k) (w92 (qt2 m (kd,r,p))) true=q5e m (ql4 m 4) (k+1):=by rw[q5e,textF,hn]
  refine⟨⟨h,hv⟩,λhb=>⟨ow,k+1,hlt,rfl,e2,?_⟩,λhb=>⟨k+1,hlt,rfl,e2,?_⟩⟩
  ·rw[w07,zaj (by rw[e1]; exact ne_true_of_eq_false hb),hn]
  ·rw[w07,zam (e1.trans hb),zb8]
 grind
def x9p (m:List (List Int)):List Flt × Int:=if qb6 m then(w07 m (ql4 m 4) (ql4 m 4).length,0) else([],1)
abbrev y1m:qa7:=qe0 false none [qg4] [.list qr3,qc0] (λ_=>True) (λx=>((x9p x.1).1,(x9p x.1).2,()))
theorem w9v:Meets Tryz.prog 43 y1m:=by
 refine mt0 (SpecsOk.cons qx2 (SpecsOk.cons x36 (SpecsOk.nil _))) Tryz.func43 ?_
 rintro⟨m,⟨⟩⟩ -
 revert m
 intro(m:List (List Int))
 refine vcs (True/\((!qb6 m)=true->(x9p m).1=[]/\(1:Int)=(x9p m).2/\True)/\((!qb6 m)=false->qb6 m=true/\w07 m (ql4 m (4:Nat)) (ql4 m (4:Nat)).length=(x9p m).1/\(0:Int)=(x9p m).2/\True)) ?_
 grind [x9p]
open Go Go.RowKit Ls Eng
theorem own_blk {w:World} {B e n:Nat} {A:Option Addr} {c:Nat} {xs:List Value} (h:w.ownsRow B e 1 (.slice A n c) n xs):∀ad,A=some ad->B<=ad.block:=by
 intro ad e1
 rcases h.2 with⟨h,_⟩ | ⟨g,cap,cur,h,hb,_⟩
 all_goals grind
abbrev x9q:qa7:=qe0 true none [.list (.int .i64)] [.list (.int .i64)] (λx=>x.1.length<=100000) (λx=>(x.1,()))
theorem w08:Meets Tryz.prog 48 x9q:=q2n ⟨_,_,Tryz.func48,rfl,rfl⟩ λw m x vs hm hp hx=>by
 obtain⟨l,⟨⟩⟩:=x
 obtain⟨u,us,rfl,h1,h2⟩:=hx
 obtain rfl:us=[]:=h2
 obtain⟨A,c,rfl,hSI⟩:=x01 hm (show Rd m (.list (.int .i64)) l [u] from h1)
 refine(clone_any A l.length c l w hSI hp).mono λe w' ⟨A',c',e1,e2,e3⟩=>⟨_,e1,e3,[_],rfl,_,_,rfl,?_,rfl⟩
 exact x7b (x4g e2) (own_blk e2)
set_option maxRecDepth 100000 in
set_option maxHeartbeats 400000 in
theorem clone_nil (w:World):Calls Tryz.prog 48 #[.slice none 0 0] w λe w'=>e=.returned (.slice none 0 0)/\Below w.heap.size w w':=by
 have hq:=λw=>Lib.run_eql_slice_nil (P:=Tryz.prog) w 24 3 none 0 0 0 0 Tryz.underlying24
 go_enter Tryz.func48,Tryz.ntmps48
 go_wp2
 go_ret
 exact⟨rfl,zdi _ _⟩
abbrev x9r:qa7:=qe0 true none [.nlist (.int .i64)] [.nlist (.int .i64)] (λx=>x.1.length<=100000) (λx=>(x.1,()))
theorem w09:Meets Tryz.prog 48 x9r:=q2n ⟨_,_,Tryz.func48,rfl,rfl⟩ λw m x vs hm hp hx=>by
 obtain⟨l,⟨⟩⟩:=x
 obtain⟨u,us,rfl,h1,h2⟩:=hx
 obtain rfl:us=[]:=h2
 have h1:Rd m (.nlist (.int .i64)) l [u]:=h1
 obtain⟨h3,h4⟩:=h1
 by_cases h0:(l:List Int).length=0
 ·obtain rfl:l=[]:=zay h0
  obtain rfl:u=.slice none 0 0:=(zad (h4 rfl)).1
  refine(clone_nil w).mono λe w' ⟨e1,e2⟩=>⟨_,e1,e2,[_],rfl,_,_,rfl,⟨⟨none,0,rfl,zac _,by simp,λh=>absurd h (zbb _)⟩,λ_=>rfl⟩,rfl⟩
 ·obtain⟨A,c,rfl,hSI⟩:=x01 hm (show Rd m (.list (.int .i64)) l [u] from h3)
  refine(clone_any A _ c l w hSI hp).mono λe w' ⟨A',c',e1,e2,e3⟩=>⟨_,e1,e3,[_],rfl,_,_,rfl,⟨?_,λh=>absurd h h0⟩,rfl⟩
  exact x7b (x4g e2) (own_blk e2)
theorem yn8 {R:Type} (b:Bool) (x y:R):Det (λk:R->Prop=>(b=true->k x)/\(b=false->k y)):=λk H=>by
 cases b with
 | true=>grind
 | false=>grind
abbrev x9s:qa7:=
 {fresh:=true,own:=some 3,run:=λargs k=>qg6 [.nlist (.int .i64)] args λx=>need (x.1.length<=100000) λ_=>(x.1.isEmpty=true->k (.lit (.slice none 0 0)))/\(x.1.isEmpty=false->k (.dat (.int .i64) x.1)),
  one:=λargs k h=>(qd6 (qo9 [.nlist (.int .i64)] args) λx=>qg7 (yn8 x.1.isEmpty _ _)) k h }
theorem w1a:Meets Tryz.prog 48 x9s:=by
 refine⟨⟨_,_,Tryz.func48,rfl,rfl⟩,λw m args vs k hm hargs hrun=>?_⟩
 obtain⟨⟨l,⟨⟩⟩,⟨hp,hk⟩,hx⟩:=qj2 hrun hargs
 have hp:l.length<=100000:=hp
 have hk:(l.isEmpty=true->k (.lit (.slice none 0 0)))/\(l.isEmpty=false->k (.dat (.int .i64) l)):=hk
 obtain⟨u,us,rfl,h1,h2⟩:=hx
 obtain rfl:us=[]:=h2
 have h1:Rd m (.nlist (.int .i64)) l [u]:=h1
 obtain⟨h3,h4⟩:=h1
 by_cases h0:(l:List Int).length=0
 ·obtain rfl:l=[]:=zay h0
  obtain rfl:u=.slice none 0 0:=(zad (h4 rfl)).1
  refine(clone_nil w).mono λe w' ⟨e1,e2⟩=>?_
  exact⟨_,λ_=>none,e1,e2,(λb o h=>by cases h),(λb o h=>by cases h),.inr (.inl ⟨hk.1 rfl,rfl⟩)⟩
 ·obtain⟨A,c,rfl,hSI⟩:=x01 hm (show Rd m (.list (.int .i64)) l [u] from h3)
  refine(clone_any A l.length c l w hSI hp).mono λe w' ⟨A',c',e1,e2,e3⟩=>?_
  have he:l.isEmpty=false:=by grind
  exact⟨_,λ_=>none,e1,e3,(λb o h=>by cases h),(λb o h=>by cases h),.inl ⟨.int .i64,l,ints l,hk.2 he,e2,rdL_ints _ l,λ_ _=>rfl⟩⟩
abbrev q2a:Ty:=.prod .bool (.list (.int .i64))
abbrev Frm:=Bool × List Int
theorem q0x:Meets Tryz.prog 80 wn1:=by
 refine mt0 (SpecsOk.nil _) Tryz.func80 ?_
 rintro⟨n,lo,hi,⟨⟩⟩ -
 revert n lo hi
 intro(n:Int) (lo:Int) (hi:Int)
 refine vcs ((decide (lo<=n)=true->decide (n<=hi)=inB n lo hi)/\(decide (lo<=n)=false->false=inB n lo hi)) ?_
 grind [inB]
def ya5 (n:Int):Bool:=inB n (0-1000) 1000
abbrev y3p:qa7:=qe0 true none [qc0] [.bool] (λ_=>True) (λx=>(!ya5 x.1,()))
theorem xv6:Meets Tryz.prog 177 y3p:=by
 refine mt0 (SpecsOk.cons q0x (SpecsOk.nil _)) Tryz.func177 ?_
 rintro⟨n,⟨⟩⟩ -
 revert n
 intro(n:Int)
 refine vcs (True/\(!inB n (-1000:Int) (1000:Int))=!ya5 n) ?_
 exact(zd6 _).symm
def q6g (m:List (List Int)) (x:List Int):Bool:=decide (x.length=(nL m 0).length) && x.all ya5
abbrev y6j:qa7:=qe0 true none [qg4,qf0] [.bool] (λx=>qb6 x.1=true) (λx=>(q6g x.1 x.2.1,()))
theorem w1b:Meets Tryz.prog 128 y6j:=by
 refine mt0 (SpecsOk.cons (q1u (fs:=[(177,y3p)]) (SpecsOk.cons xv6 (SpecsOk.nil _))) (SpecsOk.nil _)) Tryz.func128 ?_
 rintro⟨m,x,⟨⟩⟩ h
 revert m x
 intro(m:List (List Int)) (x:List Int) (h:qb6 m=true)
 refine vcs (((0:Int)<=(0:Int)/\(0:Int)<(↑m.length:Int))/\(((↑x.length:Int)==(↑(nL m (0:Nat)).length:Int))=true->∃(v1:qa3 [Ty.int .i64]->Prop),∃(v2:qa3 [Ty.int .i64]->Bool),(∀(v3:Int × qa3._f [] PUnit.unit),v1 v3->True/\(!ya5 v3.1)=v2 v3)/\(x.length<=(1000000:Nat)/\∀(v3:Nat),v3<x.length->v1 (nI x v3,()))/\(!List.any x λ(v3:Int)=>v2 (v3,()))=q6g m x)/\(((↑x.length:Int)==(↑(nL m (0:Nat)).length:Int))=false->false=q6g m x)) ?_
 refine⟨by have:=(Mk.of h).rows1; omega,λhl=>⟨λ_=>True,λx=>!ya5 x.1,λ_ _=>(zd6 _).symm,⟨by have:=(Mk.of h).pix10; omega,λ_ _=>trivial⟩,?_⟩,λhl=>?_⟩
 all_goals grind [q6g,decide_eq_true,nL,List.not_all_eq_any_not,decide_eq_false]
abbrev y3q:qa7:=hspec [] true none [.d qf0,.cap qg4] [.bool] (λx=>qb6 x.2.1=true) (λx=>(!q6g x.2.1 x.1,()))
theorem xv7:Meets Tryz.prog 127 y3q:=by
 refine ql2 (SpecsOk.nil _) (snd (SpecsOk.cons w1b (SpecsOk.nil _))) Tryz.func127 rfl rfl (λ_ _=>none) (λ_=>by kernel_rfl) dc ?_
 rintro⟨x,m,⟨⟩⟩ h
 revert x m
 intro(x:List Int) (m:List (List Int)) (h:qb6 m=true)
 refine vcr (qb6 m=true/\(!q6g m x)=!q6g m x) ?_
 grind
def vpB (m p:List (List Int)):Bool:=qb6 m && inB p.length 1 60 && p.all (q6g m)
abbrev sVP:qa7:=qe0 true none [qg4,qg4] [.bool] (λ_=>True) (λx=>(vpB x.1 x.2.1,()))
theorem x37:Meets Tryz.prog 78 sVP:=by
 refine mt0 (SpecsOk.cons qx2 (SpecsOk.cons q0x (SpecsOk.cons (wx5 (fs:=[(127,y3q)]) (SpecsOk.cons xv7 (SpecsOk.nil _))) (SpecsOk.nil _)))) Tryz.func78 ?_
 rintro⟨m,p,⟨⟩⟩ -
 revert m p
 intro(m:List (List Int)) (p:List (List Int))
 refine vcs (True/\(qb6 m=true->True/\(inB (↑p.length:Int) (1:Int) (60:Int)=true->∃(v2:qa3 [Ty.list (Ty.int .i64)]->Prop),∃(v3:qa3 [Ty.list (Ty.int .i64)]->Bool),(∀(v4:List Int × qa3._f [] PUnit.unit),v2 v4->qb6 m=true/\(!q6g m v4.1)=v3 v4)/\(p.length<=(1000000:Nat)/\∀(v4:Nat),v4<p.length->v2 (nL p v4,()))/\(!List.any p λ(v4:List Int)=>v3 (v4,()))=vpB m p)/\(inB (↑p.length:Int) (1:Int) (60:Int)=false->false=vpB m p))/\(qb6 m=false->false=vpB m p)) ?_
 refine⟨λhv=>⟨λhl=>⟨λ_=>True,λx=>!q6g m x.1,λ_ _=>⟨hv,(zd6 _).symm⟩,⟨by grind [qj9],λ_ _=>trivial⟩,?_⟩,λhl=>?_⟩,λhv=>?_⟩
 all_goals grind [vpB,List.not_all_eq_any_not]
def wc3 (a b:List Int) (k:Nat):List Int:=(List.range k).map λi=>nI b i-nI a i
def x5w (a b:List Int):List Int:=wc3 a b b.length
structure w6q (a b:List Int):Prop where
 le:b.length<=a.length
 len:b.length<=1000
 ba:∀i,i<b.length->qe6 100000 (nI a i)
 bb:∀i,i<b.length->qe6 100000 (nI b i)
theorem w1c (a b:List Int) (k:Nat):(wc3 a b k).length=k:=by simp[wc3]
abbrev y6k:qa7:=qe0 true (some 3) [qf0,qf0] [qf0] (λx=>w6q x.1 x.2.1) (λx=>(x5w x.1 x.2.1,()))
def y1n (a b:List Int):Nat->Option Inv
 | 0=>some (Inv.of [5,10] 1 (λk:Nat=>[(5,.own 0),(10,.lit (.int .i64 k))]) (λk=>[.vec 3 (.int .i64) (wc3 a b k)]) (λk=>k<=b.length) (λk=>b.length-k))
 | _=>none
theorem xv8:Meets Tryz.prog 79 y6k:=by
 refine mts (SpecsOk.nil _) Tryz.func79 (λx=>y1n x.1 x.2.1) ?_
 rintro⟨a,b,⟨⟩⟩ h
 revert a b
 intro(a:List Int) (b:List Int) (h:w6q a b)
 refine vcs (∃(v0:Unit),∃(v1:Nat),Nat.le v1 b.length/\((True/\(0:Int)=(↑v1:Int)/\True)/\wc3 a b v1=[]/\True)/\∀(v2:Nat),Nat.le v2 b.length->(decide ((↑v2:Int)<(↑b.length:Int))=true->((0:Int)<=(↑v2:Int)/\(↑v2:Int)<(↑b.length:Int))/\((0:Int)<=(↑v2:Int)/\(↑v2:Int)<(↑a.length:Int))/\fits .i64 (nI b v2-nI a v2)/\((0:Nat)<List.length [nI b v2-nI a v2]/\Nat.le ((wc3 a b v2).length+List.length [nI b v2-nI a v2]) (1000000:Nat))/\fits .i64 ((↑v2:Int)+(1:Int))/\∃(v5:Nat),Nat.le v5 b.length/\b.length-v5<b.length-v2/\(True/\(↑v2:Int)+(1:Int)=(↑v5:Int)/\True)/\wc3 a b v2++[nI b v2-nI a v2]=wc3 a b v5/\True)/\(decide ((↑v2:Int)<(↑b.length:Int))=false->wc3 a b v2=x5w a b)) ?_
 have hl:=h.len
 refine⟨(),0,zaf _,⟨rfl,rfl⟩,λk hk=>⟨λhlt=>?_,λhge=>?_⟩⟩
 ·have h1:=h.ba k hlt
  have h2:=h.bb k hlt
  have h3:=h.le
  unfold qe6 at h1 h2
  exact⟨hlt,ow,qa8,by grind [w1c],qa8,k+1,hlt,ow,ow,by simp[wc3,List.range_succ]⟩
 ·obtain rfl:k=b.length:=ow
  rfl
structure Vp (m p:List (List Int)):Prop where
 msk:Mk m
 val:qb6 m=true
 lo:1<=p.length
 hi:p.length<=60
 len:∀i,i<p.length->(nL p i).length=(nL m 0).length
 bd:∀i,i<p.length->∀j,j<(nL m 0).length->qe6 1000 (nI (nL p i) j)
theorem Vp.of {m p:List (List Int)} (h:vpB m p=true):Vp m p:=by
 unfold vpB at h
 rw[zax,zax,qj9,zas] at h
 obtain⟨⟨h1,h2⟩,h3⟩:=h
 have h4:∀i,i<p.length->(nL p i).length=(nL m 0).length/\∀n∈nL p i,ya5 n=true:=λi hi=>by
  have:=h3 (nL p i) (by grind [qn5,hi,List.getElem_mem])
  simp_all [q6g,Bool.and_eq_true,decide_eq_true_eq,List.all_eq_true]
 refine⟨Mk.of h1,h1,ow,ow,λi hi=>(h4 i hi).1,λi hi j hj=>?_⟩
 have h5:=(h4 i hi).2 (nI (nL p i) j) (by grind [qg3,hi,List.getElem_mem])
 have h6:=qj9.1 h5
 omega
theorem Vp.chg {m p:List (List Int)} (h:Vp m p) {i j:Nat} (hi:i<p.length) (hj:j<p.length):w6q (nL p i) (nL p j):=by
 have h1:=h.len i hi
 have h2:=h.len j hj
 have h3:=h.msk.pix10
 refine⟨ow,ow,λk hk=>?_,λk hk=>?_⟩
 ·have:=h.bd i hi k ow; omega
 ·have:=h.bd j hj k ow; omega
def x9t (m p:List (List Int)) (e:Nat) (i:Nat):Frm:=if i % e=0 then(true,nL p i) else(false,(qt8 m (x5w (nL p (i-1)) (nL p i))).1)
def qr1 (m p:List (List Int)) (e:Nat) (k:Nat):List Frm:=(List.range k).map (x9t m p e)
structure w6r (m p:List (List Int)) (e:Int):Prop where
 ok:vpB m p=true
 lo:1<=e
 hi:e<=60
theorem wb2 (m p:List (List Int)) (e k:Nat):(qr1 m p e k).length=k:=by simp[qr1]
abbrev y6l:qa7:=qe0 false none [qg4,qg4,qc0] [.list q2a] (λx=>w6r x.1 x.2.1 x.2.2.1) (λx=>(qr1 x.1 x.2.1 x.2.2.1.toNat x.2.1.length,()))
def y1o (m p:List (List Int)) (e:Nat):Nat->Option Inv
 | 0=>some (Inv.of [7,13] 1 (λk:Nat=>[(7,.own 0),(13,.lit (.int .i64 k))]) (λk=>[.vec 158 q2a (qr1 m p e k)]) (λk=>k<=p.length) (λk=>p.length-k))
 | _=>none
theorem xv9:Meets Tryz.prog 81 y6l:=by
 refine mts (SpecsOk.cons w08 (SpecsOk.cons xv8 (SpecsOk.cons q52 (SpecsOk.nil _)))) Tryz.func81 (λx=>y1o x.1 x.2.1 x.2.2.1.toNat) ?_
 rintro⟨m,p,e,⟨⟩⟩ h
 revert m p e
 intro(m:List (List Int)) (p:List (List Int)) (e:Int) (h:w6r m p e)
 refine vcs (∃(v0:Unit),∃(v1:Nat),Nat.le v1 p.length/\((True/\(0:Int)=(↑v1:Int)/\True)/\qr1 m p e.toNat v1=[]/\True)/\∀(v2:Nat),Nat.le v2 p.length->(decide ((↑v2:Int)<(↑p.length:Int))=true->((0:Int)<=(↑v2:Int)/\(↑v2:Int)<(↑p.length:Int))/\e≠(0:Int)/\(nL p v2).length<=(100000:Nat)/\((!Int.tmod (↑v2:Int) e==(0:Int))=true->fits .i64 ((↑v2:Int)-(1:Int))/\((0:Int)<=(↑v2:Int)-(1:Int)/\(↑v2:Int)-(1:Int)<(↑p.length:Int))/\w6q (nL p ((↑v2:Int)-(1:Int)).toNat) (nL p v2)/\(x5w (nL p ((↑v2:Int)-(1:Int)).toNat) (nL p v2)).length<=(1000000:Nat)/\((0:Nat)<List.length [(Int.tmod (↑v2:Int) e==(0:Int),(qt8 m (x5w (nL p ((↑v2:Int)-(1:Int)).toNat) (nL p v2))).1)]/\Nat.le ((qr1 m p e.toNat v2).length+List.length [(Int.tmod (↑v2:Int) e==(0:Int),(qt8 m (x5w (nL p ((↑v2:Int)-(1:Int)).toNat) (nL p v2))).1)]) (1000000:Nat))/\fits .i64 ((↑v2:Int)+(1:Int))/\∃(v6:Nat),Nat.le v6 p.length/\p.length-v6<p.length-v2/\(True/\(↑v2:Int)+(1:Int)=(↑v6:Int)/\True)/\qr1 m p e.toNat v2++[(Int.tmod (↑v2:Int) e==(0:Int),(qt8 m (x5w (nL p ((↑v2:Int)-(1:Int)).toNat) (nL p v2))).1)]=qr1 m p e.toNat v6/\True)/\((!Int.tmod (↑v2:Int) e==(0:Int))=false->((0:Nat)<List.length [(Int.tmod (↑v2:Int) e==(0:Int),nL p v2)]/\Nat.le ((qr1 m p e.toNat v2).length+List.length [(Int.tmod (↑v2:Int) e==(0:Int),nL p v2)]) (1000000:Nat))/\fits .i64 ((↑v2:Int)+(1:Int))/\∃(v6:Nat),Nat.le v6 p.length/\p.length-v6<p.length-v2/\(True/\(↑v2:Int)+(1:Int)=(↑v6:Int)/\True)/\qr1 m p e.toNat v2++[(Int.tmod (↑v2:Int) e==(0:Int),nL p v2)]=qr1 m p e.toNat v6/\True))/\(decide ((↑v2:Int)<(↑p.length:Int))=false->qr1 m p e.toNat v2=qr1 m p e.toNat p.length)) ?_
 have hv:=Vp.of h.ok
 have p60:=hv.hi
 have lo:=h.lo
 have hi:=h.hi
 refine⟨(),0,zaf _,⟨rfl,rfl⟩,λk hk=>⟨λhlt=>?_,λhge=>?_⟩⟩
 ·have hl:=hv.len k hlt
  have p10:=hv.msk.pix10
  have el:=wb2 m p e.toNat k
  have hsn:qr1 m p e.toNat (k+1)=qr1 m p e.toNat k++[x9t m p e.toNat k]:=by simp[qr1,List.range_succ]
  have htm:(k:Int).tmod e=((k % e.toNat:Nat):Int):=by
   grind
  rw[htm]
  refine⟨hlt,ow,ow,λh0=>?_,λh0=>?_⟩
  ·have hk0:k≠0:=λe0=>h0 (by simp_all)
   have e1:((k:Int)-1).toNat=k-1:=ow
   have hc:=hv.chg (i:=k-1) (j:=k) ow hlt
   have hcl:(x5w (nL p (k-1)) (nL p k)).length=(nL p k).length:=w1c _ _ _
   rw[e1]
   refine⟨qa8,⟨ow,ow⟩,hc,ow,ow,qa8,k+1,hlt,ow,ow,?_⟩
   rw[hsn,x9t,zaj (λq=>h0 ow)]
   grind
  ·refine⟨ow,qa8,k+1,hlt,ow,ow,?_⟩
   have h1:k % e.toNat=0:=ow
   simp_all [x9t,if_pos]
 grind
abbrev y6m:qa7:=q7c (q1r [qg4,qf0,qc0]) true (some 24) (some 3) (λx=>q41 x.1 x.2.1 x.2.2.1=0->w2p x.1 x.2.1 x.2.2.1) (λx=>.tup (.cons (.dat (.list (.int .i64)) (ql9 x.1 x.2.1 x.2.2.1).1) (.cons (.lit (.int .i64 (ql9 x.1 x.2.1 x.2.2.1).2)) .nil)))
def x5x (m:List (List Int)) (out:List (List Int)):List AObj:=[.box 23 (.cons (.dat (.list (.int .i64)) m) .nil),.box 121 (.cons (.clo 273 .nil) .nil),.box 22 (.cons (.msl 3 .none) .nil),.mat 24 3 (.int .i64) out .none .none]
def y1p (m:List (List Int)) (L:List Fit):Nat->Option Inv
 | 0=>some (Inv.of [] 4 (λ_=>[]) (λc:Nat=>x5x m (whL (nL m 0).length (L.take c))) (λc=>c<=L.length) (λc=>c))
 | 1=>some (Eng.Inv.mk (Nat × Fit) Nat [12,13,37] 6 (λq i=>[(12,.own 5),(13,.lit (.bool (whB q.2 i))),(37,.lit (.int .i64 i))]) (λq i=>x5x m (whL (nL m 0).length (L.take q.1))++[.box 55 (.cons (.dat (.int .i64) q.2.1) (.cons (.dat qw6 q.2.2) .nil)),.vec 3 (.int .i64) (whX (nL m 0).length q.2 i)]) (λq i=>i<=q.2.1.length) (λq i=>q.2.1.length-i))
 | _=>none
theorem xw0:Meets Tryz.prog 235 y6m:=by
 refine q6s (x7s [65] [] (SpecsOk.cons wy4 (SpecsOk.cons q33 (SpecsOk.cons xl6 (SpecsOk.nil _)))) MutsOk.nil (ItsOk.cons q54 ItsOk.nil)) Tryz.func235 rfl rfl (qm4 _) (λx=>y1p x.1 (qc9 x.1 x.2.1 x.2.2.1)) (λ_=>by kernel_rfl) dc ?_
 rintro⟨m,y,k,⟨⟩⟩ h
 revert m y k
 intro(m:List (List Int)) (y:List Int) (k:Int) (h:q41 m y k=0->w2p m y k)
 refine vcs (let Q0:=qc9 m y k; let Q1:=ql9 m y k; True/\((q41 m y k != (0:Int))=true->Q1.1=[]/\q41 m y k=Q1.2/\True)/\((q41 m y k != (0:Int))=false->True/\q53 m y k/\∃(v1:Unit),∃(v2:Nat),Nat.le v2 Q0.length/\v2=(0:Nat)/\((m=m/\True)/\(True/\True)/\(True/\True)/\whL (nL m (0:Nat)).length (List.take v2 Q0)=[]/\True)/\∀(v3:Nat),Nat.le v3 Q0.length->(∀(v5:(List Int × List (Int × Int)) × qa3._f [] PUnit.unit),(List.map (λ(v7:List Int × List (Int × Int))=>(v7,())) Q0)[v3]?=some v5->((0:Int)<=(0:Int)/\(0:Int)<(↑m.length:Int))/\((↑(nL m (0:Nat)).length:Int)=(↑(nL m (0:Nat)).length:Int)/\(0:Int)<=(↑(nL m (0:Nat)).length:Int)/\(↑(nL m (0:Nat)).length:Int)<=(1000000:Int))/\∃(v7:Nat × Fit),∃(v8:Nat),Nat.le v8 v7.2.1.length/\((True/\true=whB v7.2 v8/\(0:Int)=(↑v8:Int)/\True)/\(m=m/\True)/\(True/\True)/\(True/\True)/\(whL (nL m (0:Nat)).length (List.take v3 Q0)=whL (nL m (0:Nat)).length (List.take v7.1 Q0)/\True/\True)/\(v5.1.1=v7.2.1/\v5.1.2=v7.2.2/\True)/\List.replicate (↑(nL m (0:Nat)).length:Int).toNat (Ty.dflt (TI.ty T3))=whX (nL m (0:Nat)).length v7.2 v8/\True)/\∀(v9:Nat),Nat.le v9 v7.2.1.length->(decide ((↑v9:Int)<(↑v5.1.1.length:Int))=true->((0:Int)<=(↑v9:Int)/\(↑v9:Int)<(↑v5.1.1.length:Int))/\((0:Int)<=(↑v9:Int)/\(↑v9:Int)<(↑v7.2.2.length:Int))/\(whB v7.2 v9=true->((0:Int)<=(↑v9:Int)/\(↑v9:Int)<(↑v7.2.2.length:Int))/\True/\((0:Int)<=nI v5.1.1 v9/\nI v5.1.1 v9<(↑(whX (nL m (0:Nat)).length v7.2 v9).length:Int))/\(nI v5.1.1 v9).toNat<(whX (nL m (0:Nat)).length v7.2 v9).length/\fits .i64 ((↑v9:Int)+(1:Int))/\∃(v13:Nat),Nat.le v13 v7.2.1.length/\v7.2.1.length-v13<v7.2.1.length-v9/\(True/\shB ((qe9 qw6 v7.2.2 v9).1,(qe9 qw6 v7.2.2 v9).2)=whB v7.2 v13/\(↑v9:Int)+(1:Int)=(↑v13:Int)/\True)/\(m=m/\True)/\(True/\True)/\(True/\True)/\(whL (nL m (0:Nat)).length (List.take v7.1 Q0)=whL (nL m (0:Nat)).length (List.take v7.1 Q0)/\True/\True)/\(v7.2.1=v7.2.1/\v7.2.2=v7.2.2/\True)/\List.set (whX (nL m (0:Nat)).length v7.2 v9) (nI v5.1.1 v9).toNat (qe9 qw6 v7.2.2 v9).1=whX (nL m (0:Nat)).length v7.2 v13/\True)/\(whB v7.2 v9=false->((0:Int)<=nI v5.1.1 v9/\nI v5.1.1 v9<(↑(whX (nL m (0:Nat)).length v7.2 v9).length:Int))/\(nI v5.1.1 v9).toNat<(whX (nL m (0:Nat)).length v7.2 v9).length/\fits .i64 ((↑v9:Int)+(1:Int))/\∃(v13:Nat),Nat.le v13 v7.2.1.length/\v7.2.1.length-v13<v7.2.1.length-v9/\(True/\false=whB v7.2 v13/\(↑v9:Int)+(1:Int)=(↑v13:Int)/\True)/\(m=m/\True)/\(True/\True)/\(True/\True)/\(whL (nL m (0:Nat)).length (List.take v7.1 Q0)=whL (nL m (0:Nat)).length (List.take v7.1 Q0)/\True/\True)/\(v7.2.1=v7.2.1/\v7.2.2=v7.2.2/\True)/\List.set (whX (nL m (0:Nat)).length v7.2 v9) (nI v5.1.1 v9).toNat (qe9 qw6 v7.2.2 v9).1=whX (nL m (0:Nat)).length v7.2 v13/\True))/\(decide ((↑v9:Int)<(↑v5.1.1.length:Int))=false->(whB v7.2 v9=true->((0:Nat)<(0:Nat)+(1:Nat)/\(whL (nL m (0:Nat)).length (List.take v7.1 Q0)).length+((0:Nat)+(1:Nat))<=(1000000:Nat))/\∃(v13:Nat),Nat.le v13 Q0.length/\v13=v3+(1:Nat)/\(m=m/\True)/\(True/\True)/\(True/\True)/\(whL (nL m (0:Nat)).length (List.take v7.1 Q0)++[whX (nL m (0:Nat)).length v7.2 v9]=whL (nL m (0:Nat)).length (List.take v13 Q0)/\True/\True)/\True)/\(whB v7.2 v9=false->∃(v13:Nat),Nat.le v13 Q0.length/\v13=v3+(1:Nat)/\(m=m/\True)/\(True/\True)/\(True/\True)/\(whL (nL m (0:Nat)).length (List.take v7.1 Q0)=whL (nL m (0:Nat)).length (List.take v13 Q0)/\True/\True)/\True)))/\(v3=(List.map (λ(v6:List Int × List (Int × Int))=>(v6,())) Q0).length->whL (nL m (0:Nat)).length (List.take v3 Q0)=Q1.1/\(0:Int)=Q1.2/\True))) ?_
 refine⟨λhe=>by grind [ql9],λhe=>?_⟩
 have hw:=h he
 have hlen:=hw.pre.len
 have hea:=hw.each
 have hone:=hw.pre.pre.one
 have hpx:=hw.pre.pre.pix
 have hR:ql9 m y k=(whL (nL m 0).length (qc9 m y k),0):=by rw[ql9,zam he]
 refine⟨hw.pre.pre,(),0,zaf _,rfl,rfl,?_⟩
 rw[hR]
 generalize qc9 m y k=L at hlen hea ⊢
 rintro c hc
 refine⟨?_,λhfin=>?_⟩
 ·rintro⟨f,⟨⟩⟩ hf
  rw[zbg] at hf
  obtain⟨f',h1,h2⟩:=zbx.1 hf
  obtain rfl:f'=f:=za1 Prod.fst h2
  have hlt:=(zag.1 h1).1
  have hfi:=hea f' (zah h1)
  have hf1:=hfi.len
  have hf2:=hfi.lenB
  have hsn:=x1r (nL m 0).length h1
  have hwl:(whL (nL m 0).length (L.take c)).length<=c:=by
   have h3:=zee (λf:Fit=>if whB f f.1.length=true then some (whX (nL m 0).length f f.1.length) else none) (L.take c)
   grind [whL,nL,List.length_take]
  dsimp only
  refine⟨ow,ow,(c,f'),0,zaf _,⟨⟨rfl,rfl⟩,rfl,⟨rfl,rfl⟩,rfl⟩,λi hi=>⟨λhlt2=>?_,λhge=>?_⟩⟩
  ·have hat:=hfi.at_ i hlt2
   have hxl:=q55 (nL m 0).length f' i
   dsimp only at hi ⊢
   rw[hxl]
   refine⟨hlt2,ow,λhb=>⟨ow,hat,ow,qa8,i+1,hlt2,ow,⟨?_,ow⟩,rfl⟩,λhb=>⟨hat,ow,qa8,i+1,hlt2,ow,⟨?_,ow⟩,rfl⟩⟩
   ·rw[whB,hb,Bool.true_and]; rfl
   ·rw[whB,hb,Bool.false_and]
  grind
 grind
abbrev y1q:qa7:=qe0 true none [q2a] [.bool] (λ_=>True) (λx=>(decide (x.1.2.length=0),()))
theorem w9w:Meets Tryz.prog 234 y1q:=by
 refine mt0 (SpecsOk.nil _) Tryz.func234 ?_
 rintro⟨⟨b,l⟩,⟨⟩⟩ -
 revert b l
 intro(b:Bool) (l:List Int)
 refine vcr (((↑l.length:Int)==(0:Int))=decide (l.length=(0:Nat))) ?_
 grind
def qt3 (a b:List Int):Nat->List Int
 | 0=>a
 | k+1=>(qt3 a b k).set k (nI (qt3 a b k) k+nI b k)
def nextL (m:List (List Int)) (b:List Int) (f:Frm) (t:Int):List Int:=
 if f.2.length=0 then[] else if f.1=true then f.2 else if b=[] then[]
 else if(ql9 m f.2 t).2=0/\(ql9 m f.2 t).1.length=1 then(if q6g m (qt3 (nL (ql9 m f.2 t).1 0) b b.length) then qt3 (nL (ql9 m f.2 t).1 0) b b.length else[])
 else[]
structure w3s (m:List (List Int)) (b:List Int) (f:Frm) (t:Int):Prop where
 val:qb6 m=true
 before:b=[]\/q6g m b=true
 len:f.2.length<=100000
 wh:f.1=false->q41 m f.2 t=0->w2p m f.2 t
theorem w1d (l:List Int) {p q:Nat} (h:q≠p) (x:Int):nI (l.set p x) q=nI l q:=by
 simp_all [nI,qe9,List.getD_eq_getElem?_getD,List.getElem?_set_ne,Ne.symm]
theorem w1e (a b:List Int):∀k,(qt3 a b k).length=a.length
 | 0=>rfl
 | k+1=>by rw[qt3,zbe,w1e a b k]
theorem ws1 (a b:List Int):∀(k c:Nat),k<=c->nI (qt3 a b k) c=nI a c
 | 0,c,_=>rfl
 | k+1,c,h=>by rw[qt3,w1d _ ow,ws1 a b k c ow]
theorem x4a {m:List (List Int)} {x:List Int} (h:q6g m x=true):x.length=(nL m 0).length/\∀j,j<x.length->qe6 1000 (nI x j):=by
 unfold q6g at h
 rw[zax,za5,zas] at h
 refine⟨h.1,λj hj=>?_⟩
 have:=qj9.1 (h.2 (nI x j) (by grind [qg3,List.getElem_mem]))
 omega
theorem x5y (n:Nat) (f:Fit):∀i,whB f i=true->∀c,c<n->qe6 1000000 (nI (whX n f i) c)
 | 0,_,c,hc=>by
  simp_all [qg3,q55,whX,List.getElem_replicate,qe6]
 | i+1,h,c,hc=>by
  rw[whB,zax] at h
  by_cases e:c=(nI f.1 i).toNat
  ·have h2:=h.2
   unfold shB at h2
   rw[zax] at h2
   have h3:=qj9.1 h2.2
   simp_all [whX,qg3,List.length_set,q55,List.getElem_set_self,qe6]
  ·rw[whX,w1d _ e]
   exact x5y n f i h.1 c hc
theorem xw1 {m:List (List Int)} {y:List Int} {k:Int} {r:List Int} (h:r∈(ql9 m y k).1):r.length=(nL m 0).length/\∀c,c<r.length->qe6 1000000 (nI r c):=by
 unfold ql9 at h
 split at h
 ·unfold whL at h
  obtain⟨f,_,h2⟩:=zcs.1 h
  split at h2
  ·rename_i hb
   obtain rfl:=zaa h2
   exact⟨q55 _ _ _,λc hc=>x5y _ f _ hb c (by grind [q55])⟩
  grind
 grind
theorem x4b {m:List (List Int)} {b:List Int} {l:List Int} {t:Int} (h0:¬l.length=0) (hb:b.isEmpty=false) (hw:(ql9 m l t).2=0/\(ql9 m l t).1.length=1) :
  nextL m b (false,l) t=if q6g m (qt3 (nL (ql9 m l t).1 0) b b.length) then qt3 (nL (ql9 m l t).1 0) b b.length else[]:=by
 simp_all [nextL,if_neg,if_pos]
abbrev y1r:qa7:=qe0 false none [qg4,.nlist qc0,q2a,qc0] [.nlist qc0] (λx=>w3s x.1 x.2.1 x.2.2.1 x.2.2.2.1) (λx=>(nextL x.1 x.2.1 x.2.2.1 x.2.2.2.1,()))
def yn9 (m:List (List Int)) (b:List Int) (f:Frm) (t:Int):Nat->Option Inv
 | 0=>some (Inv.of [11,49] 2 (λk:Nat=>[(11,.msl 1 (some 0)),(49,.lit (.int .i64 k))]) (λk=>[.box 202 (.cons (.lit (.bool f.1)) (.cons (.dat (.int .i64) f.2) .nil)),.mat 24 3 (.int .i64) [qt3 (nL (ql9 m f.2 t).1 0) b k] .none .none]) (λk=>k<=b.length) (λk=>b.length-k))
 | _=>none
theorem w9x:Meets Tryz.prog 179 y1r:=by
 refine meets (x7s [] [] (SpecsOk.cons w9w (SpecsOk.cons w09 (SpecsOk.cons xw0 (SpecsOk.cons w1b (SpecsOk.nil _))))) MutsOk.nil ItsOk.nil) Tryz.func179 rfl rfl (λx=>yn9 x.1 x.2.1 x.2.2.1 x.2.2.2.1) (λ_=>by kernel_rfl) dc ?_
 rintro⟨m,b,⟨key,l⟩,t,⟨⟩⟩ h
 revert m b key l t
 intro(m:List (List Int)) (b:List Int) (key:Bool) (l:List Int) (t:Int) (h:w3s m b (key,l) t)
 refine vcs (let Q0:=ql9 m l t; let Q1:=qe1 Q0.1.length none; True/\(decide (l.length=(0:Nat))=true->nextL m b (key,l) t=[])/\(decide (l.length=(0:Nat))=false->(key=true->(0:Nat)<l.length/\l.length<=(100000:Nat)/\l=nextL m b (key,l) t)/\(key=false->(List.isEmpty b=true->nextL m b (key,l) t=[])/\(List.isEmpty b=false->(q41 m l t=(0:Int)->w2p m l t)/\((Q0.2 != (0:Int))=true->nextL m b (key,l) t=[])/\((Q0.2 != (0:Int))=false->(((↑Q1:Int) != (1:Int))=true->nextL m b (key,l) t=[])/\(((↑Q1:Int) != (1:Int))=false->((0:Int)<=(0:Int)/\(0:Int)<(↑Q1:Int))/\(0:Nat)<qe1 Q0.1.length none/\∃(v5:Unit),∃(v6:Nat),Nat.le v6 b.length/\((some (0:Nat)=some (0:Nat)/\(0:Int)=(↑v6:Int)/\True)/\(key=key/\l=l/\True)/\(Q0.1=[qt3 (nL Q0.1 (0:Nat)) b v6]/\True/\True)/\True)/\∀(v7:Nat),Nat.le v7 b.length->(decide ((↑v7:Int)<(↑b.length:Int))=true->((0:Int)<=(↑v7:Int)/\(↑v7:Int)<(↑b.length:Int))/\((0:Int)<=(↑v7:Int)/\(↑v7:Int)<(↑(nL [qt3 (nL Q0.1 (0:Nat)) b v7] (0:Nat)).length:Int))/\v7<(nL [qt3 (nL Q0.1 (0:Nat)) b v7] (0:Nat)).length/\fits .i64 (nI (nL [qt3 (nL Q0.1 (0:Nat)) b v7] (0:Nat)) v7+qe9 qc0 b v7)/\((0:Int)<=(↑v7:Int)/\(↑v7:Int)<(↑(nL [qt3 (nL Q0.1 (0:Nat)) b v7] (0:Nat)).length:Int))/\v7<(nL [qt3 (nL Q0.1 (0:Nat)) b v7] (0:Nat)).length/\fits .i64 ((↑v7:Int)+(1:Int))/\∃(v10:Nat),Nat.le v10 b.length/\b.length-v10<b.length-v7/\(some (0:Nat)=some (0:Nat)/\(↑v7:Int)+(1:Int)=(↑v10:Int)/\True)/\(key=key/\l=l/\True)/\(List.set [qt3 (nL Q0.1 (0:Nat)) b v7] (0:Nat) (List.set (nL [qt3 (nL Q0.1 (0:Nat)) b v7] (0:Nat)) v7 (nI (nL [qt3 (nL Q0.1 (0:Nat)) b v7] (0:Nat)) v7+qe9 qc0 b v7))=[qt3 (nL Q0.1 (0:Nat)) b v10]/\True/\True)/\True)/\(decide ((↑v7:Int)<(↑b.length:Int))=false->qb6 m=true/\((!q6g m (nL [qt3 (nL Q0.1 (0:Nat)) b v7] (0:Nat)))=true->nextL m b (key,l) t=[])/\((!q6g m (nL [qt3 (nL Q0.1 (0:Nat)) b v7] (0:Nat)))=false->nL [qt3 (nL Q0.1 (0:Nat)) b v7] (0:Nat)=nextL m b (key,l) t/\Nat.le (1:Nat) (nL [qt3 (nL Q0.1 (0:Nat)) b v7] (0:Nat)).length)))))))) ?_
 refine⟨λh0=>zam h0,λh0=>⟨λhk=>⟨ow,h.len,?_⟩,λhk=>⟨λhb=>?_,λhb=>?_⟩⟩⟩
 ·simp_all [nextL,if_neg,if_pos]
 ·simp_all [nextL,if_neg,if_pos,List.isEmpty_iff]
 subst hk
 have hno:¬((ql9 m l t).2=0/\(ql9 m l t).1.length=1)->nextL m b (false,l) t=[]:=λhn=>by
  simp_all [nextL,if_neg]
 refine⟨h.wh rfl,λhe=>hno λq=>he q.1,λhe=>?_⟩
 simp only[qe1,qe8]
 refine⟨λhn=>hno λq=>hn ow,λhn=>⟨ow,ow,(),0,zaf _,⟨rfl,?_⟩,λk hk=>?_⟩⟩
 ·show _=[nL _ 0]
  obtain⟨r,hr⟩:=zdh.1 (show(ql9 m l t).1.length=1 by omega)
  rw[hr]; rfl
 have hpb:q6g m b=true:=by
  rcases h.before with e | e
  all_goals grind
 obtain⟨hbl,hbb⟩:=x4a hpb
 have hM:=Mk.of h.val
 have p1:=hM.pix1
 have p10:=hM.pix10
 obtain⟨hrl,hrb⟩:=xw1 (show nL (ql9 m l t).1 0∈(ql9 m l t).1 by grind [qn5,List.getElem_mem])
 simp only[w1e]
 refine⟨λhlt=>?_,λhge=>?_⟩
 ·have h1:=hbb k hlt
  have h2:=hrb k ow
  rw[ws1 _ _ k k (zac k)]
  unfold qe6 at h1 h2
  exact⟨hlt,ow,ow,qa8,ow,ow,qa8,k+1,hlt,ow,ow,by simp_all [qt3,ws1,Nat.le_refl]⟩
 ·obtain rfl:k=b.length:=ow
  have hn':=x4b (m:=m) h0 hb ⟨he,ow⟩
  exact⟨h.val,λhp=>by grind,λhp=>⟨by grind,ow⟩⟩
abbrev nFr (F:List Frm) (i:Nat):Frm:=qe9 (.prod .bool (.list (.int .i64))) F i
def qs4 (m:List (List Int)) (F:List Frm) (t:Int):Nat->List Int
 | 0=>[]
 | k+1=>nextL m (qs4 m F t k) (nFr F k) t
def xw2 (m:List (List Int)) (F:List Frm) (t:Int):Prop:=∀i,i<F.length->(nFr F i).1=false->q41 m (nFr F i).2 t=0->w2p m (nFr F i).2 t
structure w1f (F:List Frm) (m:List (List Int)) (t:Int):Prop where
 val:qb6 m=true
 size:F.length<=1000000
 len:∀i,i<F.length->(nFr F i).2.length<=100000
 key:∀i,i<F.length->(nFr F i).1=true->q6g m (nFr F i).2=true
 wh:xw2 m F t
abbrev y6n (i:Nat) (l:List Int):qa3 [qc0,.nlist qc0]:=((i:Int),l,())
def xx5 (F:List Frm) (m:List (List Int)) (t:Int):List (qa3 [qc0,.nlist qc0]):=(List.range F.length).map λi=>y6n i (qs4 m F t (i+1))
abbrev y1s:q1b:=w17 [.list q2a,qg4,qc0] [qc0,.nlist qc0] (λx=>w1f x.1 x.2.1 x.2.2.1) (λx=>xx5 x.1 x.2.1 x.2.2.1)
def y1t (F:List Frm) (m:List (List Int)) (t:Int):Nat->Option Inv
 | 0=>some (Inv.of [5,8,10] 1 (λk:Nat=>[(5,.ndat false (.int .i64) (qs4 m F t k)),(8,.dat (.prod .bool (.list (.int .i64))) F),(10,.lit (.int .i64 k))]) (λk=>[.cnt (some k)]) (λk=>k<=F.length) (λk=>F.length-k))
 | _=>none
theorem w6s {m:List (List Int)} {b:List Int} {f:Frm} {t:Int} (hk:f.1=true->q6g m f.2=true):nextL m b f t=[]\/q6g m (nextL m b f t)=true:=by
 unfold nextL
 grind
theorem w6t {F:List Frm} {m:List (List Int)} {t:Int} (h:w1f F m t):∀k,k<=F.length->qs4 m F t k=[]\/q6g m (qs4 m F t k)=true
 | 0,_=>.inl rfl
 | k+1,hk=>w6s (h.key k hk)
theorem w6u {m:List (List Int)} {x:List Int} (h:q6g m x=true):x.length=(nL m 0).length:=by
 simp_all [q6g,Bool.and_eq_true,decide_eq_true_eq]
theorem xw3:q0y Tryz.prog 178 y1s:=by
 refine says (snd (SpecsOk.cons w9x (SpecsOk.cons w1a (SpecsOk.nil _)))) Tryz.func178 rfl rfl rfl [21] (λx=>y1t x.1 x.2.1 x.2.2.1) (λ_=>by kernel_rfl) dc ?_
 rintro⟨F,m,t,⟨⟩⟩ l h
 revert F m t
 intro(F:List Frm) (m:List (List Int)) (t:Int) (h:w1f F m t)
 refine vcs (let Q0:=(F,m,t,PUnit.unit); let Q1:=xx5 F m t; ∃(v0:Unit),∃(v1:Nat),Nat.le v1 F.length/\((qs4 m F t v1=[]/\F=F/\(0:Int)=(↑v1:Int)/\True)/\some (0:Nat)=some v1/\True)/\∀(v2:Nat),Nat.le v2 F.length->(decide ((↑v2:Int)<(↑F.length:Int))=true->((0:Int)<=(↑v2:Int)/\(↑v2:Int)<(↑F.length:Int))/\w3s m (qs4 m F t v2) ((qe9 (Ty.prod Ty.bool (Ty.list (Ty.int .i64))) F v2).1,(qe9 (Ty.prod Ty.bool (Ty.list (Ty.int .i64))) F v2).2) t/\(nextL m (qs4 m F t v2) ((qe9 (Ty.prod Ty.bool (Ty.list (Ty.int .i64))) F v2).1,(qe9 (Ty.prod Ty.bool (Ty.list (Ty.int .i64))) F v2).2) t).length<=(100000:Nat)/\(List.isEmpty (nextL m (qs4 m F t v2) ((qe9 (Ty.prod Ty.bool (Ty.list (Ty.int .i64))) F v2).1,(qe9 (Ty.prod Ty.bool (Ty.list (Ty.int .i64))) F v2).2) t)=true->Value.slice none (0:Nat) (0:Nat)=Value.slice none (0:Nat) (0:Nat)/\Value.func (Fn.yield l) #[] #[]=Value.func (Fn.yield (qh4.l (q07 [Ty.list q2a,qg4,qc0] [qc0,Ty.nlist qc0] [(21:Nat)] Q0 Q1 l))) #[] #[]/\Value.slice none (0:Nat) (0:Nat)=Value.slice none (0:Nat) (0:Nat)/\(qh4.L (q07 [Ty.list q2a,qg4,qc0] [qc0,Ty.nlist qc0] [(21:Nat)] Q0 Q1 l))[v2]?=some ((↑v2:Int),[],())/\(fits .i64 ((↑v2:Int)+(1:Int))/\∃(v6:Nat),Nat.le v6 F.length/\F.length-v6<F.length-v2/\(nextL m (qs4 m F t v2) ((qe9 (Ty.prod Ty.bool (Ty.list (Ty.int .i64))) F v2).1,(qe9 (Ty.prod Ty.bool (Ty.list (Ty.int .i64))) F v2).2) t=qs4 m F t v6/\F=F/\(↑v2:Int)+(1:Int)=(↑v6:Int)/\True)/\some (v2+(1:Nat))=some v6/\True)/\True)/\(List.isEmpty (nextL m (qs4 m F t v2) ((qe9 (Ty.prod Ty.bool (Ty.list (Ty.int .i64))) F v2).1,(qe9 (Ty.prod Ty.bool (Ty.list (Ty.int .i64))) F v2).2) t)=false->Value.func (Fn.yield l) #[] #[]=Value.func (Fn.yield (qh4.l (q07 [Ty.list q2a,qg4,qc0] [qc0,Ty.nlist qc0] [(21:Nat)] Q0 Q1 l))) #[] #[]/\(0:Nat)<(nextL m (qs4 m F t v2) ((qe9 (Ty.prod Ty.bool (Ty.list (Ty.int .i64))) F v2).1,(qe9 (Ty.prod Ty.bool (Ty.list (Ty.int .i64))) F v2).2) t).length/\(qh4.L (q07 [Ty.list q2a,qg4,qc0] [qc0,Ty.nlist qc0] [(21:Nat)] Q0 Q1 l))[v2]?=some ((↑v2:Int),nextL m (qs4 m F t v2) ((qe9 (Ty.prod Ty.bool (Ty.list (Ty.int .i64))) F v2).1,(qe9 (Ty.prod Ty.bool (Ty.list (Ty.int .i64))) F v2).2) t,())/\(fits .i64 ((↑v2:Int)+(1:Int))/\∃(v6:Nat),Nat.le v6 F.length/\F.length-v6<F.length-v2/\(nextL m (qs4 m F t v2) ((qe9 (Ty.prod Ty.bool (Ty.list (Ty.int .i64))) F v2).1,(qe9 (Ty.prod Ty.bool (Ty.list (Ty.int .i64))) F v2).2) t=qs4 m F t v6/\F=F/\(↑v2:Int)+(1:Int)=(↑v6:Int)/\True)/\some (v2+(1:Nat))=some v6/\True)/\True))/\(decide ((↑v2:Int)<(↑F.length:Int))=false->v2=(qh4.L (q07 [Ty.list q2a,qg4,qc0] [qc0,Ty.nlist qc0] [(21:Nat)] Q0 Q1 l)).length)) ?_
 have hsz:=h.size
 have key:∀k,k<F.length->(xx5 F m t)[k]? = some ((k:Int),nextL m (qs4 m F t k) (nFr F k) t,()):=λk hk=>by
  unfold xx5
  rw[zbg,List.getElem?_range hk]
  rfl
 refine⟨(),0,zaf _,⟨⟨rfl,rfl⟩,rfl⟩,λk hk=>⟨λhlt=>?_,λhge=>?_⟩⟩
 ·have hn:nextL m (qs4 m F t k) (nFr F k) t=[]\/q6g m (nextL m (qs4 m F t k) (nFr F k) t)=true:=w6s (h.key k hlt)
  have hl:(nextL m (qs4 m F t k) (nFr F k) t).length<=100000:=by
   rcases hn with e | e
   ·grind
   ·have h1:=w6u e
    have h2:=(Mk.of h.val).pix10
    omega
  refine⟨hlt,⟨h.val,w6t h k hk,h.len k hlt,h.wh k hlt⟩,hl,λhe=>⟨rfl,?_,qa8,k+1,hlt,ow,⟨rfl,ow⟩,rfl⟩,λhe=>?_⟩
  ·have e:=List.isEmpty_iff.1 he
   have h1:=key k hlt
   rw[show nextL m (qs4 m F t k) (nFr F k) t=[] from e] at h1
   exact h1
  ·have hp:0<(nextL m (qs4 m F t k) (nFr F k) t).length:=by
    grind
   exact⟨rfl,hp,key k hlt,qa8,k+1,hlt,ow,⟨rfl,ow⟩,rfl⟩
 ·obtain rfl:k=F.length:=ow
  show _=(xx5 F m t).length
  simp[xx5]
abbrev y6o:qa7:=ww4 false none [qg4,.list q2a,qc0] (λ_=>True) (λx=>.clo 178 (.cons (.imm (.cons (.dat (.prod .bool (.list (.int .i64))) x.2.1) .nil) 0) (.cons (.imm (.cons (.dat (.list (.int .i64)) x.1) .nil) 0) (.cons (.imm (.cons (.lit (.int .i64 x.2.2.1)) .nil) 0) .nil))))
theorem xw4:Meets Tryz.prog 129 y6o:=by
 refine q6t (snd (SpecsOk.nil _)) Tryz.func129 rfl rfl (λx _=>none) (λ_=>by kernel_rfl) dc ?_
 rintro⟨m,F,t,⟨⟩⟩ -
 revert m F t
 intro(m:List (List Int)) (F:List Frm) (t:Int)
 refine vcr (((F=F/\True)/\(0:Nat)=(0:Nat))/\((m=m/\True)/\(0:Nat)=(0:Nat))/\((t=t/\True)/\(0:Nat)=(0:Nat))/\True) ?_
 simp
structure xw5 (m p:List (List Int)) (e t:Int):Prop where
 enc:w6r m p e
 wh:xw2 m (qr1 m p e.toNat p.length) t
def xx6 (m p:List (List Int)) (e t:Int):Bool:=(List.range p.length).all λi=>decide (qs4 m (qr1 m p e.toNat p.length) t (i+1)=nL p i)
abbrev y6p:qa7:=qe0 true none [qg4,qg4,qc0,qc0] [.bool] (λx=>xw5 x.1 x.2.1 x.2.2.1 x.2.2.2.1) (λx=>(xx6 x.1 x.2.1 x.2.2.1 x.2.2.2.1,()))
structure x4c (m p:List (List Int)) (e t:Int) (c:Nat):Prop where
 le:c<=p.length
 all:∀i,i<c->qs4 m (qr1 m p e.toNat p.length) t (i+1)=nL p i
def y1u (m p:List (List Int)) (e t:Int):Nat->Option Inv
 | 0=>some (Inv.of [] 2 (λ_=>[]) (λc:Nat=>[.box 22 (.cons (.dat (.list (.int .i64)) p) .nil),.box 4 (.cons (.lit (.bool false)) .nil)]) (λc=>x4c m p e t c) (λc=>c))
 | _=>none
theorem xw6:Meets Tryz.prog 82 y6p:=by
 refine meets (yf1 (SpecsOk.cons xv9 (SpecsOk.cons xw4 (SpecsOk.cons xk1 (SpecsOk.nil _)))) (ItsOk.cons xw3 ItsOk.nil)) Tryz.func82 rfl rfl (λx=>y1u x.1 x.2.1 x.2.2.1 x.2.2.2.1) (λ_=>by kernel_rfl) dc ?_
 rintro⟨m,p,e,t,⟨⟩⟩ h
 revert m p e t
 intro(m:List (List Int)) (p:List (List Int)) (e:Int) (t:Int) (h:xw5 m p e t)
 refine vcs (let Q0:=qr1 m p e.toNat p.length; w6r m p e/\True/\w1f Q0 m t/\∃(v0:Unit),∃(v1:Nat),x4c m p e t v1/\v1=(0:Nat)/\((p=p/\True)/\(false=false/\True)/\True)/\∀(v2:Nat),x4c m p e t v2->(∀(v4:Int × qa3._f [Ty.nlist qc0] ⟨qa3._f [] PUnit.unit,PUnit.unit⟩),(xx5 Q0 m t)[v2]?=some v4->(List.isEmpty v4.2.1=true->false=xx6 m p e t)/\(List.isEmpty v4.2.1=false->((0:Int)<=v4.1/\v4.1<(↑p.length:Int))/\v4.2.1.length<=(1000000:Nat)/\((!decide (v4.2.1=nL p v4.1.toNat))=true->false=xx6 m p e t)/\((!decide (v4.2.1=nL p v4.1.toNat))=false->∃(v8:Nat),x4c m p e t v8/\v8=v2+(1:Nat)/\(p=p/\True)/\(false=false/\True)/\True)))/\(v2=(xx5 Q0 m t).length->true=xx6 m p e t)) ?_
 have hv:=Vp.of h.enc.ok
 have p60:=hv.hi
 have p1:=hv.msk.pix1
 have p10:=hv.msk.pix10
 generalize hF:qr1 m p e.toNat p.length=F
 have hFl:F.length=p.length:=by grind [wb2]
 have hat:∀i,i<p.length->nFr F i=x9t m p e.toNat i:=λi hi=>by
  rw[<- hF]
  unfold nFr
  grind [qo3,wb2,qr1]
 have hpic:∀i,i<p.length->q6g m (nL p i)=true:=λi hi=>by
  have h1:=h.enc.ok
  simp_all [vpB,Bool.and_eq_true,List.all_eq_true,qn5,List.getElem_mem]
 have hD:w1f F m t:=by
  refine⟨hv.val,ow,λi hi=>?_,λi hi hk=>?_,?_⟩
  ·rw[hat i ow]
   unfold x9t
   split
   ·have:=hv.len i ow; grind
   ·show(qt8 m _).1.length<=_
    unfold qt8
    split
    ·have:=hv.msk.rows6; grind [qc8,List.length_map,List.length_range]
    simp
  ·rw[hat i ow] at hk ⊢
   unfold x9t at hk ⊢
   grind
  ·rw[<- hF]; exact h.wh
 have hrig:xx6 m p e t=(List.range p.length).all λi=>decide (qs4 m F t (i+1)=nL p i):=by unfold xx6; rw[hF]
 have hno:∀i,i<p.length->¬qs4 m F t (i+1)=nL p i->false=xx6 m p e t:=λi hi hne=>by
  grind
 refine⟨h.enc,hD,(),0,⟨zaf _,λi hi=>absurd hi ow⟩,rfl,λc hc=>⟨?_,λhfin=>?_⟩⟩
 ·rintro⟨i,x,⟨⟩⟩ hx
  unfold xx5 at hx
  rw[zbg] at hx
  obtain⟨j,hj,e1⟩:=zbx.1 hx
  have hcl:c<F.length:=by
   grind
  rw[List.getElem?_range hcl] at hj
  obtain rfl:=zaa hj
  obtain⟨rfl,rfl⟩:i=(c:Int)/\x=qs4 m F t (c+1):=⟨(za1 Prod.fst e1).symm,(za1 (λq=>q.2.1) e1).symm⟩
  dsimp only
  have hcp:c<p.length:=ow
  have hl:=hv.len c hcp
  refine⟨λhemp=>hno c hcp λq=>?_,λhemp=>⟨⟨ow,ow⟩,?_,λhne=>?_,λheq=>?_⟩⟩
  ·grind
  ·rcases w6t hD (c+1) hcl with q | q
   ·grind
   grind [w6u]
  ·exact hno c hcp hne
  ·refine⟨c+1,⟨hcp,λi hi=>?_⟩,rfl⟩
   rw[hF]
   by_cases q:i=c
   ·subst q; exact heq
   ·have:=hc.all i ow; grind
 ·have hfin:c=p.length:=by grind [xx5]
  rw[hrig]
  symm
  rw[zas]
  intro i hi
  have hi:=za4.1 hi
  have:=hc.all i ow
  grind
def w6v (m p:List (List Int)) (e t:Int):Bool × Int:=if vpB m p=false then(false,1) else if inB e 1 60 && inB t 0 (nL m 0).length then(xx6 m p e t,0) else(false,7)
abbrev y6q:qa7:=qe0 true none [qg4,qg4,qc0,qc0] [.bool,qc0] (λx=>(w6v x.1 x.2.1 x.2.2.1 x.2.2.2.1).2=0->xw2 x.1 (qr1 x.1 x.2.1 x.2.2.1.toNat x.2.1.length) x.2.2.2.1) (λx=>((w6v x.1 x.2.1 x.2.2.1 x.2.2.2.1).1,(w6v x.1 x.2.1 x.2.2.1 x.2.2.2.1).2,()))
theorem xw7:Meets Tryz.prog 34 y6q:=by
 refine mt0 (SpecsOk.cons x37 (SpecsOk.cons q0x (SpecsOk.cons xw6 (SpecsOk.nil _)))) Tryz.func34 ?_
 rintro⟨m,p,e,t,⟨⟩⟩ h
 revert m p e t
 intro(m:List (List Int)) (p:List (List Int)) (e:Int) (t:Int) (h:(w6v m p e t).2=0->xw2 m (qr1 m p e.toNat p.length) t)
 refine vcs (let Q0:=w6v m p e t; True/\((!vpB m p)=true->false=Q0.1/\(1:Int)=Q0.2/\True)/\((!vpB m p)=false->True/\((!inB e (1:Int) (60:Int))=true->false=Q0.1/\(7:Int)=Q0.2/\True)/\((!inB e (1:Int) (60:Int))=false->((0:Int)<=(0:Int)/\(0:Int)<(↑m.length:Int))/\True/\((!inB t (0:Int) (↑(nL m (0:Nat)).length:Int))=true->false=Q0.1/\(7:Int)=Q0.2/\True)/\((!inB t (0:Int) (↑(nL m (0:Nat)).length:Int))=false->xw5 m p e t/\xx6 m p e t=Q0.1/\(0:Int)=Q0.2/\True)))) ?_
 have h7:vpB m p=true->(inB e 1 60 && inB t 0 (nL m 0).length)=false->(w6v m p e t).1=false/\(w6v m p e t).2=7:=λhv hb=>by grind [w6v]
 refine⟨λhv=>by grind [w6v],λhv=>⟨λhe=>?_,λhe=>⟨by have:=(Vp.of hv).msk.rows1; omega,λht=>?_,λht=>?_⟩⟩⟩
 ·grind
 ·grind
 ·have hs:w6v m p e t=(xx6 m p e t,0):=by grind [w6v]
  rw[hs] at h ⊢
  exact⟨⟨⟨hv,(qj9.1 he).1,(qj9.1 he).2⟩,h rfl⟩,rfl,rfl⟩
def smB (m:List (List Int)) (n:Int):Bool:=(m.all λl=>decide ((l.length:Int)<=n)) && decide (m.length<=6)
structure yp2 (m:List (List Int)) (n:Int) (k:Nat):Prop where
 le:k<=m.length
 all:∀i,i<k->((nL m i).length:Int)<=n
def y6r (m:List (List Int)) (n:Int):Nat->Option Inv
 | 0=>some (Inv.of [9] 0 (λk:Nat=>[(9,.lit (.int .i64 k))]) (λ_=>[]) (λk=>yp2 m n k) (λk=>m.length-k))
 | _=>none
abbrev sSm:qa7:=qe0 true none [qg4,qc0] [.bool] (λx=>x.1.length<=9223372036854775807) (λx=>(smB x.1 x.2.1,()))
theorem x4d:Meets Tryz.prog 8 sSm:=by
 refine mts (SpecsOk.nil _) Tryz.func8 (λx=>y6r x.1 x.2.1) ?_
 rintro⟨m,n,⟨⟩⟩ h
 revert m n
 intro(m:List (List Int)) (n:Int) (h:m.length<=9223372036854775807)
 refine vcs (∃(v0:Unit),∃(v1:Nat),yp2 m n v1/\(((0:Int)=(↑v1:Int)/\True)/\True)/\∀(v2:Nat),yp2 m n v2->(decide ((↑v2:Int)<(↑m.length:Int))=true->((0:Int)<=(↑v2:Int)/\(↑v2:Int)<(↑m.length:Int))/\(decide (n<(↑(nL m v2).length:Int))=true->false=smB m n)/\(decide (n<(↑(nL m v2).length:Int))=false->fits .i64 ((↑v2:Int)+(1:Int))/\∃(v6:Nat),yp2 m n v6/\m.length-v6<m.length-v2/\((↑v2:Int)+(1:Int)=(↑v6:Int)/\True)/\True))/\(decide ((↑v2:Int)<(↑m.length:Int))=false->decide ((↑m.length:Int)<=(6:Int))=smB m n)) ?_
 refine⟨(),0,⟨zaf _,λi hi=>absurd hi ow⟩,rfl,λk hk=>⟨λhlt=>⟨hlt,λhn=>?_,λhn=>?_⟩,λhge=>?_⟩⟩
 ·grind [smB,decide,List.all_eq_false,nL,qn5,List.getElem_mem]
 ·refine⟨qa8,k+1,⟨hlt,λi hi=>?_⟩,ow,ow⟩
  by_cases q:i=k
  ·grind
  ·exact hk.all i ow
 ·have hkl:=hk.le
  have:(m.all λl=>decide ((l.length:Int)<=n))=true:=by
   rw[zas]
   intro l hl
   obtain⟨i,hi,rfl⟩:=zbt hl
   have:=hk.all i ow
   grind [qn5,decide_eq_true]
  unfold smB
  grind
def x9u (l:List (List Int)) (k:Nat):Nat->Int × Int
 | 0=>(0,1)
 | i+1=>wo6 (x9u l k i) (ofR (q0v (szV (nL l i)) ((xr0 (nL l i)).take k)) (szL (nL l i)))
theorem w6w (l:List (List Int)) (k:Nat):∀n,qk2 l k n=x9u l k n
 | 0=>rfl
 | n+1=>by
  rw[qk2,x9u,w6w l k n]
  grind [shR,q5a]
abbrev m9:List (List Int):=[[1,1,0],[0,1,1]]
abbrev p9:List (List Int):=[[0,0,0],[0,5,0]]
theorem y6s:wp0 m9=(1,0):=by
 have hc:(qh9 m9).1=[[1,-1,1]]:=by rfl
 have hv:qb6 m9=true:=by rfl
 unfold wp0 ordL
 rw[zam hv,hc]
 show(((ordF [[1,-1,1]] 3 0:Nat):Int),(0:Int))=(1,0)
 simp only[ordF,w6w]
 rfl
theorem cc9:x2i m9:=ya2 λ_=>by show 3<=7; decide
theorem y6t:w6v m9 p9 2 1=(true,0):=by rfl
theorem wh9:xw2 m9 (qr1 m9 p9 2 2) 1:=by
 intro i hi h1 h2
 have hi:i<2:=hi
 match i,hi,h1 with
 | 0,_,h1=>cases h1
 | 1,_,_=>
  show w2p m9 [5,5] 1
  have hL:qc9 m9 [5,5] 1=[([1],[(5,1)])]:=by rfl
  refine⟨⟨⟨dc,dc,dc,dc,dc,λj hj s hs=>?_⟩,by grind⟩,λf hf=>?_⟩
  ·have hN:fitsN m9 1=2:=by rfl
   have:=q46 hs
   grind [xn2]
  ·rw[hL] at hf
   obtain rfl:=zat.1 hf
   refine⟨rfl,dc,λj hj=>?_⟩
   obtain rfl:j=0:=by grind
   exact⟨dc,dc⟩
abbrev y1v:qa7:=qe0 true none [] [.bool] (λ_=>True) (λ_=>(true,()))
theorem w9y:Meets Tryz.prog 10 y1v:=by
 refine mt0 (SpecsOk.cons q92 (SpecsOk.cons w9v (SpecsOk.cons xw7 (SpecsOk.nil _)))) Tryz.func10 ?_
 rintro⟨⟩ -
 refine vcs (x2i [[(1:Int),(1:Int),(0:Int)],[(0:Int),(1:Int),(1:Int)]]/\True/\((0:Int)=(0:Int)->∀(v1:Nat),Nat.le (Nat.succ v1) (2:Nat)->(nFr (qr1 [[(1:Int),(1:Int),(0:Int)],[(0:Int),(1:Int),(1:Int)]] [[(0:Int),(0:Int),(0:Int)],[(0:Int),(5:Int),(0:Int)]] (2:Nat) (2:Nat)) v1).1=false->q41 [[(1:Int),(1:Int),(0:Int)],[(0:Int),(1:Int),(1:Int)]] (nFr (qr1 [[(1:Int),(1:Int),(0:Int)],[(0:Int),(1:Int),(1:Int)]] [[(0:Int),(0:Int),(0:Int)],[(0:Int),(5:Int),(0:Int)]] (2:Nat) (2:Nat)) v1).2 (1:Int)=(0:Int)->w2p [[(1:Int),(1:Int),(0:Int)],[(0:Int),(1:Int),(1:Int)]] (nFr (qr1 [[(1:Int),(1:Int),(0:Int)],[(0:Int),(1:Int),(1:Int)]] [[(0:Int),(0:Int),(0:Int)],[(0:Int),(5:Int),(0:Int)]] (2:Nat) (2:Nat)) v1).2 (1:Int))/\(((0:Int)==(0:Int))=true->(((wp0 [[(1:Int),(1:Int),(0:Int)],[(0:Int),(1:Int),(1:Int)]]).1==(1:Int))=true->(((0:Int)==(0:Int))=true->(((↑(6:Nat):Int)==(6:Int))=true->(((0:Int)==(0:Int))=true->(w6v [[(1:Int),(1:Int),(0:Int)],[(0:Int),(1:Int),(1:Int)]] [[(0:Int),(0:Int),(0:Int)],[(0:Int),(5:Int),(0:Int)]] (2:Int) (1:Int)).1=true)/\(((0:Int)==(0:Int))=false->false=true))/\(((↑(6:Nat):Int)==(6:Int))=false->false=true))/\(((0:Int)==(0:Int))=false->false=true))/\(((wp0 [[(1:Int),(1:Int),(0:Int)],[(0:Int),(1:Int),(1:Int)]]).1==(1:Int))=false->false=true))/\(((0:Int)==(0:Int))=false->false=true)) ?_
 have ho:(wp0 m9).1=1:=za1 Prod.fst y6s
 have hs:(w6v m9 p9 2 1).1=true:=za1 Prod.fst y6t
 exact⟨cc9,wh9,⟨⟨λ_=>⟨⟨λ_=>⟨hs,λq=>absurd trivial q⟩,λq=>absurd rfl q⟩,λq=>absurd trivial q⟩,λq=>absurd ho q⟩,λq=>absurd trivial q⟩⟩
open Go Go.Proofs Go.RowKit Eng
open Go Go.RowKit Eng Ls
open Go Go.RowKit Eng
theorem wrap_small {x:Int} (h0:0<=x) (h1:x<=1000):IntKind.i64.wrap x=x:=by
 have hm:x % 18446744073709551616=x:=ow
 show(if(true && decide (x % 18446744073709551616 ≥ 9223372036854775808))=true then x % 18446744073709551616-18446744073709551616 else x % 18446744073709551616)=x
 grind
theorem w6x {m:List (List Int)} (hM:Mk m) (h7:(nL m 0).length<=7):q03 m=true:=by
 have m6:=hM.rows6
 have key:∀k,k<=m.length->0<=w2m m k/\w2m m k<=8*k:=by
  intro k
  induction k with
  | zero=>simp_all [Int.le_refl,w2m]
  | succ k ih=>
   intro hk
   have h1:=ih ow
   have h2:=hM.each k ow
   grind [nL,wrap_small,w2m]
 have hk:=key m.length (zac _)
 unfold q03
 rw[zcq (show w2m m m.length<=200 by omega),Bool.and_true,zed,zb3]
 intro l hl
 obtain⟨i,hi,rfl⟩:=zbt hl
 have:=hM.each i hi
 grind [qn5,x7t,decide_eq_false]
theorem xw8 {m:List (List Int)} {n:Nat} (h:smB m n=true) (h1:1<=m.length):(nL m 0).length<=n:=by
 unfold smB at h
 rw[zax,zas] at h
 have:=zbf (h.1 (nL m 0) (by grind [qn5,List.getElem_mem]))
 omega
theorem x9v {m:List (List Int)} {x:List Int} (hF:x5q m) (he:wb3 m x=0) (hr:qm7 m (qc8 m x) []=0) (hk:nzTo x x.length<=ordL m):xu0 (qc9 m (qc8 m x) 10)=[q19 m x]:=by
 have hS:=Shw.of he
 have hn:=hF.n7 hS.val
 have hs:=x3o hF he hk
 unfold yo8 at hs
 rw[zax,za5,za5] at hs
 obtain⟨g1,g2⟩:=w6i (m:=m) (y:=qc8 m x) hn
 exact(w9h hS.val hn hS.len hr g1 g2).2 ((xt8 m x).1 hs.2)
theorem y1w (a:Int):ofR a 1=(a,1):=by
 have:=w3e (b:=1) (x:=a) dc
 grind
theorem x4e (m:List (List Int)) (x:List Int):nrQ (q19 m x)=(sA (nL m 0).length (nI x),1):=by
 grind [w6f,nrQ,y1w]
structure y6u (m:List (List Int)) (x:List Int):Prop where
 sh:Shw m x
 ask:q6e m (qc8 m x)=(((m,qc8 m x),(sA (nL m 0).length (nI x),1),[q19 m x]),0)
 askP:xu8 m (qc8 m x)
 fd:fdR m x=(true,0)
 fdP:FdP m x
theorem y6v {m:List (List Int)} {x:List Int} (hF:x5q m) (he:wb3 m x=0) (hr:qm7 m (qc8 m x) []=0) (hk:nzTo x x.length<=ordL m):y6u m x:=by
 have hS:=Shw.of he
 have hn:=hF.n7 hS.val
 have hM:=hS.msk
 have h10:=hM.pix10
 have h1:=x9v hF he hr hk
 have hA:q6e m (qc8 m x)=(((m,qc8 m x),(sA (nL m 0).length (nI x),1),[q19 m x]),0):=by
  unfold q6e yp0
  rw[zaj (λq=>q hr),h1,zaj (by simp)]
  show(((m,qc8 m x),nrQ (q19 m x),[q19 m x]),_)=_
  rw[x4e]
 have hmem:q19 m x∈qc9 m (qc8 m x) 10:=((w6i (m:=m) (y:=qc8 m x) hn).1.least (q19 m x) (by grind)).1
 have hP:xu8 m (qc8 m x):=⟨λ_=>w5m hF.fit hM hn dc dc,λ_ f hf=>ym3 hf,λ_=>by grind⟩
 have hC:wb5 m (qc8 m x)=([spF m (q19 m x)],0):=by grind [wb5]
 have hout:w2g (qc8 m x)=false:=by
  cases q:w2g (qc8 m x) with
  | false=>rfl
  | true=>
   unfold qm7 at hr
   grind
 obtain⟨n1,n2⟩:=qf3 (nI x) (nL m 0).length
 have hlen:(spF m (q19 m x)).length=(nL m 0).length:=by grind [spF,q21]
 refine⟨hS,hA,hP,?_,by have:=hS.len; omega,λ_ _=>⟨⟨hP,λf hf=>?_⟩,λ_ _=>?_⟩⟩
 ·unfold fdR
  rw[zaj (λq=>q he),hout,zaj dc,hC,zaj (by simp)]
  rw[(x3n hM hS.len hmem).2 rfl]
 ·rw[hA] at hf ⊢
  obtain rfl:=zat.1 hf
  have:=hM.rows1
  have:=hM.pix1
  refine⟨by grind,by grind,by grind,by simp[q19],?_,n1.at_⟩
  have:=n1.len
  show(qk6 (nL m 0).length (nI x)).length<=_
  omega
 ·rw[hC]
  show(spF m (q19 m x)).length<=_
  rw[hlen,hS.len]; simp
theorem x4f {m:List (List Int)} {x:List Int} (hF:x5q m) (he:wb3 m x=0) (hr:qm7 m (qc8 m x) []=0) (hk:nzTo x x.length<=ordL m):xl4 m (qc8 m x)=(q19 m x,0):=by
 have hS:=Shw.of he
 have hn:=hF.n7 hS.val
 have hl:=w6x hS.msk hn
 have ho:=(x3t hF hS.val).2
 rw[xt2 hl] at ho
 obtain⟨p1,p2⟩:=xv0 hl he (by grind [w2u]) ow
 rw[p1.only hn p2]
 have e:Go.Proofs.YtnchigbbjajiiaaGreat.shF x=q19 m x:=by
  show x8t x x.length=_
  rw[wq6,hS.len]; rfl
 rw[e]
def y1x (l:List Int):Nat->Option Inv
 | 0=>some (Inv.of [3,8] 0 (λk:Nat=>[(3,.lit (.int .i64 (nzTo l k))),(8,.lit (.int .i64 k))]) (λ_=>[]) (λk=>k<=l.length) (λk=>l.length-k))
 | _=>none
abbrev y6w:qa7:=qe0 true none [qf0] [qc0] (λx=>x.1.length<=1000000) (λx=>((nzTo x.1 x.1.length:Nat),()))
theorem xw9:Meets Tryz.prog 27 y6w:=by
 refine mts (SpecsOk.nil _) Tryz.func27 (λx=>y1x x.1) ?_
 rintro⟨l,⟨⟩⟩ h
 revert l
 intro(l:List Int) (h:l.length<=1000000)
 refine vcs (∃(v0:Unit),∃(v1:Nat),Nat.le v1 l.length/\(((0:Int)=(↑(nzTo l v1):Int)/\(0:Int)=(↑v1:Int)/\True)/\True)/\∀(v2:Nat),Nat.le v2 l.length->(decide ((↑v2:Int)<(↑l.length:Int))=true->((0:Int)<=(↑v2:Int)/\(↑v2:Int)<(↑l.length:Int))/\((nI l v2 != (0:Int))=true->fits .i64 ((↑(nzTo l v2):Int)+(1:Int))/\fits .i64 ((↑v2:Int)+(1:Int))/\∃(v6:Nat),Nat.le v6 l.length/\l.length-v6<l.length-v2/\((↑(nzTo l v2):Int)+(1:Int)=(↑(nzTo l v6):Int)/\(↑v2:Int)+(1:Int)=(↑v6:Int)/\True)/\True)/\((nI l v2 != (0:Int))=false->fits .i64 ((↑v2:Int)+(1:Int))/\∃(v6:Nat),Nat.le v6 l.length/\l.length-v6<l.length-v2/\((↑(nzTo l v2):Int)=(↑(nzTo l v6):Int)/\(↑v2:Int)+(1:Int)=(↑v6:Int)/\True)/\True))/\(decide ((↑v2:Int)<(↑l.length:Int))=false->(↑(nzTo l v2):Int)=(↑(nzTo l l.length):Int))) ?_
 refine⟨(),0,zaf _,⟨rfl,rfl⟩,λi hi=>⟨λhlt=>?_,λhge=>?_⟩⟩
 ·have:=xk5 l i
  exact⟨hlt,λhz=>⟨qa8,qa8,i+1,hlt,ow,by rw[nzTo,zam hz]; omega,ow⟩,λhz=>⟨qa8,i+1,hlt,ow,by rw[nzTo,zaj (λq=>q hz)],ow⟩⟩
 ·obtain rfl:i=l.length:=ow
  rfl
abbrev y6x:qa7:=qe0 true none [qg4,qf0] [.bool] (λ_=>True) (λx=>(decide (qm7 x.1 x.2.1 []=0),()))
theorem xx0:Meets Tryz.prog 28 y6x:=by
 refine mt0 (SpecsOk.cons q1v (SpecsOk.nil _)) Tryz.func28 ?_
 rintro⟨m,y,⟨⟩⟩ -
 revert m y
 intro(m:List (List Int)) (y:List Int)
 refine vcr (Value.slice none (0:Nat) (0:Nat)=Value.slice none (0:Nat) (0:Nat)/\(0:Nat)<=(1000000:Nat)/\(qm7 m y []==(0:Int))=decide (qm7 m y []=(0:Int))) ?_
 grind
def szX (x P:List Int) (k:Nat):Int:=sm k λj=>qd5 (nI x (nI P j).toNat)
def y1y (x:List Int) (F:Fit) (q:Int × Int):Nat->Option Inv
 | 0=>some (Inv.of [15,109] 33 (λk:Nat=>[(15,.lit (.int .i64 (szX x F.1 k))),(109,.lit (.int .i64 k))]) (λ_=>.box 55 (.cons (.dat (.int .i64) F.1) (.cons (.dat qw6 F.2) .nil)) :: .box 43 (.cons (.lit (.int .i64 q.1)) (.cons (.lit (.int .i64 q.2)) .nil)) :: List.replicate 31 .dead) (λk=>k<=F.1.length) (λk=>F.1.length-k))
 | _=>none
abbrev y6y:qa7:=qe0 true none [qg4,qf0] [.bool] (λx=>x08 x.1/\x.2.1.length<=9223372036854775807) (λ_=>(true,()))
theorem xx1:Meets Tryz.prog 5 y6y:=by
 refine mts (SpecsOk.cons x4d (SpecsOk.cons w9y (SpecsOk.cons q92 (SpecsOk.cons q52 (SpecsOk.cons xw9 (SpecsOk.cons xx0 (SpecsOk.cons x3s (SpecsOk.cons xl5 (SpecsOk.cons w9o (SpecsOk.nil _)))))))))) Tryz.func5 (λx=>y1y x.2.1 (xl4 x.1 (qt8 x.1 x.2.1).1).1 (q6e x.1 (qt8 x.1 x.2.1).1).1.2.1) ?_
 rintro⟨m,x,⟨⟩⟩ h
 revert m x
 intro(m:List (List Int)) (x:List Int) (h:x08 m/\x.length<=9223372036854775807)
 refine vcs (let Q0:=xl4 m (qt8 m x).1; let Q1:=q6e m (qt8 m x).1; let Q2:=nzTo x x.length; let Q3:=qt8 m x; m.length<=(9223372036854775807:Nat)/\((!smB m (6:Int))=true->True/\true=true)/\((!smB m (6:Int))=false->(decide ((10:Int)<(↑x.length:Int))=true->True/\true=true)/\(decide ((10:Int)<(↑x.length:Int))=false->x2i m/\x.length<=(1000000:Nat)/\(((wp0 m).2 != (0:Int))=true->True/\true=true)/\(((wp0 m).2 != (0:Int))=false->((Q3.2 != (0:Int))=true->True/\true=true)/\((Q3.2 != (0:Int))=false->x.length<=(1000000:Nat)/\(decide ((wp0 m).1<(↑Q2:Int))=true->True/\true=true)/\(decide ((wp0 m).1<(↑Q2:Int))=false->True/\((!decide (qm7 m Q3.1 []=(0:Int)))=true->True/\true=true)/\((!decide (qm7 m Q3.1 []=(0:Int)))=false->FdP m x/\q9j m Q3.1/\xu8 m Q3.1/\(((fdR m x).2 != (0:Int))=true->false=true)/\(((fdR m x).2 != (0:Int))=false->((!(fdR m x).1)=true->false=true)/\((!(fdR m x).1)=false->((Q0.2 != (0:Int))=true->false=true)/\((Q0.2 != (0:Int))=false->x.length<=(1000000:Nat)/\(((↑Q0.1.1.length:Int) != (↑Q2:Int))=true->false=true)/\(((↑Q0.1.1.length:Int) != (↑Q2:Int))=false->(((↑Q0.1.2.length:Int) != (↑Q0.1.1.length:Int))=true->false=true)/\(((↑Q0.1.2.length:Int) != (↑Q0.1.1.length:Int))=false->((Q1.2 != (0:Int))=true->false=true)/\((Q1.2 != (0:Int))=false->∃(v12:Unit),∃(v13:Nat),Nat.le v13 Q0.1.1.length/\(((0:Int)=szX x Q0.1.1 v13/\(0:Int)=(↑v13:Int)/\True)/\(Q0.1.1=Q0.1.1/\Q0.1.2=Q0.1.2/\True)/\(Q1.1.2.1.1=Q1.1.2.1.1/\Q1.1.2.1.2=Q1.1.2.1.2/\True)/\True/\True/\True/\True/\True/\True/\True/\True/\True/\True/\True/\True/\True/\True/\True/\True/\True/\True/\True/\True/\True/\True/\True/\True/\True/\True/\True/\True/\True/\True/\True/\True)/\∀(v14:Nat),Nat.le v14 Q0.1.1.length->(decide ((↑v14:Int)<(↑Q0.1.1.length:Int))=true->((0:Int)<=(↑v14:Int)/\(↑v14:Int)<(↑Q0.1.1.length:Int))/\(decide (nI Q0.1.1 v14<(0:Int))=true->false=true)/\(decide (nI Q0.1.1 v14<(0:Int))=false->(decide ((↑x.length:Int)<=nI Q0.1.1 v14)=true->false=true)/\(decide ((↑x.length:Int)<=nI Q0.1.1 v14)=false->((0:Int)<=(↑v14:Int)/\(↑v14:Int)<(↑Q0.1.2.length:Int))/\((0:Int)<=nI Q0.1.1 v14/\nI Q0.1.1 v14<(↑x.length:Int))/\((!((nR Q0.1.2 v14).1==nI x (nI Q0.1.1 v14).toNat && (nR Q0.1.2 v14).2==(1:Int)))=true->false=true)/\((!((nR Q0.1.2 v14).1==nI x (nI Q0.1.1 v14).toNat && (nR Q0.1.2 v14).2==(1:Int)))=false->((0:Int)<=nI Q0.1.1 v14/\nI Q0.1.1 v14<(↑x.length:Int))/\((0:Int)<=nI Q0.1.1 v14/\nI Q0.1.1 v14<(↑x.length:Int))/\fits .i64 ((0:Int)-nI x (nI Q0.1.1 v14).toNat)/\fits .i64 (szX x Q0.1.1 v14+max2 true (nI x (nI Q0.1.1 v14).toNat) ((0:Int)-nI x (nI Q0.1.1 v14).toNat))/\fits .i64 ((↑v14:Int)+(1:Int))/\∃(v20:Nat),Nat.le v20 Q0.1.1.length/\Q0.1.1.length-v20<Q0.1.1.length-v14/\(szX x Q0.1.1 v14+max2 true (nI x (nI Q0.1.1 v14).toNat) ((0:Int)-nI x (nI Q0.1.1 v14).toNat)=szX x Q0.1.1 v20/\(↑v14:Int)+(1:Int)=(↑v20:Int)/\True)/\(Q0.1.1=Q0.1.1/\Q0.1.2=Q0.1.2/\True)/\(Q1.1.2.1.1=Q1.1.2.1.1/\Q1.1.2.1.2=Q1.1.2.1.2/\True)/\True/\True/\True/\True/\True/\True/\True/\True/\True/\True/\True/\True/\True/\True/\True/\True/\True/\True/\True/\True/\True/\True/\True/\True/\True/\True/\True/\True/\True/\True/\True/\True))))/\(decide ((↑v14:Int)<(↑Q0.1.1.length:Int))=false->((Q1.1.2.1.1==szX x Q0.1.1 v14 && Q1.1.2.1.2==(1:Int))=true->True/\true=true)/\((Q1.1.2.1.1==szX x Q0.1.1 v14 && Q1.1.2.1.2==(1:Int))=false->false=true))))))))))))))) ?_
 obtain⟨hf,_⟩:=h
 refine⟨hf.rows,λhsm hx10=>⟨ya2 λhv=>?_,ow,λho hs=>⟨ow,λhk hc=>?_⟩⟩⟩
 ·have:=xw8 (n:=6) hsm (Mk.of hv).rows1; omega
 rw[wz5] at hs
 rw[wz6 hs] at hc ⊢
 have hS:=Shw.of hs
 have hn:=xw8 (n:=6) hsm hS.msk.rows1
 have hF:x5q m:=⟨hf,λ_=>by omega⟩
 have hO:wp0 m=(((ordL m:Nat):Int),0):=by unfold wp0; rw[zam hS.val]
 rw[hO] at hk
 have hk:nzTo x x.length<=ordL m:=zd5.1 hk
 have hX:=y6v hF hs hc hk
 have hl:=w6x hS.msk ow
 obtain⟨n1,n2⟩:=qf3 (nI x) (nL m 0).length
 have n3:=qx4 (nI x) (nL m 0).length
 rw[x4f hF hs hc hk,hX.ask,hX.fd]
 refine⟨hX.fdP,yi7 hf hl,hX.askP,λq=>absurd rfl q,λ_=>⟨λq=>(by cases q),λ_=>⟨λq=>absurd rfl q,λ_=>⟨ow,λq=>?_,λ_=>⟨λq=>?_,λ_=>⟨λq=>absurd rfl q,λ_=>?_⟩⟩⟩⟩⟩⟩
 ·exfalso
  apply q
  show((qk6 (nL m 0).length (nI x)).length:Int)=_
  grind [x5u]
 ·grind [absurd,q19]
 have hs0:∀k,k<=(qk6 (nL m 0).length (nI x)).length->0<=szX x (qk6 (nL m 0).length (nI x)) k/\szX x (qk6 (nL m 0).length (nI x)) k<=1000000*k:=λk=>by
  induction k with
  | zero=>exact λ_=>⟨zbo 0,zbo 0⟩
  | succ k ih=>
   intro hk
   obtain⟨i1,i2⟩:=ih ow
   have hat:=n1.at_ k ow
   have hb:=hS.bd (nI (qk6 (nL m 0).length (nI x)) k).toNat (by rw[hS.len]; omega)
   unfold qe6 at hb
   have e:szX x (qk6 (nL m 0).length (nI x)) (k+1)=szX x (qk6 (nL m 0).length (nI x)) k+qd5 (nI x (nI (qk6 (nL m 0).length (nI x)) k).toNat):=rfl
   grind [qd5]
 have hx10:x.length<=10:=ow
 have hl10:=n1.len
 have hlx:=hS.len
 have hsum:szX x (qk6 (nL m 0).length (nI x)) (qk6 (nL m 0).length (nI x)).length=sA (nL m 0).length (nI x):=wq8 n1 wq9
 have hval:∀k,k<(qk6 (nL m 0).length (nI x)).length->nR (q19 m x).2 k=(nI x (nI (qk6 (nL m 0).length (nI x)) k).toNat,1):=λk hk=>by
  show nR ((qk6 (nL m 0).length (nI x)).map λj=>(nI x j.toNat,(1:Int))) k=_
  grind [q15,qg3]
 have e1:(q19 m x).1=qk6 (nL m 0).length (nI x):=rfl
 have e2:(q19 m x).2.length=(qk6 (nL m 0).length (nI x)).length:=by grind
 dsimp only
 rw[e1]
 generalize qk6 (nL m 0).length (nI x)=S at *
 refine⟨(),0,zaf _,⟨rfl,rfl⟩,λk hk=>⟨λhlt=>?_,λhge=>λq=>?_⟩⟩
 ·have hat:=n1.at_ k hlt
  have hb:=hS.bd (nI S k).toNat ow
  obtain⟨s1,s2⟩:=hs0 k hk
  have hv:=hval k hlt
  unfold qe6 at hb
  refine⟨hlt,λq=>?_,λ_=>⟨λq=>by omega,λ_=>⟨ow,⟨ow,ow⟩,λq=>?_,λ_=>⟨⟨ow,ow⟩,⟨ow,ow⟩,qa8,?_⟩⟩⟩⟩
  ·grind
  ·grind
  ·have em:max2 true (nI x (nI S k).toNat) (0-nI x (nI S k).toNat)=qd5 (nI x (nI S k).toNat):=by show max _ _=_; grind [qd5]
   have ha:0<=qd5 (nI x (nI S k).toNat)/\qd5 (nI x (nI S k).toNat)<=1000000:=by grind [qd5]
   rw[em]
   exact⟨qa8,qa8,k+1,hlt,ow,rfl,by rfl⟩
 grind
open Go.ChangeShapes Go.WideShapes Go.ChangeAt Go.RowKit Go.Deep Ls
theorem own:ownKnob Tryz.prog.godebug=none:=kr
theorem laidOut:laidOutB Tryz.prog=true:=kr
theorem y1z {H:Type} {enc:TypeId × Value->H} {W:World} {t e:TypeId} {v:Value} {d:DataW H} {p:List MemPlace} (ht:Tryz.prog.underlying t=some (.slice e)) (he:Tryz.prog.underlying e=some (.int .i64)) (ce:Tryz.prog.cellsOf e=1)
  (hv:∃a l c,v=.slice a l c) (h:DataW.Trod enc Tryz.prog W 0 (λ_=>true) true t v d p):∃a l c zs,v=.slice a l c/\SI W a l c zs:=by
 obtain⟨a,l,c,rfl⟩:=hv
 obtain⟨fuel,hf⟩:=h
 rcases open_ints ht he ce hf with⟨hcs,_⟩ | ⟨x,l',c',zs,hcs,_,hl,hm,hz,_,hcell,hwz⟩
 ·simp[Value.cells] at hcs
  obtain⟨rfl,rfl,rfl⟩:=hcs
  exact⟨_,_,_,[],rfl,SI.nil W⟩
 ·simp[Value.cells] at hcs
  obtain⟨rfl,rfl,rfl⟩:=hcs
  have hz':zs.length=c:=by grind
  refine⟨_,_,_,zs.take l,rfl,by grind,hl,hm,λ_=>⟨x,rfl,λk hk=>?_⟩⟩
  grind [nth]
theorem y10 {H:Type} {enc:TypeId × Value->H} {W:World} {t e q:TypeId} {v:Value} {d:DataW H} {p:List MemPlace} (ht:Tryz.prog.underlying t=some (.slice e)) (he:Tryz.prog.underlying e=some (.slice q)) (hq:Tryz.prog.underlying q=some (.int .i64))
  (ce:Tryz.prog.cellsOf e=1) (cq:Tryz.prog.cellsOf q=1)
  (hv:∃a l c,v=.slice a l c) (h:DataW.Trod enc Tryz.prog W 0 (λ_=>true) true t v d p):∃a l c m,v=.slice a l c/\SM W a l c m:=by
 obtain⟨a,l,c,rfl⟩:=hv
 obtain⟨fuel,hf⟩:=h
 rcases open_int_rows ht he hq ce cq hf with⟨hcs,_⟩ | ⟨x,l',c',A,L,C,Z,hcs,_,hl,hm,_,hr⟩
 ·simp[Value.cells] at hcs
  obtain⟨rfl,rfl,rfl⟩:=hcs
  exact⟨_,_,_,[],rfl,SM.nil W⟩
 ·simp[Value.cells] at hcs
  obtain⟨rfl,rfl,rfl⟩:=hcs
  refine⟨_,_,_,(List.range l).map (λr=>(Z r).take (L r)),rfl,by simp,hl,hm,λ_=>⟨x,rfl,λk hk=>?_⟩⟩
  obtain⟨h1,h2,h3,h4,_,h6,h7⟩:=hr k ow
  have e0:nthL ((List.range l).map (λr=>(Z r).take (L r))) k=(Z k).take (L k):=by grind [nthL]
  have e1:((Z k).take (L k)).length=L k:=by grind
  rw[e0,e1]
  refine⟨A k,C k,h1,e1,h2,h3,λhp=>?_⟩
  cases hA:A k with
  | none=>grind
  | some a'=>
   refine⟨a',rfl,λj hj=>?_⟩
   grind [nth]
open Go Go.RowKit Eng Ls
theorem x9w {w:World} {A:Option Addr} {n c:Nat} {m:List (List Int)} (s:SM w A n c m):x08 m:=by
 have hl:=s.len
 have hn:=s.nmax
 refine⟨ow,λi hi=>?_⟩
 obtain⟨ad,_,h⟩:=s.at_ ow
 obtain⟨A',c',_,h2⟩:=h i ow
 have e:nL m i=nthL m i:=by
  rw[qn5 m i hi]
  unfold nthL
  rw[za0,zan hi]
  rfl
 rw[e]
 exact h2.nmax
theorem x9y {w:World} {A:Option Addr} {n c:Nat} {l:List Int} (s:SI w A n c l):l.length<=9223372036854775807:=by
 have:=s.nmax
 have:=s.len
 omega
end Go.Proofs.YtnchigbbjajiiaaGreat
