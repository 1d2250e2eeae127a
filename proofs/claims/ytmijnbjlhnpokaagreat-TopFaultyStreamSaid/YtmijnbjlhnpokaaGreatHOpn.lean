/- What a fault given by value reads as. No condition. -/
import Derived.Test.YtmijnbjlhnpokaaGreatH10
import Derived.Test.YtmijnbjlhnpokaaGreatRows
import Derived.Test.YtmijnbjlhnpokaaGreatCore
import Derived.ProofKit
import Derived.OpenShut
import Derived.ShutString
import Derived.ChangeOld
import Derived.Below
import Derived.Deep.Matrix
import Derived.Lib.SmallJoins
set_option linter.unusedVariables false
set_option linter.unusedSimpArgs false
namespace Go.Proofs.YtmijnbjlhnpokaaGreat
open Go Go.Proofs Go.RowKit Eng Ls
theorem xp7 {m:List (List Int)} {f:Flt} (h:(xc5 m f).2=0):fVB m f=true/\(xc5 m f).1=qh1 m f:=by
 unfold xc5 at h ⊢
 split at h
 ·rename_i q; rw[if_pos q]; exact⟨q,rfl⟩
 ·cases h
theorem x5r {m p:List (List Int)} {e:Int} (h:(encR m p e).2=0):vpB m p=true/\(1<=e/\e<=60)/\(encR m p e).1=ql0 m p e.toNat p.length:=by
 unfold encR at h ⊢
 split at h
 ·cases h
 ·rename_i q
  split at h
  ·rename_i q2; rw[if_neg q,if_pos q2]
   exact⟨by cases e:vpB m p with | true=>rfl | false=>exact absurd e q,qh6.1 q2,rfl⟩
  ·cases h
theorem w20 {m:List (List Int)} {i p:Nat} (l:List Int) (hi:i<m.length) (hl:l.length=(nL m i).length):(nL (m.set i l) 0).length=(nL m 0).length:=by
 rw[qm1 _ 0 (by rw[List.length_set]; omega),qm1 m 0 (by omega),List.getElem_set]
 split
 ·rename_i h; subst h; rw[hl,qm1 m 0 hi]
 ·rfl
theorem xc0 {m:List (List Int)} {f:Flt} (h:fVB m f=true):(nL (qh1 m f) 0).length=(nL m 0).length:=by
 unfold fVB at h
 rw[Bool.and_eq_true] at h
 obtain⟨hv,hf⟩:=h
 have hM:=Mk.of hv
 have m1:=hM.rows1
 obtain⟨kd,r,p⟩:=f
 unfold qh1
 dsimp only
 split
 ·rename_i hk
  have hr:0<=r/\r<=(m.length:Int)-1:=DeedPre.row (k:=kd) ⟨rfl,hv,hf⟩ (.inl hk)
  exact w20 (p:=0) _ (by omega) (by simp[wx2])
 ·split
  ·rw[wx5 (by omega)]; split <;> simp
  ·split
   ·rename_i hk
    have hr:0<=r/\r<=(m.length:Int)-1:=DeedPre.row (k:=kd) ⟨rfl,hv,hf⟩ (.inr hk)
    exact w20 (p:=0) _ (by omega) (by simp)
   ·rfl
theorem x1p {m m':List (List Int)} (h:(nL m' 0).length=(nL m 0).length) (x:List Int):q1x m' x=q1x m x:=by unfold q1x; rw[h]
theorem wt1 {m p:List (List Int)} (h:Vp m p) {i j:Nat} (hi:i<p.length) (hj:j<p.length):q8n m (q2w (nL p i) (nL p j))=0:=by
 have h1:=h.len i hi
 have h2:=h.len j hj
 have hl:(q2w (nL p i) (nL p j)).length=(nL m 0).length:=(q3v _ _ _).trans h2
 unfold q8n w4u
 rw[if_neg (by rw[h.val]; decide),if_neg (by rw[hl]; exact λq=>q rfl),if_neg]
 rw[Bool.not_eq_false,List.all_eq_true]
 intro x hx
 unfold q2w q7m at hx
 obtain⟨k,hk,rfl⟩:=List.mem_map.1 hx
 have hk:=List.mem_range.1 hk
 have b1:=h.bd i hi k (by omega)
 have b2:=h.bd j hj k (by omega)
 unfold qf0 at b1 b2
 exact qh6.2 (by omega)
structure TfsStep (m p:List (List Int)) (f:Flt) (i:Nat):Prop where
 chg:q50 m (nL p (i-1)) (nL p i)=(q2w (nL p (i-1)) (nL p i),0)
 rds:wo5 m f (q2w (nL p (i-1)) (nL p i))=((qs5 (qh1 m f) (q2w (nL p (i-1)) (nL p i))).1,0)
 enc:xc7 (qh1 m f) p p.length i=(false,(qs5 (qh1 m f) (q2w (nL p (i-1)) (nL p i))).1)
 len:(qs5 (qh1 m f) (q2w (nL p (i-1)) (nL p i))).1.length=m.length
 clen:(q2w (nL p (i-1)) (nL p i)).length<=10
 exp:exR m f [(q2w (nL p (i-1)) (nL p i),(qs5 (qh1 m f) (q2w (nL p (i-1)) (nL p i))).1)]=(true,0)
theorem TfsStep.of {m p:List (List Int)} {f:Flt} {i:Nat} (hf:fVB m f=true) (hp:vpB (qh1 m f) p=true) (h1:1<=i) (hi:i<p.length):TfsStep m p f i:=by
 have hvm:qb9 m=true:=by unfold fVB at hf; rw[Bool.and_eq_true] at hf; exact hf.1
 have hV:=Vp.of hp
 have hl0:=xc0 hf
 have hpm:vpB m p=true:=by
  unfold vpB at hp ⊢
  rw[Bool.and_eq_true,Bool.and_eq_true] at hp ⊢
  refine⟨⟨hvm,hp.1.2⟩,?_⟩
  have:q1x (qh1 m f)=q1x m:=funext (x1p hl0)
  rw[<- this]; exact hp.2
 have hVm:=Vp.of hpm
 have hsm:=wt1 hVm (i:=i-1) (j:=i) (by omega) hi
 have hsb:=wt1 hV (i:=i-1) (j:=i) (by omega) hi
 have hcl:(q2w (nL p (i-1)) (nL p i)).length<=10:=by
  have:=hVm.len i hi
  have h10:=hVm.msk.pix10
  unfold q2w
  rw[q3v]; omega
 have hlen:(qs5 (qh1 m f) (q2w (nL p (i-1)) (nL p i))).1.length=m.length:=by
  unfold qs5
  rw[if_pos hsb]
  exact(wo2 _ _).trans (w1w _ _)
 have hrd:xc6 m f (q2w (nL p (i-1)) (nL p i))=(qs5 (qh1 m f) (q2w (nL p (i-1)) (nL p i))).1:=rfl
 refine⟨?_,?_,?_,hlen,hcl,?_⟩
 ·unfold q50
  rw[if_pos]
  unfold vpB at hpm ⊢
  rw[Bool.and_eq_true,Bool.and_eq_true,List.all_eq_true] at hpm
  rw[Bool.and_eq_true,Bool.and_eq_true,List.all_eq_true]
  refine⟨⟨hvm,rfl⟩,λx hx=>?_⟩
  rcases List.mem_cons.1 hx with rfl | hx
  ·exact hpm.2 _ (by rw[qm1 p (i-1) (by omega)]; exact List.getElem_mem _)
  ·rw[List.mem_singleton.1 hx]
   exact hpm.2 _ (by rw[qm1 p i hi]; exact List.getElem_mem _)
 ·unfold wo5
  rw[if_neg (by rw[hf]; decide),if_pos hsm,hrd]
 ·unfold xc7
  rw[if_neg (by rw[Nat.mod_eq_of_lt hi]; omega)]
 ·unfold exR
  have ht:vtB m [(q2w (nL p (i-1)) (nL p i),(qs5 (qh1 m f) (q2w (nL p (i-1)) (nL p i))).1)]=true:=by
   unfold vtB w5q
   simp[hvm,hsm,hlen]
  rw[hf,ht]
  simp[xk3,hrd]
structure xp8 (p:List (List Int)) (i:Nat):Prop where
 lo:1<=i
 le:i<=p.length
structure xt5 (m p:List (List Int)):Prop where
 m:m.length<=9223372036854775807
 p:p.length<=9223372036854775807
def x5s:List AObj:=[.dead,.dead,.dead,.dead,.dead,.dead,.dead,.dead,.dead,.dead,.dead,.dead,.dead,.dead,.dead,.dead]
def yb5 (f:Flt) (p:List (List Int)) (L:List Frm):Nat->Option Inv
 | 0=>some (Inv.of [11] 1 (λi:Nat=>[(11,.lit (.int .i64 i))]) (λ_=>[fltBox f]) (λi=>xp8 p i) (λi=>p.length-i))
 | 1=>some (Eng.Inv.mk Nat Nat [104] 17 (λ_ k=>[(104,.lit (.int .i64 k))]) (λ_ _=>fltBox f :: x5s) (λi k=>k<=(nFr L i).2.length) (λi k=>(nFr L i).2.length-k))
 | _=>none
abbrev yq0:qb4:=qf2 true none [qf3,qj4,qf3] [.bool] (λx=>xt5 x.1 x.2.2.1) (λ_=>(true,()))
theorem xc1:Meets Tryz.prog 3 yq0:=by
 refine meets (snd (SpecsOk.cons xp6 (SpecsOk.cons w5o (SpecsOk.cons w8y (SpecsOk.cons w44 (SpecsOk.cons w43 (SpecsOk.cons w8z (SpecsOk.cons w86 (SpecsOk.nil _))))))))) Tryz.func3 rfl rfl (λx=>yb5 x.2.1 x.2.2.1 (encR (xc5 x.1 x.2.1).1 x.2.2.1 x.2.2.1.length).1) (λ_=>by kernel_rfl) (by decide) ?_
 rintro⟨m,⟨kd,r,q⟩,p,⟨⟩⟩ h
 revert m kd r q p
 intro(m:List (List Int)) (kd:Int) (r:Int) (q:Int) (p:List (List Int)) (h:xt5 m p)
 refine @qd1 _ (let Q0:=(xc5 m (kd,r,q)); m.length<=(9223372036854775807:Nat)/\((!smB m (6:Int))=true->True/\true=true)/\((!smB m (6:Int))=false->(decide ((6:Int)<(↑p.length:Int))=true->True/\true=true)/\(decide ((6:Int)<(↑p.length:Int))=false->(decide ((↑p.length:Int)<(1:Int))=true->True/\true=true)/\(decide ((↑p.length:Int)<(1:Int))=false->True/\((Q0.2 != (0:Int))=true->True/\true=true)/\((Q0.2 != (0:Int))=false->True/\(((encR Q0.1 p (↑p.length:Int)).2 != (0:Int))=true->True/\true=true)/\(((encR Q0.1 p (↑p.length:Int)).2 != (0:Int))=false->(((↑(encR Q0.1 p (↑p.length:Int)).1.length:Int) != (↑p.length:Int))=true->false=true)/\(((↑(encR Q0.1 p (↑p.length:Int)).1.length:Int) != (↑p.length:Int))=false->∃(v6:Unit),∃(v7:Nat),xp8 p v7/\(((1:Int)=(↑v7:Int)/\True)/\(kd=kd/\r=r/\q=q/\True)/\True)/\∀(v8:Nat),xp8 p v8->(decide ((↑v8:Int)<(↑p.length:Int))=true->fits .i64 ((↑v8:Int)-(1:Int))/\((0:Int)<=(↑v8:Int)-(1:Int)/\(↑v8:Int)-(1:Int)<(↑p.length:Int))/\((0:Int)<=(↑v8:Int)/\(↑v8:Int)<(↑p.length:Int))/\True/\(q50 m (nL p ((↑v8:Int)-(1:Int)).toNat) (nL p v8)).1.length<=(1000000:Nat)/\(((q50 m (nL p ((↑v8:Int)-(1:Int)).toNat) (nL p v8)).2 != (0:Int))=true->false=true)/\(((q50 m (nL p ((↑v8:Int)-(1:Int)).toNat) (nL p v8)).2 != (0:Int))=false->(((wo5 m (kd,r,q) (q50 m (nL p ((↑v8:Int)-(1:Int)).toNat) (nL p v8)).1).2 != (0:Int))=true->false=true)/\(((wo5 m (kd,r,q) (q50 m (nL p ((↑v8:Int)-(1:Int)).toNat) (nL p v8)).1).2 != (0:Int))=false->((0:Int)<=(↑v8:Int)/\(↑v8:Int)<(↑(encR Q0.1 p (↑p.length:Int)).1.length:Int))/\(((↑(wo5 m (kd,r,q) (q50 m (nL p ((↑v8:Int)-(1:Int)).toNat) (nL p v8)).1).1.length:Int) != (↑(qe6 qk9 (encR Q0.1 p (↑p.length:Int)).1 v8).2.length:Int))=true->false=true)/\(((↑(wo5 m (kd,r,q) (q50 m (nL p ((↑v8:Int)-(1:Int)).toNat) (nL p v8)).1).1.length:Int) != (↑(qe6 qk9 (encR Q0.1 p (↑p.length:Int)).1 v8).2.length:Int))=false->∃(v14:Nat),∃(v15:Nat),Nat.le v15 (nFr (encR Q0.1 p (↑p.length:Int)).1 v14).2.length/\(((0:Int)=(↑v15:Int)/\True)/\(kd=kd/\r=r/\q=q/\True)/\True/\True/\True/\True/\True/\True/\True/\True/\True/\True/\True/\True/\True/\True/\True/\True/\True)/\∀(v16:Nat),Nat.le v16 (nFr (encR Q0.1 p (↑p.length:Int)).1 v14).2.length->(decide ((↑v16:Int)<(↑(wo5 m (kd,r,q) (q50 m (nL p ((↑v8:Int)-(1:Int)).toNat) (nL p v8)).1).1.length:Int))=true->((0:Int)<=(↑v16:Int)/\(↑v16:Int)<(↑(wo5 m (kd,r,q) (q50 m (nL p ((↑v8:Int)-(1:Int)).toNat) (nL p v8)).1).1.length:Int))/\((0:Int)<=(↑v8:Int)/\(↑v8:Int)<(↑(encR Q0.1 p (↑p.length:Int)).1.length:Int))/\((0:Int)<=(↑v16:Int)/\(↑v16:Int)<(↑(qe6 qk9 (encR Q0.1 p (↑p.length:Int)).1 v8).2.length:Int))/\((nI (wo5 m (kd,r,q) (q50 m (nL p ((↑v8:Int)-(1:Int)).toNat) (nL p v8)).1).1 v16 != nI (qe6 qk9 (encR Q0.1 p (↑p.length:Int)).1 v8).2 v16)=true->false=true)/\((nI (wo5 m (kd,r,q) (q50 m (nL p ((↑v8:Int)-(1:Int)).toNat) (nL p v8)).1).1 v16 != nI (qe6 qk9 (encR Q0.1 p (↑p.length:Int)).1 v8).2 v16)=false->fits .i64 ((↑v16:Int)+(1:Int))/\∃(v20:Nat),Nat.le v20 (nFr (encR Q0.1 p (↑p.length:Int)).1 v14).2.length/\(nFr (encR Q0.1 p (↑p.length:Int)).1 v14).2.length-v20<(nFr (encR Q0.1 p (↑p.length:Int)).1 v14).2.length-v16/\((↑v16:Int)+(1:Int)=(↑v20:Int)/\True)/\(kd=kd/\r=r/\q=q/\True)/\True/\True/\True/\True/\True/\True/\True/\True/\True/\True/\True/\True/\True/\True/\True/\True/\True))/\(decide ((↑v16:Int)<(↑(wo5 m (kd,r,q) (q50 m (nL p ((↑v8:Int)-(1:Int)).toNat) (nL p v8)).1).1.length:Int))=false->((0:Int)<=(↑v8:Int)/\(↑v8:Int)<(↑(encR Q0.1 p (↑p.length:Int)).1.length:Int))/\q00 [((q50 m (nL p ((↑v8:Int)-(1:Int)).toNat) (nL p v8)).1,(qe6 qk9 (encR Q0.1 p (↑p.length:Int)).1 v8).2)]/\(((exR m (kd,r,q) [((q50 m (nL p ((↑v8:Int)-(1:Int)).toNat) (nL p v8)).1,(qe6 qk9 (encR Q0.1 p (↑p.length:Int)).1 v8).2)]).2 != (0:Int))=true->false=true)/\(((exR m (kd,r,q) [((q50 m (nL p ((↑v8:Int)-(1:Int)).toNat) (nL p v8)).1,(qe6 qk9 (encR Q0.1 p (↑p.length:Int)).1 v8).2)]).2 != (0:Int))=false->((!(exR m (kd,r,q) [((q50 m (nL p ((↑v8:Int)-(1:Int)).toNat) (nL p v8)).1,(qe6 qk9 (encR Q0.1 p (↑p.length:Int)).1 v8).2)]).1)=true->false=true)/\((!(exR m (kd,r,q) [((q50 m (nL p ((↑v8:Int)-(1:Int)).toNat) (nL p v8)).1,(qe6 qk9 (encR Q0.1 p (↑p.length:Int)).1 v8).2)]).1)=false->fits .i64 ((↑v8:Int)+(1:Int))/\∃(v21:Nat),xp8 p v21/\p.length-v21<p.length-v8/\((↑v8:Int)+(1:Int)=(↑v21:Int)/\True)/\(kd=kd/\r=r/\q=q/\True)/\True)))))))/\(decide ((↑v8:Int)<(↑p.length:Int))=false->True/\true=true)))))))) (by kernel_rfl) ?_
 try simp only[z0,z1,z2,z3,z4,z5,z6,z7,z8,z9,z10,Int.reduceEq,z11,z12,z13,z14,z15,z16,z17,z18,z19,z20,z21,z22,z23,z24,z25,z26,z27,z28,z29,z30,Int.reduceLE,Int.reduceLT,z31,z32,z33,z34,qa1]
 try simp only[qa7,qa8,qb5,z31,z32,z2,z1]
 refine⟨h.m,λhsm hp6 hp1 hf he=>?_⟩
 obtain⟨hF,hb⟩:=xp7 hf
 rw[hb] at he ⊢
 obtain⟨hvp,⟨e1,e6⟩,hE⟩:=x5r he
 rw[hE,Int.toNat_natCast]
 refine⟨λhn=>absurd (congrArg Int.ofNat (qw9 _ _ _ _)) hn,λ_=>⟨(),1,⟨Nat.le_refl _,by omega⟩,rfl,λi hi hlt=>?_⟩⟩
 have hs:=TfsStep.of hF hvp hi.lo hlt
 have hlo:=hi.lo
 have ei:((i:Int)-1).toNat=i-1:=by omega
 have hnth:qe6 (.prod .bool (.list (.int .i64))) (ql0 (qh1 m (kd,r,q)) p p.length p.length) i=xc7 (qh1 m (kd,r,q)) p p.length i:=by
  rw[qo1 _ i (by rw[qw9]; exact hlt)]
  simp[ql0]
 have hm6:=(Mk.of (FltPre.of hF).valid).rows6
 rw[ei,hs.chg]
 dsimp only
 rw[hs.rds]
 dsimp only
 simp only[qk9,hnth,hs.enc,qw9]
 have hlen:=hs.len
 have hcl:=hs.clen
 have hex:=hs.exp
 have hs2:=hs.enc
 generalize(qs5 (qh1 m (kd,r,q)) (q2w (nL p (i-1)) (nL p i))).1=R at *
 generalize q2w (nL p (i-1)) (nL p i)=X at *
 rw[hex]
 dsimp only
 have hT:q00 [(X,R)]:=λj hj=>by
  obtain rfl:j=0:=by simp at hj; omega
  exact⟨by show X.length<=_; omega,by show R.length<=_; omega⟩
 have hv:(nFr (ql0 (qh1 m (kd,r,q)) p p.length p.length) i).2.length=R.length:=by
  show(qe6 (.prod .bool (.list (.int .i64))) (ql0 (qh1 m (kd,r,q)) p p.length p.length) i).2.length=_
  rw[hnth,hs2]
 refine⟨qb8 (by omega) (by omega),⟨by omega,by omega⟩,hlt,by omega,λq=>absurd trivial q,λ_=>⟨λq=>absurd trivial q,λ_=>⟨hlt,λq=>absurd trivial q,λ_=>⟨i,0,Nat.zero_le _,rfl,λk hk=>?_⟩⟩⟩⟩
 rw[hv] at hk ⊢
 refine⟨λh1=>⟨h1,hlt,h1,λq=>absurd trivial q,λ_=>⟨qb8 (by omega) (by omega),k+1,h1,by omega,by omega⟩⟩,λh1=>⟨hlt,hT,λq=>absurd rfl q,λ_=>⟨λq=>(by cases q),λ_=>⟨qb8 (by omega) (by omega),i+1,⟨by omega,hlt⟩,by omega,by omega⟩⟩⟩⟩
open Go.ChangeShapes Go.WideShapes Go.ChangeAt Go.RowKit Go.Deep Ls
theorem own:ownKnob Tryz.prog.godebug=none:=by kernel_rfl
theorem laidOut:laidOutB Tryz.prog=true:=by kernel_rfl
theorem x5t {H:Type} {enc:TypeId × Value->H} {W:World} {t e q:TypeId} {v:Value} {d:DataW H} {p:List MemPlace} (ht:Tryz.prog.underlying t=some (.slice e)) (he:Tryz.prog.underlying e=some (.slice q)) (hq:Tryz.prog.underlying q=some (.int .i64))
  (ce:Tryz.prog.cellsOf e=1) (cq:Tryz.prog.cellsOf q=1)
  (hv:∃a l c,v=.slice a l c) (h:DataW.Trod enc Tryz.prog W 0 (λ_=>true) true t v d p):∃a l c m,v=.slice a l c/\SM W a l c m:=by
 obtain⟨a,l,c,rfl⟩:=hv
 obtain⟨fuel,hf⟩:=h
 rcases open_int_rows ht he hq ce cq hf with⟨hcs,_⟩ | ⟨x,l',c',A,L,C,Z,hcs,_,hl,hm,_,hr⟩
 ·simp[Value.cells] at hcs
  obtain⟨rfl,rfl,rfl⟩:=hcs
  exact⟨_,_,_,[],rfl,SM.nil W⟩
 ·simp[Value.cells] at hcs
  obtain⟨rfl,rfl,rfl⟩:=hcs
  refine⟨_,_,_,(List.range l).map (λr=>(Z r).take (L r)),rfl,by simp,hl,hm,λ_=>⟨x,rfl,λk hk=>?_⟩⟩
  obtain⟨h1,h2,h3,h4,_,h6,h7⟩:=hr k (by omega)
  have e0:nthL ((List.range l).map (λr=>(Z r).take (L r))) k=(Z k).take (L k):=by simp[nthL,hk]
  have e1:((Z k).take (L k)).length=L k:=by simp; omega
  rw[e0,e1]
  refine⟨A k,C k,h1,e1,h2,h3,λhp=>?_⟩
  cases hA:A k with
  | none=>have:=h6 hA; omega
  | some a'=>
   refine⟨a',rfl,λj hj=>?_⟩
   rw[(h7 a' hA).2 j (by omega)]
   simp[nth,hj]
end Go.Proofs.YtmijnbjlhnpokaaGreat
set_option linter.unusedVariables false
namespace Go.Proofs.YtmijnbjlhnpokaaGreat
open Go.ChangeShapes Go.WideShapes Go.ChangeAt Go.RowKit Go.Deep Go.Joins Ls
set_option linter.constructorNameAsVariable false
set_option maxRecDepth 10000 in
theorem x1q {H:Type} {enc:TypeId × Value->H} {W:World} {base:Nat} {t:TypeId} {f0 f1 f2:Field} {v:Value} {d:DataW H} {p:List MemPlace} (hs:Tryz.prog.underlying t=some (.struct #[f0,f1,f2])) (hone:oneCellFields Tryz.prog #[f0,f1,f2]=true) (hC:Tryz.prog.cellsOf t=3)
  (i0:Tryz.prog.underlying f0.type=some (.int .i64)) (i1:Tryz.prog.underlying f1.type=some (.int .i64)) (i2:Tryz.prog.underlying f2.type=some (.int .i64)) (hv:Value.okWide Tryz.prog W .any base t v) (h:DataW.Trod enc Tryz.prog W 0 (λ_=>true) true t v d p) :
  ∃a b g,v=.agg #[.int .i64 a,.int .i64 b,.int .i64 g]:=by
 obtain⟨c0,c1,c2,y0,y1,y2,m,rfl,rfl,rfl,g0,g1,g2⟩:=open_agg3 hs hone hC hv h
 obtain⟨u0,e0,_,_⟩:=DataW.trod_int i0 g0
 obtain⟨u1,e1,_,_⟩:=DataW.trod_int i1 g1
 obtain⟨u2,e2,_,_⟩:=DataW.trod_int i2 g2
 simp only[List.cons.injEq,and_true] at e0 e1 e2
 subst e0 e1 e2
 exact⟨_,_,_,rfl⟩
end Go.Proofs.YtmijnbjlhnpokaaGreat
