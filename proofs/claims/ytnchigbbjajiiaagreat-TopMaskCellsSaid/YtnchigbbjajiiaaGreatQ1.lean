/- Fractions of little terms compared: contracts by the engine. No condition. -/
import Derived.Test.YtnchigbbjajiiaaGreatN20
import Derived.Test.YtnchigbbjajiiaaGreatV0
import Derived.Test.YtnchigbbjajiiaaGreatEng2
import Derived.Shelf.Strings.Builder1
import Derived.Maps.AppendAt
import Derived.Test.YtnchigbbjajiiaaGreatTys
import Derived.Shelf.Lay
import Derived.Ground.NamesProg
import Derived.Test.YtnchigbbjajiiaaGreatV5
set_option linter.unusedVariables false
set_option linter.unusedSimpArgs false
namespace Go.Proofs.YtnchigbbjajiiaaGreat
open Go Go.Proofs Go.RowKit Eng
theorem we3 {P T:Int} (hf:vfB P T=true) {x:List Int} (h:x∈qm1 P T):pdE P T x=0:=by
 obtain⟨⟨a1,a2⟩,a3,a4⟩:=q5k.1 hf
 obtain⟨b1,b2⟩:=x1t a3 h
 exact q9s.2 ⟨ow,b2⟩
theorem w15 {P T:Int} (hf:vfB P T=true):(qm1 P T).length<=65536:=by
 obtain⟨⟨a1,a2⟩,a3,a4⟩:=q5k.1 hf
 rw[wp0]
 exact zah (Nat.pow_le_pow_left (show T.toNat+1<=4 by omega) _) (zc7 dc (show P.toNat<=8 by omega))
theorem xo0 {P T:Int} {c:List Cll} (h:vsB P T c=true):vfB P T=true:=by
 unfold vsB at h
 rw[zam,zam] at h
 exact h.1.1
def lfL (P T:Int) (c:List Cll):List (List Int):=(qm1 P T).filter (ftB c)
def wt5 (c:List Cll) (L:List (List Int)):Nat->List (List Int)
 | 0=>[]
 | k+1=>if ftB c (nL L k)=true then wt5 c L k++[nL L k] else wt5 c L k
theorem we4 (c:List Cll) (L:List (List Int)):∀k,k<=L.length->wt5 c L k=(L.take k).filter (ftB c)
 | 0,_=>rfl
 | k+1,hk=>by
  rw[wt5,q1g L k ow,zdh,<- we4 c L k ow]
  split
  ·rename_i h; simp[h]
  ·rename_i h; simp[h]
abbrev sLf:qa8:=qe4 false none [qq9,.list q7t] [qf8] (λx=>vsB x.1.1 x.1.2 x.2.1=true) (λx=>(lfL x.1.1 x.1.2 x.2.1,()))
def yp8 (P T:Int) (c:List Cll) (L:List (List Int)):Nat->Option Inv
 | 0=>some (Inv.of [] 4 (λ_:Nat=>[]) (λk=>[.box 29 (.cons (.lit (.int .i64 P)) (.cons (.lit (.int .i64 T)) .nil)),.box 30 (.cons (.dat (.prod (.list (.int .i64)) (.prod (.int .i64) (.int .i64))) c) .nil),.box 22 (.cons (.msl 3 .none) .nil),.mat 24 3 (.int .i64) (wt5 c L k) .none .none]) (λk=>k<=L.length) (λk=>k))
 | _=>none
theorem xo1:Meets Tryz.prog 54 sLf:=by
 refine meets (xm5 [16] [] (SpecsOk.cons wp2 (SpecsOk.cons we0 (SpecsOk.cons q2m (SpecsOk.nil _)))) MutsOk.nil (ItsOk.cons wp1 ItsOk.nil)) Tryz.func54 rfl rfl (λx=>yp8 x.1.1 x.1.2 x.2.1 (qm1 x.1.1 x.1.2)) (λ_=>by kernel_rfl) dc ?_
 rintro⟨⟨p,t⟩,c,⟨⟩⟩ h
 revert p t c
 intro(p:Int) (t:Int) (c:List Cll) (h:vsB p t c=true)
 refine vcs (let Q0:=qm1 p t; True/\vfB p t=true/\∃(v0:Unit),∃(v1:Nat),Nat.le v1 Q0.length/\v1=(0:Nat)/\((p=p/\t=t/\True)/\(c=c/\True)/\(True/\True)/\wt5 c Q0 v1=[]/\True)/\∀(v2:Nat),Nat.le v2 Q0.length->(∀(v4:List Int × qa3._f [] PUnit.unit),(List.map (λ(v6:List Int)=>(v6,())) Q0)[v2]?=some v4->∀(v6:q2v),w4z c (nL [v4.1] (0:Nat))/\(ftB c (nL [v4.1] (0:Nat))=true->(nL [v4.1] (0:Nat)).length<=(100000:Nat)/\((0:Nat)<(0:Nat)+(1:Nat)/\(wt5 c Q0 v2).length+((0:Nat)+(1:Nat))<=(1000000:Nat))/\[v4.1]=[v4.1]/\v6=v6/\True/\∃(v8:Nat),Nat.le v8 Q0.length/\v8=v2+(1:Nat)/\(p=p/\t=t/\True)/\(c=c/\True)/\(True/\True)/\(wt5 c Q0 v2++[nL [v4.1] (0:Nat)]=wt5 c Q0 v8/\True/\True)/\True)/\(ftB c (nL [v4.1] (0:Nat))=false->[v4.1]=[v4.1]/\v6=v6/\True/\∃(v8:Nat),Nat.le v8 Q0.length/\v8=v2+(1:Nat)/\(p=p/\t=t/\True)/\(c=c/\True)/\(True/\True)/\(wt5 c Q0 v2=wt5 c Q0 v8/\True/\True)/\True))/\(v2=(List.map (λ(v5:List Int)=>(v5,())) Q0).length->q1u (Ty.int .i64) (wt5 c Q0 v2) none=lfL p t c)) ?_
 have hf:=xo0 h
 have hfew:=w15 hf
 refine⟨hf,(),0,zae _,rfl,rfl,λk hk=>⟨λd hd T=>?_,λhe=>?_⟩⟩
 ·have hd:((qm1 p t).map λv=>((v,()):qa3 [qd4]))[k]? = some d:=hd
  rw[za5] at hd
  obtain⟨s,hs,rfl⟩:=zbj.1 hd
  obtain⟨hlt,es⟩:=zaf.1 hs
  have en:nL (qm1 p t) k=s:=by rw[qk3 _ k hlt,es]
  have hpd:pdE p t s=0:=we3 hf (es ▸ zbd hlt)
  have hsl:=(q9s.1 hpd).1
  have hp8:=(q5k.1 hf).1
  have hln:(wt5 c (qm1 p t) k).length<=k:=by rw[we4 _ _ _ ow]; exact zah (List.length_filter_le _ _) (by rw[List.length_take]; omega)
  refine⟨x1u h hpd,λhb=>?_,λhb=>⟨k+1,hlt,rfl,?_⟩⟩
  ·have hb:ftB c s=true:=hb
   exact⟨show List.length s<=100000 by omega,ow,k+1,hlt,rfl,by rw[wt5,en,zap hb]⟩
  ·rw[wt5,en,zai (by rw[hb]; decide)]
 ·have hk2:k=(qm1 p t).length:=by rw[he,za3]
  subst hk2
  show wt5 c (qm1 p t) (qm1 p t).length=_
  rw[we4 _ _ _ (zad _),zcs]; rfl
def fsR (P T:Int) (c:List Cll):List Int × Int:=if vsB P T c=false then([],1) else match(qm1 P T).find? (ftB c) with
 | some x=>(x,0)
 | none=>([],8)
abbrev sFs:qa8:=qe4 false none [qq9,.list q7t] [qd4,qb9] (λx=>qn3 x.2.1) (λx=>((fsR x.1.1 x.1.2 x.2.1).1,(fsR x.1.1 x.1.2 x.2.1).2,()))
def yp9 (P T:Int) (c:List Cll) (L:List (List Int)):Nat->Option Inv
 | 0=>some (Inv.of [] 4 (λ_:Nat=>[]) (λk=>[.box 29 (.cons (.lit (.int .i64 P)) (.cons (.lit (.int .i64 T)) .nil)),.box 30 (.cons (.dat (.prod (.list (.int .i64)) (.prod (.int .i64) (.int .i64))) c) .nil),.box 24 (.cons (.lit (.slice none 0 0)) .nil),.box 33 (.cons (.lit (.int .i64 0)) .nil)]) (λk=>k<=L.length/\∀i,i<k->ftB c (nL L i)=false) (λk=>k))
 | 800000=>some (Inv.of [] 3 (λ_:Nat=>[]) (λk=>[]) (λk=>True) (λk=>k))
 | _=>none
theorem xo2:Meets Tryz.prog 13 sFs:=by
 refine meets (x6x (SpecsOk.cons wd9 (SpecsOk.cons wp2 (SpecsOk.cons we0 (SpecsOk.nil _)))) (ItsOk.cons wp1 ItsOk.nil)) Tryz.func13 rfl rfl (λx=>yp9 x.1.1 x.1.2 x.2.1 (qm1 x.1.1 x.1.2)) (λ_=>by kernel_rfl) dc ?_
 rintro⟨⟨p,t⟩,c,⟨⟩⟩ h
 revert p t c
 intro(p:Int) (t:Int) (c:List Cll) (h:qn3 c)
 refine vcs (let Q0:=qm1 p t; let Q1:=fsR p t c; qn3 c/\((!vsB p t c)=true->Q1.1=[]/\(1:Int)=Q1.2/\True)/\((!vsB p t c)=false->True/\vfB p t=true/\∃(v1:Unit),∃(v2:Nat),(v2<=Q0.length/\∀(v3:Nat),Nat.le (Nat.succ v3) v2->ftB c (nL Q0 v3)=false)/\v2=(0:Nat)/\((p=p/\t=t/\True)/\(c=c/\True)/\(Value.slice none (0:Nat) (0:Nat)=Value.slice none (0:Nat) (0:Nat)/\True)/\((0:Int)=(0:Int)/\True)/\True)/\∀(v3:Nat),(v3<=Q0.length/\∀(v5:Nat),Nat.le (Nat.succ v5) v3->ftB c (nL Q0 v5)=false)->(∀(v5:List Int × qa3._f [] PUnit.unit),(List.map (λ(v7:List Int)=>(v7,())) Q0)[v3]?=some v5->∀(v7:q2v),w4z c (nL [v5.1] (0:Nat))/\(ftB c (nL [v5.1] (0:Nat))=true->[v5.1]=[v5.1]/\v7=v7/\v5.1=Q1.1/\(0:Int)=Q1.2/\True)/\(ftB c (nL [v5.1] (0:Nat))=false->[v5.1]=[v5.1]/\v7=v7/\True/\∃(v9:Nat),(v9<=Q0.length/\∀(v10:Nat),Nat.le (Nat.succ v10) v9->ftB c (nL Q0 v10)=false)/\v9=v3+(1:Nat)/\(p=p/\t=t/\True)/\(c=c/\True)/\(Value.slice none (0:Nat) (0:Nat)=Value.slice none (0:Nat) (0:Nat)/\True)/\((0:Int)=(0:Int)/\True)/\True))/\(v3=(List.map (λ(v6:List Int)=>(v6,())) Q0).length->Q1.1=[]/\(8:Int)=Q1.2/\True))) ?_
 refine⟨h,λh1=>?_,λh1=>⟨xo0 h1,(),0,⟨zae _,λi hi=>absurd hi ow⟩,rfl,λk ⟨hk,hall⟩=>⟨λd hd T=>?_,λhe=>?_⟩⟩⟩
 ·unfold fsR; rw[zap h1]; exact⟨rfl,rfl⟩
 ·have hf:=xo0 h1
  have hd:((qm1 p t).map λv=>((v,()):qa3 [qd4]))[k]? = some d:=hd
  rw[za5] at hd
  obtain⟨s,hs,rfl⟩:=zbj.1 hd
  obtain⟨hlt,es⟩:=zaf.1 hs
  have en:nL (qm1 p t) k=s:=by rw[qk3 _ k hlt,es]
  have hpd:pdE p t s=0:=we3 hf (es ▸ zbd hlt)
  refine⟨x1u h1 hpd,λhb=>?_,λhb=>⟨k+1,⟨hlt,λi hi=>?_⟩,rfl⟩⟩
  ·have:(qm1 p t).find? (ftB c)=some s:=List.find?_eq_some_iff_getElem.2 ⟨hb,k,hlt,es,λj hj=>by
    have:=hall j hj
    rw[qk3 _ j ow] at this
    rw[this]; rfl⟩
   unfold fsR; rw[zai (by rw[h1]; decide),this]; exact⟨rfl,rfl⟩
  ·by_cases e:i=k
   ·rw[e,en]; exact hb
   ·exact hall i ow
 ·have hk2:k=(qm1 p t).length:=by rw[he,za3]
  have:(qm1 p t).find? (ftB c)=none:=List.find?_eq_none.2 λx hx=>by
   obtain⟨i,hi,rfl⟩:=zbg hx
   have:=hall i ow
   rw[qk3 _ i hi] at this
   rw[this]; decide
  unfold fsR; rw[zai (by rw[h1]; decide),this]; exact⟨rfl,rfl⟩
def q5t (l:List (List Int)) (q:Nat):Nat->Int × Int
 | 0=>(nI (nL l 0) q,nI (nL l 0) q)
 | k+1=>(max2 false (q5t l q k).1 (nI (nL l k) q),max2 true (q5t l q k).2 (nI (nL l k) q))
structure x1v (l:List (List Int)) (p:Int):Prop where
 some:0<l.length
 lo:0<=p
 hi:∀i,i<l.length->p<(nL l i).length
 few:l.length<=1000000
def yq0 (l:List (List Int)) (q:Nat):Nat->Option Inv
 | 0=>some (Inv.of [23] 16 (λk:Nat=>[(23,.lit (.int .i64 k))]) (λk=>[.box 86 (.cons (.lit (.int .i64 0)) (.cons (.lit (.int .i64 0)) .nil)),.dead,.dead,.dead,.dead,.dead,.dead,.dead,.dead,.dead,.dead,.dead,.dead,.dead,.box 86 (.cons (.lit (.int .i64 (q5t l q k).1)) (.cons (.lit (.int .i64 (q5t l q k).2)) .nil)),.dead]) (λk=>k<=l.length) (λk=>l.length-k))
 | _=>none
abbrev ya2:Ty:=.prod (.int .i64) (.int .i64)
abbrev sSp:qa8:=qe4 false none [qf8,qb9] [ya2] (λx=>x1v x.1 x.2.1) (λx=>(q5t x.1 x.2.1.toNat x.1.length,()))
theorem xo3:Meets Tryz.prog 55 sSp:=by
 refine mts (SpecsOk.nil _) Tryz.func55 (λx=>yq0 x.1 x.2.1.toNat) ?_
 rintro⟨l,p,⟨⟩⟩ h
 revert l p
 intro(l:List (List Int)) (p:Int) (h:x1v l p)
 refine vcs (let Q0:=q5t l p.toNat l.length; ((0:Int)<=(0:Int)/\(0:Int)<(↑l.length:Int))/\((0:Int)<=p/\p<(↑(nL l (0:Nat)).length:Int))/\((0:Int)<=(0:Int)/\(0:Int)<(↑l.length:Int))/\((0:Int)<=p/\p<(↑(nL l (0:Nat)).length:Int))/\∃(v0:Unit),∃(v1:Nat),Nat.le v1 l.length/\(((0:Int)=(↑v1:Int)/\True)/\((0:Int)=(0:Int)/\(0:Int)=(0:Int)/\True)/\True/\True/\True/\True/\True/\True/\True/\True/\True/\True/\True/\True/\True/\(nI (nL l (0:Nat)) p.toNat=(q5t l p.toNat v1).1/\nI (nL l (0:Nat)) p.toNat=(q5t l p.toNat v1).2/\True)/\True/\True)/\∀(v2:Nat),Nat.le v2 l.length->(decide ((↑v2:Int)<(↑l.length:Int))=true->((0:Int)<=(↑v2:Int)/\(↑v2:Int)<(↑l.length:Int))/\((0:Int)<=p/\p<(↑(nL l v2).length:Int))/\((0:Int)<=p/\p<(↑(nL l v2).length:Int))/\fits .i64 ((↑v2:Int)+(1:Int))/\∃(v5:Nat),Nat.le v5 l.length/\l.length-v5<l.length-v2/\((↑v2:Int)+(1:Int)=(↑v5:Int)/\True)/\((0:Int)=(0:Int)/\(0:Int)=(0:Int)/\True)/\True/\True/\True/\True/\True/\True/\True/\True/\True/\True/\True/\True/\True/\(max2 false (q5t l p.toNat v2).1 (nI (nL l v2) p.toNat)=(q5t l p.toNat v5).1/\max2 true (q5t l p.toNat v2).2 (nI (nL l v2) p.toNat)=(q5t l p.toNat v5).2/\True)/\True/\True)/\(decide ((↑v2:Int)<(↑l.length:Int))=false->(q5t l p.toNat v2).1=Q0.1/\(q5t l p.toNat v2).2=Q0.2/\True)) ?_
 have h0:=h.some
 have hlo:=h.lo
 have hfw:=h.few
 have h00:=h.hi 0 h0
 refine⟨ow,⟨hlo,ow⟩,ow,⟨hlo,ow⟩,(),0,zae _,⟨rfl,rfl,rfl⟩,λk hk=>⟨λhlt=>?_,λhge=>?_⟩⟩
 ·have:=h.hi k hlt
  exact⟨hlt,⟨hlo,ow⟩,⟨hlo,ow⟩,qa7,k+1,ow,ow,rfl,rfl,rfl⟩
 ·obtain rfl:k=l.length:=ow
  exact⟨rfl,rfl⟩
def q9t (l:List (List Int)):Nat->List Int
 | 0=>[]
 | k+1=>if(q5t l k l.length).1=(q5t l k l.length).2 then q9t l k++[(k:Int)] else q9t l k
def kcR (P T:Int) (c:List Cll):List Int × Int:=if vsB P T c=false then([],1) else if(lfL P T c).length=0 then([],8) else(q9t (lfL P T c) P.toNat,0)
abbrev sKc:qa8:=qe4 false none [qq9,.list q7t] [qd4,qb9] (λx=>qn3 x.2.1) (λx=>((kcR x.1.1 x.1.2 x.2.1).1,(kcR x.1.1 x.1.2 x.2.1).2,()))
def yq1 (P T:Int) (l:List (List Int)):Nat->Option Inv
 | 0=>some (Inv.of [7,22] 2 (λk:Nat=>[(7,.own 1),(22,.lit (.int .i64 k))]) (λk=>[.box 29 (.cons (.lit (.int .i64 P)) (.cons (.lit (.int .i64 T)) .nil)),.vec 3 (.int .i64) (q9t l k)]) (λk=>k<=P.toNat) (λk=>P.toNat-k))
 | _=>none
theorem xo4:Meets Tryz.prog 14 sKc:=by
 refine mts (SpecsOk.cons wd9 (SpecsOk.cons xo1 (SpecsOk.cons xo3 (SpecsOk.nil _)))) Tryz.func14 (λx=>yq1 x.1.1 x.1.2 (lfL x.1.1 x.1.2 x.2.1)) ?_
 rintro⟨⟨p,t⟩,c,⟨⟩⟩ h
 revert p t c
 intro(p:Int) (t:Int) (c:List Cll) (h:qn3 c)
 refine vcs (let Q0:=lfL p t c; let Q1:=kcR p t c; qn3 c/\((!vsB p t c)=true->Q1.1=[]/\(1:Int)=Q1.2/\True)/\((!vsB p t c)=false->vsB p t c=true/\(((↑Q0.length:Int)==(0:Int))=true->Q1.1=[]/\(8:Int)=Q1.2/\True)/\(((↑Q0.length:Int)==(0:Int))=false->∃(v2:Unit),∃(v3:Nat),Nat.le v3 p.toNat/\((True/\(0:Int)=(↑v3:Int)/\True)/\(p=p/\t=t/\True)/\q9t Q0 v3=[]/\True)/\∀(v4:Nat),Nat.le v4 p.toNat->(decide ((↑v4:Int)<p)=true->x1v Q0 (↑v4:Int)/\(((q5t Q0 v4 Q0.length).1==(q5t Q0 v4 Q0.length).2)=true->((0:Nat)<List.length [(↑v4:Int)]/\Nat.le ((q9t Q0 v4).length+List.length [(↑v4:Int)]) (1000000:Nat))/\fits .i64 ((↑v4:Int)+(1:Int))/\∃(v8:Nat),Nat.le v8 p.toNat/\p.toNat-v8<p.toNat-v4/\(True/\(↑v4:Int)+(1:Int)=(↑v8:Int)/\True)/\(p=p/\t=t/\True)/\q9t Q0 v4++[(↑v4:Int)]=q9t Q0 v8/\True)/\(((q5t Q0 v4 Q0.length).1==(q5t Q0 v4 Q0.length).2)=false->fits .i64 ((↑v4:Int)+(1:Int))/\∃(v8:Nat),Nat.le v8 p.toNat/\p.toNat-v8<p.toNat-v4/\(True/\(↑v4:Int)+(1:Int)=(↑v8:Int)/\True)/\(p=p/\t=t/\True)/\q9t Q0 v4=q9t Q0 v8/\True))/\(decide ((↑v4:Int)<p)=false->q9t Q0 v4=Q1.1/\(0:Int)=Q1.2/\True)))) ?_
 refine⟨h,λh1=>?_,λh1=>⟨h1,λh2=>?_,λh2=>?_⟩⟩
 ·unfold kcR; rw[zap h1]; exact⟨rfl,rfl⟩
 ·unfold kcR; rw[zai (by rw[h1]; decide),zap ow]; exact⟨rfl,rfl⟩
 have hf:=xo0 h1
 have hfew:=w15 hf
 obtain⟨⟨p1,p8⟩,-⟩:=q5k.1 hf
 have hR:kcR p t c=(q9t (lfL p t c) p.toNat,0):=by unfold kcR; rw[zai (by rw[h1]; decide),zai ow]
 have hll:(lfL p t c).length<=65536:=zah (List.length_filter_le _ _) hfew
 have hln:∀k,(q9t (lfL p t c) k).length<=k:=by
  intro k
  induction k with
  | zero=>exact zad _
  | succ k ih=>
   rw[q9t]
   split
   ·rw[zas]; simp; omega
   ·omega
 refine⟨(),0,zae _,⟨rfl,rfl⟩,λk hk=>⟨λhlt=>⟨⟨ow,ow,λi hi=>?_,ow⟩,λhe=>?_,λhe=>?_⟩,λhge=>?_⟩⟩
 ·have hmem:nL (lfL p t c) i∈lfL p t c:=by rw[qk3 _ i hi]; exact zbd hi
  have:=(q9s.1 (we3 hf ((zb7.1 hmem).1))).1
  omega
 ·have:=hln k
  exact⟨ow,qa7,k+1,ow,ow,rfl,by rw[q9t,zap he]⟩
 ·exact⟨qa7,k+1,ow,ow,rfl,by rw[q9t,zai he]⟩
 ·obtain rfl:k=p.toNat:=ow
  rw[hR]; exact⟨rfl,rfl⟩
def sm:Nat->(Nat->Int)->Int
 | 0,_=>0
 | n+1,f=>sm n f+f n
theorem qg4 {n:Nat} {f g:Nat->Int} (h:∀i,i<n->f i=g i):sm n f=sm n g:=by
 induction n with
 | zero=>rfl
 | succ n ih=>grind [sm]
theorem qr5 {n:Nat} {f:Nat->Int} (h:∀i,i<n->f i=0):sm n f=0:=by
 induction n with
 | zero=>rfl
 | succ n ih=>grind [sm]
theorem w17 (n:Nat) (f g:Nat->Int):sm n (λi=>f i+g i)=sm n f+sm n g:=by
 induction n with
 | zero=>rfl
 | succ n ih=>grind [sm]
theorem xw8 (n:Nat) (f g:Nat->Int):sm n (λi=>f i-g i)=sm n f-sm n g:=by
 induction n with
 | zero=>rfl
 | succ n ih=>grind [sm]
theorem qt6 (n:Nat) (c:Int) (f:Nat->Int):sm n (λi=>c*f i)=c*sm n f:=by
 induction n with
 | zero=>simp[sm]
 | succ n ih=>grind [sm,Int.mul_add]
theorem qt7 {n k:Nat} {f:Nat->Int} (hk:k<n) (h:∀i,i<n->i≠k->f i=0):sm n f=f k:=by
 induction n with
 | zero=>omega
 | succ n ih=>
  rw[sm]
  by_cases e:k=n
  ·grind [qr5]
  grind
theorem wp3 {n k l:Nat} {f:Nat->Int} (hk:k<n) (hl:l<n) (hkl:k≠l) (h:∀i,i<n->i≠k->i≠l->f i=0):sm n f=f k+f l:=by
 have e:sm n f=sm n (λi=>if i=k then f k else 0)+sm n (λi=>if i=l then f l else 0):=by
  rw[<- w17]
  refine qg4 λi hi=>?_
  grind
 rw[e,qt7 hk λi _ hne=>zai hne,qt7 hl λi _ hne=>zai hne,zap rfl,zap rfl]
theorem x5v {n:Nat} {f:Nat->Int} {B:Nat} (h:∀i,i<n->(f i).natAbs<=B):(sm n f).natAbs<=n*B:=by
 induction n with
 | zero=>simp[sm]
 | succ n ih=>
  grind [sm,Nat.succ_mul]
theorem w9r (n k:Nat) (f:Nat->Nat->Int):sm n (λi=>sm k (λj=>f i j))=sm k (λj=>sm n (λi=>f i j)):=by
 induction n with
 | zero=>exact(qr5 λ_ _=>rfl).symm
 | succ n ih=>
  simp_all [sm,w17]
theorem qs7 (n:Nat) (x y:Int) (f g r:Nat->Int):sm n (λb=>(x*f b-y*g b)*r b)=x*sm n (λb=>f b*r b)-y*sm n (λb=>g b*r b):=by
 simp_all [qt6,xw8,qg4,Int.sub_mul,Int.mul_assoc]
theorem q7v:∀(B A:Nat) (f:Nat->Nat),(∀i,i<A->f i<B)->B<A->∃i j,i<j/\j<A/\f i=f j
 | 0,A,f,h,hA=>absurd (h 0 hA) (zat _)
 | B+1,A,f,h,hA=>by
  by_cases hx:∃i,i<A/\f i=B
  ·obtain⟨i0,h0,h1⟩:=hx
   by_cases hy:∃j,j<A/\j≠i0/\f j=B
   ·obtain⟨j,k0,k1,k2⟩:=hy
    rcases Nat.lt_or_gt_of_ne k1 with q | q
    ·exact⟨j,i0,q,h0,ow⟩
    ·exact⟨i0,j,q,k0,ow⟩
   ·have hn:∀j,j<A->j≠i0->f j<B:=λj hj hne=>by
     grind
    obtain⟨i,j,q1,q2,q3⟩:=q7v B (A-1) (λi=>f (if i<i0 then i else i+1)) (λi hi=>hn _ (by grind) (by grind)) ow
    refine⟨if i<i0 then i else i+1,if j<i0 then j else j+1,?_,?_,q3⟩
    all_goals grind
  ·obtain⟨i,j,q1,q2,q3⟩:=q7v B A f (λi hi=>by
    grind) ow
   exact⟨i,j,q1,q2,q3⟩
def dig (b:Nat):Nat->Nat->Nat
 | 0,N=>N % b
 | a+1,N=>dig b a (N / b)
theorem xw9 {b:Nat} (hb:0<b):∀a N,dig b a N<b
 | 0,N=>Nat.mod_lt _ hb
 | a+1,N=>xw9 hb a (N / b)
theorem w9s {b:Nat} (hb:0<b):∀(n N M:Nat),N<b ^ n->M<b ^ n->(∀a,a<n->dig b a N=dig b a M)->N=M
 | 0,N,M,h1,h2,_=>by grind
 | n+1,N,M,h1,h2,h=>by
  have h0:=h 0 ow
  have e:=w9s hb n (N / b) (M / b) (zc5 (by grind)) (zc5 (by grind)) λa ha=>h (a+1) ow
  have h0:N % b=M % b:=h0
  grind [Nat.div_add_mod]
def q3u (B:Nat):List Nat->Nat
 | []=>0
 | x :: l=>x+B*q3u B l
theorem w18 {B:Nat}:∀(l:List Nat),(∀x∈l,x<B)->q3u B l<B ^ l.length
 | [],_=>by simp[q3u]
 | x :: l,h=>by
  have h1:=w18 l λy hy=>h y (by grind)
  have h2:=h x (by simp)
  rw[q3u,zdu,zb4,zcu (B ^ l.length)]
  calc x+B*q3u B l<B+B*q3u B l:=ow
   _=B*(q3u B l+1):=by grind
   _<=B*B ^ l.length:=zbb (zad _) h1
theorem wp4 {B:Nat} (hB:0<B):∀(l k:List Nat),l.length=k.length->(∀x∈l,x<B)->(∀x∈k,x<B)->q3u B l=q3u B k->l=k
 | [],[],_,_,_,_=>rfl
 | [],_ :: _,h,_,_,_=>by grind
 | _ :: _,[],h,_,_,_=>by grind
 | x :: l,y :: k,h,h1,h2,e=>by
  have hx:=h1 x (by simp)
  have hy:=h2 y (by simp)
  rw[q3u,q3u] at e
  have e1:x=y:=by
   have:=za9 (· % B) e
   grind [Nat.add_mul_mod_self_left,Nat.mod_eq_of_lt]
  subst e1
  have e2:q3u B l=q3u B k:=Nat.eq_of_mul_eq_mul_left hB ow
  rw[wp4 hB l k (by grind) (λz hz=>h1 z (by grind)) (λz hz=>h2 z (by grind)) e2]
def smN:Nat->(Nat->Nat)->Nat
 | 0,_=>0
 | n+1,f=>smN n f+f n
theorem x5w {n C:Nat} {f:Nat->Nat} (h:∀i,i<n->f i<=C):smN n f<=n*C:=by
 induction n with
 | zero=>simp[smN]
 | succ n ih=>
  grind [smN,Nat.succ_mul]
def lhsN (n C:Nat) (f:Nat->Int) (z:Nat->Nat):Nat:=smN n λa=>if 0<f a then z a else if f a<0 then C-z a else 0
theorem x1w {n C:Nat} {f:Nat->Int} (hf:∀a,a<n->(f a).natAbs<=1) {z y:Nat->Nat} (hz:∀a,a<n->z a<=C) (hy:∀a,a<n->y a<=C):(lhsN n C f z:Int)-(lhsN n C f y:Int)=sm n λa=>f a*((z a:Int)-(y a:Int)):=by
 unfold lhsN
 induction n with
 | zero=>rfl
 | succ n ih=>
  have h1:=ih (λa ha=>hf a ow) (λa ha=>hz a ow) (λa ha=>hy a ow)
  have h2:=hf n ow
  have h3:=hz n ow
  have h4:=hy n ow
  rw[smN,smN,sm,<- h1]
  rcases Int.lt_trichotomy (f n) 0 with q | q | q
  ·have e:f n=-1:=ow
   grind
  all_goals grind
theorem x5x {n:Nat} (hn:0<n) (fs:List (Nat->Int)) (hlen:fs.length<n) (h1:∀f∈fs,∀a,a<n->(f a).natAbs<=1):∃z:Nat->Int,(∃a,a<n/\z a≠0)/\(∀a,a<n->(z a).natAbs<=n ^ (n-1))/\∀f∈fs,sm n (λa=>f a*z a)=0:=by
 obtain⟨C,hC⟩:∃C,C=n ^ (n-1):=⟨_,rfl⟩
 have hb:0<C+1:=ow
 let code:Nat->Nat:=λN=>q3u (n*C+1) (fs.map λf=>lhsN n C f λa=>dig (C+1) a N)
 have hdig:∀N a,dig (C+1) a N<=C:=λN a=>by have:=xw9 hb a N; omega
 have hl:∀N,∀x∈fs.map (λf=>lhsN n C f λa=>dig (C+1) a N),x<n*C+1:=λN x hx=>by
  obtain⟨f,hf,rfl⟩:=za4.1 hx
  have:=x5w (n:=n) (C:=C) (f:=λa=>if 0<f a then dig (C+1) a N else if f a<0 then C-dig (C+1) a N else 0) λi _=>by
   grind
  exact Nat.lt_succ_of_le this
 obtain⟨N,M,hNM,hM,he⟩:=q7v ((n*C+1) ^ fs.length) ((C+1) ^ n) code (λN _=>by
  have:=w18 _ (hl N)
  grind) (by
  calc(n*C+1) ^ fs.length<=(n*C+1) ^ (n-1):=zc7 ow ow
   _<=(n*(C+1)) ^ (n-1):=Nat.pow_le_pow_left (by grind) _
   _=n ^ (n-1)*(C+1) ^ (n-1):=Nat.mul_pow _ _ _
   _=C*(C+1) ^ (n-1):=by grind
   _<(C+1)*(C+1) ^ (n-1):=Nat.mul_lt_mul_of_pos_right ow (zcj hb)
   _=(C+1) ^ n:=by rw[zcu,<- zb4,show(n-1).succ=n by omega])
 refine⟨λa=>(dig (C+1) a M:Int)-(dig (C+1) a N:Int),zan λhno=>?_,λa ha=>?_,λf hf=>?_⟩
 ·have:=w9s hb n N M ow hM λa ha=>by
   grind
  omega
 ·grind
 ·have hll:=wp4 (B:=n*C+1) ow _ _ (by simp) (hl N) (hl M) he
  have hfe:lhsN n C f (λa=>dig (C+1) a N)=lhsN n C f (λa=>dig (C+1) a M):=List.map_inj_left.1 hll f hf
  grind [x1w]
structure El (n W:Nat) (R ρ:Nat->Nat->Int) (pv:Nat->Option Nat):Prop where
 comb:∀a,a<n->∃(c:Int) (l:Nat->Int),c≠0/\(∀j,j<W->c*ρ a j=sm n λb=>l b*R b j)/\(∀b,b<n->l b≠0->pv b≠none\/b=a)/\(pv a=none->l a≠0)
 ind:∀ν:Nat->Int,(∀b,b<n->ν b≠0->pv b≠none)->(∀t p,t<n->pv t=some p->(sm n λb=>ν b*R b p)=0)->∀b,b<n->ν b=0
 piv:∀t p,t<n->pv t=some p->p<W/\ρ t p≠0/\∀a,a<n->a≠t->ρ a p=0
theorem El.start {n W:Nat} {R ρ:Nat->Nat->Int} (h:∀a,a<n->∃c:Int,c≠0/\∀j,j<W->c*ρ a j=R a j):El n W R ρ (λ_=>none):=by
 refine⟨λa ha=>?_,fun ν h1 _ b hb=>?_,λt p _ h=>by cases h⟩
 ·obtain⟨c,hc,h1⟩:=h a ha
  refine⟨c,λb=>if b=a then 1 else 0,hc,λj hj=>?_,λb _ hb=>?_,λ_=>by simp⟩
  ·rw[h1 j hj,qt7 ha λi _ hne=>by grind]
   simp
  grind
 grind
theorem q17 {a b:Int} (ha:a≠0) (hb:b≠0):a*b≠0:=λh=>(Int.mul_eq_zero.1 h).elim ha hb
theorem qd9 {a b:Int} (h:a*b=0) (ha:a≠0):b=0:=(Int.mul_eq_zero.1 h).resolve_left ha
theorem El.step {n W:Nat} {R ρ ρ':Nat->Nat->Int} {pv:Nat->Option Nat} {t0 j:Nat} (h:El n W R ρ pv) (ht:t0<n) (hp:pv t0=none) (hj:j<W) (hx:ρ t0 j≠0)
  (hT:∃s:Int,s≠0/\∀c,c<W->ρ' t0 c=s*ρ t0 c) (hO:∀a,a<n->a≠t0->ρ' a j=0/\∃α β γ:Int,α≠0/\β≠0/\∀c,c<W->α*ρ' a c=β*ρ a c-γ*ρ' t0 c) :
  El n W R ρ' (λb=>if b=t0 then some j else pv b):=by
 obtain⟨s,hs,hsT⟩:=hT
 obtain⟨c0,l0,hc0,hl0,hs0,hn0⟩:=h.comb t0 ht
 have hn0:=hn0 hp
 have hpv:∀b,(if b=t0 then some j else pv b)≠none↔(pv b≠none\/b=t0):=λb=>by
  grind
 refine⟨λa ha=>?_,fun ν h1 h2=>?_,λt p htn htp=>?_⟩
 ·by_cases e:a=t0
  ·subst e
   refine⟨c0,λb=>s*l0 b,hc0,λc hc=>?_,λb hb hne=>(hs0 b hb λq=>hne (by grind)).imp (λq=>(hpv b).2 (.inl q)) id,λq=>absurd q (by simp)⟩
   have e1:(sm n λb=>s*l0 b*R b c)=s*sm n (λb=>l0 b*R b c):=by grind [qt6,qg4,Int.mul_assoc]
   grind
  ·obtain⟨hz,α,β,γ,hα,hβ,hrel⟩:=hO a ha e
   obtain⟨ca,la,hca,hla,hsa,hna⟩:=h.comb a ha
   refine⟨ca*c0*α,λb=>c0*β*la b-ca*γ*s*l0 b,q17 (q17 hca hc0) hα,λc hc=>?_,λb hb hne=>?_,λq=>?_⟩
   ·rw[qs7 n (c0*β) (ca*γ*s) la l0 (λb=>R b c),<- hla c hc,<- hl0 c hc]
    grind
   ·grind
   ·have hpa:pv a=none:=by
     grind
    have h0:l0 a=0:=zan λk=>by
     grind
    simp_all
 ·-- independent
  have hcol:∀p,(sm n λb=>ν b*R b p)=0->(sm n λb=>(l0 t0*ν b-ν t0*l0 b)*R b p)=- (ν t0*sm n λb=>l0 b*R b p):=λp hp=>by
   simp_all [qs7]
  have h2':∀t p,t<n->(if t=t0 then some j else pv t)=some p->(sm n λb=>ν b*R b p)=0:=h2
  have hz:=h.ind (λb=>l0 t0*ν b-ν t0*l0 b) (λb hb hne=>by
   grind) (λt p htn htp=>by
   have hne:t≠t0:=λe=>by grind
   have hR:=h2' t p htn (by grind)
   obtain⟨hpW,_,hpa⟩:=h.piv t p htn htp
   rw[hcol p hR,<- hl0 p hpW,hpa t0 ht (zc9 hne)]
   simp)
  have h0:ν t0=0:=by
   have hR:=h2' t0 j ht (zap rfl)
   have e1:=hcol j hR
   grind [sm,qr5,qd9,q17]
  grind [qd9]
 ·by_cases e:t=t0
  ·simp_all
  ·rw[zai e] at htp
   obtain⟨hpW,hpt,hpa⟩:=h.piv t p htn htp
   have h0:ρ' t0 p=0:=by grind
   grind [q17,qd9]
def x5y (W:Nat) (r0 r:Nat->Int):Prop:=(∃s:Int,(s=1\/s=-1)/\∀c,c<W->r c=s*r0 c)\/(∀c,c<W->r c=0)\/∀d:Nat,(∀c,c<W->d∣(r c).natAbs)->d=1
theorem wp5 {W:Nat} {r s:Nat->Int} {α β:Int} (hα:α≠0) (h:∀c,c<W->α*r c=β*s c) (hp:∀d:Nat,(∀c,c<W->d∣(r c).natAbs)->d=1):∀c,c<W->(r c).natAbs<=(s c).natAbs:=by
 have hg:0<Nat.gcd α.natAbs β.natAbs:=Nat.gcd_pos_of_pos_left _ ow
 obtain⟨a',ha'⟩:=zcr α.natAbs β.natAbs
 obtain⟨b',hb'⟩:=zc1 α.natAbs β.natAbs
 have hco:Nat.Coprime b' a':=by
  have:=Nat.coprime_div_gcd_div_gcd hg
  grind [Nat.gcd,Nat.mul_div_cancel_left]
 have habs:∀c,c<W->a' * (r c).natAbs=b' * (s c).natAbs:=λc hc=>by
  have h1:=za9 Int.natAbs (h c hc)
  grind [Int.natAbs_mul,Nat.gcd,Nat.mul_assoc,Nat.eq_of_mul_eq_mul_left]
 have hb1:b'=1:=hp b' λc hc=>hco.dvd_of_dvd_mul_left ⟨_,habs c hc⟩
 have ha1:0<a':=by
  grind
 intro c hc
 have h1:=habs c hc
 rw[hb1,zc2] at h1
 rw[<- h1]
 exact zdy _ ha1
theorem El.bound {n W:Nat} {R ρ:Nat->Nat->Int} {pv:Nat->Option Nat} (h:El n W R ρ pv) (hone:∀t p,t<n->pv t=some p->∀b,b<n->(R b p).natAbs<=1) {a:Nat} (ha:a<n) (hnice:x5y W (R a) (ρ a)) {B:Nat} {c:Nat} (hc:c<W) (hB:∀b,b<n->(R b c).natAbs<=B):(ρ a c).natAbs<=n ^ n*B:=by
 have hn:0<n:=ow
 have hpw:1<=n ^ n:=zcj hn
 rcases hnice with⟨s,hs,hr⟩ | hr | hr
 ·rw[hr c hc,zbq]
  have h1:=hB a ha
  have h2:s.natAbs=1:=ow
  rw[h2,zc2]
  exact zah h1 (zdy _ hpw)
 ·rw[hr c hc]; simp
 -- few equations
 obtain⟨l,hl⟩:∃form:Nat->Nat->Int,∀b,form b=(match pv b with
  | some p=>λx=>R x p
  | none=>λx=>if x=b then 1 else 0):=⟨_,λ_=>rfl⟩
 obtain⟨z,⟨a0,ha0,hza⟩,hzb,hze⟩:=x5x hn (((List.range n).erase a).map l) (by
  grind) (λf hf x hx=>by
  grind)
 have heq:∀b,b<n->b≠a->sm n (λx=>l b x*z x)=0:=λb hb hne=>hze (l b) (za4.2 ⟨b,(List.mem_erase_of_ne hne).2 (za2.2 hb),rfl⟩)
 have hcol:∀t p,t<n->t≠a->pv t=some p->(sm n λb=>z b*R b p)=0:=λt p ht hne htp=>by
  grind
 have hnul:∀b,b<n->b≠a->pv b=none->z b=0:=λb hb hne hpb=>by
  grind [qt7]
 obtain⟨c1,la,hc1,hla,hsa,hna⟩:=h.comb a ha
 obtain⟨s,hs⟩:∃s:Nat->Int,s=λc=>sm n λb=>z b*R b c:=⟨_,rfl⟩
 have hpar:∃α β:Int,α≠0/\∀c,c<W->α*ρ a c=β*s c:=by
  cases hpa:pv a with
  | none=>
   have hz:=h.ind (λb=>z a*la b-la a*z b) (λb hb hne hpb=>by
    grind) (λt p ht htp=>by
    have hne:t≠a:=λe=>by grind
    obtain⟨hpW,_,hp0⟩:=h.piv t p ht htp
    rw[qs7 n (z a) (la a) la z (λb=>R b p),<- hla p hpW,hcol t p ht hne htp,hp0 a ha (zc9 hne)]
    simp)
   have hza0:z a≠0:=λq=>by
    grind [qd9]
   refine⟨z a*c1,la a,q17 hza0 hc1,λc hc=>?_⟩
   have e1:(sm n λb=>(z a*la b-la a*z b)*R b c)=0:=qr5 λb hb=>by grind
   rw[qs7 n (z a) (la a) la z (λb=>R b c),<- hla c hc] at e1
   grind
  | some p=>
   obtain⟨hpW,hpa0,hp0⟩:=h.piv a p ha hpa
   have hz:=h.ind (λb=>(c1*ρ a p)*z b-s p*la b) (λb hb hne hpb=>by
    grind) (λt q ht htq=>by
    obtain⟨hqW,_,hq0⟩:=h.piv t q ht htq
    rw[qs7 n (c1*ρ a p) (s p) z la (λb=>R b q),<- hla q hqW]
    by_cases e:t=a
    ·subst e
     rw[hpa] at htq
     obtain rfl:=zaa htq
     rw[hs]
     grind
    grind)
   have he:s p≠0:=λq=>by
    grind [qd9,q17]
   refine⟨s p*c1,c1*ρ a p,q17 he hc1,λc hc=>?_⟩
   have e1:(sm n λb=>((c1*ρ a p)*z b-s p*la b)*R b c)=0:=qr5 λb hb=>by grind
   rw[qs7 n (c1*ρ a p) (s p) z la (λb=>R b c),<- hla c hc] at e1
   grind
 obtain⟨α,β,hα,hab⟩:=hpar
 have h1:=wp5 hα hab hr c hc
 have h2:(s c).natAbs<=n*(n ^ (n-1)*B):=by
  rw[hs]
  refine x5v λb hb=>?_
  rw[zbq]
  exact zbb (hzb b hb) (hB b hb)
 have h3:n*(n ^ (n-1)*B)=n ^ n*B:=by
  rw[<- Nat.mul_assoc,zcu n,<- zb4,show(n-1).succ=n by omega]
 omega
open Go Go.RowKit Eng
def qz2 (m:List (List Int)) (s:List Int):List (List Int):=qk0 (qq6 m s)
def we5 (v:List Int):Nat->Bool
 | 0=>true
 | k+1=>we5 v k && (nI v k != 0)
def wp6 (m:List (List Int)) (s:List Int):Bool:=decide (s.length≠0) && decide (s.length<=m.length+1)
def q7w (m:List (List Int)) (n:Nat) (s:List Int):List Int:=qf6 n s (nL (qz2 m s) 0) s.length
def w9t (m:List (List Int)) (n:Nat) (s:List Int):List Int:=if nI (q7w m n s) (nI s 0).toNat<0 then q7n (q7w m n s) (-1) else q7w m n s
def wp7 (m:List (List Int)) (s:List Int):Bool:=wp6 m s && decide ((qz2 m s).length=1) && we5 (nL (qz2 m s) 0) s.length
abbrev Fit:=List Int × List (Int × Int)
def qi9 (m:List (List Int)) (y:List Int) (s:List (List Int)):List Fit:=s.filterMap λpix=>if(wn7 m y pix).2=true then some (wn7 m y pix).1 else none
def ql8 (m:List (List Int)) (y:List Int):Nat->List Fit
 | 0=>[]
 | k+1=>ql8 m y k++qi9 m y (qf0 (nL m 0).length k)
def fitsN (m:List (List Int)) (k:Int):Nat:=(min (min k (nL m 0).length) m.length+1).toNat
def q4n (m:List (List Int)) (y:List Int) (k:Int):List Fit:=ql8 m y (fitsN m k)
structure we6 (m:List (List Int)) (y:List Int) (k:Int):Prop where
 k0:0<=k
 k1:k<=1000
 one:0<m.length
 rows:m.length<=1000
 pix:(nL m 0).length<=1000
 sets:∀j:Nat,j<fitsN m k->∀s∈qf0 (nL m 0).length j,q3r m s y/\s.length<=100000
abbrev x5z:qz6:=wl7 [qb9,tQ] [x1e] (λx=>we6 x.2.1.1 x.2.1.2 x.1) (λx=>(q4n x.2.1.1 x.2.1.2 x.1).map λf=>(f,()))
def x50:List AObj:=[.dead,.dead,.dead,.dead,.dead,.dead,.dead,.dead,.dead]
def x51 (m:List (List Int)) (y:List Int) (k:Int):Nat->Option Inv
 | 0=>some (Eng.Inv.mk Nat Nat [16] 11 (λ_ s=>[(16,.lit (.int .i64 s))]) (λl s=>.cnt (some (ql8 m y s).length) :: .box 187 (.cons (.lit (.func (.yield l) #[] #[])) .nil) :: x50) (λ_ s=>s<=fitsN m k) (λ_ s=>fitsN m k-s))
 | 1=>some (Eng.Inv.mk (Nat × Nat) Nat [] 11 (λ_ _=>[]) (λq c=>.cnt (some ((ql8 m y q.2).length+(qi9 m y ((qf0 (nL m 0).length q.2).take c)).length)) :: .box 187 (.cons (.lit (.func (.yield q.1) #[] #[])) .nil) :: x50) (λq c=>c<=(qf0 (nL m 0).length q.2).length) (λ_ c=>c))
 | _=>none
theorem q9u (m:List (List Int)) (y:List Int) (a:Nat):∀j,∃t,ql8 m y (a+j)=ql8 m y a++t
 | 0=>⟨[],by simp⟩
 | j+1=>by
  obtain⟨t,ht⟩:=q9u m y a j
  grind [qi9,qf0,nL,Nat.add_assoc,ql8,List.append_assoc]
theorem q0s (m:List (List Int)) (y:List Int) {s:List (List Int)} {c:Nat} {p:List Int} (h:s[c]? = some p):qi9 m y (s.take (c+1))=qi9 m y (s.take c)++if(wn7 m y p).2=true then[(wn7 m y p).1] else[]:=by
 rw[zco,h]
 unfold qi9
 grind
theorem w46 (m:List (List Int)) (y:List Int) {s:List (List Int)} {c:Nat} {p:List Int} (h:s[c]? = some p) (hf:(wn7 m y p).2=true):∃t,qi9 m y s=qi9 m y (s.take c)++(wn7 m y p).1 :: t:=by
 have e:s=s.take (c+1)++s.drop (c+1):=(List.take_append_drop _ _).symm
 have h1:qi9 m y s=qi9 m y (s.take (c+1))++qi9 m y (s.drop (c+1)):=by
  grind [qi9,List.take_append_drop]
 rw[h1,q0s m y h,zap hf]
 simp
theorem w47:qv9 Tryz.prog 162 x5z:=by
 refine says (x6x (SpecsOk.cons w4s (SpecsOk.cons w83 (SpecsOk.cons q9p (SpecsOk.nil _)))) (ItsOk.cons q9o ItsOk.nil)) Tryz.func162 rfl rfl rfl [32] (λx=>x51 x.2.1.1 x.2.1.2 x.1) (λ_=>by kernel_rfl) dc ?_
 rintro⟨k,q,⟨⟩⟩ l h
 revert k q
 intro(k:Int) (q:List (List Int) × List Int) (h:we6 q.1 q.2 k)
 refine vcs (let Q0:=q4n q.1 q.2 k; let Q1:=(k,q,PUnit.unit); let Q2:=fitsN q.1 k; let Q3:=Int × Int; (0:Nat)<q.1.length/\fits .i64 (max2 false (max2 false k (↑(nL q.1 (0:Nat)).length:Int)) (↑q.1.length:Int)+(1:Int))/\∃(v0:Nat),∃(v1:Nat),Nat.le v1 Q2/\(((0:Int)=(↑v1:Int)/\True)/\some (0:Nat)=some (ql8 q.1 q.2 v1).length/\(Value.func (Fn.yield l) #[] #[]=Value.func (Fn.yield v0) #[] #[]/\True)/\True/\True/\True/\True/\True/\True/\True/\True/\True/\True)/\∀(v2:Nat),Nat.le v2 Q2->(decide ((↑v2:Int)<max2 false (max2 false k (↑(nL q.1 (0:Nat)).length:Int)) (↑q.1.length:Int)+(1:Int))=true->(0:Nat)<q.1.length/\True/\(((0:Ty.den qb9)<=(↑v2:Int)/\(↑v2:Int)<=(1000:Ty.den qb9))/\(0:Ty.den qb9)<=(↑(nL q.1 (0:Nat)).length:Int)/\(↑(nL q.1 (0:Nat)).length:Int)<=(1000:Ty.den qb9))/\∃(v5:Nat × Nat),∃(v6:Nat),Nat.le v6 (qf0 (↑(nL q.1 (0:Nat)).length:Int) (↑v5.2:Int)).length/\v6=(0:Nat)/\(some (ql8 q.1 q.2 v2).length=some ((ql8 q.1 q.2 v5.2).length+(qi9 q.1 q.2 (List.take v6 (qf0 (↑(nL q.1 (0:Nat)).length:Int) (↑v5.2:Int)))).length)/\(Value.func (Fn.yield v0) #[] #[]=Value.func (Fn.yield v5.1) #[] #[]/\True)/\True/\True/\True/\True/\True/\True/\True/\True/\True/\True)/\∀(v7:Nat),Nat.le v7 (qf0 (↑(nL q.1 (0:Nat)).length:Int) (↑v5.2:Int)).length->(∀(v9:List Int × qa3._f [] PUnit.unit),(List.map (λ(v11:List Int)=>(v11,())) (qf0 (↑(nL q.1 (0:Nat)).length:Int) (↑v2:Int)))[v7]?=some v9->∀(v11:q2v),(q3r q.1 (nL [v9.1] (0:Nat)) q.2/\(nL [v9.1] (0:Nat)).length<=(100000:Nat))/\[v9.1]=[v9.1]/\v11=v11/\True/\((wn7 q.1 q.2 (nL [v9.1] (0:Nat))).2=true->Value.func (Fn.yield v5.1) #[] #[]=Value.func (Fn.yield (qg6.l (qt9 [qb9,tQ] [x1e] [(32:Nat)] Q1 (List.map (λ(v13:List Int × List Q3)=>(v13,())) Q0) l))) #[] #[]/\(qg6.L (qt9 [qb9,tQ] [x1e] [(32:Nat)] Q1 (List.map (λ(v13:List Int × List Q3)=>(v13,())) Q0) l))[(ql8 q.1 q.2 v5.2).length+(qi9 q.1 q.2 (List.take v7 (qf0 (↑(nL q.1 (0:Nat)).length:Int) (↑v5.2:Int)))).length]?=some (((wn7 q.1 q.2 (nL [v9.1] (0:Nat))).1.1,(wn7 q.1 q.2 (nL [v9.1] (0:Nat))).1.2),())/\(∃(v13:Nat),Nat.le v13 (qf0 (↑(nL q.1 (0:Nat)).length:Int) (↑v5.2:Int)).length/\v13=v7+(1:Nat)/\some ((ql8 q.1 q.2 v5.2).length+(qi9 q.1 q.2 (List.take v7 (qf0 (↑(nL q.1 (0:Nat)).length:Int) (↑v5.2:Int)))).length+(1:Nat))=some ((ql8 q.1 q.2 v5.2).length+(qi9 q.1 q.2 (List.take v13 (qf0 (↑(nL q.1 (0:Nat)).length:Int) (↑v5.2:Int)))).length)/\(Value.func (Fn.yield v5.1) #[] #[]=Value.func (Fn.yield v5.1) #[] #[]/\True)/\True/\True/\True/\True/\True/\True/\True/\True/\True/\True)/\True)/\((wn7 q.1 q.2 (nL [v9.1] (0:Nat))).2=false->∃(v13:Nat),Nat.le v13 (qf0 (↑(nL q.1 (0:Nat)).length:Int) (↑v5.2:Int)).length/\v13=v7+(1:Nat)/\some ((ql8 q.1 q.2 v5.2).length+(qi9 q.1 q.2 (List.take v7 (qf0 (↑(nL q.1 (0:Nat)).length:Int) (↑v5.2:Int)))).length)=some ((ql8 q.1 q.2 v5.2).length+(qi9 q.1 q.2 (List.take v13 (qf0 (↑(nL q.1 (0:Nat)).length:Int) (↑v5.2:Int)))).length)/\(Value.func (Fn.yield v5.1) #[] #[]=Value.func (Fn.yield v5.1) #[] #[]/\True)/\True/\True/\True/\True/\True/\True/\True/\True/\True/\True))/\(v7=(List.map (λ(v10:List Int)=>(v10,())) (qf0 (↑(nL q.1 (0:Nat)).length:Int) (↑v2:Int))).length->fits .i64 ((↑v2:Int)+(1:Int))/\∃(v10:Nat),Nat.le v10 Q2/\fitsN q.1 k-v10<fitsN q.1 k-v2/\((↑v2:Int)+(1:Int)=(↑v10:Int)/\True)/\some ((ql8 q.1 q.2 v5.2).length+(qi9 q.1 q.2 (List.take v7 (qf0 (↑(nL q.1 (0:Nat)).length:Int) (↑v5.2:Int)))).length)=some (ql8 q.1 q.2 v10).length/\(Value.func (Fn.yield v5.1) #[] #[]=Value.func (Fn.yield v0) #[] #[]/\True)/\True/\True/\True/\True/\True/\True/\True/\True/\True/\True))/\(decide ((↑v2:Int)<max2 false (max2 false k (↑(nL q.1 (0:Nat)).length:Int)) (↑q.1.length:Int)+(1:Int))=false->(ql8 q.1 q.2 v2).length=(qg6.L (qt9 [qb9,tQ] [x1e] [(32:Nat)] Q1 (List.map (λ(v5:List Int × List Q3)=>(v5,())) Q0) l)).length)) ?_
 have hk0:=h.k0
 have hk1:=h.k1
 have hone:=h.one
 have hrows:=h.rows
 have hpix:=h.pix
 have hN:(fitsN q.1 k:Int)=min (min k (nL q.1 0).length) q.1.length+1:=by grind [fitsN]
 have hM:max2 false (max2 false k ((nL q.1 0).length:Int)) (q.1.length:Int)=min (min k (nL q.1 0).length) q.1.length:=rfl
 rw[hM]
 refine⟨hone,qa7,l,0,zae _,⟨rfl,rfl,rfl⟩,λs hs=>⟨λhlt=>?_,λhge=>?_⟩⟩
 ·have hsN:s<fitsN q.1 k:=ow
  refine⟨hone,ow,(l,s),0,zae _,rfl,⟨by rfl,rfl⟩,λc hc=>⟨?_,λhfin=>?_⟩⟩
  ·rintro⟨p,⟨⟩⟩ hp -
   have hp2:(qf0 (nL q.1 0).length s)[c]? = some p:=by
    grind
   have hcl:=(zaf.1 hp2).1
   dsimp only
   refine⟨h.sets s hsN p (zag hp2),λhf=>⟨rfl,?_,c+1,hcl,rfl,?_⟩,λhf=>⟨c+1,hcl,rfl,?_⟩⟩
   ·show((q4n q.1 q.2 k).map λf=>((f,()):qa3 [x1e]))[(ql8 q.1 q.2 s).length+(qi9 q.1 q.2 ((qf0 (nL q.1 0).length s).take c)).length]? = some ((wn7 q.1 q.2 p).1,())
    obtain⟨t,ht⟩:=q9u q.1 q.2 (s+1) (fitsN q.1 k-(s+1))
    rw[show s+1+(fitsN q.1 k-(s+1))=fitsN q.1 k by omega,ql8] at ht
    obtain⟨t2,ht2⟩:=w46 q.1 q.2 hp2 hf
    rw[za5]
    simp_all [q4n,List.append_assoc,List.getElem?_append_right,Nat.add_sub_cancel_left,Nat.le_refl,Nat.sub_self]
   ·rw[q0s q.1 q.2 hp2,zap hf,zas]
    rfl
   simp_all [q0s,if_neg,List.append_nil]
  ·rw[za3] at hfin
   refine⟨qa7,s+1,hsN,ow,ow,?_,rfl⟩
   grind [List.take_length,ql8,List.length_append]
 ·have e:s=fitsN q.1 k:=ow
  show(ql8 q.1 q.2 s).length=((q4n q.1 q.2 k).map λf=>((f,()):qa3 [x1e])).length
  rw[za3,e]
  rfl
abbrev x52:qa8:=q68 false none [tQ,qb9] (λ_=>True) (λx=>.clo 162 (.cons (.imm (.cons (.lit (.int .i64 x.2.1)) .nil) 0) (.cons (.imm (.cons (.dat (.list (.int .i64)) x.1.1) (.cons (.dat (.int .i64) x.1.2) .nil)) 0) .nil)))
theorem wx7:Meets Tryz.prog 119 x52:=by
 refine q0o (snd (SpecsOk.nil _)) Tryz.func119 rfl rfl (λ_ _=>none) (λ_=>by kernel_rfl) dc ?_
 rintro⟨q,k,⟨⟩⟩ -
 revert q k
 intro(q:List (List Int) × List Int) (k:Int)
 refine vcr (((k=k/\True)/\(0:Nat)=(0:Nat))/\((q.1=q.1/\q.2=q.2/\True)/\(0:Nat)=(0:Nat))/\True) ?_
 simp
structure xo5 (m:List (List Int)) (y:List Int) (k:Int):Prop where
 pre:we6 m y k
 len:(q4n m y k).length<=1000000
def shB (r:Int × Int):Bool:=r.2==1 && inB r.1 (0-1000000) 1000000
abbrev yq2:qa8:=qe4 true none [qy8] [.bool] (λ_=>True) (λx=>(shB x.1,()))
theorem w9u:Meets Tryz.prog 273 yq2:=by
 refine mt0 (SpecsOk.cons qs2 (SpecsOk.nil _)) Tryz.func273 ?_
 rintro⟨r,⟨⟩⟩ -
 revert r
 intro(r:Int × Int)
 refine vcs (((r.2==(1:Int))=true->True/\inB r.1 (-1000000:Int) (1000000:Int)=shB r)/\((r.2==(1:Int))=false->false=shB r)) ?_
 grind [shB]
def nQ (l:List (Int × Int)) (i:Nat):Int × Int:=qe5 qy8 l i
def whX (n:Nat) (f:Fit):Nat->List Int
 | 0=>List.replicate n 0
 | i+1=>(whX n f i).set (nI f.1 i).toNat (nQ f.2 i).1
def whB (f:Fit):Nat->Bool
 | 0=>true
 | i+1=>whB f i && shB (nQ f.2 i)
theorem q4o (n:Nat) (f:Fit):∀i,(whX n f i).length=n
 | 0=>by simp[whX]
 | i+1=>by rw[whX,zaz,q4o n f i]
def whL (n:Nat) (L:List Fit):List (List Int):=L.filterMap λf=>if whB f f.1.length=true then some (whX n f f.1.length) else none
def qk9 (m:List (List Int)) (y:List Int) (k:Int):List (List Int) × Int:=if wt4 m y k=0 then(whL (nL m 0).length (q4n m y k),0) else([],wt4 m y k)
structure ya3 (n:Nat) (f:Fit):Prop where
 len:f.2.length=f.1.length
 lenB:f.1.length<=1000
 at_:∀j,j<f.1.length->0<=nI f.1 j/\nI f.1 j<n
structure wx8 (m:List (List Int)) (y:List Int) (k:Int):Prop where
 pre:xo5 m y k
 each:∀f∈q4n m y k,ya3 (nL m 0).length f
theorem xo6 (n:Nat) {L:List Fit} {c:Nat} {f:Fit} (h:L[c]? = some f):whL n (L.take (c+1))=whL n (L.take c)++if whB f f.1.length=true then[whX n f f.1.length] else[]:=by
 rw[zco,h]
 unfold whL
 grind
open Go Go.RowKit Ls Eng
section
variable {P : Program} {Q : Exit -> Act -> World -> Prop}
end
theorem q7x (m:List (List Int)) (pix y:List Int):(qj6 m pix y).length=m.length:=qn2 _ _ _
theorem w48 (m:List (List Int)) (pix y:List Int) (k:Nat) (hk:k<m.length):nL (qj6 m pix y) k=nL (qq6 m pix) k++[nI y k]:=by
 grind [qk3,q7x,q1l,qj6,qb3]
open Go Go.RowKit Eng
def dt (W:Nat) (r:List Int) (z:Nat->Int):Int:=sm W λc=>nI r c*z c
theorem w19 {W:Nat} {r' r p:List Int} {z:Nat->Int} {α β γ:Int} (h:∀c,c<W->α*nI r' c=β*nI r c-γ*nI p c):α*dt W r' z=β*dt W r z-γ*dt W p z:=by
 unfold dt
 rw[<- qt6,<- qt6,<- qt6,<- xw8]
 grind [qg4,Int.mul_assoc,Int.sub_mul]
theorem ql0 (P:List Int) (x:Int) {q:Nat} (h:q<P.length):nI (P++[x]) q=nI P q:=by
 grind [qf2,List.length_append,List.getElem_append_left]
theorem qr0 (P:List Int) (x:Int):nI (P++[x]) P.length=x:=by
 simp_all [qf2,List.length_append,Nat.lt_succ_self,List.getElem_append_right,Nat.le_refl]
theorem wp8 {a x:Int} (ha:0<a) (h:0<a*x):0<x:=Int.lt_of_mul_lt_mul_left (a:=a) ow ow
structure Elm (W j:Nat) (r' r p:List Int):Prop where
 zero:nI r' j=0
 rel:∃α β γ:Int,0<α/\0<β/\∀c,c<W->α*nI r' c=β*nI r c-γ*nI p c
 nice:∀f,x5y W f (nI r)->x5y W f (nI r')
structure St (n W:Nat) (R:Nat->Nat->Int) (j:Nat) (rows:List (List Int)) (P:List Int):Prop where
 len:rows.length=n
 each:∀i,i<n->(nL rows i).length=W
 tag:∃(ρ:Nat->Nat->Int) (pv:Nat->Option Nat) (τ:Nat->Nat),El n W R ρ pv/\(∀i,i<n->τ i<n)/\(∀i k,i<n->k<n->τ i=τ k->i=k)/\(∀a,a<n->∃i,i<n/\τ i=a)/\(∀i,i<n->∀c,c<W->ρ (τ i) c=nI (nL rows i) c)/\(∀q,q<n->pv (τ q)=if q<P.length then some (nI P q).toNat else none)/\∀i,i<n->x5y W (R (τ i)) (nI (nL rows i))
 sol:∀z:Nat->Int,(∀a,a<n->(sm W λc=>R a c*z c)=0)↔∀i,i<n->dt W (nL rows i) z=0
 pl:P.length<=n
 zero:∀i,P.length<=i->i<n->∀c,c<j->nI (nL rows i) c=0
 pos:∀q,q<P.length->0<=nI P q/\nI P q<j/\0<nI (nL rows q) (nI P q).toNat/\(∀c,c<(nI P q).toNat->nI (nL rows q) c=0)/\∀i,i<n->i≠q->nI (nL rows i) (nI P q).toNat=0
 asc:∀q k,q<k->k<P.length->nI P q<nI P k
theorem St.skip {n W:Nat} {R:Nat->Nat->Int} {j:Nat} {rows:List (List Int)} {P:List Int} (h:St n W R j rows P) (hz:∀i,P.length<=i->i<n->nI (nL rows i) j=0):St n W R (j+1) rows P:=by
 refine⟨h.len,h.each,h.tag,h.sol,h.pl,λi h1 h2 c hc=>?_,λq hq=>?_,h.asc⟩
 ·rcases za1.1 hc with e | e
  ·exact h.zero i h1 h2 c e
  grind
 ·obtain⟨q1,q2,q3,q4,q5⟩:=h.pos q hq
  grind
theorem St.step {n W:Nat} {R:Nat->Nat->Int} {j:Nat} {rows rows':List (List Int)} {P:List Int} (h:St n W R j rows P) (hj:j<W) (hk:P.length<n) (hlen:rows'.length=n) (heach:∀i,i<n->(nL rows' i).length=W)
  (π:Nat->Nat) (hπ:∀i,i<n->π i<n) (hinj:∀i k,i<n->k<n->π i=π k->i=k) (hsur:∀i,i<n->∃k,k<n/\π k=i) (hfix:∀i,i<P.length->π i=i)
  (hx:∃s:Int,(s=1\/s=-1)/\∀c,c<W->nI (nL rows' P.length) c=s*nI (nL rows (π P.length)) c) (hpos:0<nI (nL rows' P.length) j)
  (ho:∀i,i<n->i≠P.length->Elm W j (nL rows' i) (nL rows (π i)) (nL rows' P.length)):St n W R (j+1) rows' (P++[(j:Int)]):=by
 obtain⟨s,hs,hsx⟩:=hx
 have hs0:s≠0:=by rcases hs with rfl | rfl <;> decide
 have hge:∀i,P.length<=i->i<n->P.length<=π i:=λi h1 h2=>by
  rcases zav (π i) P.length with e | e
  ·have:=hinj (π i) i (hπ i h2) h2 (hfix _ e)
   omega
  ·exact e
 have hnx:nI (nL rows (π P.length)) j≠0:=λe=>by
  have:=hsx j hj
  rw[e,zbi] at this
  omega
 have hpk:∀c,c<j->nI (nL rows' P.length) c=0:=λc hc=>by
  rw[hsx c ow,h.zero _ (hge _ (zad _) hk) (hπ _ hk) c hc,zbi]
 have hpz:∀q,q<P.length->nI (nL rows' P.length) (nI P q).toNat=0:=λq hq=>by
  have:=h.pos q hq
  exact hpk _ ow
 obtain⟨ρ,pv,τ,hE,t1,t2,t3,t4,t5,t6⟩:=h.tag
 have hsur2:∀a,∃i,a<n->i<n/\τ (π i)=a:=λa=>by
  by_cases ha:a<n
  ·obtain⟨i,hi,e⟩:=t3 a ha
   obtain⟨k,hk,e2⟩:=hsur i hi
   exact⟨k,λ_=>⟨hk,by rw[e2,e]⟩⟩
  ·exact⟨0,λq=>absurd q ha⟩
 obtain⟨σ,hσ⟩:=zbc hsur2
 have hστ:∀i,i<n->σ (τ (π i))=i:=λi hi=>by
  obtain⟨q1,q2⟩:=hσ (τ (π i)) (t1 _ (hπ i hi))
  exact hinj _ _ q1 hi (t2 _ _ (hπ _ q1) (hπ _ hi) q2)
 refine⟨hlen,heach,⟨λa c=>nI (nL rows' (σ a)) c,λb=>if b=τ (π P.length) then some j else pv b,λi=>τ (π i),?_,λi hi=>t1 _ (hπ i hi),λi k hi hk e=>hinj _ _ hi hk (t2 _ _ (hπ i hi) (hπ k hk) e),λa ha=>⟨σ a,hσ a ha⟩,λi hi c hc=>by dsimp only; rw[hστ i hi],λq hq=>?_,λi hi=>?_⟩,λz=>?_,by rw[zas]; exact hk,λi h1 h2 c hc=>?_,λq hq=>?_,λq k h1 h2=>?_⟩
 ·refine hE.step (t1 _ (hπ _ hk)) ?_ hj ?_ ⟨s,hs0,λc hc=>?_⟩ λa ha hne=>?_
  ·rw[t5 _ (hπ _ hk),zai (Nat.not_lt.2 (hge _ (zad _) hk))]
  ·rw[t4 _ (hπ _ hk) j hj]; exact hnx
  ·try dsimp only
   rw[hστ _ hk,hsx c hc,t4 _ (hπ _ hk) c hc]
  ·obtain⟨q1,q2⟩:=hσ a ha
   have hne2:σ a≠P.length:=λe=>hne (by rw[<- q2,e])
   have hel:=ho _ q1 hne2
   refine⟨hel.zero,?_⟩
   obtain⟨α,β,γ,hα,hβ,hr⟩:=hel.rel
   refine⟨α,β,γ,ow,ow,λc hc=>?_⟩
   try dsimp only
   rw[hστ _ hk,hr c hc]
   have:=t4 _ (hπ _ q1) c hc
   rw[q2] at this
   rw[this]
 ·dsimp only
  by_cases e:q=P.length
  ·subst e
   rw[zap rfl,zap (by rw[zas]; exact zdv _),qr0]
   rfl
  ·rw[zai λq2=>e (hinj _ _ hq hk (t2 _ _ (hπ _ hq) (hπ _ hk) q2)),t5 _ (hπ _ hq),zas]
   rcases zav q P.length with e2 | e2
   ·rw[hfix _ e2,zap e2,zap ow,ql0 _ _ e2]
   ·rw[zai (Nat.not_lt.2 (hge _ e2 hq)),zai (by simp; omega)]
 ·dsimp only
  by_cases e:i=P.length
  ·subst e
   rcases t6 _ (hπ _ hi) with⟨u,hu,hr⟩ | hr | hr
   ·refine .inl ⟨s*u,?_,λc hc=>by rw[hsx c hc,hr c hc,zea]⟩
    rcases hs with rfl | rfl <;> rcases hu with rfl | rfl <;> simp
   ·exact .inr (.inl λc hc=>by rw[hsx c hc,hr c hc,zbi])
   ·refine .inr (.inr λd hd=>hr d λc hc=>?_)
    have:=hd c hc
    rw[hsx c hc,zbq] at this
    have h1:s.natAbs=1:=by rcases hs with rfl | rfl <;> rfl
    rwa [h1,zc2] at this
  ·exact(ho i hi e).nice _ (t6 _ (hπ _ hi))
 ·rw[h.sol z]
  have hdk:dt W (nL rows' P.length) z=s*dt W (nL rows (π P.length)) z:=by
   have:=w19 (W:=W) (r':=nL rows' P.length) (r:=nL rows (π P.length)) (p:=[]) (z:=z) (α:=1) (β:=s) (γ:=0) λc hc=>by rw[hsx c hc]; simp
   simpa using this
  constructor
  ·intro hz i hi
   have hzk:dt W (nL rows' P.length) z=0:=by rw[hdk,hz _ (hπ _ hk),zbi]
   by_cases e:i=P.length
   ·rw[e]; exact hzk
   ·obtain⟨α,β,γ,hα,hβ,hr⟩:=(ho i hi e).rel
    have:=w19 (z:=z) hr
    rw[hzk,hz _ (hπ _ hi),zbi,zbi] at this
    exact qd9 ow (show α≠0 by omega)
  ·intro hz i' hi'
   obtain⟨i,hi,rfl⟩:=hsur i' hi'
   by_cases e:i=P.length
   ·have:=hz _ hk
    rw[hdk] at this
    rw[e]
    exact qd9 this hs0
   ·obtain⟨α,β,γ,hα,hβ,hr⟩:=(ho i hi e).rel
    have:=w19 (z:=z) hr
    rw[hz _ hk,hz _ hi,zbi,zbi] at this
    exact qd9 (a:=β) ow ow
 ·rw[zas] at h1
  have h1:P.length+1<=i:=h1
  have hel:=ho i h2 ow
  rcases za1.1 hc with e | e
  ·obtain⟨α,β,γ,hα,hβ,hr⟩:=hel.rel
   have:=hr c ow
   rw[hpk c e,h.zero _ (hge _ ow h2) (hπ _ h2) c e] at this
   exact qd9 (a:=α) (by simpa using this) ow
  ·rw[e]; exact hel.zero
 ·rw[zas] at hq
  have hq:q<P.length+1:=hq
  rcases za1.1 hq with e | e
  ·rw[ql0 _ _ e]
   obtain⟨q1,q2,q3,q4,q5⟩:=h.pos q e
   have hel:=ho q ow ow
   obtain⟨α,β,γ,hα,hβ,hr⟩:=hel.rel
   refine⟨q1,ow,wp8 hα ?_,λc hc=>?_,λi hi hne=>?_⟩
   ·rw[hr _ ow,hpz q e,hfix _ e,zbi,Int.sub_zero]
    exact Int.mul_pos hβ q3
   ·have:=hr c ow
    rw[hpk c ow,hfix _ e,q4 c hc] at this
    exact qd9 (a:=α) (by simpa using this) ow
   ·by_cases e3:i=P.length
    ·rw[e3]; exact hpz q e
    ·obtain⟨α,β,γ,hα,hβ,hr⟩:=(ho i hi e3).rel
     have:=hr (nI P q).toNat ow
     rw[hpz q e,q5 (π i) (hπ _ hi) λe4=>hne (hinj _ _ hi ow (by rw[e4,hfix _ e]))] at this
     exact qd9 (a:=α) (by simpa using this) ow
  ·subst e
   rw[qr0]
   refine⟨ow,ow,hpos,λc hc=>hpk c hc,λi hi hne=>(ho i hi hne).zero⟩
 ·rw[zas] at h2
  have h2:k<P.length+1:=h2
  rcases za1.1 h2 with e | e
  ·rw[ql0 _ _ e,ql0 _ _ ow]; exact h.asc q k h1 e
  ·subst e
   rw[qr0,ql0 _ _ h1]
   have:=h.pos q h1
   omega
theorem St.bound {n W:Nat} {R:Nat->Nat->Int} {j:Nat} {rows:List (List Int)} {P:List Int} (h:St n W R j rows P) (hone:∀a c,a<n->c<j->(R a c).natAbs<=1) {i c B:Nat} (hi:i<n) (hc:c<W) (hB:∀b,b<n->(R b c).natAbs<=B):(nI (nL rows i) c).natAbs<=n ^ n*B:=by
 obtain⟨ρ,pv,τ,hE,t1,t2,t3,t4,t5,t6⟩:=h.tag
 rw[<- t4 i hi c hc]
 refine hE.bound (λt p ht hp b hb=>?_) (t1 i hi) ?_ hc hB
 ·obtain⟨q,hq,rfl⟩:=t3 t ht
  rw[t5 q hq] at hp
  split at hp
  ·rename_i hqP
   obtain rfl:=zaa hp
   have:=h.pos q hqP
   exact hone b _ hb ow
  ·cases hp
 ·rcases t6 i hi with⟨s,hs,hr⟩ | hr | hr
  ·exact .inl ⟨s,hs,λc hc=>by rw[t4 i hi c hc]; exact hr c hc⟩
  ·exact .inr (.inl λc hc=>by rw[t4 i hi c hc]; exact hr c hc)
  ·exact .inr (.inr λd hd=>hr d λc hc=>by rw[<- t4 i hi c hc]; exact hd c hc)
theorem wx9 (l:List Int) {c:Nat} (h:l.length<=c):nI l c=0:=by
 unfold nI qe5
 simp[List.getElem?_eq_none h]
 rfl
theorem xx0 {l:List Int} {f:Int->Int} {c:Nat} (h:c<l.length):nI (l.map f) c=f (nI l c):=by
 grind [qf2]
theorem q9v {l:List Int} {c:Nat} (h:c<l.length):nI l c∈l:=by grind [qf2,List.getElem_mem]
theorem wp9 {l:List Int} {x:Int} (h:x∈l):∃c,c<l.length/\x=nI l c:=by
 obtain⟨c,hc,rfl⟩:=zbu.1 h
 exact⟨c,hc,(qf2 l c hc).symm⟩
theorem w9v (a b:Int):(gcdI a b).natAbs=Nat.gcd a.natAbs b.natAbs:=rfl
theorem x53:∀(l:List Int) (a:Int),(l.foldl gcdI a).natAbs∣a.natAbs/\(∀x∈l,(l.foldl gcdI a).natAbs∣x.natAbs)/\∀d:Nat,d∣a.natAbs->(∀x∈l,d∣x.natAbs)->d∣(l.foldl gcdI a).natAbs
 | [],a=>⟨Nat.dvd_refl _,λx hx=>(by grind),λd h _=>h⟩
 | y :: l,a=>by
  obtain⟨h1,h2,h3⟩:=x53 l (gcdI a y)
  rw[List.foldl_cons]
  rw[w9v] at h1 h3
  refine⟨Nat.dvd_trans h1 (zcr _ _),λx hx=>?_,λd ha hx=>h3 d (Nat.dvd_gcd ha (hx y (by simp))) λx hx'=>hx x (by grind)⟩
  rcases zao.1 hx with rfl | hx
  all_goals grind [Nat.dvd_trans,Nat.gcd_dvd_right]
theorem q7y:∀(l:List Int) (a:Int),0<=a->0<=l.foldl gcdI a
 | [],a,h=>h
 | y :: l,a,_=>q7y l _ (q7d _ _)
theorem q2r (l:List Int):0<=gcdL l:=q7y l 0 dc
theorem q5l (l:List Int):qe2 l=qt4 l:=by
 have h0:=q2r l
 unfold qe2 qt4
 split
 ·grind
 simp_all [max,gcdL]
theorem qw6 (l:List Int) {c:Nat} (hc:c<l.length):max (gcdL l) 1*nI (qt4 l) c=nI l c:=by
 have h0:=q2r l
 unfold qt4
 rw[xx0 hc]
 apply zcq
 rcases zdi 0 (gcdL l) with h | h
 ·grind [max,gcdL,Int.natAbs_dvd_natAbs,x53,q9v]
 ·rw[show max (gcdL l) 1=1 by omega]
  simp
def Prim (l:List Int):Prop:=(∀c,c<l.length->nI l c=0)\/∀d:Nat,(∀c,c<l.length->d∣(nI l c).natAbs)->d=1
theorem qn7 (l:List Int):Prim (qt4 l):=by
 have h0:=q2r l
 unfold Prim
 rw[qw5]
 rcases zdi 0 (gcdL l) with h | h
 ·refine .inr λd hd=>?_
  have hm:max (gcdL l) 1=gcdL l:=ow
  have h1:(gcdL l).natAbs*d∣(gcdL l).natAbs:=(x53 l 0).2.2 _ (Nat.dvd_zero _) λx hx=>by
   obtain⟨c,hc,rfl⟩:=wp9 hx
   grind [qw6,Int.natAbs_mul,Nat.mul_dvd_mul_left]
  have h2:(gcdL l).natAbs*d∣(gcdL l).natAbs*1:=by grind
  exact Nat.dvd_one.1 (Nat.dvd_of_mul_dvd_mul_left ow h2)
 ·refine .inl λc hc=>?_
  have h1:nI l c=0:=by
   have:=(x53 l 0).2.1 _ (q9v hc)
   have e:(l.foldl gcdI 0).natAbs=0:=by
    grind [gcdL]
   simp_all
  have:=qw6 l hc
  grind
theorem Prim.nice {l:List Int} {W:Nat} (h:Prim l) (hl:l.length=W) (f:Nat->Int):x5y W f (nI l):=by
 subst hl
 exact .inr (h.imp id id)
theorem xx1 {W j:Nat} {u r p:List Int} {β γ:Int} (hj:j<W) (hu:u.length=W) (h0:nI u j=0) (hβ:0<β) (h:∀c,c<W->nI u c=β*nI r c-γ*nI p c):Elm W j (qt4 u) r p:=by
 subst hu
 have hG:0<max (gcdL u) 1:=ow
 refine⟨?_,⟨max (gcdL u) 1,β,γ,hG,hβ,λc hc=>by grind [qw6]⟩,λf _=>(qn7 u).nice (qw5 u) f⟩
 grind [qw6,qd9]
theorem xo7 {W j:Nat} {r p:List Int} (h0:nI r j=0):Elm W j r r p:=⟨h0,⟨1,1,0,dc,dc,λc _=>by simp⟩,λ_ h=>h⟩
theorem w9w (r b:List Int) (j:Nat) {c:Nat} (hc:c<r.length):nI (q5g r b j) c=x3h r b j c:=by
 grind [qf2,q1c,q5g]
theorem w9x {W j:Nat} {r p:List Int} (hj:j<W) (hr:r.length=W) (hp:0<nI p j):Elm W j (qw3 r p j) r p:=by
 have hg:0<gcdI (nI r j) (nI p j):=qu6 (.inr ow)
 have e1:gcdI (nI r j) (nI p j)*q1 r p j=nI p j:=zcq (zck.1 (zc1 _ _))
 have e2:gcdI (nI r j) (nI p j)*q2 r p j=nI r j:=zcq (zck.1 (zcr _ _))
 unfold qw3
 rw[q5l]
 refine xx1 (β:=q1 r p j) (γ:=q2 r p j) hj (by grind [q1c]) ?_ (wp8 hg ow) λc hc=>?_
 all_goals grind [w9w,x3h,nI,q1,q2,gcdI]
theorem xo8 (r p:List Int) (j:Nat) {c:Nat} (hc:c<r.length):nI (w4t r p j) c=nI r c*nI p j-nI p c*nI r j:=by
 grind [qf2,w4t]
theorem w9y (r p:List Int) (j:Nat):(w4t r p j).length=r.length:=by simp[w4t]
theorem q7z {W j:Nat} {r p:List Int} (hj:j<W) (hr:r.length=W) (hp:0<nI p j):Elm W j (qh9 r p j) r p:=by
 unfold qh9
 refine xx1 (β:=nI p j) (γ:=nI r j) hj (by grind [w9y]) ?_ hp λc hc=>?_
 all_goals grind [xo8]
structure Mat (n W:Nat) (M:List (List Int)):Prop where
 len:M.length=n
 each:∀i,i<n->(nL M i).length=W
def rowOf (M:List (List Int)):Nat->Nat->Int:=λa c=>nI (nL M a) c
theorem wq0 (r:List Int) (c:Nat):nI (xl1 r) c=- nI r c:=by
 grind [Nat.lt_or_ge,qf2,wc8,xl1,wx9]
theorem w9z (r:List (List Int)) (k i:Nat):nL (r.drop k) i=nL r (k+i):=by
 grind [nL,qe5]
theorem w90 {r:List (List Int)} {k j:Nat} (h:qs3 r k j<0):∀i,k<=i->i<r.length->nI (nL r i) j=0:=λi h1 h2=>by
 unfold qs3 ixT at h
 split at h
 ·omega
 ·rename_i hn
  have:=zbw.1 (zdo.2 hn) (nL r i) (by
   have:=w9z r k (i-k)
   grind [q15,List.length_drop])
  grind
theorem w2a {r:List (List Int)} {k j:Nat} (h:0<=qs3 r k j):nI (nL r (k+(qs3 r k j).toNat)) j≠0:=by
 unfold qs3 ixT at h ⊢
 split at h
 ·rename_i ha
  rw[zap ha]
  have h1:=zd4 (xs:=r.drop k) (p:=λr=>nI r j != 0) (w:=List.findIdx_lt_length.2 (by grind))
  grind [nI,List.findIdx_lt_length,qk3,w9z]
 omega
theorem St.zero_ {n W:Nat} {M:List (List Int)} (h:Mat n W M):St n W (rowOf M) 0 M []:=by
 refine⟨h.len,h.each,⟨rowOf M,λ_=>none,id,El.start λa _=>⟨1,dc,λj _=>zds _⟩,λi hi=>hi,λi k _ _ e=>e,λa ha=>⟨a,ha,rfl⟩,λi _ c _=>rfl,λq _=>by simp,λi _=>.inl ⟨1,.inl rfl,λc _=>(zds _).symm⟩⟩,λz=>zd5,zae _,λi _ _ c hc=>absurd hc (zat _),λq hq=>absurd hq (zat _),λq k _ hk=>absurd hk (zat _)⟩
theorem q9w {n W j:Nat} {R:Nat->Nat->Int} {s:List (List Int) × List Int} (hj:j<W) (h:St n W R j s.1 s.2):St n W R (j+1) (qu8 s j).1 (qu8 s j).2:=by
 obtain⟨r,P⟩:=s
 have h:St n W R j r P:=h
 unfold qu8
 split
 ·rename_i hn
  exact h.skip λi h1 h2=>w90 hn i h1 (by rw[h.len]; omega)
 ·rename_i hn
  have hn:0<=qs3 r P.length j:=Int.not_lt.1 hn
  have hlen:=h.len
  have hpl:=h.pl
  have hb:=q1i r P.length j ow hn
  have hk:P.length<n:=ow
  have hne:=w2a hn
  show St n W R (j+1) (xe6 (qi0 r P.length j) P.length j) (P++[(j:Int)])
  obtain⟨b,hbd⟩:∃b,b=P.length+(qs3 r P.length j).toNat:=⟨_,rfl⟩
  rw[<- hbd] at hb hne
  have hsw:∀i,i<n->nL (q1h r P.length j) i=nL r (if i=P.length then b else if i=b then P.length else i):=λi hi=>by
   unfold q1h
   rw[<- hbd,q3m _ _ _ ow hb i ow]
   grind
  have hpr:∀i,i<n->i≠P.length->nL (qi0 r P.length j) i=nL (q1h r P.length j) i:=λi hi hne=>by
   simp_all [q3n,if_neg]
  have hpk:∃s:Int,(s=1\/s=-1)/\(∀c,nI (nL (qi0 r P.length j) P.length) c=s*nI (nL r b) c)/\0<nI (nL (qi0 r P.length j) P.length) j:=by
   have e:=hsw P.length hk
   rw[zap rfl] at e
   rw[q3n _ _ _ _ ow,e]
   by_cases q:nI (nL r b) j<0
   ·rw[zap ⟨rfl,q⟩]
    refine⟨-1,.inr rfl,λc=>by grind [wq0],by grind [wq0]⟩
   ·rw[zai λk=>q k.2]
    exact⟨1,.inl rfl,λc=>by omega,ow⟩
  obtain⟨s,hs,hsx,hpos⟩:=hpk
  have hcl:xe6 (qi0 r P.length j) P.length j=xe6 (qi0 r P.length j) P.length j:=rfl
  have hat:∀i,i<n->nL (xe6 (qi0 r P.length j) P.length j) i=wh7 (qi0 r P.length j) P.length j i:=λi hi=>w8r _ _ _ _ (by grind [qk7])
  have heach:=q1j (r:=r) (k:=P.length) (j:=j) (W:=W) ow hn λi hi=>h.each i ow
  have hatk:nL (xe6 (qi0 r P.length j) P.length j) P.length=nL (qi0 r P.length j) P.length:=by
   rw[hat _ hk]; unfold wh7; simp
  refine h.step hj hk (by grind [wd0,qk7]) (λi hi=>?_) (λi=>if i=P.length then b else if i=b then P.length else i) (λi hi=>?_) (λi k hi hk2 e=>?_) (λi hi=>?_) (λi hi=>?_) ⟨s,hs,λc hc=>?_⟩ ?_ λi hi hne2=>?_
  ·grind [wh7,q9l]
  ·grind
  ·grind
  ·refine⟨if i=P.length then b else if i=b then P.length else i,?_,?_⟩
   all_goals grind
  ·grind
  ·grind
  ·grind
  ·rw[hatk,hat i hi]
   try dsimp only
   rw[<- hsw i hi,<- hpr i hi hne2]
   unfold wh7
   by_cases q:nI (nL (qi0 r P.length j) i) j=0
   ·simp_all [if_neg,xo7]
   ·rw[zap ⟨hne2,q⟩]
    grind [w9x]
theorem q1p {n W:Nat} {M:List (List Int)} (h:Mat n W M):∀j,j<=W->St n W (rowOf M) j (qb8 M j).1 (qb8 M j).2
 | 0,_=>St.zero_ h
 | j+1,hj=>q9w ow (q1p h j ow)
structure Small (n C W:Nat) (M:List (List Int)):Prop extends Mat n W M where
 n6:n<=6
 cw:C<=W
 w:W<=1000
 one:∀a c,a<n->c<C->(nI (nL M a) c).natAbs<=1
 read:∀a c,a<n->c<W->(nI (nL M a) c).natAbs<=1000000
theorem yq3 {n:Nat} (h:n<=6):n ^ n<=46656:=by
 have:∀k:Fin 7,k.val ^ k.val<=46656:=dc
 exact this ⟨n,ow⟩
theorem St.small {n C W j:Nat} {M rows:List (List Int)} {P:List Int} (hM:Small n C W M) (h:St n W (rowOf M) j rows P) (hj:j<=C) {i:Nat} (hi:i<n):(∀c,c<C->(nI (nL rows i) c).natAbs<=46656)/\∀c,c<W->(nI (nL rows i) c).natAbs<=46656000000:=by
 have h6:=yq3 hM.n6
 have hcw:=hM.cw
 refine⟨λc hc=>?_,λc hc=>?_⟩
 ·have:=h.bound (λa c ha hc=>hM.one a c ha ow) hi (show c<W by omega) (B:=1) λb hb=>hM.one b c hb hc
  omega
 ·have:=h.bound (λa c ha hc=>hM.one a c ha ow) hi hc (B:=1000000) λb hb=>hM.read b c hb hc
  omega
theorem wy0 {a b:Int} {A B:Nat} (ha:a.natAbs<=A) (hb:b.natAbs<=B):(a*b).natAbs<=A*B:=by
 simp_all [Int.natAbs_mul,Nat.mul_le_mul]
theorem q6c (a b:Int):(a.tdiv b).natAbs<=a.natAbs:=by rw[Int.natAbs_tdiv]; exact Nat.div_le_self _ _
structure Sml (n C W K B:Nat) (M:List (List Int)):Prop extends Mat n W M where
 n6:n<=6
 cw:C<=W
 w:W<=1000
 k1:1<=K
 kk:K*K<=B
 kB:K<=691200
 bB:B<=700000000000
 read:∀a c,a<n->c<W->(nI (nL M a) c).natAbs<=B
 small:∀j rows P,j<=C->St n W (rowOf M) j rows P->∀i,i<n->(∀c,c<C->(nI (nL rows i) c).natAbs<=K)/\∀c,c<W->(nI (nL rows i) c).natAbs<=B
theorem Small.sml {n C W:Nat} {M:List (List Int)} (h:Small n C W M):Sml n C W 46656 46656000000 M:=
 ⟨h.toMat,h.n6,h.cw,h.w,dc,dc,dc,dc,λa c ha hc=>by have:=h.read a c ha hc; omega,λj rows P hj hs i hi=>hs.small h hj hi⟩
theorem x1x {n C W K B:Nat} {M:List (List Int)} (hM:Sml n C W K B M):q2o M C W:=by
 have hkB:=hM.kB
 have hbB:=hM.bB
 have hBK:B*K<=700000000000*691200:=zbb hbB hkB
 have hn:=hM.n6
 have hl:=hM.len
 have hw:=hM.w
 have hcw:=hM.cw
 refine⟨ow,hw,hM.cw,λi hi=>hM.each i ow,λj hj hp=>?_⟩
 have hst:=q1p hM.toMat j ow
 have hsm:=λ{i} (hi:i<n)=>hM.small _ _ _ ow hst i hi
 have hlen:=hst.len
 have hpl:=hst.pl
 generalize qb8 M j=s at hp hst hsm hlen hpl ⊢
 obtain⟨r,P⟩:=s
 simp only[] at hp hst hsm hlen hpl ⊢
 have hb:=q1i r P.length j ow hp
 have heachS:=q7j (r:=r) (k:=P.length) (j:=j) (W:=W) ow hp λi hi=>hst.each i ow
 have heach:=q1j (r:=r) (k:=P.length) (j:=j) (W:=W) ow hp λi hi=>hst.each i ow
 have hsw:∀i,i<n->(∀c,c<C->(nI (nL (q1h r P.length j) i) c).natAbs<=K)/\∀c,c<W->(nI (nL (q1h r P.length j) i) c).natAbs<=B:=λi hi=>by
  unfold q1h
  grind [q3m]
 have hpr:∀i,i<n->(∀c,c<C->(nI (nL (qi0 r P.length j) i) c).natAbs<=K)/\∀c,c<W->(nI (nL (qi0 r P.length j) i) c).natAbs<=B:=λi hi=>by
  rw[q3n _ _ _ _ ow]
  split
  all_goals grind [wq0,Int.natAbs_neg]
 have hst2:=q9w (j:=j) ow (show St n W (rowOf M) j (r,P).1 (r,P).2 from hst)
 have hpk:nI (nL (qi0 r P.length j) P.length) j≠0:=by
  have e:=w2a hp
  have hs:nL (q1h r P.length j) P.length=nL r (P.length+(qs3 r P.length j).toNat):=by
   unfold q1h
   rw[q3m _ _ _ ow hb _ ow]
   grind
  rw[q3n _ _ _ _ ow]
  split
  ·rw[wq0,hs]; omega
  ·rw[hs]; exact e
 have hB:BIG=4000000000000000000:=rfl
 have hB2:x45=2000000000000000000:=rfl
 refine⟨λx hx=>?_,λi hi hne hz=>⟨?_,?_,?_,hpk,?_,?_,λc hc=>?_,λc hc=>?_⟩⟩
 ·obtain⟨c,hc,rfl⟩:=wp9 hx
  grind
 ·grind
 ·grind
 ·grind
 ·grind
 ·have:=(hpr P.length ow).1 j hj
  constructor <;> omega
 ·rw[heach i ow] at hc
  have h1:=(hpr i ow).2 c hc
  have h2:=(hpr P.length ow).1 j hj
  have h3:(q1 (nL (qi0 r P.length j) i) (nL (qi0 r P.length j) P.length) j).natAbs<=K:=zah (q6c _ _) h2
  have:=wy0 h1 h3
  omega
 ·rw[heach i ow] at hc
  have h1:=(hpr P.length ow).2 c hc
  have h2:=(hpr i ow).1 j hj
  have h3:(q2 (nL (qi0 r P.length j) i) (nL (qi0 r P.length j) P.length) j).natAbs<=K:=zah (q6c _ _) h2
  have:=wy0 h1 h3
  omega
theorem q70 {n C W:Nat} {M:List (List Int)} (hM:Small n C W M):q2o M C W:=x1x hM.sml
open Go Go.Proofs Go.RowKit Eng
def q8q (n:Nat) (i:Int):List Int:=(List.replicate n 0).set i.toNat 1
abbrev yj3:qa8:=hspec [] true none [.d qb9,.cap qb9] [qd4] (λx=>0<=x.1/\x.1<x.2.1/\x.2.1<=1000) (λx=>(q8q x.2.1.toNat x.1,()))
theorem w91:Meets Tryz.prog 188 yj3:=by
 refine qi4 (SpecsOk.nil _) (snd (SpecsOk.nil _)) Tryz.func188 rfl rfl (λ_ _=>none) (λ_=>by kernel_rfl) dc ?_
 rintro⟨i,n,⟨⟩⟩ h
 revert i n
 intro(i:Int) (n:Int) (h:0<=i/\i<n/\n<=1000)
 refine vcs ((n=n/\(0:Int)<=n/\n<=(1000000:Int))/\((0:Int)<=i/\i<(↑(List.replicate n.toNat (Ty.dflt (TI.ty T3))).length:Int))/\i.toNat<(List.replicate n.toNat (Ty.dflt (TI.ty T3))).length/\List.set (List.replicate n.toNat (Ty.dflt (TI.ty T3))) i.toNat (1:Int)=q8q n.toNat i) ?_
 rw[zbs]
 exact⟨⟨ow,ow⟩,⟨h.1,ow⟩,ow,rfl⟩
abbrev ya4:qa8:=q68 false none [qb9] (λ_=>True) (λx=>.clo 188 (.cons (.imm (.cons (.lit (.int .i64 x.1)) .nil) 0) .nil))
theorem w49:Meets Tryz.prog 145 ya4:=by
 refine q0o (snd (SpecsOk.nil _)) Tryz.func145 rfl rfl (λx _=>none) (λ_=>by kernel_rfl) dc ?_
 rintro⟨n,⟨⟩⟩ -
 revert n
 intro(n:Int)
 exact vct (((n=n/\True)/\(0:Nat)=(0:Nat))/\True)
def ixE (l:List Int) (x:Int):Int:=ixT (.int .i64) (λe=>x==e) l
def ya5 (l:List Int) (x:Int):Nat->Option Inv
 | 0=>some (Inv.of [8] 0 (λk:Nat=>[(8,.lit (.int .i64 k))]) (λ_=>[]) (λk=>k<=l.length/\∀i,i<k->(x==qe5 (.int .i64) l i)=false) (λk=>l.length-k))
 | _=>none
abbrev yq4:qa8:=qe4 true none [qd4,qb9] [qb9] (λx=>x.1.length<=1000000) (λx=>(ixE x.1 x.2.1,()))
theorem w92:Meets Tryz.prog 104 yq4:=by
 refine mts (SpecsOk.nil _) Tryz.func104 (λx=>ya5 x.1 x.2.1) ?_
 rintro⟨l,x,⟨⟩⟩ h
 revert l x
 intro(l:List Int) (x:Int) (h:l.length<=1000000)
 refine vcs (∃(v0:Unit),∃(v1:Nat),(v1<=l.length/\∀(v2:Nat),Nat.le (Nat.succ v2) v1->(x==nI l v2)=false)/\(((0:Int)=(↑v1:Int)/\True)/\True)/\∀(v2:Nat),(v2<=l.length/\∀(v4:Nat),Nat.le (Nat.succ v4) v2->(x==nI l v4)=false)->(decide ((↑v2:Int)<(↑l.length:Int))=true->((0:Int)<=(↑v2:Int)/\(↑v2:Int)<(↑l.length:Int))/\((x==nI l v2)=true->(↑v2:Int)=ixE l x)/\((x==nI l v2)=false->fits .i64 ((↑v2:Int)+(1:Int))/\∃(v6:Nat),(v6<=l.length/\∀(v7:Nat),Nat.le (Nat.succ v7) v6->(x==nI l v7)=false)/\l.length-v6<l.length-v2/\((↑v2:Int)+(1:Int)=(↑v6:Int)/\True)/\True))/\(decide ((↑v2:Int)<(↑l.length:Int))=false->(-1:Int)=ixE l x)) ?_
 have no:∀i,¬x=nI l i->(x==qe5 (.int .i64) l i)=false:=λi hi=>by
  show decide (x=nI l i)=false
  exact zbr hi
 refine⟨(),0,⟨zae _,λi hi=>absurd hi ow⟩,rfl,λk ⟨hk,hall⟩=>⟨λhlt=>⟨hlt,λhe=>?_,λhn=>⟨qa7,k+1,⟨hlt,λi hi=>?_⟩,ow,ow⟩⟩,λhge=>?_⟩⟩
 ·exact(q7f (.int .i64) (λe=>x==e) l k hlt (λi hi=>no i (hall i hi)) (show decide (x=nI l k)=true from zbk he)).symm
 ·by_cases q:i=k
  ·subst q; exact hn
  ·exact hall i ow
 ·exact(q1d (.int .i64) (λe=>x==e) l λi hi=>no i (hall i ow)).symm
def qp0 (m:List (List Int)):List (List Int):=qb3 m (qo0 (nL m 0).length) λi=>q8q m.length i
def qc0 (m:List (List Int)):List (List Int) × List Int:=qb8 (qp0 m) (nL m 0).length
theorem q71 (n:Nat) (i:Int):(q8q n i).length=n:=by rw[q8q,zaz,zbs]
theorem xo9 {n i c:Nat} (hc:c<n):nI (q8q n (i:Int)) c=if c=i then 1 else 0:=by
 rw[qf2 _ c (by rw[q71]; exact hc)]
 simp only[q8q,Int.toNat_natCast,List.getElem_set,List.getElem_replicate]
 split <;> rename_i h
 ·rw[zap h.symm]
 ·rw[zai (λe=>h e.symm)]
theorem q4p {m:List (List Int)} {i c:Nat} (hi:i<m.length) (hc:c<(nL m 0).length):nI (nL (qp0 m) i) c=nI (nL m i) c:=by
 unfold qp0
 rw[q1f _ _ _ i hi,qf2 _ c (by rw[zas,qi8,qe8]; omega),zdn (by rw[qi8,qe8]; exact hc),<- qf2,q1e _ _ _ (by rw[qe8]; exact hc),q2n _ _ hc,za6]
theorem q4q {m:List (List Int)} {i c:Nat} (hi:i<m.length) (hc:c<m.length):nI (nL (qp0 m) i) ((nL m 0).length+c)=if c=i then 1 else 0:=by
 unfold qp0
 rw[q1f _ _ _ i hi,qf2 _ _ (by rw[zas,qi8,qe8,q71]; omega),zdj (by rw[qi8,qe8]; omega)]
 simp only[qi8,qe8,Nat.add_sub_cancel_left]
 rw[<- qf2,xo9 hc]
theorem qs5 {m:List (List Int)} (hM:Mk m):Small m.length (nL m 0).length ((nL m 0).length+m.length) (qp0 m):=by
 have m6:=hM.rows6
 have p10:=hM.pix10
 refine⟨⟨qn2 _ _ _,λi hi=>?_⟩,m6,ow,ow,λa c ha hc=>?_,λa c ha hc=>?_⟩
 ·unfold qp0; rw[q1f _ _ _ i hi,zas,qi8,qe8,q71]
 ·rw[q4p ha hc]; have:=hM.small a ha c hc; omega
 ·rcases zav c (nL m 0).length with h | h
  ·rw[q4p ha h]; have:=hM.small a ha c h; omega
  ·obtain⟨d,rfl⟩:∃d,c=(nL m 0).length+d:=⟨c-(nL m 0).length,ow⟩
   rw[q4q ha ow]; split <;> decide
theorem q2s {m:List (List Int)} (hM:Mk m):St m.length ((nL m 0).length+m.length) (rowOf (qp0 m)) (nL m 0).length (qc0 m).1 (qc0 m).2:=q1p (qs5 hM).toMat _ ow
structure q3v (m:List (List Int)):Prop where
 val:qb6 m=true
 red:∃W,q2o (qp0 m) (nL m 0).length W
theorem w93 {m:List (List Int)} (hv:qb6 m=true):q3v m:=⟨hv,_,q70 (qs5 (Mk.of hv))⟩
abbrev ya6:qa8:=qe4 false none [qf8] [qf8,qd4] (λx=>q3v x.1) (λx=>((qc0 x.1).1,(qc0 x.1).2,()))
theorem q9x:Meets Tryz.prog 103 ya6:=by
 refine meets (xm1 [] [] (SpecsOk.cons q3k (SpecsOk.cons w49 (SpecsOk.cons (q3l (fs:=[(188,yj3)]) (SpecsOk.cons w91 (SpecsOk.nil _))) (SpecsOk.nil _)))) (MutsOk.cons q3p MutsOk.nil)) Tryz.func103 rfl rfl (λ_ _=>none) (λ_=>by kernel_rfl) dc ?_
 rintro⟨m,⟨⟩⟩ h
 revert m
 intro(m:List (List Int)) (h:q3v m)
 refine vcs (((0:Int)<=(0:Int)/\(0:Int)<(↑m.length:Int))/\(↑(nL m (0:Nat)).length:Int)<=(100000:Ty.den qb9)/\True/\∃(v0:qa3 [qb9]->Prop),∃(v1:qa3 [qb9]->List Int),(∀(v2:Int × qa3._f [] PUnit.unit),v0 v2->((0:PTy.den (PTy.d qb9))<=v2.1/\v2.1<(↑m.length:Int)/\(↑m.length:Int)<=(1000:PTy.den (PTy.cap qb9)))/\q8q (↑m.length:Int).toNat v2.1=v1 v2)/\ChoOk m (qo0 (↑(nL m (0:Nat)).length:Int).toNat) v0 v1/\((0:Int)<=(0:Int)/\(0:Int)<(↑m.length:Int))/\((0:Ty.den qb9)<=(↑(nL m (0:Nat)).length:Int)/\∃(v2:Nat),q2o (qb3 m (qo0 (↑(nL m (0:Nat)).length:Int).toNat) λ(v3:Int)=>v1 (v3,())) (↑(nL m (0:Nat)).length:Int).toNat v2)/\q1u (Ty.int .i64) (qb8 (qb3 m (qo0 (↑(nL m (0:Nat)).length:Int).toNat) λ(v2:Int)=>v1 (v2,())) (↑(nL m (0:Nat)).length:Int).toNat).1 none=(qc0 m).1/\(qb8 (qb3 m (qo0 (↑(nL m (0:Nat)).length:Int).toNat) λ(v2:Int)=>v1 (v2,())) (↑(nL m (0:Nat)).length:Int).toNat).2=(qc0 m).2/\True) ?_
 have hM:=Mk.of h.val
 have m1:=hM.rows1
 have m6:=hM.rows6
 have p10:=hM.pix10
 refine⟨ow,ow,λx=>0<=x.1/\x.1<m.length,λx=>q8q m.length x.1,λx hx=>⟨⟨hx.1,hx.2,ow⟩,rfl⟩,ChoOk.of hM (Named.idx _) λi hi=>⟨⟨zb3 i,Int.ofNat_lt.2 hi⟩,?_⟩,ow,h.red,rfl,rfl⟩
 rw[q8q,zaz,zbs]; omega
def x1y (l:List Int) (n:Nat) (p:Int):Bool:=(List.range n).any λj=>nI l j != 0 && decide ((j:Int)≠p)
def knB (m:List (List Int)) (p:Int):Bool:=decide (0<=ixE (qc0 m).2 p) && !x1y (nL (qc0 m).1 (ixE (qc0 m).2 p).toNat) (nL m 0).length p
def wtR (m:List (List Int)) (p:Int):List Int × Int × Bool:=if knB m p then((nL (qc0 m).1 (ixE (qc0 m).2 p).toNat).drop (nL m 0).length,nI (nL (qc0 m).1 (ixE (qc0 m).2 p).toNat) p.toNat,true) else([],0,false)
structure xp0 (m:List (List Int)) (p:Int):Prop where
 seen:q3v m
 lo:0<=p
 hi:p<(nL m 0).length
def yq5 (l:List Int) (n:Nat) (p:Int):Nat->Option Inv
 | 0=>some (Inv.of [32] 11 (λk:Nat=>[(32,.lit (.int .i64 k))]) (λ_=>[.dead,.dead,.dead,.dead,.dead,.dead,.dead,.dead,.dead,.dead,.dead]) (λk=>k<=n/\∀i,i<k->nI l i=0\/(i:Int)=p) (λk=>n-k))
 | _=>none
abbrev sWt:qa8:=qe4 false none [qf8,qb9] [qd4,qb9,.bool] (λx=>xp0 x.1 x.2.1) (λx=>((wtR x.1 x.2.1).1,(wtR x.1 x.2.1).2.1,(wtR x.1 x.2.1).2.2,()))
theorem w2b:Meets Tryz.prog 58 sWt:=by
 refine mts (SpecsOk.cons q9x (SpecsOk.cons w92 (SpecsOk.nil _))) Tryz.func58 (λx=>yq5 (nL (qc0 x.1).1 (ixE (qc0 x.1).2 x.2.1).toNat) (nL x.1 0).length x.2.1) ?_
 rintro⟨m,p,⟨⟩⟩ h
 revert m p
 intro(m:List (List Int)) (p:Int) (h:xp0 m p)
 refine vcs (let Q0:=nL (qc0 m).1 (ixE (qc0 m).2 p).toNat; q3v m/\(qc0 m).2.length<=(1000000:Nat)/\(decide (ixE (qc0 m).2 p<(0:Int))=true->(wtR m p).1=[]/\(0:Int)=(wtR m p).2.1/\false=(wtR m p).2.2/\True)/\(decide (ixE (qc0 m).2 p<(0:Int))=false->((0:Int)<=ixE (qc0 m).2 p/\ixE (qc0 m).2 p<(↑(qc0 m).1.length:Int))/\((0:Int)<=(0:Int)/\(0:Int)<(↑m.length:Int))/\((0:Int)<=(0:Int)/\(0:Int)<=(↑(nL m (0:Nat)).length:Int)/\(↑(nL m (0:Nat)).length:Int)<=(↑Q0.length:Int))/\∃(v1:Unit),∃(v2:Nat),(v2<=(nL m (0:Nat)).length/\∀(v3:Nat),Nat.le (Nat.succ v3) v2->nI Q0 v3=(0:Int)\/(↑v3:Int)=p)/\(((0:Int)=(↑v2:Int)/\True)/\True/\True/\True/\True/\True/\True/\True/\True/\True/\True/\True/\True)/\∀(v3:Nat),(v3<=(nL m (0:Nat)).length/\∀(v5:Nat),Nat.le (Nat.succ v5) v3->nI Q0 v5=(0:Int)\/(↑v5:Int)=p)->(decide ((↑v3:Int)<(↑(List.drop (0:Nat) (List.take (↑(nL m (0:Nat)).length:Int).toNat Q0)).length:Int))=true->((0:Int)<=(↑v3:Int)/\(↑v3:Int)<(↑(List.drop (0:Nat) (List.take (↑(nL m (0:Nat)).length:Int).toNat Q0)).length:Int))/\((nI (List.drop (0:Nat) (List.take (↑(nL m (0:Nat)).length:Int).toNat Q0)) v3 != (0:Int))=true->(((↑v3:Int) != p)=true->(wtR m p).1=[]/\(0:Int)=(wtR m p).2.1/\false=(wtR m p).2.2/\True)/\(((↑v3:Int) != p)=false->fits .i64 ((↑v3:Int)+(1:Int))/\∃(v8:Nat),(v8<=(nL m (0:Nat)).length/\∀(v9:Nat),Nat.le (Nat.succ v9) v8->nI Q0 v9=(0:Int)\/(↑v9:Int)=p)/\(nL m (0:Nat)).length-v8<(nL m (0:Nat)).length-v3/\((↑v3:Int)+(1:Int)=(↑v8:Int)/\True)/\True/\True/\True/\True/\True/\True/\True/\True/\True/\True/\True/\True))/\((nI (List.drop (0:Nat) (List.take (↑(nL m (0:Nat)).length:Int).toNat Q0)) v3 != (0:Int))=false->fits .i64 ((↑v3:Int)+(1:Int))/\∃(v7:Nat),(v7<=(nL m (0:Nat)).length/\∀(v8:Nat),Nat.le (Nat.succ v8) v7->nI Q0 v8=(0:Int)\/(↑v8:Int)=p)/\(nL m (0:Nat)).length-v7<(nL m (0:Nat)).length-v3/\((↑v3:Int)+(1:Int)=(↑v7:Int)/\True)/\True/\True/\True/\True/\True/\True/\True/\True/\True/\True/\True/\True))/\(decide ((↑v3:Int)<(↑(List.drop (0:Nat) (List.take (↑(nL m (0:Nat)).length:Int).toNat Q0)).length:Int))=false->((0:Int)<=ixE (qc0 m).2 p/\ixE (qc0 m).2 p<(↑(qc0 m).1.length:Int))/\((0:Int)<=(0:Int)/\(0:Int)<(↑m.length:Int))/\((0:Int)<=(↑(nL m (0:Nat)).length:Int)/\(↑(nL m (0:Nat)).length:Int)<=(↑Q0.length:Int)/\(↑Q0.length:Int)<=(↑Q0.length:Int))/\((0:Int)<=ixE (qc0 m).2 p/\ixE (qc0 m).2 p<(↑(qc0 m).1.length:Int))/\((0:Int)<=p/\p<(↑Q0.length:Int))/\List.drop (↑(nL m (0:Nat)).length:Int).toNat (List.take (↑Q0.length:Int).toNat Q0)=(wtR m p).1/\nI Q0 p.toNat=(wtR m p).2.1/\true=(wtR m p).2.2/\True))) ?_
 have hv:=h.seen.val
 have hM:=Mk.of hv
 have hst:=q2s hM
 have m1:=hM.rows1
 have m6:=hM.rows6
 have p10:=hM.pix10
 have hlo:=h.lo
 have hhi:=h.hi
 have hpl:=hst.pl
 have hlen:=hst.len
 have no:knB m p=false->(wtR m p).1=[]/\0=(wtR m p).2.1/\false=(wtR m p).2.2:=λq=>by unfold wtR; rw[q]; exact⟨rfl,rfl,rfl⟩
 refine⟨h.seen,ow,λhk=>no ?_,λhk=>?_⟩
 ·unfold knB; rw[zbr ow]; rfl
 have hkl:=(w1p (.int .i64) (λe=>p==e) (qc0 m).2).1
 have hkl:ixE (qc0 m).2 p<(qc0 m).2.length:=hkl
 obtain⟨k,hkk⟩:∃k:Nat,ixE (qc0 m).2 p=k:=⟨_,(Int.toNat_of_nonneg hk).symm⟩
 have hrow:(nL (qc0 m).1 (ixE (qc0 m).2 p).toNat).length=(nL m 0).length+m.length:=hst.each _ ow
 have hkn:knB m p=!x1y (nL (qc0 m).1 (ixE (qc0 m).2 p).toNat) (nL m 0).length p:=by unfold knB; rw[zbk hk,zc8]
 generalize hr:nL (qc0 m).1 (ixE (qc0 m).2 p).toNat=r at *
 have htk:∀i,i<(nL m 0).length->nI (r.take (nL m 0).length) i=nI r i:=λi hi=>by
  rw[qf2 _ i (by rw[List.length_take]; omega),qf2 r i ow,List.getElem_take]
 simp only[List.drop_zero,List.length_take,hrow,Nat.min_eq_left (Nat.le_add_right (nL m 0).length m.length)]
 refine⟨⟨hk,ow⟩,ow,ow,(),0,⟨zae _,λi hi=>absurd hi ow⟩,rfl,λj ⟨hj,hall⟩=>⟨λhlt=>⟨hlt,λhne=>⟨λhjp=>?_,λhjp=>?_⟩,λhe=>?_⟩,λhge=>?_⟩⟩
 ·rw[htk j hlt] at hne
  refine no ?_
  rw[hkn]
  have:x1y r (nL m 0).length p=true:=by
   unfold x1y
   rw[zcd]
   exact⟨j,za2.2 hlt,by simp[hne,hjp]⟩
  rw[this]; rfl
 ·refine⟨qa7,j+1,⟨hlt,λi hi=>?_⟩,ow,ow⟩
  by_cases q:i=j
  ·subst q; exact .inr hjp
  ·exact hall i ow
 ·rw[htk j hlt] at he
  refine⟨qa7,j+1,⟨hlt,λi hi=>?_⟩,ow,ow⟩
  by_cases q:i=j
  ·subst q; exact .inl he
  ·exact hall i ow
 ·have hoff:x1y r (nL m 0).length p=false:=by
   unfold x1y
   rw[zbw]
   intro i hi
   have hi:=za2.1 hi
   rcases hall i ow with q | q
   ·simp[q]
   ·simp[q]
  have hw:wtR m p=(r.drop (nL m 0).length,nI r p.toNat,true):=by
   unfold wtR
   rw[hkn,hoff,hr]; rfl
  rw[hw]
  refine⟨⟨hk,ow⟩,ow,⟨ow,ow⟩,⟨hk,ow⟩,⟨hlo,ow⟩,?_,rfl,rfl⟩
  rw[zcg ow]
def q8m (m:List (List Int)) (k:Nat):List Int:=((List.range k).filter λ(j:Nat)=>knB m ((j:Nat):Int)).map λ(j:Nat)=>(j:Int)
def knR (m:List (List Int)):List Int × Int:=if qb6 m then(q8m m (nL m 0).length,0) else([],1)
abbrev sKn:qa8:=qe4 false none [qf8] [qd4,qb9] (λx=>qb6 x.1=true->q3v x.1) (λx=>((knR x.1).1,(knR x.1).2,()))
def yq6 (m:List (List Int)):Nat->Option Inv
 | 0=>some (Inv.of [4,16] 1 (λk:Nat=>[(4,.own 0),(16,.lit (.int .i64 k))]) (λk=>[.vec 3 (.int .i64) (q8m m k)]) (λk=>k<=(nL m 0).length) (λk=>(nL m 0).length-k))
 | _=>none
theorem xp1:Meets Tryz.prog 16 sKn:=by
 refine mts (SpecsOk.cons qq3 (SpecsOk.cons w2b (SpecsOk.nil _))) Tryz.func16 (λx=>yq6 x.1) ?_
 rintro⟨m,⟨⟩⟩ h
 revert m
 intro(m:List (List Int)) (h:qb6 m=true->q3v m)
 refine vcs (True/\((!qb6 m)=true->(knR m).1=[]/\(1:Int)=(knR m).2/\True)/\((!qb6 m)=false->((0:Int)<=(0:Int)/\(0:Int)<(↑m.length:Int))/\∃(v1:Unit),∃(v2:Nat),Nat.le v2 (nL m (0:Nat)).length/\((True/\(0:Int)=(↑v2:Int)/\True)/\q8m m v2=[]/\True)/\∀(v3:Nat),Nat.le v3 (nL m (0:Nat)).length->(decide ((↑v3:Int)<(↑(nL m (0:Nat)).length:Int))=true->xp0 m (↑v3:Int)/\((wtR m (↑v3:Int)).2.2=true->((0:Nat)<List.length [(↑v3:Int)]/\Nat.le ((q8m m v3).length+List.length [(↑v3:Int)]) (1000000:Nat))/\fits .i64 ((↑v3:Int)+(1:Int))/\∃(v7:Nat),Nat.le v7 (nL m (0:Nat)).length/\(nL m (0:Nat)).length-v7<(nL m (0:Nat)).length-v3/\(True/\(↑v3:Int)+(1:Int)=(↑v7:Int)/\True)/\q8m m v3++[(↑v3:Int)]=q8m m v7/\True)/\((wtR m (↑v3:Int)).2.2=false->fits .i64 ((↑v3:Int)+(1:Int))/\∃(v7:Nat),Nat.le v7 (nL m (0:Nat)).length/\(nL m (0:Nat)).length-v7<(nL m (0:Nat)).length-v3/\(True/\(↑v3:Int)+(1:Int)=(↑v7:Int)/\True)/\q8m m v3=q8m m v7/\True))/\(decide ((↑v3:Int)<(↑(nL m (0:Nat)).length:Int))=false->q8m m v3=(knR m).1/\(0:Int)=(knR m).2/\True))) ?_
 refine⟨λhv=>by simp[knR,hv],λhv=>?_⟩
 have hM:=Mk.of hv
 have m1:=hM.rows1
 have p10:=hM.pix10
 have hR:knR m=(q8m m (nL m 0).length,0):=by simp[knR,hv]
 have hln:∀k,(q8m m k).length<=k:=λk=>by
  unfold q8m
  rw[za3]
  exact zah (List.length_filter_le _ _) (by simp)
 have hsn:∀k,q8m m (k+1)=q8m m k++if knB m (k:Int) then[(k:Int)] else[]:=λk=>by
  unfold q8m
  rw[zcl,zdh,zd0]
  congr 1
  by_cases q:knB m (k:Int)=true
  ·rw[zap q]; simp[q]
  ·rw[zai q]; simp[q]
 have hw:∀k:Nat,(wtR m (k:Int)).2.2=knB m (k:Int):=λk=>by
  unfold wtR; cases knB m (k:Int) <;> rfl
 refine⟨ow,(),0,zae _,⟨rfl,rfl⟩,λk hk=>⟨λhlt=>⟨⟨h hv,ow,ow⟩,λhb=>?_,λhb=>?_⟩,λhge=>?_⟩⟩
 ·have:=hln k
  rw[hw] at hb
  exact⟨ow,qa7,k+1,hlt,ow,ow,by rw[hsn,zap hb]⟩
 ·rw[hw] at hb
  exact⟨qa7,k+1,hlt,ow,ow,by rw[hsn,zai (by rw[hb]; decide),zby]⟩
 ·obtain rfl:k=(nL m 0).length:=ow
  rw[hR]; exact⟨rfl,rfl⟩
def sgn (i:Nat):Int:=if i % 2=0 then 1 else -1
def skp (i a:Nat):Nat:=if a<i then a else a+1
def det:Nat->(Nat->Nat->Int)->Int
 | 0,_=>1
 | n+1,A=>sm (n+1) λi=>sgn i*A i 0*det n (λa b=>A (skp i a) (b+1))
theorem q72 {n i a:Nat} (ha:a<n):skp i a<n+1:=by grind [skp]
theorem xx2 (i a:Nat):skp i a≠i:=by grind [skp]
theorem qj0:∀(n:Nat) {A B:Nat->Nat->Int},(∀i j,i<n->j<n->A i j=B i j)->det n A=det n B
 | 0,_,_,_=>rfl
 | n+1,A,B,h=>by
  rw[det,det]
  refine qg4 λi hi=>?_
  rw[h i 0 hi ow,qj0 n (A:=λa b=>A (skp i a) (b+1)) (B:=λa b=>B (skp i a) (b+1)) λa b ha hb=>h _ _ (q72 ha) ow]
def upd (A:Nat->Nat->Int) (r:Nat) (u:Nat->Int):Nat->Nat->Int:=λi j=>if i=r then u j else A i j
theorem q1q (A:Nat->Nat->Int) (r:Nat):upd A r (A r)=A:=by
 grind [upd]
theorem we7 (A:Nat->Nat->Int) {r s:Nat} (h:r≠s) (u v:Nat->Int):upd (upd A r u) s v=upd (upd A s v) r u:=by
 funext i j; unfold upd
 omega
theorem q4r (A:Nat->Nat->Int) (r:Nat) (w:Nat->Int):(λa b=>upd A r w (skp r a) (b+1))=λa b=>A (skp r a) (b+1):=by
 simp_all [upd,if_neg,xx2]
theorem q73 {i r:Nat} (h:i≠r) (A:Nat->Nat->Int) (w:Nat->Int):(λa b=>upd A r w (skp i a) (b+1))=upd (λa b=>A (skp i a) (b+1)) (if r<i then r else r-1) (λb=>w (b+1)):=by
 funext a b
 have e:skp i a=r↔a=(if r<i then r else r-1):=by grind [skp]
 simp_all [upd,if_pos,if_neg]
theorem qr6:∀(n:Nat) (A:Nat->Nat->Int) (r:Nat),r<n->∀(x y:Int) (u v:Nat->Int),det n (upd A r (λj=>x*u j+y*v j))=x*det n (upd A r u)+y*det n (upd A r v)
 | n+1,A,r,hr,x,y,u,v=>by
  rw[det,det,det,<- qt6,<- qt6,<- w17]
  refine qg4 λi hi=>?_
  by_cases e:i=r
  ·subst e
   rw[q4r,q4r,q4r]
   have e1:∀w,upd A i w i 0=w 0:=λw=>zap rfl
   grind
  ·rw[q73 e,q73 e,q73 e]
   have e1:∀w,upd A r w i 0=A i 0:=λw=>zai e
   rw[e1,e1,e1]
   have ih:=qr6 n (λa b=>A (skp i a) (b+1)) (if r<i then r else r-1) (by grind) x y (λb=>u (b+1)) (λb=>v (b+1))
   grind
theorem q0t {n:Nat} {A:Nat->Nat->Int} {r:Nat} (hr:r<n):det n (upd A r λ_=>0)=0:=by
 have:=qr6 n A r hr 0 0 (λ_=>0) (λ_=>0)
 grind
theorem xp2 (r:Nat):sgn (r+1)=- sgn r:=by grind [sgn]
theorem we8:∀(n:Nat) (A:Nat->Nat->Int) (r:Nat),r+1<n->(∀j,j<n->A r j=A (r+1) j)->det n A=0
 | n+1,A,r,hr,h=>by
  rw[det,wp3 (k:=r) (l:=r+1) ow hr ow λi hi h1 h2=>?_]
  ·have em:det n (λa b=>A (skp r a) (b+1))=det n (λa b=>A (skp (r+1) a) (b+1)):=qj0 n λa b ha hb=>by
    by_cases e:a=r
    ·simp_all [skp,if_neg,Nat.lt_irrefl,if_pos,Nat.lt_succ_self]
    grind [skp]
   grind [xp2]
  ·try dsimp only
   have:det n (λa b=>A (skp i a) (b+1))=0:=by
    rcases zav i r with q | q
    ·refine we8 n _ (r-1) ow λj hj=>?_
     have e1:skp i (r-1)=r:=by unfold skp; grind
     have e2:skp i (r-1+1)=r+1:=by unfold skp; grind
     grind
    ·refine we8 n _ r ow λj hj=>?_
     have e1:skp i r=r:=by unfold skp; grind
     have e2:skp i (r+1)=r+1:=by unfold skp; grind
     grind
   grind
theorem we9 {n:Nat} {A:Nat->Nat->Int} {r s:Nat} (hr:r<n) (hs:s<n) (hne:r≠s) (hz:∀w,det n (upd (upd A r w) s w)=0) (u v:Nat->Int):det n (upd (upd A r u) s v)=- det n (upd (upd A r v) s u):=by
 have h:=hz (λj=>1*u j+1*v j)
 have lin:∀w,det n (upd (upd A r (λj=>1*u j+1*v j)) s w)=det n (upd (upd A r u) s w)+det n (upd (upd A r v) s w):=λw=>by
  rw[we7 A hne,qr6 n _ r hr,we7 A hne,we7 A hne]; omega
 rw[qr6 n _ s hs,lin,lin,hz u,hz v] at h
 omega
theorem w94:∀(d n:Nat) (A:Nat->Nat->Int) (r s:Nat),s=r+d+1->s<n->(∀j,j<n->A r j=A s j)->det n A=0
 | 0,n,A,r,s,hd,hs,h=>we8 n A r ow λj hj=>by grind
 | d+1,n,A,r,s,hd,hs,h=>by
  have e:upd (upd A (s-1) (A (s-1))) s (A s)=A:=by simp_all [q1q]
  have h2:=we9 (n:=n) (A:=A) (r:=s-1) (s:=s) ow hs ow (λw=>we8 n _ (s-1) ow λj hj=>by
   unfold upd
   omega) (A (s-1)) (A s)
  rw[e] at h2
  have h3:=w94 d n (upd (upd A (s-1) (A s)) s (A (s-1))) r (s-1) ow ow λj hj=>by
   unfold upd
   grind
  omega
theorem q74 {n:Nat} {A:Nat->Nat->Int} {r s:Nat} (hr:r<n) (hs:s<n) (hne:r≠s) (h:∀j,j<n->A r j=A s j):det n A=0:=by
 rcases Nat.lt_or_gt_of_ne hne with q | q
 ·exact w94 (s-r-1) n A r s ow hs h
 ·exact w94 (r-s-1) n A s r ow hr λj hj=>(h j hj).symm
theorem w2c {n:Nat} (A:Nat->Nat->Int) {r:Nat} (hr:r<n) (lam:Nat->Int):∀k,k<=n->det n (upd A r (λj=>sm k λi=>lam i*A i j))=if r<k then lam r*det n A else 0
 | 0,_=>by
  rw[zai (zat _)]
  exact q0t hr
 | k+1,hk=>by
  have ih:=w2c A hr lam k ow
  have e:(λj=>sm (k+1) λi=>lam i*A i j)=λj=>1*(sm k λi=>lam i*A i j)+lam k*A k j:=by grind [sm]
  rw[e,qr6 n A r hr 1 (lam k) (λj=>sm k λi=>lam i*A i j) (A k),ih]
  by_cases q:k=r
  ·simp_all [q1q,if_neg,Nat.lt_irrefl,if_pos,Nat.lt_succ_self]
  ·have:det n (upd A r (A k))=0:=q74 hr (show k<n by omega) (zc9 q) λj hj=>by
    unfold upd
    simp
   grind
theorem w2d {n:Nat} {A:Nat->Nat->Int} (h0:det n A=0):∀(d s:Nat),s+d=n->∀σ:Nat->Nat,(∀i,i<n->σ i<n)->(∀i,i<s->σ i=i)->det n (λi j=>A (σ i) j)=0
 | 0,s,hs,σ,h1,h2=>by
  grind [qj0]
 | d+1,s,hs,σ,h1,h2=>by
  by_cases hx:∃t,s<=t/\t<n/\σ t=s
  ·obtain⟨t,t1,t2,t3⟩:=hx
   have hq:=w2d h0 d (s+1) ow (λi=>if i=s then s else if i=t then σ s else σ i) (λi hi=>by
    grind) (λi hi=>by
    grind)
   by_cases e:t=s
   ·grind
   ·have ha:=we9 (n:=n) (A:=λi j=>A (σ i) j) (r:=s) (s:=t) ow t2 (zc9 e) (λw=>q74 (r:=s) (s:=t) ow t2 (zc9 e) λj hj=>by
     unfold upd
     simp) (A (σ s)) (A (σ t))
    have e1:upd (upd (λi j=>A (σ i) j) s (A (σ s))) t (A (σ t))=λi j=>A (σ i) j:=by
     funext i j; unfold upd
     grind
    have e2:upd (upd (λi j=>A (σ i) j) s (A (σ t))) t (A (σ s))=λi j=>A ((λi=>if i=s then s else if i=t then σ s else σ i) i) j:=by
     funext i j; unfold upd
     grind
    grind
  ·have hns:∀i,i<n->σ i≠s:=λi hi e=>by
    grind
   obtain⟨i,j,q1,q2,q3⟩:=q7v (n-1) n (λi=>if σ i<s then σ i else σ i-1) (λi hi=>by
    grind) ow
   have e:σ i=σ j:=by
    grind
   grind [q74]
theorem w95 {n:Nat} {A:Nat->Nat->Int} (h0:det n A=0):∀(d k:Nat),k+d=n->∀B:Nat->Nat->Int,(∀i,i<k->∃a,a<n/\∀j,j<n->B i j=A a j)->(∀i,k<=i->i<n->∃lam:Nat->Int,∀j,j<n->B i j=sm n λa=>lam a*A a j)->det n B=0
 | 0,k,hk,B,h1,_=>by
  have hx:∀i,∃a,i<n->a<n/\∀j,j<n->B i j=A a j:=λi=>by
   by_cases hi:i<n
   all_goals grind
  obtain⟨σ,hσ⟩:=zbc hx
  rw[qj0 n (B:=λi j=>A (σ i) j) λi j hi hj=>(hσ i hi).2 j hj]
  exact w2d h0 n 0 ow σ (λi hi=>(hσ i hi).1) λi hi=>absurd hi (zat _)
 | d+1,k,hk,B,h1,h2=>by
  obtain⟨lam,hl⟩:=h2 k (zad _) ow
  have key:∀m,m<=n->det n (upd B k (λj=>sm m λa=>lam a*A a j))=0:=λm=>by
   induction m with
   | zero=>exact λ_=>q0t ow
   | succ m ih=>
    intro hm
    have e:(λj=>sm (m+1) λi=>lam i*A i j)=λj=>1*(sm m λi=>lam i*A i j)+lam m*A m j:=by grind [sm]
    rw[e,qr6 n B k ow 1 (lam m) (λj=>sm m λi=>lam i*A i j) (A m),ih ow]
    have:=w95 h0 d (k+1) ow (upd B k (A m)) (λi hi=>by
     by_cases q:i=k
     ·exact⟨m,ow,λj hj=>by simp_all [upd,if_pos]⟩
     ·obtain⟨a,ha,hb⟩:=h1 i ow
      exact⟨a,ha,λj hj=>by simp_all [upd,if_neg]⟩) (λi h3 h4=>by
     obtain⟨lam',h5⟩:=h2 i ow h4
     exact⟨lam',λj hj=>by unfold upd; grind⟩)
    grind
  rw[<- key n (zad _)]
  refine qj0 n λi j hi hj=>?_
  simp_all [upd,if_pos,if_neg]
theorem w2e:∀(n:Nat) (d:Nat->Int),(∀i,i<n->d i≠0)->det n (λi j=>if i=j then d i else 0)≠0
 | 0,_,_=>by show(1:Int)≠0; decide
 | n+1,d,h=>by
  rw[det,qt7 (k:=0) ow λi hi hne=>by
   grind]
  try dsimp only
  have e:det n (λa b=>if skp 0 a=b+1 then d (skp 0 a) else 0)=det n (λa b=>if a=b then d (a+1) else 0):=qj0 n λa b ha hb=>by
   simp_all [skp,if_neg,Nat.not_lt_zero,if_pos]
  rw[e,zap rfl]
  exact q17 (q17 dc (h 0 ow)) (w2e n (λa=>d (a+1)) λi hi=>h (i+1) ow)
theorem x56 {n:Nat} {A:Nat->Nat->Int} (h:∀k,k<n->∃(d:Int) (lam:Nat->Int),d≠0/\∀j,j<n->(sm n λi=>lam i*A i j)=if k=j then d else 0):det n A≠0:=λh0=>by
 have hx:∀k,∃d:Int,k<n->d≠0/\∃lam:Nat->Int,∀j,j<n->(sm n λi=>lam i*A i j)=if k=j then d else 0:=λk=>by
  by_cases hk:k<n
  ·simp_all
  ·exact⟨0,λq=>absurd q hk⟩
 obtain⟨d,hd⟩:=zbc hx
 refine w2e n d (λi hi=>(hd i hi).1) (w95 h0 n 0 ow _ (λi hi=>absurd hi (zat _)) λi _ hi=>?_)
 obtain⟨_,lam,hl⟩:=hd i hi
 exact⟨lam,λj hj=>(hl j hj).symm⟩
theorem wf4 (i:Nat):(sgn i).natAbs=1:=by grind [sgn]
theorem w5a {n B:Nat} {A:Nat->Nat->Int} (h1:∀i,i<n+1->(A i 0).natAbs<=1) (h2:∀i,i<n+1->(det n (λa b=>A (skp i a) (b+1))).natAbs<=B):(det (n+1) A).natAbs<=(n+1)*B:=by
 rw[det]
 refine x5v λi hi=>?_
 rw[zbq,zbq,wf4,zc2]
 calc(A i 0).natAbs*_<=1*B:=zbb (h1 i hi) (h2 i hi)
  _=B:=zc2 _
def ya7:Nat->Nat
 | 0=>1
 | n+1=>(n+1)*ya7 n
theorem w96:∀(n:Nat) {A:Nat->Nat->Int},(∀i j,i<n->j<n->(A i j).natAbs<=1)->(det n A).natAbs<=ya7 n
 | 0,_,_=>zad _
 | n+1,A,h=>w5a (λi hi=>h i 0 hi ow) λi hi=>w96 n λa b ha hb=>h _ _ (q72 ha) ow
def d3 (x y z:Nat):Int:=
 let b:=λ(c k:Nat)=>((c / 2 ^ k % 2:Nat):Int)
 b x 0*(b y 1*b z 2-b y 2*b z 1)-b y 0*(b x 1*b z 2-b x 2*b z 1)+b z 0*(b x 1*b y 2-b x 2*b y 1)
def q75 (x:Int):Int:=if 0<x then x else 0
def yj4 (p q r s:Nat):Bool:=decide (q75 (d3 q r s)+q75 (- d3 p r s)+q75 (d3 p q s)+q75 (- d3 p q r)<=4) && decide (q75 (- d3 q r s)+q75 (d3 p r s)+q75 (- d3 p q s)+q75 (d3 p q r)<=4)
theorem xp3:((List.range 8).all λp=>(List.range 8).all λq=>(List.range 8).all λr=>(List.range 8).all λs=>yj4 p q r s)=true:=by decide +kernel
theorem xp4 (A:Nat->Nat->Int):det 3 A=A 0 0*(A 1 1*A 2 2-A 1 2*A 2 1)-A 1 0*(A 0 1*A 2 2-A 0 2*A 2 1)+A 2 0*(A 0 1*A 1 2-A 0 2*A 1 1):=by
 simp[det,sm,skp,sgn]
 grind
theorem x6z (A:Nat->Nat->Int):det 4 A=A 0 0*det 3 (λa b=>A (skp 0 a) (b+1))-A 1 0*det 3 (λa b=>A (skp 1 a) (b+1))+A 2 0*det 3 (λa b=>A (skp 2 a) (b+1))-A 3 0*det 3 (λa b=>A (skp 3 a) (b+1)):=by
 rw[det]
 simp only[sm,show sgn 0=1 from rfl,show sgn 1=-1 from rfl,show sgn 2=1 from rfl,show sgn 3=-1 from rfl]
 grind
def qn9 (x y z:Int):Nat:=(x+2*y+4*z).toNat
def Bit (x:Int):Prop:=x=0\/x=1
theorem x1z {x y z:Int} (hx:Bit x) (hy:Bit y) (hz:Bit z):qn9 x y z<8:=by grind [qn9,Bit]
theorem w97 {A:Nat->Nat->Int} (h:∀i j,i<3->j<3->Bit (A i j)):d3 (qn9 (A 0 0) (A 0 1) (A 0 2)) (qn9 (A 1 0) (A 1 1) (A 1 2)) (qn9 (A 2 0) (A 2 1) (A 2 2))=det 3 A:=by
 rw[xp4]
 have hb:∀i,i<3->((qn9 (A i 0) (A i 1) (A i 2) / 2 ^ 0 % 2:Nat):Int)=A i 0/\((qn9 (A i 0) (A i 1) (A i 2) / 2 ^ 1 % 2:Nat):Int)=A i 1/\((qn9 (A i 0) (A i 1) (A i 2) / 2 ^ 2 % 2:Nat):Int)=A i 2:=λi hi=>by
  grind [Bit,qn9]
 grind [d3]
theorem qv1 {x:Int}:x<=q75 x/\0<=q75 x:=by grind [q75]
theorem xp5 {A:Nat->Nat->Int} (h:∀i j,i<4->j<4->Bit (A i j)):(det 4 A).natAbs<=4:=by
 have hc:∀i,i<4->qn9 (A i 1) (A i 2) (A i 3)<8:=λi hi=>x1z (h i 1 hi ow) (h i 2 hi ow) (h i 3 hi ow)
 have hk:=zaq.1 (zaq.1 (zaq.1 (zaq.1 xp3 _ (za2.2 (hc 0 ow))) _ (za2.2 (hc 1 ow))) _ (za2.2 (hc 2 ow))) _ (za2.2 (hc 3 ow))
 unfold yj4 at hk
 rw[zam,zbm,zbm] at hk
 have e:∀i,i<4->det 3 (λa b=>A (skp i a) (b+1))=d3 (qn9 (A (skp i 0) 1) (A (skp i 0) 2) (A (skp i 0) 3)) (qn9 (A (skp i 1) 1) (A (skp i 1) 2) (A (skp i 1) 3)) (qn9 (A (skp i 2) 1) (A (skp i 2) 2) (A (skp i 2) 3)):=λi hi=>
  (w97 (A:=λa b=>A (skp i a) (b+1)) λa b ha hb=>h _ _ (q72 ha) ow).symm
 rw[x6z,e 0 ow,e 1 ow,e 2 ow,e 3 ow]
 have s0:skp 0 0=1/\skp 0 1=2/\skp 0 2=3/\skp 1 0=0/\skp 1 1=2/\skp 1 2=3/\skp 2 0=0/\skp 2 1=1/\skp 2 2=3/\skp 3 0=0/\skp 3 1=1/\skp 3 2=2:=dc
 obtain⟨k0,k1,k2,k3,k4,k5,k6,k7,k8,k9,k10,k11⟩:=s0
 rw[k0,k1,k2,k3,k4,k5,k6,k7,k8,k9,k10,k11]
 generalize d3 (qn9 (A 1 1) (A 1 2) (A 1 3)) (qn9 (A 2 1) (A 2 2) (A 2 3)) (qn9 (A 3 1) (A 3 2) (A 3 3))=m0 at hk ⊢
 generalize d3 (qn9 (A 0 1) (A 0 2) (A 0 3)) (qn9 (A 2 1) (A 2 2) (A 2 3)) (qn9 (A 3 1) (A 3 2) (A 3 3))=m1 at hk ⊢
 generalize d3 (qn9 (A 0 1) (A 0 2) (A 0 3)) (qn9 (A 1 1) (A 1 2) (A 1 3)) (qn9 (A 3 1) (A 3 2) (A 3 3))=m2 at hk ⊢
 generalize d3 (qn9 (A 0 1) (A 0 2) (A 0 3)) (qn9 (A 1 1) (A 1 2) (A 1 3)) (qn9 (A 2 1) (A 2 2) (A 2 3))=m3 at hk ⊢
 have p0:=qv1 (x:=m0); have p1:=qv1 (x:=m1); have p2:=qv1 (x:=m2); have p3:=qv1 (x:=m3)
 have n0:=qv1 (x:=-m0); have n1:=qv1 (x:=-m1); have n2:=qv1 (x:=-m2); have n3:=qv1 (x:=-m3)
 grind [Bit]
def One (x:Int):Prop:=x=1\/x=-1
theorem w5b (e d:Nat->Int) (B:Nat->Nat->Int):det 4 (λi j=>-2*(e i*d j*B i j))=16*(e 0*e 1*e 2*e 3*(d 0*d 1*d 2*d 3))*det 4 B:=by
 rw[x6z,x6z,xp4,xp4,xp4,xp4,xp4,xp4,xp4,xp4]
 grind [skp]
theorem wf5 {n:Nat} (A:Nat->Nat->Int) (c:Nat->Int) (hn:0<n):∀k,k<=n->det n (λi j=>if 0<i/\i<k then A i j-c i*A 0 j else A i j)=det n A
 | 0,_=>qj0 n λi j _ _=>by simp
 | k+1,hk=>by
  rw[<- wf5 A c hn k ow]
  by_cases e:k=0
  ·grind
  ·have h1:(λi j=>if 0<i/\i<k+1 then A i j-c i*A 0 j else A i j)=upd (λi j=>if 0<i/\i<k then A i j-c i*A 0 j else A i j) k (λj=>1*A k j+(- c k)*A 0 j):=by
    funext i j; unfold upd
    grind
   have h2:upd (λi j=>if 0<i/\i<k then A i j-c i*A 0 j else A i j) k (A k)=λi j=>if 0<i/\i<k then A i j-c i*A 0 j else A i j:=by
    funext i j; simp_all [upd,if_pos,if_neg]
   have h3:det n (upd (λi j=>if 0<i/\i<k then A i j-c i*A 0 j else A i j) k (A 0))=0:=q74 (r:=k) (s:=0) ow hn e λj hj=>by
    unfold upd
    simp
   rw[h1,qr6 n _ k ow,h2,h3]; omega
theorem xx3 {x:Int} (h:One x):x*x=1:=by rcases h with rfl | rfl <;> rfl
theorem wf6 {x:Int} (h:One x):x.natAbs=1:=by rcases h with rfl | rfl <;> rfl
theorem xp6 {A:Nat->Nat->Int} (h:∀i j,i<5->j<5->One (A i j)):(det 5 A).natAbs<=64:=by
 obtain⟨B,hB⟩:∃B:Nat->Nat->Int,∀i j,B i j=if A (i+1) 0*A (i+1) (j+1)=A 0 0*A 0 (j+1) then 0 else 1:=⟨_,λ_ _=>rfl⟩
 have hbit:∀i j,i<4->j<4->Bit (B i j):=λi j _ _=>by
  rw[hB]; unfold Bit; omega
 rw[<- wf5 A (λi=>A i 0*A 0 0) ow 5 (zad _),det,qt7 (k:=0) ow λi hi hne=>?_]
 ·try dsimp only
  have e:det 4 (λa b=>if 0<skp 0 a/\skp 0 a<5 then A (skp 0 a) (b+1)-A (skp 0 a) 0*A 0 0*A 0 (b+1) else A (skp 0 a) (b+1))=det 4 (λi j=>-2*((λi=>A (i+1) 0) i*(λj=>A 0 0*A 0 (j+1)) j*B i j)):=qj0 4 λa b ha hb=>by
   have es:skp 0 a=a+1:=by rfl
   rw[es,zap ow,hB]
   grind [One]
  rw[e,w5b,zai ow]
  have b4:=xp5 hbit
  have o:=λi j (hi:i<5) (hj:j<5)=>wf6 (h i j hi hj)
  simp only[Int.natAbs_mul,wf4,o 0 0 ow ow,o 1 0 ow ow,o 2 0 ow ow,o 3 0 ow ow,o 4 0 ow ow,o 0 1 ow ow,o 0 2 ow ow,o 0 3 ow ow,o 0 4 ow ow,Nat.mul_one,Nat.one_mul,show(0+1)=1 from rfl,show(1+1)=2 from rfl,show(2+1)=3 from rfl,show(3+1)=4 from rfl,show(16:Int).natAbs=16 from rfl]
  omega
 ·try dsimp only
  rw[zap ow,zea (A i 0),xx3 (h 0 0 ow ow)]
  simp
theorem wq1:∀k,k<=5->∀A:Nat->Nat->Int,(∀i j,i<5->j<5->(A i j).natAbs<=1)->(∀i j,i<5->k<=i->j<5->A i j≠0)->(det 5 A).natAbs<=64
 | 0,_,A,h1,h2=>xp6 λi j hi hj=>by
  have:=h1 i j hi hj
  have:=h2 i j hi (zae _) hj
  grind [One]
 | k+1,hk,A,h1,h2=>by
  have key:∀t,t<=5->∀v:Nat->Int,(∀j,j<5->(v j).natAbs<=1)->(∀j,j<5->t<=j->v j≠0)->(det 5 (upd A k v)).natAbs<=64:=λt=>by
   induction t with
   | zero=>
    intro _ v hv1 hv2
    refine wq1 k ow _ (λi j hi hj=>?_) λi j hi hki hj=>?_
    ·grind [upd]
    ·unfold upd; grind
   | succ t ih=>
    intro ht v hv1 hv2
    by_cases e:v t=0
    ·have a1:=ih ow (λj=>if j=t then 1 else v j) (λj hj=>by
      grind) (λj hj htj=>by
      grind)
     have a2:=ih ow (λj=>if j=t then -1 else v j) (λj hj=>by
      grind) (λj hj htj=>by
      grind)
     have e1:=qr6 5 A k ow 1 1 (λj=>if j=t then 1 else v j) (λj=>if j=t then -1 else v j)
     have e2:=qr6 5 A k ow 2 0 v v
     have e3:(λj=>(1:Int)*(if j=t then 1 else v j)+1*(if j=t then -1 else v j))=λj=>2*v j+0*v j:=by
      funext j
      grind
     grind
    grind
  have:=key 5 (zad _) (A k) (λj hj=>h1 k j ow hj) λj hj h5=>by omega
  grind [q1q]
def prF:Nat->(Nat->Int)->Int
 | 0,_=>1
 | n+1,d=>d 0*prF n λj=>d (j+1)
def prL:Nat->(Nat->Int)->Int
 | 0,_=>1
 | n+1,d=>prL n d*d n
theorem w98:∀(n:Nat) (d:Nat->Int) (c:Nat),(∀j,j<n->(d j).natAbs=c)->(prF n d).natAbs=c ^ n
 | 0,_,c,_=>by rfl
 | n+1,d,c,h=>by
  rw[prF,zbq,h 0 ow,w98 n _ c λj hj=>h (j+1) ow,zb4,zcu]
theorem w99:∀(n:Nat) (d:Nat->Int),(∀j,j<n->(d j).natAbs=1)->(prL n d).natAbs=1
 | 0,_,_=>rfl
 | n+1,d,h=>by
  rw[prL,zbq,h n ow,w99 n d λj hj=>h j ow]
theorem w2f:∀(n:Nat) (d:Nat->Int) (A:Nat->Nat->Int),det n (λi j=>d j*A i j)=prF n d*det n A
 | 0,_,_=>rfl
 | n+1,d,A=>by
  rw[det,det,prF,<- qt6]
  refine qg4 λi hi=>?_
  try dsimp only
  rw[w2f n (λj=>d (j+1)) (λa b=>A (skp i a) (b+1))]
  grind
theorem w2g {n:Nat} (e:Nat->Int) (A:Nat->Nat->Int):∀k,k<=n->det n (λi j=>(if i<k then e i else 1)*A i j)=prL k e*det n A
 | 0,_=>by
  simp_all [prL,Int.one_mul,qj0,if_neg,Nat.not_lt_zero]
 | k+1,hk=>by
  obtain⟨F,hF⟩:∃F:Nat->Nat->Int,F=λi j=>(if i<k then e i else 1)*A i j:=⟨_,rfl⟩
  have ih:=w2g (n:=n) e A k ow
  rw[<- hF] at ih
  have h1:=qr6 n F k ow (e k) 0 (F k) (λ_=>0)
  have h2:(0:Int)*det n (upd F k λ_=>0)=0:=zcm _
  rw[q1q,ih] at h1
  have h1:=h1.trans (show e k*(prL k e*det n A)+0*det n (upd F k λ_=>0)=e k*(prL k e*det n A) by omega)
  rw[prL,show prL k e*e k*det n A=e k*(prL k e*det n A) by grind,<- h1]
  refine qj0 n λi j hi hj=>?_
  unfold upd
  grind
theorem xp7 {n:Nat} {A:Nat->Nat->Int} (h:∀i j,i<n+1->j<n+1->One (A i j)):∃B:Nat->Nat->Int,(∀i j,i<n->j<n->Bit (B i j))/\(det (n+1) A).natAbs=2 ^ n*(det n B).natAbs:=by
 obtain⟨B,hB⟩:∃B:Nat->Nat->Int,∀i j,B i j=if A (i+1) 0*A (i+1) (j+1)=A 0 0*A 0 (j+1) then 0 else 1:=⟨_,λ_ _=>rfl⟩
 have hbit:∀i j,i<n->j<n->Bit (B i j):=λi j _ _=>by
  rw[hB]; unfold Bit; omega
 refine⟨B,hbit,?_⟩
 rw[<- wf5 A (λi=>A i 0*A 0 0) ow (n+1) (zad _),det,qt7 (k:=0) ow λi hi hne=>?_]
 ·try dsimp only
  have e:det n (λa b=>if 0<skp 0 a/\skp 0 a<n+1 then A (skp 0 a) (b+1)-A (skp 0 a) 0*A 0 0*A 0 (b+1) else A (skp 0 a) (b+1))=det n (λi j=>(if i<n then(λi=>A (i+1) 0) i else 1)*(λi j=>(λj=>-2*(A 0 0*A 0 (j+1))) j*B i j) i j):=qj0 n λa b ha hb=>by
   have es:skp 0 a=a+1:=by rfl
   rw[es,zap ow,zap ha]
   grind [One]
  rw[e,w2g _ _ n (zad _),w2f,zai ow]
  have p1:=w99 n (λi=>A (i+1) 0) λj hj=>wf6 (h (j+1) 0 ow ow)
  have p2:=w98 n (λj=>-2*(A 0 0*A 0 (j+1))) 2 λj hj=>by
   grind [wf6,Int.natAbs_mul]
  simp_all [wf6,Int.natAbs_mul,wf4,Nat.one_mul]
 ·try dsimp only
  rw[zap ow,zea (A i 0),xx3 (h 0 0 ow ow)]
  simp
def d4 (p q r s:Nat):Int:=((p % 2:Nat):Int)*d3 (q / 2) (r / 2) (s / 2)-((q % 2:Nat):Int)*d3 (p / 2) (r / 2) (s / 2)+((r % 2:Nat):Int)*d3 (p / 2) (q / 2) (s / 2)-((s % 2:Nat):Int)*d3 (p / 2) (q / 2) (r / 2)
def ya8 (p q r s t:Nat):Bool:=
 decide (q75 (d4 q r s t)+q75 (- d4 p r s t)+q75 (d4 p q s t)+q75 (- d4 p q r t)+q75 (d4 p q r s)<=5) && decide (q75 (- d4 q r s t)+q75 (d4 p r s t)+q75 (- d4 p q s t)+q75 (d4 p q r t)+q75 (- d4 p q r s)<=5)
theorem xp8:((List.range 16).all λp=>(List.range 16).all λq=>Nat.blt q p || (List.range 16).all λr=>Nat.blt r q || (List.range 16).all λs=>Nat.blt s r || (List.range 16).all λt=>Nat.blt t s || ya8 p q r s t)=true:=by decide +kernel
theorem x13 {p q r s t:Nat} (h1:p<=q) (h2:q<=r) (h3:r<=s) (h4:s<=t) (h5:t<16):ya8 p q r s t=true:=by
 have no:∀{a b:Nat},a<=b->Nat.blt b a=false:=λ{a b} h=>by
  cases e:Nat.blt b a with
  | false=>rfl
  | true=>have:=zbh e; omega
 have a1:=zaq.1 (zaq.1 xp8 p (za2.2 ow)) q (za2.2 ow)
 grind
def code4 (x y z w:Int):Nat:=(x+2*y+4*z+8*w).toNat
theorem w2h {x y z w:Int} (hx:Bit x) (hy:Bit y) (hz:Bit z) (hw:Bit w):code4 x y z w<16/\code4 x y z w / 2=qn9 y z w/\((code4 x y z w % 2:Nat):Int)=x:=by
 grind [code4,qn9,Bit]
theorem x2a {A:Nat->Nat->Int} (h:∀i j,i<4->j<4->Bit (A i j)):d4 (code4 (A 0 0) (A 0 1) (A 0 2) (A 0 3)) (code4 (A 1 0) (A 1 1) (A 1 2) (A 1 3)) (code4 (A 2 0) (A 2 1) (A 2 2) (A 2 3)) (code4 (A 3 0) (A 3 1) (A 3 2) (A 3 3))=det 4 A:=by
 have hc:=λi (hi:i<4)=>w2h (h i 0 hi ow) (h i 1 hi ow) (h i 2 hi ow) (h i 3 hi ow)
 obtain⟨_,a1,a2⟩:=hc 0 ow
 obtain⟨_,b1,b2⟩:=hc 1 ow
 obtain⟨_,c1,c2⟩:=hc 2 ow
 obtain⟨_,e1,e2⟩:=hc 3 ow
 unfold d4
 rw[a1,a2,b1,b2,c1,c2,e1,e2,x6z]
 have m:∀i,i<4->det 3 (λa b=>A (skp i a) (b+1))=d3 (qn9 (A (skp i 0) 1) (A (skp i 0) 2) (A (skp i 0) 3)) (qn9 (A (skp i 1) 1) (A (skp i 1) 2) (A (skp i 1) 3)) (qn9 (A (skp i 2) 1) (A (skp i 2) 2) (A (skp i 2) 3)):=λi hi=>
  (w97 (A:=λa b=>A (skp i a) (b+1)) λa b ha hb=>h _ _ (q72 ha) ow).symm
 rw[m 0 ow,m 1 ow,m 2 ow,m 3 ow]
 rfl
theorem yq7 (A:Nat->Nat->Int):det 5 A=A 0 0*det 4 (λa b=>A (skp 0 a) (b+1))-A 1 0*det 4 (λa b=>A (skp 1 a) (b+1))+A 2 0*det 4 (λa b=>A (skp 2 a) (b+1))-A 3 0*det 4 (λa b=>A (skp 3 a) (b+1))+A 4 0*det 4 (λa b=>A (skp 4 a) (b+1)):=by
 rw[det]
 simp only[sm,show sgn 0=1 from rfl,show sgn 1=-1 from rfl,show sgn 2=1 from rfl,show sgn 3=-1 from rfl,show sgn 4=1 from rfl]
 grind
def cdR (A:Nat->Nat->Int) (i:Nat):Nat:=code4 (A i 1) (A i 2) (A i 3) (A i 4)
theorem q76 {x m:Int} (h:Bit x):x*m<=q75 m/\- (x*m)<=q75 (- m):=by
 have h1:=qv1 (x:=m)
 have h2:=qv1 (x:=-m)
 rcases h with rfl | rfl
 all_goals omega
theorem wy1 {A:Nat->Nat->Int} (h:∀i j,i<5->j<5->Bit (A i j)) (hs:∀i,i<4->cdR A i<=cdR A (i+1)):(det 5 A).natAbs<=5:=by
 have hk:=x13 (hs 0 ow) (hs 1 ow) (hs 2 ow) (hs 3 ow) (w2h (h 4 1 ow ow) (h 4 2 ow ow) (h 4 3 ow ow) (h 4 4 ow ow)).1
 unfold ya8 at hk
 rw[zam,zbm,zbm] at hk
 have m:∀i,i<5->det 4 (λa b=>A (skp i a) (b+1))=d4 (cdR A (skp i 0)) (cdR A (skp i 1)) (cdR A (skp i 2)) (cdR A (skp i 3)):=λi hi=>
  (x2a (A:=λa b=>A (skp i a) (b+1)) λa b ha hb=>h _ _ (q72 ha) ow).symm
 rw[yq7,m 0 ow,m 1 ow,m 2 ow,m 3 ow,m 4 ow]
 change _/\_ at hk
 have e0:d4 (cdR A (skp 0 0)) (cdR A (skp 0 1)) (cdR A (skp 0 2)) (cdR A (skp 0 3))=d4 (cdR A 1) (cdR A 2) (cdR A 3) (cdR A 4):=rfl
 have e1:d4 (cdR A (skp 1 0)) (cdR A (skp 1 1)) (cdR A (skp 1 2)) (cdR A (skp 1 3))=d4 (cdR A 0) (cdR A 2) (cdR A 3) (cdR A 4):=rfl
 have e2:d4 (cdR A (skp 2 0)) (cdR A (skp 2 1)) (cdR A (skp 2 2)) (cdR A (skp 2 3))=d4 (cdR A 0) (cdR A 1) (cdR A 3) (cdR A 4):=rfl
 have e3:d4 (cdR A (skp 3 0)) (cdR A (skp 3 1)) (cdR A (skp 3 2)) (cdR A (skp 3 3))=d4 (cdR A 0) (cdR A 1) (cdR A 2) (cdR A 4):=rfl
 have e4:d4 (cdR A (skp 4 0)) (cdR A (skp 4 1)) (cdR A (skp 4 2)) (cdR A (skp 4 3))=d4 (cdR A 0) (cdR A 1) (cdR A 2) (cdR A 3):=rfl
 rw[e0,e1,e2,e3,e4]
 generalize d4 (cdR A 1) (cdR A 2) (cdR A 3) (cdR A 4)=m0 at hk ⊢
 generalize d4 (cdR A 0) (cdR A 2) (cdR A 3) (cdR A 4)=m1 at hk ⊢
 generalize d4 (cdR A 0) (cdR A 1) (cdR A 3) (cdR A 4)=m2 at hk ⊢
 generalize d4 (cdR A 0) (cdR A 1) (cdR A 2) (cdR A 4)=m3 at hk ⊢
 generalize d4 (cdR A 0) (cdR A 1) (cdR A 2) (cdR A 3)=m4 at hk ⊢
 have b0:=q76 (m:=m0) (h 0 0 ow ow)
 have b1:=q76 (m:=m1) (h 1 0 ow ow)
 have b2:=q76 (m:=m2) (h 2 0 ow ow)
 have b3:=q76 (m:=m3) (h 3 0 ow ow)
 have b4:=q76 (m:=m4) (h 4 0 ow ow)
 omega
theorem xx4 (g:Nat->Nat) (n:Nat):∀d s,s+d+1=n->∃t,s<=t/\t<n/\∀j,s<=j->j<n->g t<=g j
 | 0,s,h=>⟨s,zad _,ow,λj h1 h2=>by grind⟩
 | d+1,s,h=>by
  obtain⟨t,t1,t2,t3⟩:=xx4 g n d (s+1) ow
  by_cases q:g s<=g t
  ·refine⟨s,zad _,ow,λj h1 h2=>?_⟩
   grind
  ·refine⟨t,ow,t2,λj h1 h2=>?_⟩
   grind
theorem xp9 {n:Nat} (A:Nat->Nat->Int) {s t:Nat} (hs:s<n) (ht:t<n) (hne:s≠t):(det n (upd (upd A s (A t)) t (A s))).natAbs=(det n A).natAbs:=by
 have h:=we9 (n:=n) (A:=A) (r:=s) (s:=t) hs ht hne (λw=>q74 (r:=s) (s:=t) hs ht hne λj hj=>by
  unfold upd
  simp) (A s) (A t)
 simp_all [upd,q1q,Int.natAbs_neg]
theorem q4s {n:Nat} (Q:(Nat->Int)->Prop) (cd:(Nat->Int)->Nat) {B:Nat} (hB:∀A:Nat->Nat->Int,(∀i,i<n->Q (A i))->(∀i j,i<j->j<n->cd (A i)<=cd (A j))->(det n A).natAbs<=B) :
  ∀d s,s+d=n->∀A:Nat->Nat->Int,(∀i,i<n->Q (A i))->(∀i j,i<s->i<j->j<n->cd (A i)<=cd (A j))->(det n A).natAbs<=B
 | 0,s,hs,A,h1,h2=>hB A h1 λi j hi hj=>h2 i j ow hi hj
 | d+1,s,hs,A,h1,h2=>by
  obtain⟨t,t1,t2,t3⟩:=xx4 (λi=>cd (A i)) n d s ow
  try dsimp only at t3
  by_cases e:s=t
  ·exact q4s Q cd hB d (s+1) ow A h1 λi j hi hij hj=>by
    grind
  ·rw[<- xp9 A (show s<n by omega) t2 e]
   have at_:∀i,upd (upd A s (A t)) t (A s) i=A (if i=t then s else if i=s then t else i):=λi=>by
    funext j
    unfold upd
    grind
   refine q4s Q cd hB d (s+1) ow _ (λi hi=>?_) λi j hi hij hj=>?_
   all_goals grind
theorem xq0 {A:Nat->Nat->Int} (h:∀i j,i<5->j<5->Bit (A i j)):(det 5 A).natAbs<=5:=
 q4s (n:=5) (λr=>∀j,j<5->Bit (r j)) (λr=>code4 (r 1) (r 2) (r 3) (r 4)) (B:=5) (λA h1 h2=>wy1 (λi j hi hj=>h1 i hi j hj) λi hi=>h2 i (i+1) ow ow) 5 0 rfl A (λi hi j hj=>h i j hi hj) λi j hi=>absurd hi (zat _)
theorem wq3 {n B:Nat} (hB:∀A:Nat->Nat->Int,(∀i j,i<n->j<n->One (A i j))->(det n A).natAbs<=B):∀k,k<=n->∀A:Nat->Nat->Int,(∀i j,i<n->j<n->(A i j).natAbs<=1)->(∀i j,i<n->k<=i->j<n->A i j≠0)->(det n A).natAbs<=B
 | 0,_,A,h1,h2=>hB A λi j hi hj=>by
  have:=h1 i j hi hj
  have:=h2 i j hi (zae _) hj
  grind [One]
 | k+1,hk,A,h1,h2=>by
  have key:∀t,t<=n->∀v:Nat->Int,(∀j,j<n->(v j).natAbs<=1)->(∀j,j<n->t<=j->v j≠0)->(det n (upd A k v)).natAbs<=B:=λt=>by
   induction t with
   | zero=>
    intro _ v hv1 hv2
    refine wq3 hB k ow _ (λi j hi hj=>?_) λi j hi hki hj=>?_
    ·grind [upd]
    ·unfold upd; grind
   | succ t ih=>
    intro ht v hv1 hv2
    by_cases e:v t=0
    ·have a1:=ih ow (λj=>if j=t then 1 else v j) (λj hj=>by
      grind) (λj hj htj=>by
      grind)
     have a2:=ih ow (λj=>if j=t then -1 else v j) (λj hj=>by
      grind) (λj hj htj=>by
      grind)
     have e1:=qr6 n A k ow 1 1 (λj=>if j=t then 1 else v j) (λj=>if j=t then -1 else v j)
     have e2:=qr6 n A k ow 2 0 v v
     have e3:(λj=>(1:Int)*(if j=t then 1 else v j)+1*(if j=t then -1 else v j))=λj=>2*v j+0*v j:=by
      funext j
      grind
     rw[e3,e2] at e1
     omega
    grind
  have:=key n (zad _) (A k) (λj hj=>h1 k j ow hj) λj hj h5=>by omega
  grind [q1q]
theorem xa1 {n:Nat} (hn:n<=6) {A:Nat->Nat->Int} (h:∀i j,i<n->j<n->(A i j).natAbs<=1):(det n A).natAbs<=160:=by
 rcases zav n 5 with q | q
 ·have:=w96 n h
  have hf:∀k:Fin 5,ya7 k.val<=160:=dc
  exact zah this (hf ⟨n,q⟩)
 ·rcases zav n 6 with q2 | q2
  ·obtain rfl:n=5:=ow
   exact zah (wq1 5 (zad _) A h λi j hi h5=>by omega) dc
  ·obtain rfl:n=6:=ow
   refine wq3 (n:=6) (B:=160) (λA hA=>?_) 6 (zad _) A h λi j hi h5=>by omega
   obtain⟨B,hB,e⟩:=xp7 (n:=5) hA
   grind [xq0]
open Go Go.RowKit Eng
theorem q0u (a b:List (List Int)) {i:Nat} (h:i<a.length):nL (a++b) i=nL a i:=by
 grind [qk3,List.length_append,List.getElem_append_left]
theorem q3w (a b:List (List Int)) (i:Nat):nL (a++b) (a.length+i)=nL b i:=by
 grind [nL,qe5,List.getElem?_append_right]
theorem xx5 {f:List Int->List Int} {l:List (List Int)} {i:Nat} (h:i<l.length):nL (l.map f) i=f (nL l i):=by
 grind [qk3]
theorem wq4 (left:List (List Int)) (p:List Int) (j a:Nat):∀K,(qt5 left p j a K).length=(if a<K then K-1 else K)/\∀i,i<(qt5 left p j a K).length->nL (qt5 left p j a K) i=qh9 (nL left (if i<a then i else i+1)) p j
 | 0=>⟨by rfl,λi hi=>absurd hi (zat _)⟩
 | K+1=>by
  obtain⟨h1,h2⟩:=wq4 left p j a K
  rw[qt5]
  by_cases e:K=a
  ·grind
  ·rw[zap ow]
   refine⟨?_,λi hi=>?_⟩
   ·grind
   ·rw[zas] at hi
    have hi:i<(qt5 left p j a K).length+1:=hi
    rcases za1.1 hi with q | q
    ·grind [q0u]
    ·rw[q]
     have:=q3w (qt5 left p j a K) [qh9 (nL left K) p j] 0
     rw[zbv] at this
     grind [wm2]
theorem q9y {left:List (List Int)} {j:Nat}:∀K,lastTo left j K<0->∀i,i<K->nI (nL left i) j=0
 | 0,_,i,hi=>absurd hi (zat _)
 | K+1,h,i,hi=>by
  rw[lastTo] at h
  split at h
  ·omega
  ·rename_i hz
   rcases za1.1 hi with q | q
   ·exact q9y K h i q
   grind
theorem wq5 {left:List (List Int)} {j:Nat}:∀K,0<=lastTo left j K->nI (nL left (lastTo left j K).toNat) j≠0
 | 0,h=>by have:(0:Int)<=-1:=h; omega
 | K+1,h=>by
  rw[lastTo] at h ⊢
  split at h
  ·grind
  ·rename_i hz
   rw[zai hz]
   exact wq5 K h
theorem q6d (l:List Int) (n:Int) (c:Nat):nI (q7n l n) c=nI l c*n:=by
 rcases zav c l.length with h | h
 all_goals simp_all [q7n,xx0,wx9,q1m,Int.zero_mul]
structure Rst (n W:Nat) (R:Nat->Nat->Int) (j:Nat) (s:RS):Prop where
 st:St n W R j (s.done_++s.left) s.piv
 cnt:s.done_.length=s.piv.length
 prim:∀x∈s.left,Prim x
theorem xq1 (left:List (List Int)) (j:Nat) (a:Int) (hne:nI (nL left a.toNat) j≠0):∃s:Int,(s=1\/s=-1)/\(∀c,nI (xm4 left j a) c=s*nI (nL left a.toNat) c)/\0<nI (xm4 left j a) j:=by
 unfold xm4
 by_cases q:nI (nL left a.toNat) j<0
 ·rw[zap q]
  exact⟨-1,.inr rfl,λc=>by grind [q6d],by grind [q6d]⟩
 ·rw[zai q]
  exact⟨1,.inl rfl,λc=>by omega,ow⟩
theorem xq2 {n W j:Nat} {R:Nat->Nat->Int} {s:RS} (hj:j<W) (h:Rst n W R j s):Rst n W R (j+1) (x1o s j):=by
 obtain⟨left,dn,P⟩:=s
 obtain⟨hst,hcnt,hprim⟩:=h
 have hst:St n W R j (dn++left) P:=hst
 have hcnt:dn.length=P.length:=hcnt
 have hprim:∀x∈left,Prim x:=hprim
 have hlen:=hst.len
 rw[zas] at hlen
 have hL:∀i,i<left.length->nL (dn++left) (P.length+i)=nL left i:=λi hi=>by grind [q3w]
 have hD:∀i,i<P.length->nL (dn++left) i=nL dn i:=λi hi=>q0u _ _ ow
 unfold x1o
 dsimp only
 split
 ·rename_i hn
  refine⟨hst.skip λi h1 h2=>?_,hcnt,hprim⟩
  have:=hL (i-P.length) ow
  grind [q9y]
 ·rename_i hn
  have hn:0<=lastTo left j left.length:=Int.not_lt.1 hn
  have hlt:=(wn9 left j left.length).1
  have hne:=wq5 _ hn
  obtain⟨sg,hs,hsx,hpos⟩:=xq1 left j (lastTo left j left.length) hne
  have hplen:(xm4 left j (lastTo left j left.length)).length=(nL left (lastTo left j left.length).toNat).length:=by
   grind [xm4,q1m]
  generalize hA:xm4 left j (lastTo left j left.length)=p at hsx hpos hplen ⊢
  obtain⟨a,ha⟩:∃a:Nat,lastTo left j left.length=(a:Int):=⟨(lastTo left j left.length).toNat,ow⟩
  rw[ha] at hlt hne hsx hplen ⊢
  rw[za6] at hne hsx hplen
  have halt:a<left.length:=ow
  obtain⟨r1,r2⟩:=wq4 left p j a left.length
  rw[zap halt] at r1
  have hW:∀i,i<left.length->(nL left i).length=W:=λi hi=>by rw[<- hL i hi]; exact hst.each _ ow
  have hWd:∀i,i<P.length->(nL dn i).length=W:=λi hi=>by rw[<- hD i hi]; exact hst.each _ ow
  have hdl:(dn.map λr=>qh9 r p j).length=P.length:=by grind
  have hA1:∀i,i<P.length->nL (((dn.map λr=>qh9 r p j)++[p])++qt5 left p j a left.length) i=qh9 (nL dn i) p j:=λi hi=>by
   grind [q0u,List.length_append,xx5]
  have hA2:nL (((dn.map λr=>qh9 r p j)++[p])++qt5 left p j a left.length) P.length=p:=by
   rw[q0u _ _ (by grind)]
   have:=q3w (dn.map λr=>qh9 r p j) [p] 0
   simp_all [Nat.add_zero,wm2]
  have hA3:∀i,i<left.length-1->nL (((dn.map λr=>qh9 r p j)++[p])++qt5 left p j a left.length) (P.length+1+i)=qh9 (nL left (if i<a then i else i+1)) p j:=λi hi=>by
   have e:((dn.map λr=>qh9 r p j)++[p]).length=P.length+1:=by grind
   have:=q3w ((dn.map λr=>qh9 r p j)++[p]) (qt5 left p j a left.length) i
   grind
  refine⟨?_,by grind,λx hx=>?_⟩
  ·refine hst.step hj ow ?_ (λi hi=>?_) (λi=>if i<P.length then i else if i=P.length then P.length+a else if i-P.length-1<a then i-1 else i) (λi hi=>?_) (λi k hi hk e=>?_) (λi hi=>?_) (λi hi=>?_) ⟨sg,hs,λc hc=>?_⟩ ?_ λi hi hne2=>?_
   ·grind
   ·rcases zcn i P.length with q | q | q
    ·grind [q5i]
    ·grind
    ·have:=hA3 (i-P.length-1) ow
     grind [q5i]
   ·grind
   ·grind
   ·rcases zav i P.length with q | q
    ·grind
    ·rcases zcn i (P.length+a) with k | k | k
     ·exact⟨i+1,ow,by grind⟩
     ·exact⟨P.length,ow,by grind⟩
     ·exact⟨i,hi,by grind⟩
   ·grind
   ·grind
   ·grind
   ·rw[hA2]
    try dsimp only
    rcases zav i P.length with q | q
    ·simp_all [if_pos,q7z]
    ·have:=hA3 (i-P.length-1) ow
     rw[show P.length+1+(i-P.length-1)=i by omega] at this
     have hπi:(if i<P.length then i else if i=P.length then P.length+a else if i-P.length-1<a then i-1 else i)=(if i-P.length-1<a then i-1 else i):=by grind
     grind [nL,q7z]
  ·obtain⟨i,_,_,rfl⟩:=q4k _ _ _ _ _ x hx
   exact qn7 _
theorem wf7 {n W:Nat} {M:List (List Int)} (h:Mat n W M):∀j,j<=W->Rst n W (rowOf M) j (qm5 M j)
 | 0,_=>by
  have hl:(M.map qt4).length=n:=by rw[za3]; exact h.len
  have ha:∀i,i<n->nL (M.map qt4) i=qt4 (nL M i):=λi hi=>xx5 (by grind)
  have hm:∀i,i<n->∀c,c<W->max (gcdL (nL M i)) 1*nI (qt4 (nL M i)) c=nI (nL M i) c:=λi hi c hc=>qw6 _ (by rw[h.each i hi]; omega)
  refine⟨?_,rfl,λx hx=>?_⟩
  ·show St n W (rowOf M) 0 (M.map qt4) []
   refine⟨hl,λi hi=>by rw[ha i hi,qw5]; exact h.each i hi,⟨rowOf (M.map qt4),λ_=>none,id,El.start λa ha'=>⟨max (gcdL (nL M a)) 1,ow,λj hj=>?_⟩,λi hi=>hi,λi k _ _ e=>e,λa ha=>⟨a,ha,rfl⟩,λi _ c _=>rfl,λq _=>by simp,λi hi=>?_⟩,λz=>?_,zae _,λi _ _ c hc=>absurd hc (zat _),λq hq=>absurd hq (zat _),λq k _ hk=>absurd hk (zat _)⟩
   ·grind [rowOf]
   ·rw[ha i hi]
    exact(qn7 _).nice (by rw[qw5]; exact h.each i hi) _
   ·have hd:∀i,i<n->max (gcdL (nL M i)) 1*dt W (nL (M.map qt4) i) z=dt W (nL M i) z:=λi hi=>by
     have:=w19 (W:=W) (r':=nL (M.map qt4) i) (r:=nL M i) (p:=[]) (z:=z) (α:=max (gcdL (nL M i)) 1) (β:=1) (γ:=0) λc hc=>by grind
     omega
    constructor
    ·intro hz i hi
     have h1:=hd i hi
     have h2:dt W (nL M i) z=0:=hz i hi
     grind [qd9]
    ·intro hz i hi
     have h1:=hd i hi
     rw[hz i hi,zbi] at h1
     exact h1.symm
  ·obtain⟨u,_,rfl⟩:=za4.1 hx
   exact qn7 u
 | j+1,hj=>xq2 ow (wf7 h j ow)
theorem exL:∀(k:Nat) (p:Nat->Int),(∀q,q<k->p q≠0)->∃(L:Int) (u:Nat->Int),L≠0/\∀q,q<k->L=p q*u q
 | 0,p,_=>⟨1,λ_=>0,dc,λq h=>absurd h (zat _)⟩
 | k+1,p,h=>by
  obtain⟨L,u,h1,h2⟩:=exL k p λq hq=>h q ow
  refine⟨L*p k,λq=>if q=k then L else u q*p k,q17 h1 (h k ow),λq hq=>?_⟩
  grind
def Sol (n W:Nat) (R:Nat->Nat->Int) (z:Nat->Int):Prop:=∀a,a<n->(sm W λc=>R a c*z c)=0
theorem St.inj {n W:Nat} {R:Nat->Nat->Int} {j:Nat} {rows:List (List Int)} {P:List Int} (h:St n W R j rows P) {q k:Nat} (hq:q<P.length) (hk:k<P.length) (e:nI P q=nI P k):q=k:=by
 rcases zcn q k with q1 | q1 | q1
 ·have:=h.asc q k q1 hk; omega
 ·omega
 ·have:=h.asc k q q1 hq; omega
theorem St.free {n W:Nat} {R:Nat->Nat->Int} {j:Nat} {rows:List (List Int)} {P:List Int} (h:St n W R j rows P) (hj:j<=W) {f:Nat} (hf:f<W) (hnp:∀q,q<P.length->nI P q≠(f:Int)) (hz:∀i,P.length<=i->i<n->nI (nL rows i) f=0) :
  ∃z,Sol n W R z/\z f≠0/\∀c,c<W->c≠f->(∀q,q<P.length->nI P q≠(c:Int))->z c=0:=by
 obtain⟨L,u,hL,hu⟩:=exL P.length (λq=>nI (nL rows q) (nI P q).toNat) λq hq=>by have:=(h.pos q hq).2.2.1; omega
 have hpl:=h.pl
 have hzf:(if f=f then L else sm P.length λq=>if nI P q=(f:Int) then-u q*nI (nL rows q) f else 0)=L:=zap rfl
 obtain⟨z,hzd⟩:∃z:Nat->Int,∀c,z c=if c=f then L else sm P.length λq=>if nI P q=(c:Int) then-u q*nI (nL rows q) f else 0:=⟨_,λ_=>rfl⟩
 have z1:z f=L:=by grind
 have z2:∀c,c≠f->(∀q,q<P.length->nI P q≠(c:Int))->z c=0:=λc hc hq=>by
  simp_all [if_neg,qr5]
 have z3:∀q,q<P.length->z (nI P q).toNat=- u q*nI (nL rows q) f:=λq hq=>by
  have hp:=h.pos q hq
  have e:((nI P q).toNat:Int)=nI P q:=ow
  rw[hzd,zai (λk=>hnp q hq ow),qt7 hq λi hi hne=>by
   grind]
  omega
 refine⟨z,(h.sol z).2 λi hi=>?_,ow,λc hc=>z2 c⟩
 unfold dt
 rcases zav i P.length with q | q
 ·have hp:=h.pos i q
  rw[wp3 (k:=f) (l:=(nI P i).toNat) hf ow (λk=>hnp i q ow) λc hc h1 h2=>?_]
  ·grind
  ·try dsimp only
   by_cases hx:∃q,q<P.length/\nI P q=(c:Int)
   ·obtain⟨q2,hq2,e⟩:=hx
    have hp2:=h.pos q2 hq2
    have:nI (nL rows i) (nI P q2).toNat=0:=hp2.2.2.2.2 i hi λk=>h2 (by grind)
    simp_all
   grind
 ·refine qr5 λc hc=>?_
  try dsimp only
  by_cases e:c=f
  ·grind
  ·by_cases hx:∃q,q<P.length/\nI P q=(c:Int)
   ·obtain⟨q2,hq2,e⟩:=hx
    have hp2:=h.pos q2 hq2
    have:nI (nL rows i) (nI P q2).toNat=0:=hp2.2.2.2.2 i hi ow
    simp_all
   grind
theorem Asc.free {N:Nat} {P:List Int} (hl:P.length<N):∃f,f<N/\∀q,q<P.length->nI P q≠(f:Int):=by
 refine zan λhno=>?_
 have hx:∀f,∃q,f<N->q<P.length/\nI P q=(f:Int):=λf=>by
  by_cases hf:f<N
  ·simp_all
  ·exact⟨0,λh=>absurd h hf⟩
 obtain⟨g,hg⟩:=zbc hx
 obtain⟨i,k,h1,h2,h3⟩:=q7v P.length N g (λi hi=>(hg i hi).1) hl
 grind
theorem xa2 {m:List (List Int)} {y pix:List Int} (h:Asked m y pix):Small m.length pix.length (pix.length+1) (qj6 m pix y):=by
 have hM:=h.msk
 have h6:=hM.rows6
 have hp10:=hM.pix10
 have hpl:=h.nam.len
 have hat:∀i,i<m.length->nL (qj6 m pix y) i=qz0 (nL m i) pix++[nI y i]:=λi hi=>by
  grind [w48,q1l]
 have hlo:∀i,i<m.length->∀c,c<pix.length->(nI (nL (qj6 m pix y) i) c).natAbs<=1:=λi hi c hc=>by
  rw[hat i hi,ql0 _ _ (by grind [qi8]),q1e _ _ _ hc]
  have h1:=h.nam.at_ c hc
  have h2:=hM.small i hi (nI pix c).toNat ow
  omega
 refine⟨⟨q7x m pix y,λi hi=>by grind [List.length_append,qi8]⟩,h6,ow,ow,λa c ha hc=>hlo a ha c hc,λa c ha hc=>?_⟩
 rcases zav c pix.length with q | q
 ·grind
 ·have e:nI (nL (qj6 m pix y) a) c=nI y a:=by
   grind [qz0,nL,qi8,qr0]
  have:=h.at_ a ha
  omega
theorem x57 {m:List (List Int)} {pix y:List Int} (hl:pix.length<=100000):q3r m pix y:=by
 refine⟨ow,λh=>?_⟩
 have hA:=Asked.of h
 have hS:=xa2 hA
 refine⟨q70 hS,?_⟩
 have hst:=q1p hS.toMat pix.length ow
 have hpl:=hst.pl
 have hlen:=hst.len
 have hB:BIG=4000000000000000000:=rfl
 refine⟨λk hk=>?_,λk hk=>?_,λk hk=>?_⟩
 ·have:=(hst.pos k hk).2.2.1
  show nI (nL (qb8 (qj6 m pix y) pix.length).1 k) (nI (qb8 (qj6 m pix y) pix.length).2 k).toNat≠0
  omega
 ·have hk:k<(qb8 (qj6 m pix y) pix.length).2.length:=hk
  have h1:=hst.pos k hk
  have:=(hst.small hS (zad _) (i:=k) ow).2 (nI (qb8 (qj6 m pix y) pix.length).2 k).toNat ow
  show qd8 BIG (nI (nL (qb8 (qj6 m pix y) pix.length).1 k) (nI (qb8 (qj6 m pix y) pix.length).2 k).toNat)
  omega
 ·have hk:k<(qb8 (qj6 m pix y) pix.length).2.length:=hk
  have:=(hst.small hS (zad _) (i:=k) ow).2 pix.length ow
  show qd8 BIG (nI (nL (qb8 (qj6 m pix y) pix.length).1 k) pix.length)
  omega
theorem wq6 {n k:Nat} {s:List Int} (h:s∈qf0 (n:Nat) (k:Nat)):s.length=k/\k<=n:=by
 grind [qf0,wn3]
theorem q77 (l:List Int) {p:Nat} (hp:p<l.length) (x:Int) (q:Nat):nI (l.set p x) q=if q=p then x else nI l q:=by
 by_cases e:q=p
 ·subst e
  rw[zap rfl,qf2 _ _ (by grind),List.getElem_set_self]
 simp_all [if_neg,nI,qe5,List.getD_eq_getElem?_getD,List.getElem?_set_ne,Ne.symm]
theorem wf9:∀(N:Nat) {n:Nat} {f:Nat->Int} {τ:Nat->Nat},(∀q,q<N->τ q<n)->(∀q k,q<N->k<N->τ q=τ k->q=k)->(∀b,b<n->(∀q,q<N->τ q≠b)->f b=0)->sm n f=sm N λq=>f (τ q)
 | 0,n,f,τ,_,_,h=>qr5 λb hb=>h b hb λq hq=>absurd hq (zat _)
 | N+1,n,f,τ,h1,h2,h3=>by
  have e:sm n f=sm n (λb=>if b=τ N then 0 else f b)+sm n (λb=>if b=τ N then f b else 0):=by
   rw[<- w17]
   refine qg4 λb _=>?_
   omega
  have ih:=wf9 N (n:=n) (f:=λb=>if b=τ N then 0 else f b) (τ:=τ) (λq hq=>h1 q ow) (λq k hq hk=>h2 q k ow ow) λb hb hq=>by
   grind
  rw[e,ih,qt7 (k:=τ N) (h1 N ow) λb _ hne=>zai hne,zap rfl,sm]
  congr 1
  refine qg4 λq hq=>?_
  grind
def mkM (n W:Nat) (A:Nat->Nat->Int):List (List Int):=(List.range n).map λa=>(List.range W).map λc=>A a c
theorem xa3 {n W:Nat} (A:Nat->Nat->Int) {a:Nat} (ha:a<n):nL (mkM n W A) a=(List.range W).map λc=>A a c:=by
 grind [qk3,mkM]
theorem x58 {n W:Nat} (A:Nat->Nat->Int) {a c:Nat} (ha:a<n) (hc:c<W):nI (nL (mkM n W A) a) c=A a c:=by
 grind [xa3,qf2]
theorem x2b (n W:Nat) (A:Nat->Nat->Int):Mat n W (mkM n W A):=⟨by simp[mkM],λi hi=>by grind [xa3]⟩
theorem wy2 {n W:Nat} (A:Nat->Nat->Int) (h:n<W):∃z,Sol n W A z/\∃f,f<W/\z f≠0:=by
 have hM:=x2b n W A
 have hst:=q1p hM W (zad _)
 have hpl:=hst.pl
 obtain⟨f,hf,hq⟩:=Asc.free (N:=W) (P:=(qb8 (mkM n W A) W).2) ow
 obtain⟨z,z1,z2,_⟩:=hst.free (zad _) hf hq λi h1 h2=>hst.zero i h1 h2 f hf
 refine⟨z,λa ha=>?_,f,hf,z2⟩
 rw[<- z1 a ha]
 grind [qg4,rowOf,x58]
theorem x2c {n:Nat} {B:Nat->Nat->Int} {lam:Nat->Int} (h:∀j,j<n->(sm n λi=>lam i*B i j)=0) {r:Nat} (hr:r<n) (hl:lam r≠0):det n B=0:=by
 have h1:=w2c B hr lam n (zad _)
 rw[zap hr] at h1
 have h2:det n (upd B r λj=>sm n λi=>lam i*B i j)=det n (upd B r λ_=>0):=qj0 n λi j hi hj=>by
  grind [upd]
 grind [q0t,qd9]
theorem x2d {n:Nat} {B:Nat->Nat->Int} {k l:Nat} (hk:k<n) (hl:l<n) (hne:k≠l) (h:∀i,i<n->B i k=B i l):det n B=0:=by
 obtain⟨z,z1,f,hf,z2⟩:=wy2 (n:=n-1) (W:=n) (λa c=>B c (skp l a)) ow
 have e:∀j,j<n->j≠l->(sm n λi=>z i*B i j)=0:=λj hj hne=>by
  have h1:=z1 (if j<l then j else j-1) (by grind)
  have h2:skp l (if j<l then j else j-1)=j:=by
   by_cases q:j<l
   ·simp_all [if_pos,skp]
   ·rw[zai q]; unfold skp; grind
  grind
 refine x2c (lam:=z) (λj hj=>?_) hf z2
 grind [qg4]
theorem x2e {n:Nat} {A:Nat->Nat->Int} (h:∀lam:Nat->Int,(∀j,j<n->(sm n λi=>lam i*A i j)=0)->∀i,i<n->lam i=0):det n A≠0:=by
 refine x56 λk hk=>?_
 obtain⟨z,z1,f,hf,z2⟩:=wy2 (n:=n) (W:=n+1) (λj c=>if c<n then A c j else if k=j then 1 else 0) ow
 have e:∀j,j<n->(sm n λi=>z i*A i j)+(if k=j then 1 else 0)*z n=0:=λj hj=>by
  have h1:=z1 j hj
  simp_all [sm,if_neg,Nat.lt_irrefl,qg4,if_pos,Int.mul_comm]
 have hn:z n≠0:=λhz=>by
  have h2:=h z λj hj=>by
   grind
  grind
 refine⟨- z n,z,ow,λj hj=>?_⟩
 grind
def isP (P:List Int) (c:Nat):Prop:=∃q,q<P.length/\nI P q=(c:Int)
theorem wg1 {P:List Int} {c:Nat}:¬isP P c↔∀q,q<P.length->nI P q≠(c:Int):=
 ⟨λh q hq e=>h ⟨q,hq,e⟩,λh ⟨q,hq,e⟩=>h q hq e⟩
theorem St.isP_at {n W j:Nat} {R:Nat->Nat->Int} {rows:List (List Int)} {P:List Int} (h:St n W R j rows P) {k:Nat} (hk:k<P.length):isP P (nI P k).toNat:=⟨k,hk,by have:=(h.pos k hk).1; omega⟩
theorem St.row_eq {n W:Nat} {R:Nat->Nat->Int} {rows:List (List Int)} {P:List Int} (h:St n W R W rows P) {z:Nat->Int} (hz:Sol n W R z) {f:Nat} (hf:f<W) (hnp:¬isP P f) (h0:∀c,c<W->c≠f->¬isP P c->z c=0) {k:Nat} (hk:k<P.length) :
  nI (nL rows k) (nI P k).toNat*z (nI P k).toNat+nI (nL rows k) f*z f=0:=by
 have hpl:=h.pl
 have hp:=h.pos k hk
 have e:=(h.sol z).1 hz k ow
 unfold dt at e
 have hne:(nI P k).toNat≠f:=λq=>hnp (by rw[<- q]; exact h.isP_at hk)
 rw[wp3 (k:=(nI P k).toNat) (l:=f) ow hf hne λc hc h1 h2=>?_] at e
 ·exact e
 ·try dsimp only
  by_cases q:isP P c
  ·obtain⟨q2,hq2,e2⟩:=q
   have:=(h.pos q2 hq2).2.2.2.2 k ow λe3=>h1 (by grind)
   grind
  grind
theorem St.sol_mk {n W:Nat} {R:Nat->Nat->Int} {rows:List (List Int)} {P:List Int} (h:St n W R W rows P) {z:Nat->Int} {f:Nat} (hf:f<W) (hnp:¬isP P f) (h0:∀c,c<W->c≠f->¬isP P c->z c=0)
  (hr:∀k,k<P.length->nI (nL rows k) (nI P k).toNat*z (nI P k).toNat+nI (nL rows k) f*z f=0):Sol n W R z:=by
 refine(h.sol z).2 λi hi=>?_
 unfold dt
 rcases zav i P.length with q | q
 ·have hp:=h.pos i q
  have hne:(nI P i).toNat≠f:=λq2=>hnp (by rw[<- q2]; exact h.isP_at q)
  rw[wp3 (k:=(nI P i).toNat) (l:=f) ow hf hne λc hc h1 h2=>?_]
  ·grind
  ·try dsimp only
   by_cases q1:isP P c
   ·obtain⟨q2,hq2,e2⟩:=q1
    have:=(h.pos q2 hq2).2.2.2.2 i hi λe3=>h1 (by grind)
    grind
   grind
 ·exact qr5 λc hc=>by
   try dsimp only
   rw[h.zero i q hi c hc,zcm]
theorem St.piv_same {n W:Nat} {R:Nat->Nat->Int} {rows rows':List (List Int)} {P P':List Int} (h:St n W R W rows P) (h':St n W R W rows' P') {f:Nat} (hp:isP P f):isP P' f:=zan λhn=>by
 obtain⟨k,hk,e⟩:=hp
 have hpk:=h.pos k hk
 rw[e,za6] at hpk
 have hf:f<W:=ow
 have hpl':=h'.pl
 obtain⟨z,z1,z2,z3⟩:=h'.free (zad _) hf (wg1.1 hn) λi h1 h2=>h'.zero i h1 h2 f hf
 have zl:∀c,c<W->f<c->z c=0:=λc hc hfc=>by
  by_cases q:isP P' c
  ·obtain⟨q2,hq2,e2⟩:=q
   have h1:=h'.row_eq z1 hf hn (λc hc h1 h2=>z3 c hc h1 (wg1.1 h2)) hq2
   have h2:=h'.pos q2 hq2
   rw[e2,za6] at h1 h2
   rw[h2.2.2.2.1 f hfc,zcm,Int.add_zero] at h1
   grind [qd9]
  grind [wg1]
 have hpl:=h.pl
 have h1:=(h.sol z).1 z1 k ow
 unfold dt at h1
 rw[qt7 (k:=f) hf λc hc hne=>?_] at h1
 ·grind [absurd,qd9]
 grind
theorem St.basis {n W:Nat} {R:Nat->Nat->Int} {rows:List (List Int)} {P:List Int} (h:St n W R W rows P):∃τ:Nat->Nat,(∀i,i<P.length->τ i<n)/\∀k,k<P.length->∃(c:Int) (lam:Nat->Int),c≠0/\∀col,col<W->(sm P.length λq=>lam q*R (τ q) col)=c*nI (nL rows k) col:=by
 obtain⟨ρ,pv,τ,hE,t1,t2,t3,t4,t5,t6⟩:=h.tag
 have hpl:=h.pl
 refine⟨τ,λi hi=>t1 i ow,λk hk=>?_⟩
 obtain⟨c,l,hc,hl,hs,_⟩:=hE.comb (τ k) (t1 k ow)
 refine⟨c,λq=>l (τ q),hc,λcol hcol=>?_⟩
 rw[<- t4 k ow col hcol,hl col hcol]
 refine(wf9 P.length (f:=λb=>l b*R b col) (λq hq=>t1 q ow) (λq k hq hk=>t2 q k ow ow) λb hb hq=>?_).symm
 grind
theorem St.minors {n W:Nat} {R:Nat->Nat->Int} {rows:List (List Int)} {P:List Int} (h:St n W R W rows P) (hn:n<=6) (h1:∀a c,a<n->c<W->(R a c).natAbs<=1) :
  ∃D:Int,D≠0/\D.natAbs<=160/\∀f,f<W->¬isP P f->∃w:Nat->Int,(∀k,k<P.length->(w k).natAbs<=160)/\∀k,k<P.length->nI (nL rows k) (nI P k).toNat*w k+nI (nL rows k) f*D=0:=by
 obtain⟨τ,t1,hcomb⟩:=h.basis
 have hpl:=h.pl
 have hpW:∀k,k<P.length->(nI P k).toNat<W:=λk hk=>by have:=h.pos k hk; omega
 have hrow:∀k,k<P.length->∀c,c<P.length->nI (nL rows k) (nI P c).toNat=if k=c then nI (nL rows k) (nI P k).toNat else 0:=λk hk c hc=>by
  by_cases q:k=c
  ·grind
  ·rw[zai q]
   exact(h.pos c hc).2.2.2.2 k ow q
 have hpp:∀k,k<P.length->0<nI (nL rows k) (nI P k).toNat:=λk hk=>(h.pos k hk).2.2.1
 -- what all the first rows say is said by the reduced ones
 have tell:∀(m:Nat) (s:Nat->Nat) (w:Nat->Int),(∀c,c<m->s c<W)->(∀b,b<P.length->(sm m λc=>R (τ b) (s c)*w c)=0)->∀k,k<P.length->(sm m λc=>nI (nL rows k) (s c)*w c)=0:=λm s w hs hw k hk=>by
  obtain⟨c0,lam,hc0,hl⟩:=hcomb k hk
  refine qd9 (a:=c0) ?_ hc0
  rw[<- qt6]
  have e:(sm m λc=>c0*(nI (nL rows k) (s c)*w c))=sm m λc=>sm P.length λq=>lam q*(R (τ q) (s c)*w c):=qg4 λc hc=>by
   grind [Int.mul_assoc,Int.mul_comm,qt6,qg4]
  rw[e,w9r]
  refine qr5 λq hq=>?_
  try dsimp only
  rw[qt6,hw q hq,zbi]
 refine⟨det P.length λa b=>R (τ b) (nI P a).toNat,x2e λlam hlam k hk=>?_,xa1 ow λa b ha hb=>h1 _ _ (t1 b hb) (hpW a ha),λf hf hnp=>?_⟩
 ·have e:=tell P.length (λa=>(nI P a).toNat) lam hpW (λb hb=>by
   grind) k hk
  rw[qt7 (k:=k) hk λi hi hne=>by
   grind] at e
  grind [qd9]
 ·obtain⟨s,hs0,hsk⟩:∃s:Nat->Nat,s 0=f/\∀c,s (c+1)=(nI P c).toNat:=⟨λc=>match c with | 0=>f | c+1=>(nI P c).toNat,rfl,λ_=>rfl⟩
  have hsW:∀c,c<P.length+1->s c<W:=λc hc=>by
   cases c with
   | zero=>omega
   | succ c=>grind
  obtain⟨w,hw⟩:∃w:Nat->Int,∀c,w c=sgn c*det P.length λa b=>R (τ b) (s (skp c a)):=⟨_,λ_=>rfl⟩
  have e0:w 0=det P.length λa b=>R (τ b) (nI P a).toNat:=by
   rw[hw,show sgn 0=1 from rfl,zds]
   refine qj0 _ λa b ha hb=>?_
   have:skp 0 a=a+1:=by rfl
   grind
  refine⟨λk=>w (k+1),λk hk=>?_,λk hk=>?_⟩
  ·try dsimp only
   rw[hw,zbq,wf4,zc2]
   grind [xa1,q72]
  ·have e:=tell (P.length+1) s w hsW (λb hb=>by
    have hd:det (P.length+1) (λc j=>if j=0 then R (τ b) (s c) else R (τ (j-1)) (s c))=0:=x2d (k:=0) (l:=b+1) ow ow ow λi hi=>by
     rfl
    rw[det] at hd
    grind) k hk
   rw[wp3 (k:=k+1) (l:=0) ow ow ow λc hc h2 h3=>?_] at e
   ·grind
   ·try dsimp only
    cases c with
    | zero=>omega
    | succ c=>grind
theorem St.piv_160 {n W:Nat} {R:Nat->Nat->Int} {rows:List (List Int)} {P:List Int} (h:St n W R W rows P) (hn:n<=6) (h1:∀a c,a<n->c<W->(R a c).natAbs<=1) {k:Nat} (hk:k<P.length):(nI (nL rows k) (nI P k).toNat).natAbs<=160:=by
 have hpl:=h.pl
 have hp:=h.pos k hk
 obtain⟨D,hD,hD2,hw⟩:=h.minors hn h1
 obtain⟨ρ,pv,τ,hE,t1,t2,t3,t4,t5,t6⟩:=h.tag
 rcases t6 k ow with⟨s,hs,e⟩ | e | e
 ·grind
 ·grind
 ·have hx:∀c,∃x:Int,c<W->D*nI (nL rows k) c=nI (nL rows k) (nI P k).toNat*x/\(c=(nI P k).toNat->x=D):=λc=>by
   by_cases q:c=(nI P k).toNat
   ·exact⟨D,λ_=>⟨by grind,λ_=>rfl⟩⟩
   ·by_cases q2:isP P c
    ·obtain⟨q3,hq3,e3⟩:=q2
     refine⟨0,λ_=>⟨?_,λq4=>absurd q4 q⟩⟩
     have:=(h.pos q3 hq3).2.2.2.2 k ow λq4=>q (by grind)
     rw[e3,za6] at this
     grind
    ·by_cases q4:c<W
     ·obtain⟨w,_,w2⟩:=hw c q4 q2
      have:=w2 k hk
      exact⟨- w k,λ_=>⟨by grind,λq4=>absurd q4 q⟩⟩
     ·exact⟨0,λq5=>absurd q5 q4⟩
  obtain⟨x,hx⟩:=zbc hx
  have:=wp5 (W:=W) (r:=nI (nL rows k)) (s:=x) (α:=D) (β:=nI (nL rows k) (nI P k).toNat) hD (λc hc=>(hx c hc).1) e (nI P k).toNat ow
  grind
structure KV (n W:Nat) (R:Nat->Nat->Int) (P:List Int) (f:Nat) (v:List Int):Prop where
 len:v.length=W
 sol:Sol n W R (nI v)
 free:∀c,c<W->c≠f->¬isP P c->nI v c=0
 pos:0<nI v f
theorem KV.prim {n W:Nat} {R:Nat->Nat->Int} {P:List Int} {f:Nat} {v:List Int} (h:KV n W R P f v) (hf:f<W):KV n W R P f (qt4 v):=by
 have hl:=h.len
 have hg:0<max (gcdL v) 1:=ow
 have hm:∀c,c<W->max (gcdL v) 1*nI (qt4 v) c=nI v c:=λc hc=>qw6 v ow
 refine⟨by grind [qw5],λa ha=>?_,λc hc h1 h2=>?_,?_⟩
 ·have:=h.sol a ha
  refine qd9 (a:=max (gcdL v) 1) ?_ ow
  grind [qt6,qg4]
 ·have:=hm c hc
  rw[h.free c hc h1 h2] at this
  grind [qd9]
 ·have:=hm f hf
  have:=h.pos
  exact wp8 hg ow
theorem KV.trans {n W:Nat} {R:Nat->Nat->Int} {P P':List Int} {f:Nat} {v:List Int} (h:KV n W R P f v) (hP:∀c,isP P c↔isP P' c):KV n W R P' f v:=
 ⟨h.len,h.sol,λc hc h1 h2=>h.free c hc h1 λq=>h2 ((hP c).1 q),h.pos⟩
theorem KV.cross {n W:Nat} {R:Nat->Nat->Int} {rows:List (List Int)} {P:List Int} (hs:St n W R W rows P) {f:Nat} (hf:f<W) (hnp:¬isP P f) {v u:List Int} (hv:KV n W R P f v) (hu:KV n W R P f u):∀c,c<W->nI u f*nI v c=nI v f*nI u c:=λc hc=>by
 by_cases q:c=f
 ·grind
 ·by_cases q2:isP P c
  ·obtain⟨k,hk,e⟩:=q2
   have a:=hs.row_eq hv.sol hf hnp hv.free hk
   have b:=hs.row_eq hu.sol hf hnp hu.free hk
   have hp:=(hs.pos k hk).2.2.1
   rw[e,za6] at a b hp
   have:nI (nL rows k) c*(nI u f*nI v c-nI v f*nI u c)=0:=by grind
   grind [qd9]
  ·rw[hv.free c hc q q2,hu.free c hc q q2,zbi,zbi]
theorem Prim.gcd {v:List Int} {W f:Nat} (h:Prim v) (hl:v.length=W) (hf:f<W) (hp:0<nI v f):∀d:Nat,(∀c,c<W->d∣(nI v c).natAbs)->d=1:=by
 subst hl
 rcases h with h | h
 all_goals simp_all
theorem KV.uniq {n W:Nat} {R:Nat->Nat->Int} {rows:List (List Int)} {P:List Int} (hs:St n W R W rows P) {f:Nat} (hf:f<W) (hnp:¬isP P f) {v u:List Int} (hv:KV n W R P f v) (hu:KV n W R P f u) (pv:Prim v) (pu:Prim u):v=u:=by
 have hc:=hv.cross hs hf hnp hu
 have a:=wp5 (W:=W) (r:=nI v) (s:=nI u) (α:=nI u f) (β:=nI v f) (by have:=hu.pos; omega) hc (pv.gcd hv.len hf hv.pos)
 have b:=wp5 (W:=W) (r:=nI u) (s:=nI v) (α:=nI v f) (β:=nI u f) (by have:=hv.pos; omega) (λc h=>(hc c h).symm) (pu.gcd hu.len hf hu.pos)
 have hff:nI u f=nI v f:=by
  have:=a f hf; have:=b f hf; have:=hv.pos; have:=hu.pos; omega
 have h1:=hv.len
 have h2:=hu.len
 refine zbo ow λi hi hi2=>?_
 rw[<- qf2 v i hi,<- qf2 u i hi2]
 have:=hc i ow
 rw[hff] at this
 exact zdk (by have:=hv.pos; omega) this
theorem KV.small {n W:Nat} {R:Nat->Nat->Int} {rows:List (List Int)} {P:List Int} (hs:St n W R W rows P) (hn:n<=6) (h1:∀a c,a<n->c<W->(R a c).natAbs<=1) {f:Nat} (hf:f<W) (hnp:¬isP P f) {v:List Int} (hv:KV n W R P f v) (pv:Prim v):∀x∈v,x.natAbs<=160:=by
 obtain⟨D,hD,hD2,hw⟩:=hs.minors hn h1
 obtain⟨w,w1,w2⟩:=hw f hf hnp
 have hx:∀c,∃x:Int,c<W->D*nI v c=nI v f*x/\x.natAbs<=160:=λc=>by
  by_cases q:c=f
  ·grind
  ·by_cases q2:isP P c
   ·obtain⟨k,hk,e⟩:=q2
    refine⟨w k,λ_=>⟨?_,w1 k hk⟩⟩
    have a:=hs.row_eq hv.sol hf hnp hv.free hk
    have b:=w2 k hk
    have hp:=(hs.pos k hk).2.2.1
    rw[e,za6] at a b hp
    have:nI (nL rows k) c*(D*nI v c-nI v f*w k)=0:=by grind
    grind [qd9]
   ·exact⟨0,λhc=>⟨by rw[hv.free c hc q q2,zbi,zbi],dc⟩⟩
 obtain⟨x,hx⟩:=zbc hx
 have:=wp5 (W:=W) (r:=nI v) (s:=x) (α:=D) (β:=nI v f) hD (λc hc=>(hx c hc).1) (pv.gcd hv.len hf hv.pos)
 intro y hy
 obtain⟨c,hc,rfl⟩:=wp9 hy
 have hl:=hv.len
 grind
theorem xa4 {P:List Int} {f:Nat}:(P.any λe=>(f:Int)==e)=true↔isP P f:=by
 rw[zcd]
 constructor
 ·rintro⟨x,hx,e⟩
  obtain⟨q,hq,rfl⟩:=wp9 hx
  exact⟨q,hq,(beq_iff_eq.1 e).symm⟩
 ·rintro⟨q,hq,e⟩
  exact⟨nI P q,q9v hq,beq_iff_eq.2 e.symm⟩
theorem wq7 (P:List Int) (f:Nat):∀k,q7o P f k=true↔∀q,q<k->nI P q≠(f:Int)
 | 0=>⟨λ_ q hq=>absurd hq (zat _),λ_=>rfl⟩
 | k+1=>by
  rw[q7o,zam,wq7 P f k,bne_iff_ne]
  grind
theorem q4t {P:List Int} {f:Nat}:q7o P f P.length=true↔¬isP P f:=by rw[wq7,wg1]
def qz7 (n f:Nat) (t:Int) (P:List Int) (val:Nat->Int):Nat->List Int
 | 0=>(List.replicate n 0).set f t
 | k+1=>(qz7 n f t P val k).set (nI P k).toNat (val k)
theorem qw7 (n f:Nat) (t:Int) (P:List Int) (val:Nat->Int):∀k,(qz7 n f t P val k).length=n
 | 0=>by simp[qz7]
 | k+1=>by rw[qz7,zaz]; exact qw7 n f t P val k
theorem xx6 (n c:Nat):nI (List.replicate n (0:Int)) c=0:=by
 grind [Nat.lt_or_ge,qf2,wx9]
theorem q78 {n f:Nat} {t:Int} {P:List Int} {val:Nat->Int} (hf:f<n) (hP:∀k,k<P.length->0<=nI P k/\nI P k<n) (hnp:¬isP P f):∀k,k<=P.length->nI (qz7 n f t P val k) f=t
 | 0,_=>by rw[qz7,q77 _ (by grind),zap rfl]
 | k+1,hk=>by
  have:=hP k ow
  rw[qz7,q77 _ (by grind [qw7]),zai λe=>hnp ⟨k,ow,ow⟩]
  exact q78 hf hP hnp k ow
theorem wy3 {n f:Nat} {t:Int} {P:List Int} {val:Nat->Int} (hf:f<n) (hP:∀k,k<P.length->0<=nI P k/\nI P k<n) {c:Nat} (hc:c≠f) (hnp:¬isP P c):∀k,k<=P.length->nI (qz7 n f t P val k) c=0
 | 0,_=>by simp_all [qz7,q77,if_neg,xx6]
 | k+1,hk=>by
  have:=hP k ow
  rw[qz7,q77 _ (by grind [qw7]),zai λe=>hnp ⟨k,ow,ow⟩]
  exact wy3 hf hP hc hnp k ow
theorem wy4 {n f:Nat} {t:Int} {P:List Int} {val:Nat->Int} (hP:∀k,k<P.length->0<=nI P k/\nI P k<n) (hinj:∀q k,q<P.length->k<P.length->nI P q=nI P k->q=k):∀k,k<=P.length->∀q,q<k->nI (qz7 n f t P val k) (nI P q).toNat=val q
 | 0,_,q,hq=>absurd hq (zat _)
 | k+1,hk,q,hq=>by
  have h1:=hP k ow
  have h2:=hP q ow
  rw[qz7,q77 _ (by grind [qw7])]
  rcases za1.1 hq with e | e
  ·rw[zai λe2=>by grind]
   exact wy4 hP hinj k ow q e
  grind
theorem xa5 (r:List (List Int)) (P:List Int) (n f:Nat):∀k,hTo r P n f k=qz7 n f (qf3 r P f P.length) P (λk=>((0-nI (nL r k) f)*qf3 r P f P.length).tdiv (nI (nL r k) (nI P k).toNat)) k
 | 0=>rfl
 | k+1=>by rw[hTo,qz7,xa5 r P n f k]
theorem w2i (r:List (List Int)) (P:List Int) (n f:Nat):∀k,x1p r P n f k=qz7 n f (q4l r P P.length) P (λk=>(0-nI (nL r k) f)*(q4l r P P.length).tdiv (w4u r P k)) k
 | 0=>rfl
 | k+1=>by rw[x1p,qz7,w2i r P n f k]
theorem xa6 (a b:Int):∃x,a=gcdI a b*x:=by
 have h:gcdI a b∣a:=zck.1 (zcr _ _)
 exact h
theorem xa7 (a b:Int):∃x,b=gcdI a b*x:=by
 have h:gcdI a b∣b:=zck.1 (zc1 _ _)
 exact h
theorem xx7 {a d:Int} (ha:0<a) (hd:0<d):0<a*d.tdiv (gcdI a d)/\a∣a*d.tdiv (gcdI a d)/\d∣a*d.tdiv (gcdI a d)/\(a*d.tdiv (gcdI a d)).natAbs<=a.natAbs*d.natAbs/\a.tdiv (gcdI a d)*d=a*d.tdiv (gcdI a d):=by
 have hg:=qu6 (a:=a) (b:=d) (.inl ow)
 obtain⟨x,hx⟩:=xa6 a d
 obtain⟨y,hy⟩:=xa7 a d
 generalize gcdI a d=g at hg hx hy ⊢
 have e1:d.tdiv g=y:=by grind [Int.mul_tdiv_cancel_left]
 have e2:a.tdiv g=x:=by grind [Int.mul_tdiv_cancel_left]
 have hy0:0<y:=wp8 hg ow
 rw[e1,e2]
 refine⟨Int.mul_pos ha hy0,⟨y,rfl⟩,⟨x,by grind⟩,?_,by grind⟩
 rw[zbq]
 refine Nat.mul_le_mul_left _ ?_
 rw[<- e1]
 exact q6c _ _
theorem w2j {p r:Int} (hp:0<p):0<p.tdiv (gcdI p r)/\(p.tdiv (gcdI p r)).natAbs<=p.natAbs/\∀t,p.tdiv (gcdI p r)∣t->p∣(0-r)*t:=by
 have hg:=qu6 (a:=p) (b:=r) (.inl ow)
 obtain⟨x,hx⟩:=xa6 p r
 obtain⟨y,hy⟩:=xa7 p r
 refine⟨?_,q6c _ _,λt ht=>?_⟩
 ·generalize gcdI p r=g at hg hx hy ⊢
  rw[hx,zcv _ ow]
  exact wp8 hg ow
 ·generalize gcdI p r=g at hg hx hy ht
  rw[hx,zcv _ ow] at ht
  obtain⟨u,hu⟩:=ht
  exact⟨- (y*u),by grind⟩
theorem q4u {r:List (List Int)} {P:List Int} {f:Nat} (hp:∀k,k<P.length->0<nI (nL r k) (nI P k).toNat/\(nI (nL r k) (nI P k).toNat).natAbs<=160):∀k,k<=P.length->0<qf3 r P f k/\(qf3 r P f k).natAbs<=160 ^ k/\∀q,q<k->q5s r P f q∣qf3 r P f k
 | 0,_=>⟨by show(0:Int)<1; decide,by show(1:Int).natAbs<=160 ^ 0; decide,λq hq=>absurd hq (zat _)⟩
 | k+1,hk=>by
  obtain⟨a1,a2,a3⟩:=q4u hp k ow
  obtain⟨b1,b2⟩:=hp k ow
  obtain⟨c1,c2,_⟩:=w2j (r:=nI (nL r k) f) b1
  change 0<q5s r P f k at c1
  change(q5s r P f k).natAbs<=_ at c2
  obtain⟨d1,d2,d3,d4,_⟩:=xx7 a1 c1
  rw[qf3]
  refine⟨d1,?_,λq hq=>?_⟩
  ·rw[zb4]
   exact zah d4 (zbb a2 ow)
  grind [Nat.lt_succ_iff_lt_or_eq,Int.dvd_trans,d3]
theorem w2k {r:List (List Int)} {P:List Int} (hp:∀k,k<P.length->0<w4u r P k/\(w4u r P k).natAbs<=160):∀k,k<=P.length->0<q4l r P k/\(q4l r P k).natAbs<=160 ^ k/\∀q,q<k->w4u r P q∣q4l r P k
 | 0,_=>⟨by show(0:Int)<1; decide,by show(1:Int).natAbs<=160 ^ 0; decide,λq hq=>absurd hq (zat _)⟩
 | k+1,hk=>by
  obtain⟨a1,a2,a3⟩:=w2k hp k ow
  obtain⟨b1,b2⟩:=hp k ow
  obtain⟨d1,d2,d3,d4,d5⟩:=xx7 a1 b1
  rw[q4l,d5]
  refine⟨d1,?_,λq hq=>?_⟩
  ·rw[zb4]
   exact zah d4 (zbb a2 b2)
  grind [Nat.lt_succ_iff_lt_or_eq,Int.dvd_trans,d3]
theorem xx8 {k:Nat} (h:k<=6):160 ^ k<=16777216000000:=zah (zc7 dc h) dc
structure Ones (n W:Nat) (M:List (List Int)):Prop extends Mat n W M where
 n1:0<n
 n6:n<=6
 w1:0<W
 w:W<=1000
 one:∀a c,a<n->c<W->(nI (nL M a) c).natAbs<=1
theorem Ones.small {n W:Nat} {M:List (List Int)} (h:Ones n W M):Small n W W M:=⟨h.toMat,h.n6,zad _,h.w,h.one,λa c ha hc=>by have:=h.one a c ha hc; omega⟩
theorem Ones.rdW {n W:Nat} {M:List (List Int)} (h:Ones n W M):rdW M=W:=h.each 0 h.n1
theorem Ones.stP {n W:Nat} {M:List (List Int)} (h:Ones n W M):St n W (rowOf M) W (qb8 M W).1 (qb8 M W).2:=q1p h.toMat W (zad _)
theorem Ones.stR {n W:Nat} {M:List (List Int)} (h:Ones n W M):St n W (rowOf M) W ((qm5 M W).done_++(qm5 M W).left) (qm5 M W).piv:=(wf7 h.toMat W (zad _)).st
theorem Ones.at_ {n W:Nat} {M:List (List Int)} (h:Ones n W M) {k:Nat} (hk:k<(qm5 M W).piv.length):nL ((qm5 M W).done_++(qm5 M W).left) k=nL (qm5 M W).done_ k:=q0u _ _ (by rw[(wf7 h.toMat W (zad _)).cnt]; omega)
theorem Ones.redOk {n W:Nat} {M:List (List Int)} (h:Ones n W M):q2o M W W:=q70 h.small
theorem Ones.pP {n W:Nat} {M:List (List Int)} (h:Ones n W M):∀k,k<(qb8 M W).2.length->0<nI (nL (qb8 M W).1 k) (nI (qb8 M W).2 k).toNat/\(nI (nL (qb8 M W).1 k) (nI (qb8 M W).2 k).toNat).natAbs<=160:=λk hk=>
 ⟨(h.stP.pos k hk).2.2.1,h.stP.piv_160 h.n6 h.one hk⟩
theorem Ones.pR {n W:Nat} {M:List (List Int)} (h:Ones n W M):∀k,k<(qm5 M W).piv.length->0<w4u (qm5 M W).done_ (qm5 M W).piv k/\(w4u (qm5 M W).done_ (qm5 M W).piv k).natAbs<=160:=λk hk=>by
 have h1:=(h.stR.pos k hk).2.2.1
 have h2:=h.stR.piv_160 h.n6 h.one hk
 rw[h.at_ hk] at h1 h2
 exact⟨h1,h2⟩
theorem Ones.kvP {n W:Nat} {M:List (List Int)} (h:Ones n W M) {f:Nat} (hf:f<W) (hnp:¬isP (qb8 M W).2 f):KV n W (rowOf M) (qb8 M W).2 f (hTo (qb8 M W).1 (qb8 M W).2 W f (qb8 M W).2.length):=by
 have hst:=h.stP
 have hP:∀k,k<(qb8 M W).2.length->0<=nI (qb8 M W).2 k/\nI (qb8 M W).2 k<W:=λk hk=>by have:=hst.pos k hk; omega
 have hT:=q4u (f:=f) h.pP _ (zad _)
 rw[xa5]
 have h0:∀c,c<W->c≠f->¬isP (qb8 M W).2 c->nI (qz7 W f (qf3 (qb8 M W).1 (qb8 M W).2 f (qb8 M W).2.length) (qb8 M W).2 (λk=>((0-nI (nL (qb8 M W).1 k) f)*qf3 (qb8 M W).1 (qb8 M W).2 f (qb8 M W).2.length).tdiv (nI (nL (qb8 M W).1 k) (nI (qb8 M W).2 k).toNat)) (qb8 M W).2.length) c=0:=λc hc h1 h2=>wy3 hf hP h1 h2 _ (zad _)
 refine⟨qw7 _ _ _ _ _ _,hst.sol_mk hf hnp h0 λk hk=>?_,h0,?_⟩
 ·rw[wy4 hP (λq k hq hk=>hst.inj hq hk) _ (zad _) k hk,q78 hf hP hnp _ (zad _)]
  have hp:=(h.pP k hk).1
  have hd:=(w2j (r:=nI (nL (qb8 M W).1 k) f) hp).2.2 _ (hT.2.2 k hk)
  grind [Int.mul_tdiv_cancel']
 simp_all [q78,Nat.le_refl]
theorem Ones.kvR {n W:Nat} {M:List (List Int)} (h:Ones n W M) {f:Nat} (hf:f<W) (hnp:¬isP (qm5 M W).piv f):KV n W (rowOf M) (qm5 M W).piv f (x1p (qm5 M W).done_ (qm5 M W).piv W f (qm5 M W).piv.length):=by
 have hst:=h.stR
 have hP:∀k,k<(qm5 M W).piv.length->0<=nI (qm5 M W).piv k/\nI (qm5 M W).piv k<W:=λk hk=>by have:=hst.pos k hk; omega
 have hT:=w2k h.pR _ (zad _)
 rw[w2i]
 have h0:∀c,c<W->c≠f->¬isP (qm5 M W).piv c->nI (qz7 W f (q4l (qm5 M W).done_ (qm5 M W).piv (qm5 M W).piv.length) (qm5 M W).piv (λk=>(0-nI (nL (qm5 M W).done_ k) f)*(q4l (qm5 M W).done_ (qm5 M W).piv (qm5 M W).piv.length).tdiv (w4u (qm5 M W).done_ (qm5 M W).piv k)) (qm5 M W).piv.length) c=0:=λc hc h1 h2=>wy3 hf hP h1 h2 _ (zad _)
 refine⟨qw7 _ _ _ _ _ _,hst.sol_mk hf hnp h0 λk hk=>?_,h0,?_⟩
 ·rw[wy4 hP (λq k hq hk=>hst.inj hq hk) _ (zad _) k hk,q78 hf hP hnp _ (zad _),h.at_ hk]
  have hd:w4u (qm5 M W).done_ (qm5 M W).piv k*(q4l (qm5 M W).done_ (qm5 M W).piv (qm5 M W).piv.length).tdiv (w4u (qm5 M W).done_ (qm5 M W).piv k)=_:=zcq (hT.2.2 k hk)
  have e:nI (nL (qm5 M W).done_ k) (nI (qm5 M W).piv k).toNat=w4u (qm5 M W).done_ (qm5 M W).piv k:=rfl
  grind
 simp_all [q78,Nat.le_refl]
theorem Ones.piv {n W:Nat} {M:List (List Int)} (h:Ones n W M) (c:Nat):isP (qb8 M W).2 c↔isP (qm5 M W).piv c:=⟨h.stP.piv_same h.stR,h.stR.piv_same h.stP⟩
theorem Ones.ker {n W:Nat} {M:List (List Int)} (h:Ones n W M):∀f,f<=W->qn8 (qb8 M W).1 (qb8 M W).2 W f=q7p (qm5 M W).done_ (qm5 M W).piv W f
 | 0,_=>rfl
 | f+1,hf=>by
  have ih:=h.ker f ow
  rw[qn8,q7p,ih]
  by_cases q:isP (qb8 M W).2 f
  ·rw[zap (xa4.2 q),zai λq2=>q4t.1 q2 ((h.piv f).1 q)]
  ·have q2:¬isP (qm5 M W).piv f:=λq3=>q ((h.piv f).2 q3)
   rw[zai λq3=>q (xa4.1 q3),zap (q4t.2 q2),q5l]
   have a:=(h.kvP ow q).prim ow
   have b:=((h.kvR ow q2).prim ow).trans λc=>(h.piv c).symm
   rw[a.uniq h.stP ow q b (qn7 _) (qn7 _)]
theorem Ones.kernel {n W:Nat} {M:List (List Int)} (h:Ones n W M):qn8 (qb8 M W).1 (qb8 M W).2 W W=qk0 M:=by
 rw[h.ker W (zad _)]
 unfold qk0 q58
 rw[h.rdW]
theorem Ones.kerAr {n W:Nat} {M:List (List Int)} (h:Ones n W M):xm0 (qb8 M W).1 (qb8 M W).2 W:=by
 have hB:BIG=4000000000000000000:=rfl
 have hst:=h.stP
 have hpl:=hst.pl
 have hn:=h.n6
 have hsm:=λ{k} (hk:k<(qb8 M W).2.length)=>(hst.small h.small (zad _) (i:=k) ow).1
 have hT:=λf=>q4u (f:=f) h.pP
 refine⟨λk hk=>?_,λk hk i hi=>?_,λf hf _ k hk=>?_,λf hf _ k hk=>?_⟩
 ·have:=(h.pP k hk).1; omega
 ·grind
 ·grind [xx8]
 ·obtain⟨a,b,_⟩:=hT f _ (zad _)
  have:=xx8 (k:=(qb8 M W).2.length) ow
  have h1:=hsm hk f hf
  have:=wy0 (a:=0-nI (nL (qb8 M W).1 k) f) (A:=46656) ow (zah b this)
  omega
def xa8 (M:List (List Int)) (W:Nat):List Nat:=(List.range W).filter λc=>q7o (qm5 M W).piv c (qm5 M W).piv.length
theorem q9z (d:List (List Int)) (P:List Int) (n:Nat):∀f,q7p d P n f=((List.range f).filter λc=>q7o P c P.length).map λc=>qt4 (x1p d P n c P.length)
 | 0=>rfl
 | f+1=>by
  rw[q7p,q9z d P n f,zcl,zdh,zd0]
  grind
theorem Ones.kernel_map {n W:Nat} {M:List (List Int)} (h:Ones n W M):qk0 M=(xa8 M W).map λc=>qt4 (x1p (qm5 M W).done_ (qm5 M W).piv W c (qm5 M W).piv.length):=by
 unfold qk0 q58
 rw[h.rdW,q9z]
 rfl
theorem q79 {M:List (List Int)} {W c:Nat}:c∈xa8 M W↔c<W/\¬isP (qm5 M W).piv c:=by
 grind [xa8,q4t]
theorem Ones.one_free {n W:Nat} {M:List (List Int)} (h:Ones n W M) (h1:(qk0 M).length=1):∃f,f<W/\¬isP (qm5 M W).piv f/\(∀c,c<W->c≠f->isP (qm5 M W).piv c)/\KV n W (rowOf M) (qm5 M W).piv f (nL (qk0 M) 0)/\Prim (nL (qk0 M) 0):=by
 rw[h.kernel_map] at h1 ⊢
 rw[za3] at h1
 obtain⟨f,hf⟩:=zcz.1 h1
 have hm:f∈xa8 M W:=by grind
 obtain⟨hfW,hnp⟩:=q79.1 hm
 refine⟨f,hfW,hnp,λc hc hne=>zan λq=>?_,?_,?_⟩
 ·have:c∈xa8 M W:=q79.2 ⟨hc,q⟩
  grind
 ·rw[hf]
  exact(h.kvR hfW hnp).prim hfW
 ·rw[hf]
  exact qn7 _
theorem Ones.ker_small {n W:Nat} {M:List (List Int)} (h:Ones n W M) {v:List Int} (hv:v∈qk0 M):v.length=W/\∀x∈v,x.natAbs<=160:=by
 rw[h.kernel_map] at hv
 obtain⟨f,hf,rfl⟩:=za4.1 hv
 obtain⟨hfW,hnp⟩:=q79.1 hf
 have hk:=(h.kvR hfW hnp).prim hfW
 exact⟨hk.len,hk.small h.stR h.n6 h.one hfW hnp (qn7 _)⟩
theorem ql1 {m:List (List Int)} {s:List Int} (hM:Mk m) (hs:Named (nL m 0).length s) (h1:0<s.length):Ones m.length s.length (qq6 m s):=by
 have hl:=hs.len
 have h10:=hM.pix10
 refine⟨⟨wn8 m s,λi hi=>by grind [q1l,qi8]⟩,hM.rows1,hM.rows6,h1,ow,λa c ha hc=>?_⟩
 rw[q1l m s a ha,q1e _ _ _ hc]
 have:=hs.at_ c hc
 have:=hM.small a ha (nI s c).toNat ow
 omega
theorem qs8 (m:List (List Int)) (s:List Int):q2p m s=qq6 m s:=by
 grind [q2p,qb3,qq6]
theorem xa9 {m:List (List Int)} {s:List Int} (hM:Mk m) (hs:Named (nL m 0).length s) (h1:0<s.length):qm0 m s=qz2 m s:=by
 unfold qm0 qi5 qz2
 rw[qs8]
 exact(ql1 hM hs h1).kernel
theorem q6e {n k:Nat} {s:List Int} (h:s∈qf0 (n:Nat) (k:Nat)):Named n s/\s.length=k:=by
 have hl:=(wq6 h).1
 unfold qf0 at h
 split at h
 ·have hc:=w1q h
  have he:=hc.len
  simp only[Int.toNat_natCast] at hc he
  have step:∀d i,i+d+1<k->nI s i<nI s (i+d+1):=λd=>by
   induction d with
   | zero=>intro i hi; have:=hc.asc (i+1) ow ow; grind
   | succ d ih=>
    intro i hi
    have h1:=ih i ow
    have h2:=hc.asc (i+(d+1)+1) ow ow
    grind
  refine⟨⟨λj hj=>?_,λi j hij hj=>?_⟩,hl⟩
  ·have h1:=hc.lo j ow
   have h2:=hc.hi j ow
   omega
  ·have:=step (j-i-1) i ow
   grind
 grind
theorem ya9 {m:List (List Int)} (hv:qb6 m=true):wo1 m:=by
 have hM:=Mk.of hv
 have h1:=hM.pix1
 have h10:=hM.pix10
 refine⟨⟨?_⟩,λk hk set hset=>?_⟩
 ·have:=(ql1 hM (Named.idx _) (by grind [qe8])).redOk
  grind [qe8,qs8]
 ·obtain⟨hn,hl⟩:=q6e hset
  have hO:=ql1 hM hn ow
  refine⟨ChoOk.of hM hn λ_ _=>⟨trivial,zae _⟩,by rw[qs8]; exact hO.redOk,?_⟩
  unfold qi5
  rw[qs8]
  exact hO.kerAr
theorem q8a {n:Nat} {s v:List Int} (hs:Named n s):∀k,k<=s.length->∀j,j<k->nI (qf6 n s v k) (nI s j).toNat=nI v j
 | 0,_,j,hj=>absurd hj (zat _)
 | k+1,hk,j,hj=>by
  have h1:=hs.at_ k ow
  have h2:=hs.at_ j ow
  rw[qf6,q77 _ (by grind [qk8])]
  rcases za1.1 hj with e | e
  ·have:=hs.asc j k e ow
   rw[zai ow]
   exact q8a hs k ow j e
  grind
theorem wg6 {n:Nat} {s v:List Int} (hs:Named n s) {c:Nat} (hc:∀j,j<s.length->nI s j≠(c:Int)):∀k,k<=s.length->nI (qf6 n s v k) c=0
 | 0,_=>xx6 n c
 | k+1,hk=>by
  have h1:=hs.at_ k ow
  have h2:=hc k ow
  rw[qf6,q77 _ (by grind [qk8]),zai ow]
  exact wg6 hs hc k ow
theorem q8b {v:List Int}:∀k,k<=v.length->(we5 v k=true↔∀c,c<k->nI v c≠0)
 | 0,_=>⟨λ_ c hc=>absurd hc (zat _),λ_=>rfl⟩
 | k+1,hk=>by
  rw[we5,zam,q8b k ow,bne_iff_ne]
  grind
theorem xq3 {v:List Int}:(v.any λe=>(0:Int)==e)=false↔∀c,c<v.length->nI v c≠0:=by
 rw[zbw]
 constructor
 ·intro h c hc e
  have:=h _ (q9v hc)
  grind
 ·intro h x hx q
  obtain⟨c,hc,rfl⟩:=wp9 hx
  grind
structure IsC (m:List (List Int)) (s:List Int):Prop where
 one:(qz2 m s).length=1
 nz:∀c,c<s.length->nI (nL (qz2 m s) 0) c≠0
theorem q1r {m:List (List Int)} {s:List Int} (hM:Mk m) (hs:Named (nL m 0).length s) (hok:wp6 m s=true):wp7 m s=true↔IsC m s:=by
 have h1:0<s.length:=by
  unfold wp6 at hok
  grind
 have hO:=ql1 hM hs h1
 unfold wp7
 rw[hok,zc8,zam,zbm]
 constructor
 ·rintro⟨a,b⟩
  have hl:=(hO.ker_small (q15 (qk0 (qq6 m s)) 0 (by grind [qz2]))).1
  exact⟨a,(q8b _ (by show s.length<=(nL (qk0 (qq6 m s)) 0).length; omega)).1 b⟩
 ·intro h
  have hl:=(hO.ker_small (q15 (qk0 (qq6 m s)) 0 (by have:=h.one; grind [qz2]))).1
  exact⟨h.one,(q8b _ (by show s.length<=(nL (qk0 (qq6 m s)) 0).length; omega)).2 h.nz⟩
theorem wq8 {m:List (List Int)} {s:List Int} (hM:Mk m) (hs:Named (nL m 0).length s) (h1:0<s.length):wo0 (qm0 m s)=true↔IsC m s:=by
 have hO:=ql1 hM hs h1
 rw[xa9 hM hs h1]
 unfold wo0
 rw[zam,zbm,Bool.not_eq_true',xq3]
 constructor
 ·rintro⟨a,b⟩
  have hl:=(hO.ker_small (q15 (qk0 (qq6 m s)) 0 (by grind [qz2]))).1
  exact⟨a,λc hc=>b c (by show c<(nL (qk0 (qq6 m s)) 0).length; omega)⟩
 ·intro h
  have hl:=(hO.ker_small (q15 (qk0 (qq6 m s)) 0 (by have:=h.one; grind [qz2]))).1
  exact⟨h.one,λc hc=>h.nz c (by have:c<(nL (qk0 (qq6 m s)) 0).length:=hc; omega)⟩
theorem x2f {l:List Int} (h:∀d:Nat,(∀c,c<l.length->d∣(nI l c).natAbs)->d=1):qe2 l=l:=by
 have h1:(gcdL l).natAbs=1:=h _ λc hc=>(x53 l 0).2.1 _ (q9v hc)
 unfold qe2
 grind
theorem xb0 (l:List Int):xl1 l=q7n l (-1):=by
 refine zbo (by rw[wc8,q1m]) λi h1 h2=>?_
 rw[<- qf2 _ i h1,<- qf2 _ i h2,wq0,q6d]
 omega
theorem x2g {m:List (List Int)} {s:List Int} (hM:Mk m) (hs:Named (nL m 0).length s) (h1:0<s.length) (hc:IsC m s):x6y m (nL m 0).length s=w9t m (nL m 0).length s:=by
 have hO:=ql1 hM hs h1
 obtain⟨f,hf,hnp,ho,hv,hp⟩:=hO.one_free hc.one
 have hnz:=hc.nz
 unfold x6y w9t q7w
 rw[xa9 hM hs h1]
 change KV _ _ _ _ _ (nL (qz2 m s) 0) at hv
 change Prim (nL (qz2 m s) 0) at hp
 generalize nL (qz2 m s) 0=v at *
 have hat:=λj (hj:j<s.length)=>q8a (v:=v) hs _ (zad _) j hj
 have ho2:∀c:Nat,(∀j,j<s.length->nI s j≠(c:Int))->nI (qf6 (nL m 0).length s v s.length) c=0:=λc hc=>wg6 hs hc _ (zad _)
 have hlen:=qk8 (nL m 0).length s v s.length
 generalize qf6 (nL m 0).length s v s.length=u at *
 have hsh:qe2 u=u:=x2f λd hd=>hp.gcd hv.len hf hv.pos d λc hc=>by
  have h2:=hs.at_ c hc
  grind
 have h0:=hs.at_ 0 h1
 have hfst:qv0 u=nI s 0:=by
  have:=q7f (.int .i64) (λe=>e != 0) u (nI s 0).toNat ow (λi hi=>by
   have:nI u i=0:=ho2 i λj hj e=>by
    rcases zb2 j with q | q
    ·grind
    ·have:=hs.asc 0 j q hj
     omega
   grind [nI]) (by
   simp_all [nI,bne_iff_ne])
  grind [qv0]
 simp_all [q7l,nI,if_pos,xb0,if_neg]
theorem w2l {N K:Nat} {A:Nat->Int} {σ:Nat->Nat} {w:Nat->Int} (hσ:∀q,q<K->σ q<N):(sm N λcol=>A col*sm K λq=>if σ q=col then w q else 0)=sm K λq=>A (σ q)*w q:=by
 have e:(sm N λcol=>A col*sm K λq=>if σ q=col then w q else 0)=sm N λcol=>sm K λq=>A col*if σ q=col then w q else 0:=qg4 λc hc=>by
  grind [qt6]
 rw[e,w9r]
 refine qg4 λq hq=>?_
 try dsimp only
 rw[qt7 (k:=σ q) (hσ q hq) λi hi hne=>by
  grind]
 simp
theorem xq4 {m:List (List Int)} {s:List Int} (hM:Mk m) (hs:Named (nL m 0).length s) (h1:0<s.length):(qm5 (qq6 m s) s.length).piv.length<=(qi5 m (qo0 (nL m 0).length)).2.length:=zdw λhgt=>by
 have hO:=ql1 hM hs h1
 have hF:=(ql1 hM (Named.idx (nL m 0).length) (by rw[qe8]; exact hM.pix1))
 have hstF:=hF.stP
 unfold qi5 at hgt
 rw[qs8] at hgt
 have hst:=hO.stR
 rw[qe8] at hstF hgt
 generalize qb8 (qq6 m (qo0 (nL m 0).length)) (nL m 0).length=F at hstF hgt
 obtain⟨rF,PF⟩:=F
 dsimp only at hstF hgt
 generalize(qm5 (qq6 m s) s.length).piv=P at hst hgt
 generalize(qm5 (qq6 m s) s.length).done_++(qm5 (qq6 m s) s.length).left=rows at hst
 have hpl:=hst.pl
 have hplF:=hstF.pl
 have hPs:∀q,q<P.length->(nI P q).toNat<s.length:=λq hq=>by have:=hst.pos q hq; omega
 have hσ:∀q,q<P.length->(nI s (nI P q).toNat).toNat<(nL m 0).length:=λq hq=>by have:=hs.at_ _ (hPs q hq); omega
 obtain⟨w,w1,q0,hq0,w2⟩:=wy2 (n:=PF.length) (W:=P.length) (λk q=>nI (nL rF k) (nI s (nI P q).toNat).toNat) hgt
 have hF2:Sol m.length (nL m 0).length (rowOf (qq6 m (qo0 (nL m 0).length))) λcol=>sm P.length λq=>if(nI s (nI P q).toNat).toNat=col then w q else 0:=(hstF.sol _).2 λi hi=>by
  rcases zav i PF.length with q | q
  ·unfold dt
   rw[w2l hσ]
   exact w1 i q
  ·refine qr5 λc hc=>?_
   try dsimp only
   rw[hstF.zero i q hi c hc,zcm]
 have hsub:Sol m.length s.length (rowOf (qq6 m s)) λc=>sm P.length λq=>if(nI P q).toNat=c then w q else 0:=λa ha=>by
  rw[w2l hPs]
  have e1:=hF2 a ha
  rw[w2l hσ] at e1
  rw[<- e1]
  refine qg4 λq hq=>?_
  grind [rowOf,q1l,q1e,qe8,q2n,Int.toNat_natCast]
 have e:=(hst.sol _).1 hsub q0 ow
 unfold dt at e
 rw[w2l hPs,qt7 (k:=q0) hq0 λi hi hne=>by
  try dsimp only
  rw[(hst.pos i hi).2.2.2.2 q0 ow (zc9 hne),zcm]] at e
 exact w2 (qd9 e (by have:=(hst.pos q0 hq0).2.2.1; omega))
theorem xq5 {m:List (List Int)} {s:List Int} (hM:Mk m) (hs:Named (nL m 0).length s) (h1:0<s.length) (hc:IsC m s):s.length<=(qi5 m (qo0 (nL m 0).length)).2.length+1:=by
 have hO:=ql1 hM hs h1
 have hr:=xq4 hM hs h1
 obtain⟨f,hf,hnp,ho,_,_⟩:=hO.one_free hc.one
 generalize(qm5 (qq6 m s) s.length).piv=P at *
 refine zdw λhgt=>?_
 have hx:∀a,∃q,a<s.length-1->q<P.length/\nI P q=(skp f a:Int):=λa=>by
  by_cases ha:a<s.length-1
  ·obtain⟨q,hq,e⟩:=ho (skp f a) (by have:=q72 (n:=s.length-1) (i:=f) ha; omega) (xx2 f a)
   grind
  ·exact⟨0,λq=>absurd q ha⟩
 obtain⟨g,hg⟩:=zbc hx
 obtain⟨i,j,k1,k2,k3⟩:=q7v P.length (s.length-1) g (λi hi=>(hg i hi).1) ow
 grind [skp]
def x3k (m:List (List Int)) (s:List Int):Option (List Int):=if wo0 (qm0 m s) then some (x6y m (nL m 0).length s) else none
def xb1 (m:List (List Int)) (s:List Int):Option (List Int):=if wp7 m s then some (w9t m (nL m 0).length s) else none
theorem wq9 (m:List (List Int)) (L:List (List Int)):∀c,c<=L.length->qq7 m (nL m 0).length L c=(L.take c).filterMap (x3k m)
 | 0,_=>rfl
 | c+1,hc=>by
  rw[qq7,q1g L c ow,List.filterMap_append,wq9 m L c ow]
  unfold x3k
  grind
def xq6 (m:List (List Int)) (k:Nat):List (List Int):=(qf0 (nL m 0).length (k:Nat)).filterMap (xb1 m)
theorem w2m (m:List (List Int)):∀K,q2w m (nL m 0).length K=(List.range K).flatMap λ(k:Nat)=>(qf0 (nL m 0).length (k+1:Nat)).filterMap (x3k m)
 | 0=>rfl
 | K+1=>by
  rw[q2w,w2m m K,zcl,zct,wq9 m _ _ (zad _),zcs]
  simp
theorem x2h {m:List (List Int)} {s:List Int} (hM:Mk m) (hs:Named (nL m 0).length s) (h1:0<s.length) (hr:s.length<=m.length+1):x3k m s=xb1 m s:=by
 have hok:wp6 m s=true:=by
  unfold wp6
  rw[zam,zbm,zbm]
  omega
 unfold x3k xb1
 by_cases q:IsC m s
 ·rw[zap ((wq8 hM hs h1).2 q),zap ((q1r hM hs hok).2 q),x2g hM hs h1 q]
 ·rw[zai λk=>q ((wq8 hM hs h1).1 k),zai λk=>q ((q1r hM hs hok).1 k)]
theorem x2i {m:List (List Int)} (hM:Mk m):(qi5 m (qo0 (nL m 0).length)).2.length<=m.length:=by
 have hF:=(ql1 hM (Named.idx (nL m 0).length) (by rw[qe8]; exact hM.pix1))
 have:=hF.stP.pl
 unfold qi5
 rw[qs8]
 exact this
theorem xb3 {m:List (List Int)} (hM:Mk m) {k:Nat} (hk:q59 m<=k) (hn:k<(nL m 0).length):xq6 m (k+1)=[]:=by
 unfold xq6
 rw[List.filterMap_eq_nil_iff]
 intro s hs
 obtain⟨hN,hl⟩:=q6e hs
 unfold xb1
 rw[zai]
 intro q
 have hok:wp6 m s=true:=by
  unfold wp7 at q
  rw[zam,zam] at q
  exact q.1.1
 have:=xq5 hM hN ow ((q1r hM hN hok).1 q)
 unfold q59 at hk
 omega
theorem wr0 {f:Nat->List (List Int)} {K:Nat}:∀d,(∀k,K<=k->k<K+d->f k=[])->(List.range (K+d)).flatMap f=(List.range K).flatMap f
 | 0,_=>rfl
 | d+1,h=>by
  rw[<- zca,zcl,zct,wr0 d λk h1 h2=>h k h1 ow]
  simp[h (K+d) ow ow]
theorem w2n {f g:List Int->Option (List Int)}:∀l:List (List Int),(∀x∈l,f x=g x)->l.filterMap f=l.filterMap g
 | [],_=>rfl
 | x :: l,h=>by rw[List.filterMap_cons,List.filterMap_cons,h x (by simp),w2n l λy hy=>h y (by simp[hy])]
theorem xq7 {m:List (List Int)} (hv:qb6 m=true) (h7:(nL m 0).length<=7):q2w m (nL m 0).length (q59 m)=(List.range (nL m 0).length).flatMap λk=>xq6 m (k+1):=by
 have hM:=Mk.of hv
 have hcn:q59 m<=(nL m 0).length:=by unfold q59; omega
 have e:=wr0 (f:=λk=>xq6 m (k+1)) (K:=q59 m) ((nL m 0).length-q59 m) λk h1 h2=>xb3 hM h1 ow
 rw[show q59 m+((nL m 0).length-q59 m)=(nL m 0).length by omega] at e
 rw[e,w2m]
 have hr:=x2i hM
 have key:∀K,K<=q59 m->((List.range K).flatMap λ(k:Nat)=>(qf0 (nL m 0).length (k+1:Nat)).filterMap (x3k m))=(List.range K).flatMap λk=>xq6 m (k+1):=λK=>by
  induction K with
  | zero=>exact λ_=>rfl
  | succ K ih=>
   intro hK
   rw[zcl,zct,zct,ih ow]
   congr 1
   simp only[List.flatMap_cons,List.flatMap_nil,List.append_nil]
   unfold xq6
   refine w2n _ λs hs=>?_
   obtain⟨hN,hl⟩:=q6e hs
   exact x2h hM hN ow (by unfold q59 at hK; omega)
 exact key _ (zad _)
def x3l:Nat->(Nat->Int)->Nat
 | 0,_=>0
 | k+1,d=>if d k≠0 then x3l k d+1 else x3l k d
def wy5:Nat->(Nat->Int)->List Int
 | 0,_=>[]
 | k+1,d=>if d k≠0 then wy5 k d++[(k:Int)] else wy5 k d
theorem wg7 (d:Nat->Int):∀k,(wy5 k d).length=x3l k d
 | 0=>rfl
 | k+1=>by
  rw[wy5,x3l]
  split
  ·rw[zas,wg7 d k]; rfl
  ·exact wg7 d k
theorem q4v (d:Nat->Int):∀k,Named k (wy5 k d)/\∀j,j<(wy5 k d).length->d (nI (wy5 k d) j).toNat≠0
 | 0=>⟨⟨λj hj=>absurd hj (zat _),λi j _ hj=>absurd hj (zat _)⟩,λj hj=>absurd hj (zat _)⟩
 | k+1=>by
  obtain⟨h1,h2⟩:=q4v d k
  rw[wy5]
  by_cases q:d k≠0
  ·rw[zap q]
   have hl:(wy5 k d++[(k:Int)]).length=(wy5 k d).length+1:=by simp
   refine⟨⟨λj hj=>?_,λi j hij hj=>?_⟩,λj hj=>?_⟩
   ·rw[hl] at hj
    rcases za1.1 hj with e | e
    ·rw[ql0 _ _ e]; have:=h1.at_ j e; omega
    grind [qr0]
   ·rw[hl] at hj
    rw[ql0 _ _ (show i<(wy5 k d).length by omega)]
    rcases za1.1 hj with e | e
    ·rw[ql0 _ _ e]; exact h1.asc i j hij e
    ·rw[e,qr0]; exact(h1.at_ i ow).2
   ·rw[hl] at hj
    rcases za1.1 hj with e | e
    all_goals grind [ql0,qr0,Int.toNat_natCast]
  ·rw[zai q]
   exact⟨⟨λj hj=>by have:=h1.at_ j hj; omega,h1.asc⟩,h2⟩
theorem w2o (d:Nat->Int):∀k c,c<k->d c≠0->∃j,j<(wy5 k d).length/\nI (wy5 k d) j=(c:Int)
 | k+1,c,hc,hd=>by
  rw[wy5]
  by_cases q:c=k
  ·rw[zap (by grind)]
   grind [wy5,qr0]
  ·obtain⟨j,h1,h2⟩:=w2o d k c ow hd
   split
   ·exact⟨j,by grind,by grind [ql0]⟩
   grind
theorem Named.inj {n:Nat} {s:List Int} (h:Named n s) {i j:Nat} (hi:i<s.length) (hj:j<s.length) (e:(nI s i).toNat=(nI s j).toNat):i=j:=by
 have h1:=h.at_ i hi
 have h2:=h.at_ j hj
 rcases zcn i j with q | q | q
 ·have:=h.asc i j q hj; omega
 ·exact q
 ·have:=h.asc j i q hi; omega
structure xq8 (m:List (List Int)) (s h:List Int):Prop where
 nam:Named (nL m 0).length s
 pos:0<s.length
 isc:IsC m s
 len:h.length=(nL m 0).length
 nz:x3l (nL m 0).length (nI h)=s.length
 sol:Sol m.length (nL m 0).length (rowOf m) (nI h)
 on:∀j,j<s.length->nI h (nI s j).toNat≠0
 off:∀c,c<(nL m 0).length->(∀j,j<s.length->nI s j≠(c:Int))->nI h c=0
 small:∀c,(nI h c).natAbs<=160
theorem x59 {N:Nat} {s:List Int} (hs:Named N s) {d:Nat->Int} (hon:∀j,j<s.length->d (nI s j).toNat≠0) (hoff:∀c,c<N->(∀j,j<s.length->nI s j≠(c:Int))->d c=0):x3l N d=s.length:=by
 have h1:=(q4v d N).1
 have h2:=(q4v d N).2
 have h3:=w2o d N
 rw[<- wg7]
 have sub:∀(s t:List Int),Named N s->Named N t->(∀j,j<s.length->∃i,i<t.length/\nI t i=nI s j)->s.length<=t.length:=λs t hs ht h=>zdw λhgt=>by
  have hx:∀j,∃i,j<s.length->i<t.length/\nI t i=nI s j:=λj=>by
   grind
  obtain⟨g,hg⟩:=zbc hx
  obtain⟨i,j,k1,k2,k3⟩:=q7v t.length s.length g (λi hi=>(hg i hi).1) hgt
  have e1:=(hg i ow).2
  have e2:=(hg j k2).2
  rw[k3] at e1
  have:=hs.asc i j k1 k2
  omega
 refine Nat.le_antisymm (sub _ _ h1 hs λj hj=>?_) (sub _ _ hs h1 λj hj=>?_)
 ·have hb:=h1.at_ j hj
  grind
 ·have hb:=hs.at_ j hj
  grind
theorem x2j {m:List (List Int)} {s:List Int} (hM:Mk m) (hs:Named (nL m 0).length s) (h1:0<s.length) (hc:IsC m s):xq8 m s (w9t m (nL m 0).length s):=by
 have hO:=ql1 hM hs h1
 obtain⟨f,hf,hnp,ho,hv,hp⟩:=hO.one_free hc.one
 have hsm:=(hO.ker_small (q15 (qk0 (qq6 m s)) 0 (by have:=hc.one; grind [qz2]))).2
 have hnz:=hc.nz
 unfold w9t q7w
 change KV _ _ _ _ _ (nL (qz2 m s) 0) at hv
 change Prim (nL (qz2 m s) 0) at hp
 change ∀x∈nL (qz2 m s) 0,_ at hsm
 generalize nL (qz2 m s) 0=v at *
 have hat:=λj (hj:j<s.length)=>q8a (v:=v) hs _ (zad _) j hj
 have ho2:∀c:Nat,(∀j,j<s.length->nI s j≠(c:Int))->nI (qf6 (nL m 0).length s v s.length) c=0:=λc hc=>wg6 hs hc _ (zad _)
 have hlen:=qk8 (nL m 0).length s v s.length
 generalize qf6 (nL m 0).length s v s.length=u at *
 have hsW:∀c,c<s.length->(nI s c).toNat<(nL m 0).length:=λc hc=>by have:=hs.at_ c hc; omega
 have hsol:Sol m.length (nL m 0).length (rowOf m) (nI u):=λa ha=>by
  rw[wf9 s.length (f:=λc=>rowOf m a c*nI u c) (τ:=λc=>(nI s c).toNat) hsW (λq k hq hk e=>hs.inj hq hk e) λb hb hq=>by
   grind]
  rw[<- hv.sol a ha]
  grind [qg4,rowOf,q1l,q1e]
 have hsmall:∀c,(nI u c).natAbs<=160:=λc=>by
  by_cases q:∃j,j<s.length/\nI s j=(c:Int)
  ·obtain⟨j,hj,e⟩:=q
   have:=hat j hj
   rw[e,za6] at this
   rw[this]
   exact hsm _ (q9v (by rw[hv.len]; omega))
  grind
 have both:∀h:List Int,h.length=u.length->∀sg:Int,(sg=1\/sg=-1)->(∀c,nI h c=nI u c*sg)->xq8 m s h:=λh hl sg hsg he=>by
  have hsg0:sg≠0:=ow
  have hon:∀j,j<s.length->nI h (nI s j).toNat≠0:=λj hj=>by
   grind
  have hoff:∀c,c<(nL m 0).length->(∀j,j<s.length->nI s j≠(c:Int))->nI h c=0:=λc hc hj=>by
   grind
  refine⟨hs,h1,hc,ow,x59 hs hon hoff,λa ha=>?_,hon,hoff,λc=>?_⟩
  ·have e:=hsol a ha
   have e2:(sm (nL m 0).length λc=>rowOf m a c*nI h c)=sg*sm (nL m 0).length λc=>rowOf m a c*nI u c:=by
    grind [qt6,qg4]
   grind
  grind
 split
 ·exact both _ (q1m _ _) (-1) (.inr rfl) λc=>q6d u (-1) c
 simp_all
theorem xq9 {m:List (List Int)} (hM:Mk m) {k:Nat} {h:List Int} (hh:h∈xq6 m k):∃s,xq8 m s h/\s.length=k:=by
 unfold xq6 at hh
 rw[zcw] at hh
 obtain⟨s,hs,e⟩:=hh
 obtain⟨hN,hl⟩:=q6e hs
 unfold xb1 at e
 split at e
 ·rename_i q
  obtain rfl:=zaa e
  have hok:wp6 m s=true:=by
   simp_all [wp7,Bool.and_eq_true]
  have h1:0<s.length:=by
   unfold wp6 at hok
   grind
  grind [x2j,q1r]
 grind
theorem xb4 (a b:List Int):∀k,qh1 a b k=sm k λi=>nI a i*nI b i
 | 0=>rfl
 | k+1=>by rw[qh1,sm,xb4 a b k]
structure Rdg (m:List (List Int)) (x y:List Int):Prop where
 val:qb6 m=true
 xl:x.length=(nL m 0).length
 yl:y.length=m.length
 eq:∀i,i<m.length->nI y i=sm (nL m 0).length λc=>nI (nL m i) c*nI x c
theorem wg8 (N:Nat) (f:Nat->Int):∀k,sm (N+k) f=sm N f+sm k λi=>f (N+i)
 | 0=>by simp[sm]
 | k+1=>by
  have:=wg8 N f k
  show sm (N+k) f+f (N+k)=sm N f+(sm k (λi=>f (N+i))+f (N+k))
  omega
theorem Rdg.row {m:List (List Int)} {x y:List Int} (h:Rdg m x y) {k:Nat} (hk:k<m.length) :
  (sm (nL m 0).length λc=>nI (nL (qc0 m).1 k) c*nI x c)=sm m.length λi=>nI (nL (qc0 m).1 k) ((nL m 0).length+i)*nI y i:=by
 have hst:=q2s (Mk.of h.val)
 generalize hN:(nL m 0).length=N at *
 have key:=(hst.sol λc=>if c<N then nI x c else 0-nI y (c-N)).1 (λa ha=>?_) k hk
 ·unfold dt at key
  rw[wg8] at key
  have e1:(sm N λc=>nI (nL (qc0 m).1 k) c*if c<N then nI x c else 0-nI y (c-N))=sm N λc=>nI (nL (qc0 m).1 k) c*nI x c:=qg4 λi hi=>by rw[zap hi]
  have e2:(sm m.length λi=>nI (nL (qc0 m).1 k) (N+i)*if N+i<N then nI x (N+i) else 0-nI y (N+i-N))=sm m.length λi=>(-1)*(nI (nL (qc0 m).1 k) (N+i)*nI y i):=qg4 λi hi=>by
   rw[zai ow,zdt,Int.zero_sub,Int.mul_neg,Int.neg_mul,zds]
  rw[e1,e2,qt6] at key
  omega
 ·rw[wg8]
  have e1:(sm N λc=>rowOf (qp0 m) a c*if c<N then nI x c else 0-nI y (c-N))=nI y a:=by
   rw[h.eq a ha,hN]
   refine qg4 λi hi=>?_
   show nI (nL (qp0 m) a) i*_=_
   rw[zap hi,q4p ha ow]
  have e2:(sm m.length λi=>rowOf (qp0 m) a (N+i)*if N+i<N then nI x (N+i) else 0-nI y (N+i-N))=0-nI y a:=by
   rw[qt7 ha λi hi hne=>?_]
   ·show nI (nL (qp0 m) a) (N+a)*_=_
    rw[<- hN,q4q ha ha,zap rfl,zai ow,zdt,zds]
   ·show nI (nL (qp0 m) a) (N+i)*_=_
    rw[<- hN,q4q ha hi,zai hne,zcm]
  rw[e1,e2]; omega
structure KnRow (m:List (List Int)) (p k:Nat):Prop where
 lt:k<m.length
 pos:0<nI (nL (qc0 m).1 k) p
 off:∀c,c<(nL m 0).length->c≠p->nI (nL (qc0 m).1 k) c=0
 eq:wtR m (p:Int)=((nL (qc0 m).1 k).drop (nL m 0).length,nI (nL (qc0 m).1 k) p,true)
theorem xx9 {m:List (List Int)} (hv:qb6 m=true) {p:Nat} (hk:knB m (p:Int)=true):∃k,KnRow m p k:=by
 have hst:=q2s (Mk.of hv)
 have hw:wtR m (p:Int)=((nL (qc0 m).1 (ixE (qc0 m).2 (p:Int)).toNat).drop (nL m 0).length,nI (nL (qc0 m).1 (ixE (qc0 m).2 (p:Int)).toNat) p,true):=by
  unfold wtR; rw[hk,zap rfl,za6]
 unfold knB at hk
 rw[zam,decide_eq_true_iff,Bool.not_eq_true'] at hk
 obtain⟨h0,hoff⟩:=hk
 have hlt:ixE (qc0 m).2 (p:Int)<(qc0 m).2.length:=(w1p (.int .i64) (λe=>(p:Int)==e) (qc0 m).2).1
 obtain⟨k,hkk⟩:∃k:Nat,ixE (qc0 m).2 (p:Int)=k:=⟨_,(Int.toNat_of_nonneg h0).symm⟩
 have hat:nI (qc0 m).2 k=p:=by
  have h1:ixT (.int .i64) (λe=>(p:Int)==e) (qc0 m).2=k:=hkk
  have hany:(qc0 m).2.any (λe=>(p:Int)==e)=true:=by
   rw[<- qs6 (.int .i64)]; exact zbk (by rw[h1]; exact zb3 k)
  unfold ixT at h1
  rw[zap hany] at h1
  have h2:(qc0 m).2.findIdx (λe=>(p:Int)==e)=k:=by exact_mod_cast h1
  have h3:k<(qc0 m).2.length:=ow
  have h4:=zd4 (p:=λe=>(p:Int)==e) (xs:=(qc0 m).2) (w:=by rw[h2]; exact h3)
  simp only[h2] at h4
  rw[qf2 _ k h3]
  exact(beq_iff_eq.1 h4).symm
 rw[hkk,za6] at hw hoff
 have hpl:=hst.pl
 obtain⟨q1,q2,q3,q4,q5⟩:=hst.pos k ow
 rw[hat,za6] at q3
 refine⟨k,ow,q3,λc hc hne=>?_,hw⟩
 unfold x1y at hoff
 rw[zbw] at hoff
 have:=hoff c (za2.2 hc)
 simp only[Bool.and_eq_true,bne_iff_ne,ne_eq,decide_eq_true_eq,not_and] at this
 exact zan λh=>this h ow
theorem KnRow.val {m:List (List Int)} {p k:Nat} (h:KnRow m p k) (hp:p<(nL m 0).length) {x y:List Int} (hr:Rdg m x y):nI (nL (qc0 m).1 k) p*nI x p=sm m.length λi=>nI (nL (qc0 m).1 k) ((nL m 0).length+i)*nI y i:=by
 rw[<- hr.row h.lt,qt7 hp λi hi hne=>by rw[h.off i hi hne,zcm]]
theorem x2k {m:List (List Int)} {p:Nat} (hk:knB m (p:Int)=true) (hp:p<(nL m 0).length) {x z y:List Int} (hx:Rdg m x y) (hz:Rdg m z y):nI x p=nI z p:=by
 obtain⟨k,h⟩:=xx9 hx.val hk
 have h1:=h.val hp hx
 rw[<- h.val hp hz] at h1
 exact zdk (by have:=h.pos; omega) h1
theorem w2p {r y:List Int} {N n:Nat} (hr:r.length=N+n):qh1 (r.drop N) y n=sm n λi=>nI r (N+i)*nI y i:=by
 rw[xb4]
 refine qg4 λi hi=>?_
 rw[qf2 _ i (by rw[zce]; omega),zdp,<- qf2]
theorem xr0 {a d:Int} (hd:0<d):ofR (d*a) d=(a,1):=by
 unfold ofR
 have hg:gcdI (d*a) d=d:=by
  unfold gcdI
  rw[Int.gcd_mul_right_left]
  omega
 rw[zai ow,hg,zcv _ ow,Int.tdiv_self ow]
theorem Rdg.free {m:List (List Int)} {x y:List Int} (h:Rdg m x y) {k:Nat} (h1:(qc0 m).2.length<=k) (h2:k<m.length):qh1 ((nL (qc0 m).1 k).drop (nL m 0).length) y m.length=0:=by
 have hst:=q2s (Mk.of h.val)
 rw[w2p (hst.each k h2),<- h.row h2]
 exact qr5 λi hi=>by rw[hst.zero k h1 h2 i hi,zcm]
open Go Go.Proofs Go.RowKit Eng
structure DotY (a b:List Int):Prop where
 len:a.length<=10
 le:a.length<=b.length
 sa:∀i,i<a.length->qd8 46656000000 (nI a i)
 sb:∀i,i<b.length->qd8 1000 (nI b i)
theorem yj5 {x y:Int} (hx:qd8 46656000000 x) (hy:qd8 1000 y):qd8 46656000000000 (x*y):=by
 have h1:x.natAbs<=46656000000:=by unfold qd8 at hx; omega
 have h2:y.natAbs<=1000:=by unfold qd8 at hy; omega
 have h3:=zbb h1 h2
 rw[<- zbq] at h3
 unfold qd8
 omega
theorem DotY.bd {a b:List Int} (h:DotY a b):∀k,k<=a.length->qd8 (46656000000000*k) (qh1 a b k)
 | 0,_=>by unfold qd8; simp[qh1]
 | k+1,hk=>by
  have h1:=h.bd k ow
  have h2:=yj5 (h.sa k ow) (h.sb k (by have:=h.le; omega))
  unfold qd8 at *
  rw[qh1]
  omega
abbrev yb0:qa8:=qe4 true none [qd4,qd4] [qb9] (λx=>DotY x.1 x.2.1) (λx=>(qh1 x.1 x.2.1 x.1.length,()))
def x6a (a b:List Int):Nat->Option Inv
 | 0=>some (Inv.of [5,10] 0 (λk:Nat=>[(5,.lit (.int .i64 (qh1 a b k))),(10,.lit (.int .i64 k))]) (λ_=>[]) (λk=>k<=a.length) (λk=>a.length-k))
 | _=>none
theorem q90:Meets Tryz.prog 62 yb0:=by
 refine mts (SpecsOk.nil _) Tryz.func62 (λx=>x6a x.1 x.2.1) ?_
 rintro⟨a,b,⟨⟩⟩ h
 revert a b
 intro(a:List Int) (b:List Int) (h:DotY a b)
 refine vcs (∃(v0:Unit),∃(v1:Nat),Nat.le v1 a.length/\(((0:Int)=qh1 a b v1/\(0:Int)=(↑v1:Int)/\True)/\True)/\∀(v2:Nat),Nat.le v2 a.length->(decide ((↑v2:Int)<(↑a.length:Int))=true->((0:Int)<=(↑v2:Int)/\(↑v2:Int)<(↑a.length:Int))/\((0:Int)<=(↑v2:Int)/\(↑v2:Int)<(↑b.length:Int))/\fits .i64 (nI a v2*nI b v2)/\fits .i64 (qh1 a b v2+nI a v2*nI b v2)/\fits .i64 ((↑v2:Int)+(1:Int))/\∃(v5:Nat),Nat.le v5 a.length/\a.length-v5<a.length-v2/\(qh1 a b v2+nI a v2*nI b v2=qh1 a b v5/\(↑v2:Int)+(1:Int)=(↑v5:Int)/\True)/\True)/\(decide ((↑v2:Int)<(↑a.length:Int))=false->qh1 a b v2=qh1 a b a.length)) ?_
 have hl:=h.len
 have hle:=h.le
 refine⟨(),0,zae _,⟨rfl,rfl⟩,λk hk=>⟨λhlt=>?_,λhge=>?_⟩⟩
 ·have h1:=h.bd k hk
  have h2:=yj5 (h.sa k hlt) (h.sb k ow)
  unfold qd8 at h1 h2
  exact⟨hlt,ow,qa7,qa7,qa7,k+1,hlt,ow,rfl,ow⟩
 ·obtain rfl:k=a.length:=ow
  rfl
structure RdX (m:List (List Int)) (x y:List Int):Prop where
 rd:Rdg m x y
 sy:∀i,i<y.length->qd8 1000 (nI y i)
theorem RdX.dot {m:List (List Int)} {x y:List Int} (h:RdX m x y) {k:Nat} (hk:k<m.length):DotY ((nL (qc0 m).1 k).drop (nL m 0).length) y:=by
 have hM:=Mk.of h.rd.val
 have m6:=hM.rows6
 have hst:=q2s hM
 have hl:((nL (qc0 m).1 k).drop (nL m 0).length).length=m.length:=by rw[zce,hst.each k hk]; omega
 refine⟨ow,by rw[hl,h.rd.yl]; exact zad _,λi hi=>?_,h.sy⟩
 rw[hl] at hi
 have hb:=(St.small (qs5 hM) hst (zad _) hk).2 ((nL m 0).length+i) ow
 have e:nI ((nL (qc0 m).1 k).drop (nL m 0).length) i=nI (nL (qc0 m).1 k) ((nL m 0).length+i):=by
  rw[qf2 _ i ow,zdp,<- qf2]
 rw[e]; unfold qd8; omega
def yq8 (m:List (List Int)):Nat->Option Inv
 | 0=>some (Inv.of [20] 0 (λk:Nat=>[(20,.lit (.int .i64 k))]) (λ_=>[]) (λk=>(qc0 m).2.length+k<=m.length) (λk=>m.length-k))
 | _=>none
abbrev sCf:qa8:=q68 false none [qf8,qd4] (λx=>∃z,RdX x.1 z x.2.1) (λ_=>.lit (.slice none 0 0))
theorem xr1:Meets Tryz.prog 60 sCf:=by
 refine q0o (snd (SpecsOk.cons q9x (SpecsOk.cons q90 (SpecsOk.cons q0r (SpecsOk.nil _))))) Tryz.func60 rfl rfl (λx=>yq8 x.1) (λ_=>by kernel_rfl) dc ?_
 rintro⟨m,y,⟨⟩⟩ h
 revert m y
 intro(m:List (List Int)) (y:List Int) (h:∃z,RdX m z y)
 refine vcs (q3v m/\((0:Int)<=(↑(qc0 m).2.length:Int)/\(↑(qc0 m).2.length:Int)<=(↑(qc0 m).1.length:Int)/\(↑(qc0 m).1.length:Int)<=(↑(qc0 m).1.length:Int))/\∃(v0:Unit),∃(v1:Nat),Nat.le ((qc0 m).2.length+v1) m.length/\(((0:Int)=(↑v1:Int)/\True)/\True)/\∀(v2:Nat),Nat.le ((qc0 m).2.length+v2) m.length->(decide ((↑v2:Int)<(↑(List.drop (↑(qc0 m).2.length:Int).toNat (List.take (↑(qc0 m).1.length:Int).toNat (qc0 m).1)).length:Int))=true->((0:Int)<=(↑v2:Int)/\(↑v2:Int)<(↑(List.drop (↑(qc0 m).2.length:Int).toNat (List.take (↑(qc0 m).1.length:Int).toNat (qc0 m).1)).length:Int))/\((0:Int)<=(0:Int)/\(0:Int)<(↑m.length:Int))/\((0:Int)<=(↑(nL m (0:Nat)).length:Int)/\(↑(nL m (0:Nat)).length:Int)<=(↑(nL (List.drop (↑(qc0 m).2.length:Int).toNat (List.take (↑(qc0 m).1.length:Int).toNat (qc0 m).1)) v2).length:Int)/\(↑(nL (List.drop (↑(qc0 m).2.length:Int).toNat (List.take (↑(qc0 m).1.length:Int).toNat (qc0 m).1)) v2).length:Int)<=(↑(nL (List.drop (↑(qc0 m).2.length:Int).toNat (List.take (↑(qc0 m).1.length:Int).toNat (qc0 m).1)) v2).length:Int))/\DotY (List.drop (↑(nL m (0:Nat)).length:Int).toNat (List.take (↑(nL (List.drop (↑(qc0 m).2.length:Int).toNat (List.take (↑(qc0 m).1.length:Int).toNat (qc0 m).1)) v2).length:Int).toNat (nL (List.drop (↑(qc0 m).2.length:Int).toNat (List.take (↑(qc0 m).1.length:Int).toNat (qc0 m).1)) v2))) y/\((qh1 (List.drop (↑(nL m (0:Nat)).length:Int).toNat (List.take (↑(nL (List.drop (↑(qc0 m).2.length:Int).toNat (List.take (↑(qc0 m).1.length:Int).toNat (qc0 m).1)) v2).length:Int).toNat (nL (List.drop (↑(qc0 m).2.length:Int).toNat (List.take (↑(qc0 m).1.length:Int).toNat (qc0 m).1)) v2))) y (List.drop (↑(nL m (0:Nat)).length:Int).toNat (List.take (↑(nL (List.drop (↑(qc0 m).2.length:Int).toNat (List.take (↑(qc0 m).1.length:Int).toNat (qc0 m).1)) v2).length:Int).toNat (nL (List.drop (↑(qc0 m).2.length:Int).toNat (List.take (↑(qc0 m).1.length:Int).toNat (qc0 m).1)) v2))).length != (0:Int))=true->(List.drop (↑(nL m (0:Nat)).length:Int).toNat (List.take (↑(nL (List.drop (↑(qc0 m).2.length:Int).toNat (List.take (↑(qc0 m).1.length:Int).toNat (qc0 m).1)) v2).length:Int).toNat (nL (List.drop (↑(qc0 m).2.length:Int).toNat (List.take (↑(qc0 m).1.length:Int).toNat (qc0 m).1)) v2))).length<=(100000:Nat)/\False)/\((qh1 (List.drop (↑(nL m (0:Nat)).length:Int).toNat (List.take (↑(nL (List.drop (↑(qc0 m).2.length:Int).toNat (List.take (↑(qc0 m).1.length:Int).toNat (qc0 m).1)) v2).length:Int).toNat (nL (List.drop (↑(qc0 m).2.length:Int).toNat (List.take (↑(qc0 m).1.length:Int).toNat (qc0 m).1)) v2))) y (List.drop (↑(nL m (0:Nat)).length:Int).toNat (List.take (↑(nL (List.drop (↑(qc0 m).2.length:Int).toNat (List.take (↑(qc0 m).1.length:Int).toNat (qc0 m).1)) v2).length:Int).toNat (nL (List.drop (↑(qc0 m).2.length:Int).toNat (List.take (↑(qc0 m).1.length:Int).toNat (qc0 m).1)) v2))).length != (0:Int))=false->fits .i64 ((↑v2:Int)+(1:Int))/\∃(v6:Nat),Nat.le ((qc0 m).2.length+v6) m.length/\m.length-v6<m.length-v2/\((↑v2:Int)+(1:Int)=(↑v6:Int)/\True)/\True))/\(decide ((↑v2:Int)<(↑(List.drop (↑(qc0 m).2.length:Int).toNat (List.take (↑(qc0 m).1.length:Int).toNat (qc0 m).1)).length:Int))=false->Value.slice none (0:Nat) (0:Nat)=Value.slice none (0:Nat) (0:Nat))) ?_
 obtain⟨z,hz⟩:=h
 have hv:=hz.rd.val
 have hM:=Mk.of hv
 have m1:=hM.rows1
 have m6:=hM.rows6
 have hst:=q2s hM
 have hpl:=hst.pl
 have hln:=hst.len
 rw[zcs]
 refine⟨w93 hv,⟨ow,zad _⟩,(),0,ow,rfl,λk hk hlt=>?_⟩
 have hlt2:(qc0 m).2.length+k<m.length:=by rw[zce] at hlt; omega
 have hrow:nL ((qc0 m).1.drop (qc0 m).2.length) k=nL (qc0 m).1 ((qc0 m).2.length+k):=by
  rw[qk3 _ k hlt,zdp,<- qk3]
 have hl:=hst.each _ hlt2
 rw[hrow,zcs]
 have hd:((nL (qc0 m).1 ((qc0 m).2.length+k)).drop (nL m 0).length).length=m.length:=by rw[zce]; omega
 rw[hd,hz.rd.free (Nat.le_add_right _ _) hlt2]
 exact⟨hlt,ow,⟨ow,zad _⟩,hz.dot hlt2,λe=>absurd rfl e,λ_=>⟨qa7,k+1,ow,ow,rfl⟩⟩
structure VlPre (m:List (List Int)) (x y:List Int) (p:Nat):Prop where
 rd:RdX m x y
 hi:p<(nL m 0).length
 kn:knB m (p:Int)=true
 sx:qd8 1000 (nI x p)
def vlR (m:List (List Int)) (y:List Int) (p:Int):Int × Int:=ofR (qh1 (wtR m p).1 y (wtR m p).1.length) (wtR m p).2.1
structure yq9 (m:List (List Int)) (x y:List Int) (p:Nat):Prop where
 kn:(wtR m (p:Int)).2.2=true
 dot:DotY (wtR m (p:Int)).1 y
 big:-BIG<=qh1 (wtR m (p:Int)).1 y (wtR m (p:Int)).1.length/\qh1 (wtR m (p:Int)).1 y (wtR m (p:Int)).1.length<=BIG
 den:-BIG<=(wtR m (p:Int)).2.1/\(wtR m (p:Int)).2.1<=BIG
 nz:(wtR m (p:Int)).2.1≠0
 eq:vlR m y (p:Int)=(nI x p,1)
theorem VlPre.fx {m:List (List Int)} {x y:List Int} {p:Nat} (h:VlPre m x y p):yq9 m x y p:=by
 obtain⟨k,hk⟩:=xx9 h.rd.rd.val h.kn
 have hM:=Mk.of h.rd.rd.val
 have hst:=q2s hM
 have hdt:=h.rd.dot hk.lt
 have hl:((nL (qc0 m).1 k).drop (nL m 0).length).length=m.length:=by rw[zce,hst.each k hk.lt]; omega
 have hb:=(St.small (qs5 hM) hst (zad _) hk.lt).1 p h.hi
 have hv:qh1 ((nL (qc0 m).1 k).drop (nL m 0).length) y m.length=nI (nL (qc0 m).1 k) p*nI x p:=by
  rw[w2p (hst.each k hk.lt)]; exact(hk.val h.hi h.rd.rd).symm
 have hd:=hdt.bd m.length ow
 have m6:=hM.rows6
 have hB:BIG=4000000000000000000:=rfl
 unfold qd8 at hd
 refine⟨?_,?_,?_,?_,?_,?_⟩ <;> (try unfold vlR) <;> rw[hk.eq] <;> dsimp only
 ·exact hdt
 ·rw[hl]; omega
 ·omega
 ·have:=hk.pos; omega
 ·rw[hl,hv]; exact xr0 hk.pos
abbrev sVl:qa8:=qe4 false none [qf8,qd4,qb9] [qy8,qb9] (λx=>0<=x.2.2.1/\∃z,VlPre x.1 z x.2.1 x.2.2.1.toNat) (λx=>(vlR x.1 x.2.1 x.2.2.1,0,()))
theorem xr2:Meets Tryz.prog 17 sVl:=by
 refine mt0 (SpecsOk.cons q7g (SpecsOk.cons w2b (SpecsOk.cons xr1 (SpecsOk.cons q90 (SpecsOk.cons wc5 (SpecsOk.nil _)))))) Tryz.func17 ?_
 rintro⟨m,y,p,⟨⟩⟩ h
 revert m y p
 intro(m:List (List Int)) (y:List Int) (p:Int) (h:0<=p/\∃z,VlPre m z y p.toNat)
 refine vcs (let Q0:=ofR (qh1 (wtR m p).1 y (wtR m p).1.length) (wtR m p).2.1; let Q1:=vlR m y p; List.length [p]<=(1000000:Nat)/\((q5h m y [p] != (0:Int))=true->((0:Int)=Q1.1/\(0:Int)=Q1.2/\True)/\q5h m y [p]=(0:Ty.den qb9)/\True)/\((q5h m y [p] != (0:Int))=false->xp0 m p/\((!(wtR m p).2.2)=true->((0:Int)=Q1.1/\(0:Int)=Q1.2/\True)/\(8:Int)=(0:Ty.den qb9)/\True)/\((!(wtR m p).2.2)=false->(∃(v2:List Int),RdX m v2 y)/\DotY (wtR m p).1 y/\(((-4000000000000000000:Int)<=qh1 (wtR m p).1 y (wtR m p).1.length/\qh1 (wtR m p).1 y (wtR m p).1.length<=BIG)/\((-4000000000000000000:Int)<=(wtR m p).2.1/\(wtR m p).2.1<=BIG)/\(wtR m p).2.1≠(0:Ty.den qb9))/\(Q0.1=Q1.1/\Q0.2=Q1.2/\True)/\(0:Int)=(0:Ty.den qb9)/\True))) ?_
 obtain⟨h0,z,hz⟩:=h
 obtain⟨q,rfl⟩:∃q:Nat,p=q:=⟨p.toNat,ow⟩
 rw[za6] at hz
 have hv:=hz.rd.rd.val
 have fx:=hz.fx
 have hck:q5h m y [(q:Int)]=0:=by
  unfold q5h
  have ho:x3i y=false:=by
   unfold x3i
   rw[zbw]
   intro v hv
   obtain⟨c,hcc,rfl⟩:=zbu.1 hv
   have:=hz.rd.sy c hcc
   rw[qf2 y c hcc] at this
   unfold qd8 at this
   have:inB y[c] (0-1000000) 1000000=true:=qf9.2 ⟨ow,ow⟩
   rw[this]; decide
  rw[zai (by rw[hv]; decide),zai (λe=>e hz.rd.rd.yl),ho]
  have ha:xw2 [(q:Int)]=true:=rfl
  have hi:inB (q:Int) 0 ((nL m 0).length-1)=true:=qf9.2 ⟨h0,by have:=hz.hi; omega⟩
  rw[zai dc]
  unfold xl0 w50
  simp[hv,ha,hi]
 have hB:BIG=4000000000000000000:=rfl
 refine⟨dc,λe=>absurd hck e,λ_=>⟨⟨w93 hv,h0,by have:=hz.hi; omega⟩,λe=>?_,λ_=>⟨⟨z,hz.rd⟩,fx.dot,⟨⟨by have:=fx.big; omega,fx.big.2⟩,⟨by have:=fx.den; omega,fx.den.2⟩,fx.nz⟩,rfl,rfl⟩⟩⟩
 rw[fx.kn] at e; cases e
theorem qw8 (m:List (List Int)) (x:List Int):(qu0 m x).length=m.length:=by simp[qu0]
def q5u (m:List (List Int)) (k i:Nat):Nat->List Flt
 | 0=>[]
 | j+1=>q5u m k i j++if fvB m ((k:Int),(i:Int),(j:Int)) then[((k:Int),(i:Int),(j:Int))] else[]
def q4w (m:List (List Int)) (k:Nat):Nat->List Flt
 | 0=>[]
 | i+1=>q4w m k i++q5u m k i (nL m 0).length
def qk2 (m:List (List Int)):Nat->List Flt
 | 0=>[]
 | k+1=>qk2 m k++q4w m k m.length
theorem x2l (m:List (List Int)) (k i:Nat) {a b:Nat} (h:a<=b):q5u m k i a <+: q5u m k i b:=by
 induction h with
 | refl=>simp
 | step _ ih=>exact ih.trans (List.prefix_append _ _)
theorem x2m (m:List (List Int)) (k:Nat) {a b:Nat} (h:a<=b):q4w m k a <+: q4w m k b:=by
 induction h with
 | refl=>simp
 | step _ ih=>exact ih.trans (List.prefix_append _ _)
theorem x2n (m:List (List Int)) {a b:Nat} (h:a<=b):qk2 m a <+: qk2 m b:=by
 induction h with
 | refl=>simp
 | step _ ih=>exact ih.trans (List.prefix_append _ _)
theorem x6b {m:List (List Int)} {k i j:Nat} (hk:k<4) (hi:i<m.length) (hj:j<(nL m 0).length) (h:fvB m ((k:Int),(i:Int),(j:Int))=true):(qk2 m 4)[(qk2 m k).length+(q4w m k i).length+(q5u m k i j).length]? = some ((k:Int),(i:Int),(j:Int)):=by
 have p1:q5u m k i (j+1) <+: q5u m k i (nL m 0).length:=x2l m k i hj
 have p2:q4w m k i++q5u m k i (j+1) <+: q4w m k m.length:=((List.prefix_append_right_inj _).2 p1).trans (x2m m k (show i+1<=m.length from hi))
 have p3:qk2 m k++(q4w m k i++q5u m k i (j+1)) <+: qk2 m 4:=((List.prefix_append_right_inj _).2 p2).trans (x2n m (show k+1<=4 from hk))
 obtain⟨t,e⟩:=p3
 rw[<- e,q5u,zap h]
 grind
abbrev fA (f:Flt):qa3 [qp3]:=(f,())
abbrev yr0:qz6:=wl7 [qf8] [qp3] (λx=>qb6 x.1=true) (λx=>(qk2 x.1 4).map fA)
def yr1 (m:List (List Int)):Nat->Option Inv
 | 0=>some (Inv.of [7] 1 (λk:Nat=>[(7,.lit (.int .i64 k))]) (λk=>[.cnt (some (qk2 m k).length)]) (λk=>k<=4) (λk=>4-k))
 | 1=>some ⟨Nat,Nat,[12],1,λk i=>[(12,.lit (.int .i64 i))],λk i=>[.cnt (some ((qk2 m k).length+(q4w m k i).length))],λk i=>i<=m.length,λk i=>m.length-i⟩
 | 2=>some ⟨Nat × Nat,Nat,[19],1,λq j=>[(19,.lit (.int .i64 j))],λq j=>[.cnt (some ((qk2 m q.1).length+(q4w m q.1 q.2).length+(q5u m q.1 q.2 j).length))],λq j=>j<=(nL m 0).length,λq j=>(nL m 0).length-j⟩
 | _=>none
theorem xr3:qv9 Tryz.prog 183 yr0:=by
 refine says (snd (SpecsOk.cons xm8 (SpecsOk.nil _))) Tryz.func183 rfl rfl rfl [30] (λx=>yr1 x.1) (λ_=>by kernel_rfl) dc ?_
 rintro⟨m,⟨⟩⟩ l h
 revert m
 intro(m:List (List Int)) (h:qb6 m=true)
 refine vcs (let Q0:=(m,PUnit.unit); ∃(v0:Unit),∃(v1:Nat),Nat.le v1 (4:Nat)/\(((0:Int)=(↑v1:Int)/\True)/\some (0:Nat)=some (qk2 m v1).length/\True)/\∀(v2:Nat),Nat.le v2 (4:Nat)->(decide ((↑v2:Int)<(4:Int))=true->∃(v5:Nat),∃(v6:Nat),Nat.le v6 m.length/\(((0:Int)=(↑v6:Int)/\True)/\some (qk2 m v2).length=some ((qk2 m v5).length+(q4w m v5 v6).length)/\True)/\∀(v7:Nat),Nat.le v7 m.length->(decide ((↑v7:Int)<(↑m.length:Int))=true->((0:Int)<=(0:Int)/\(0:Int)<(↑m.length:Int))/\∃(v10:Nat × Nat),∃(v11:Nat),Nat.le v11 (nL m (0:Nat)).length/\(((0:Int)=(↑v11:Int)/\True)/\some ((qk2 m v5).length+(q4w m v5 v7).length)=some ((qk2 m v10.1).length+(q4w m v10.1 v10.2).length+(q5u m v10.1 v10.2 v11).length)/\True)/\∀(v12:Nat),Nat.le v12 (nL m (0:Nat)).length->(decide ((↑v12:Int)<(↑(nL m (0:Nat)).length:Int))=true->qb6 m=true/\(fvB m ((↑v2:Int),(↑v7:Int),(↑v12:Int))=true->Value.func (Fn.yield l) #[] #[]=Value.func (Fn.yield (qg6.l (qt9 [qf8] [qp3] [(30:Nat)] Q0 (List.map fA (qk2 m (4:Nat))) l))) #[] #[]/\(qg6.L (qt9 [qf8] [qp3] [(30:Nat)] Q0 (List.map fA (qk2 m (4:Nat))) l))[(qk2 m v10.1).length+(q4w m v10.1 v10.2).length+(q5u m v10.1 v10.2 v12).length]?=some (((↑v2:Int),(↑v7:Int),(↑v12:Int)),())/\(fits .i64 ((↑v12:Int)+(1:Int))/\∃(v16:Nat),Nat.le v16 (nL m (0:Nat)).length/\(nL m (0:Nat)).length-v16<(nL m (0:Nat)).length-v12/\((↑v12:Int)+(1:Int)=(↑v16:Int)/\True)/\some ((qk2 m v10.1).length+(q4w m v10.1 v10.2).length+(q5u m v10.1 v10.2 v12).length+(1:Nat))=some ((qk2 m v10.1).length+(q4w m v10.1 v10.2).length+(q5u m v10.1 v10.2 v16).length)/\True)/\True)/\(fvB m ((↑v2:Int),(↑v7:Int),(↑v12:Int))=false->fits .i64 ((↑v12:Int)+(1:Int))/\∃(v16:Nat),Nat.le v16 (nL m (0:Nat)).length/\(nL m (0:Nat)).length-v16<(nL m (0:Nat)).length-v12/\((↑v12:Int)+(1:Int)=(↑v16:Int)/\True)/\some ((qk2 m v10.1).length+(q4w m v10.1 v10.2).length+(q5u m v10.1 v10.2 v12).length)=some ((qk2 m v10.1).length+(q4w m v10.1 v10.2).length+(q5u m v10.1 v10.2 v16).length)/\True))/\(decide ((↑v12:Int)<(↑(nL m (0:Nat)).length:Int))=false->fits .i64 ((↑v7:Int)+(1:Int))/\∃(v15:Nat),Nat.le v15 m.length/\m.length-v15<m.length-v7/\((↑v7:Int)+(1:Int)=(↑v15:Int)/\True)/\some ((qk2 m v10.1).length+(q4w m v10.1 v10.2).length+(q5u m v10.1 v10.2 v12).length)=some ((qk2 m v5).length+(q4w m v5 v15).length)/\True))/\(decide ((↑v7:Int)<(↑m.length:Int))=false->fits .i64 ((↑v2:Int)+(1:Int))/\∃(v10:Nat),Nat.le v10 (4:Nat)/\(4:Nat)-v10<(4:Nat)-v2/\((↑v2:Int)+(1:Int)=(↑v10:Int)/\True)/\some ((qk2 m v5).length+(q4w m v5 v7).length)=some (qk2 m v10).length/\True))/\(decide ((↑v2:Int)<(4:Int))=false->(qk2 m v2).length=(qg6.L (qt9 [qf8] [qp3] [(30:Nat)] Q0 (List.map fA (qk2 m (4:Nat))) l)).length)) ?_
 have hM:=Mk.of h
 have m1:=hM.rows1
 have m6:=hM.rows6
 have p10:=hM.pix10
 refine⟨(),0,zae _,⟨rfl,rfl⟩,λk hk=>⟨λhk4=>⟨k,0,zae _,⟨rfl,rfl⟩,λi hi=>⟨λhi6=>⟨ow,(k,i),0,zae _,⟨rfl,rfl⟩,λj hj=>⟨λhj10=>⟨h,λhv=>⟨rfl,?_,qa7,j+1,hj10,ow,ow,?_⟩,λhv=>⟨qa7,j+1,hj10,ow,ow,?_⟩⟩,λhj10=>⟨qa7,i+1,hi6,ow,ow,?_⟩⟩⟩,λhi6=>⟨qa7,k+1,ow,ow,ow,?_⟩⟩⟩,λhk4=>?_⟩⟩
 ·show((qk2 m 4).map fA)[(qk2 m k).length+(q4w m k i).length+(q5u m k i j).length]? = some (fA ((k:Int),(i:Int),(j:Int)))
  grind [x6b]
 ·rw[q5u,zap hv,zas]; rfl
 ·simp_all [q5u,if_neg,List.append_nil]
 ·obtain rfl:j=(nL m 0).length:=ow
  rw[q4w,zas,zca]
 ·obtain rfl:i=m.length:=ow
  rw[qk2,zas]
 ·obtain rfl:k=4:=ow
  show _=((qk2 m 4).map fA).length
  simp
abbrev yb1:qa8:=q68 false none [qf8] (λ_=>True) (λx=>.clo 183 (.cons (.imm (.cons (.dat (.list (.int .i64)) x.1) .nil) 0) .nil))
theorem w5c:Meets Tryz.prog 138 yb1:=by
 refine q0o (snd (SpecsOk.nil _)) Tryz.func138 rfl rfl (λx _=>none) (λ_=>by kernel_rfl) dc ?_
 rintro⟨m,⟨⟩⟩ -
 revert m
 intro(m:List (List Int))
 refine vcr (((m=m/\True)/\(0:Nat)=(0:Nat))/\True) ?_
 simp
end Go.Proofs.YtnchigbbjajiiaaGreat
namespace Eng
open Go Go.RowKit Go.Proofs Go.Shelf
variable {P : Program} {ρ : Ren}
theorem same_setCell {w:World} {b:Nat} {a:Addr} (h:a.block=b) (v:Value):Kept (λk=>k=b) w (w.setCell a v):=
 ⟨rfl,rfl,rfl,by simp,λk hk=>zcy _ _ _ _ (λe=>hk.2 ow)⟩
theorem Kept.trans {D D':Nat->Prop} {A B C:World} (h:Kept D A B) (k:Kept D' B C) (hd:∀b,D' b->D b\/A.heap.size<=b):Kept D A C:=
 ⟨k.os.trans h.os,k.tape.trans h.tape,k.output.trans h.output,zah h.size k.size,λb hb=>(k.block b ⟨za7 hb.1 h.size,λe=>(hd b e).elim hb.2 (λx=>by omega)⟩).trans (h.block b hb)⟩
theorem q8c {D D':Nat->Prop} {A B:World} (h:Kept D A B) (hd:∀b,D b->D' b):Kept D' A B:=Same.mono h λb hb=>⟨hb.1,λe=>hb.2 (hd b e)⟩
theorem kept_alloc (w:World) (o:Obj):Kept (λ_=>False) w (w.alloc o):=by
 have:=Ls.below_alloc w o
 exact⟨this.os,this.tape,this.output,this.size,λb hb=>this.block b hb.1⟩
theorem bcc (L:Lays.n240 P ρ) (X:Builder.X72 P ρ) {w:World} {b:Nat} {v:Value} {q:ByteArray} (h:BldOk (λ_=>none) w 0 (ρ.t 72) (ρ.t 5) b v q) :
  Calls P (ρ.f 240) #[.pointer (some ⟨b,0,none⟩)] w λe w'=>e=.returned (.tuple #[])/\(w'.heap[b]? = some (.cells #[.pointer (some ⟨b,0,none⟩),v] (ρ.t 72) (0,0))/\Kept (λk=>k=b) w w'):=by
 obtain⟨p,hp,hc⟩:=h.cell
 rcases hp with rfl | rfl
 ·refine(Any.Builder_copyCheck_fresh L X b w (by grind [World.cell?]) (by grind [World.shape?]) (by grind [World.frozen?])).mono ?_
  rintro e w' ⟨rfl,rfl⟩
  exact⟨rfl,by grind [World.setCell],same_setCell (a:=⟨b,0,none⟩) rfl _⟩
 ·refine(Any.Builder_copyCheck_used L X b w (by grind [World.cell?])).mono ?_
  rintro e w' ⟨rfl,rfl⟩
  exact⟨rfl,hc,Same.refl _ _⟩
theorem yr2 {T e b:Nat} {v v' p:Value} {q q':ByteArray} {w w1 w2:World} (h:BldOk (λ_=>none) w 0 T e b v q) (hTe:T≠e) (k1:Kept (λk=>k=b) w w1) (k2:Kept (λx=>v.ownBlock=some x) w1 w2) (hb:w2.heap[b]? = some (.cells #[.pointer (some ⟨b,0,none⟩),p] T (0,0))) (ho:w2.ownsRow 0 e 1 v' q'.size (Lib.byteCells q'.data.toList))
  (hn:∀x,v'.ownBlock=some x->v.ownBlock=some x\/w.heap.size<=x):w6u w b v T e q' (w2.setCell ⟨b,1,none⟩ v'):=by
 have hne:v'.ownBlock≠some b:=Lib.ownBlock_ne ho hb hTe
 refine⟨Kept.trans (Kept.trans (q8c k1 λx hx=>h.blkIs.2 (.inl hx)) k2 λx hx=>.inl (h.blkIs.2 (.inr hx))) (same_setCell (b:=b) rfl v') λx hx=>.inl (h.blkIs.2 (.inl hx)),v',⟨zae _,⟨_,.inr rfl,?_⟩,?_,hne,rfl,λ_ _=>rfl⟩,hn⟩
 ·grind [World.setCell]
 ·exact ho.kept (row:=some b) ⟨rfl,rfl,rfl,by simp,λk _ hk=>zcy _ _ _ _ (λe=>hk (by grind))⟩ (Or.inr hne)
theorem xr4 {w w1:World} {b e:Nat} {v:Value} {n:Nat} {xs:List Value} (h:w.ownsRow 0 e 1 v n xs) (hne:v.ownBlock≠some b) (k1:Kept (λk=>k=b) w w1):w1.ownsRow 0 e 1 v n xs:=
 qo4 h λx hx=>k1.block x ⟨(own_blk h hx).2.1,λe'=>hne (by grind [qh6])⟩
theorem w5d {w w':World} {row:Option Nat} (h:w.grownBy w' row):Kept (λx=>row=some x) w w':=qr8 h λr e=>e
theorem w5e (q:ByteArray) {c:Int} (h0:0<=c) (h1:c<256):Lib.byteCells q.data.toList++[.int .u8 c]=Lib.byteCells (q.push c.toNat.toUInt8).data.toList:=by
 have:((c.toNat.toUInt8).toNat:Int)=c:=by
  grind [Nat.toUInt8_eq,UInt8.toNat_ofNat']
 simp_all [Lib.byteCells,ByteArray.push,Array.toList_push,List.map_append,List.map_cons,List.map_nil]
set_option maxHeartbeats 2000000 in
set_option maxRecDepth 100000 in
theorem xr5 (L:Lays.n167 P ρ) (X:Builder.Extra P ρ) {w:World} {b:Nat} {v:Value} {q:ByteArray} (h:BldOk (λ_=>none) w 0 (ρ.t 72) (ρ.t 5) b v q) (c:Int) (h0:0<=c) (h1:c<256) (hs:q.size+1<=1000000000) :
  Calls P (ρ.f 167) #[.pointer (some ⟨b,0,none⟩),.int .u8 c] w λe w'=>e=.returned .nilIface/\w6u w b v (ρ.t 72) (ρ.t 5) (q.push c.toNat.toUInt8) w':=by
 obtain⟨i0,hi,hz0,hz1,hz2⟩:=info_parts X.infoByte
 have mixed:=L.mixed
 have t72:=L.t72; have a72:=L.a72; have z72:=L.z72; have v72:=L.v72; have u72:=run_underlying L.t72
 have t70:=L.t70; have a70:=L.a70; have z70:=L.z70; have v70:=L.v70; have u70:=run_underlying L.t70
 have t5:=L.t5; have a5:=L.a5; have z5:=L.z5; have v5:=L.v5; have u5:=run_underlying L.t5
 have t37:=L.t37; have a37:=L.a37; have z37:=L.z37; have v37:=L.v37; have u37:=run_underlying L.t37
 have t9:=L.t9; have a9:=L.a9; have z9:=L.z9; have v9:=L.v9; have u9:=run_underlying L.t9
 have t4:=L.t4; have a4:=L.a4; have z4:=L.z4; have v4:=L.v4; have u4:=run_underlying L.t4
 have t164:=L.t164; have a164:=L.a164; have z164:=L.z164; have v164:=L.v164; have u164:=run_underlying L.t164
 have e240:∀args w,(callFunc (ρ.f 240) args).run P w=.ok (.enter (ρ.f 240) args) w:=enters_of L.f240 kr rfl
 go_enter L.f167,Body.n167_ntmps ρ
 go_wp2_with (go_at_fn (ρ.f 240); refine(bcc { L with } X.toX72 h).mono ?_)
 rintro e w1 ⟨rfl,hbk,hk1⟩
 have hown:=xr4 h.own h.ne hk1
 have c0:w1.cell? ⟨b,0,none⟩=some (.pointer (some ⟨b,0,none⟩)):=by rw[Lib.cell_of_heap hbk]; rfl
 have c1:w1.cell? ⟨b,1,none⟩=some v:=by rw[Lib.cell_of_heap hbk]; rfl
 go_wp2_with (at_builtin; refine wpList_append_own_at _ rfl _ _ (ρ.t 37) rfl 0 (ρ.t 5) i0 (.int .u8 0) 1 1 L.t37 hi hz0 hz1 hz2 rfl dc _ _ _ rfl (hown.alloc _) ⟨w1.heap.size,0,none⟩ 1 1 [.int .u8 c] rfl rfl ?c1 ?c2 ?c3 ?c4 ?c5 ?_)
 case c1=>grind [cell_one_new]
 case c2=>intro u hu; simp at hu; subst hu; rfl
 case c3=>grind [maxLen]
 case c4=>omega
 case c5=>simp
 intro v' w2 hown' hgrow _ hat
 have hlt:b<w1.heap.size:=(zal.1 hbk).1
 have hb2:w2.heap[b]? = some (.cells #[.pointer (some ⟨b,0,none⟩),v] (ρ.t 72) (0,0)):=by
  rw[hgrow.block b (by simp; omega) (λe=>h.ne e.symm),Lib.alloc_old w1 _ b hlt]
  omega
 have d0:w2.cell? ⟨b,0,none⟩=some (.pointer (some ⟨b,0,none⟩)):=by rw[Lib.cell_of_heap hb2]; rfl
 have d1:w2.cell? ⟨b,1,none⟩=some v:=by rw[Lib.cell_of_heap hb2]; rfl
 have f1:w2.frozen? ⟨b,1,none⟩=false:=Lib.frozen_of_heap hb2 1
 have hk2:Kept (λx=>v.ownBlock=some x) w1 w2:=Kept.trans (q8c (kept_alloc w1 _) λ_ h=>h.elim) (w5d hgrow) λx hx=>.inl hx
 have hn:∀x,v'.ownBlock=some x->v.ownBlock=some x\/w.heap.size<=x:=λx hx=>by
  rcases hat with hat | hat
  ·grind
  ·rw[hat] at hx
   have:=zaa hx
   right; rw[<- this]; have:=hk1.size; omega
 rw[w5e q h0 h1] at hown'
 obtain⟨g,cap,rfl⟩:∃g cap,v'=.slice (some ⟨g,0,none⟩) (q.size+1) cap:=by
  rcases hown'.2 with⟨_,h0⟩ | ⟨g,cap,cur,hv,_⟩
  all_goals grind
 go_wp2
 go_ret
 exact⟨rfl,yr2 h X.neB5 hk1 hk2 hb2 (by simp_all) hn⟩
set_option maxHeartbeats 1000000 in
set_option maxRecDepth 100000 in
theorem x2o (L:Lays.n169 P ρ) (X:Builder.Extra P ρ) {w:World} {b:Nat} {v:Value} {q:ByteArray} (h:BldOk (λ_=>none) w 0 (ρ.t 72) (ρ.t 5) b v q) :
  Calls P (ρ.f 169) #[.pointer (some ⟨b,0,none⟩)] w λe w'=>e=.returned (.string q)/\Kept (Blk (q5w b v)) w w':=by
 obtain⟨p,hp,hbk⟩:=h.cell
 have bel:∀{w':World},Below w.heap.size w w'->Kept (Blk (q5w b v)) w w':=λhb=>q98 hb
 obtain⟨l,rfl⟩:∃l:List UInt8,q=⟨l.toArray⟩:=⟨q.data.toList,rfl⟩
 have hown:w.ownsRow 0 (ρ.t 5) 1 v l.length (Lib.byteCells l):=by
  have:=h.own
  rwa [show(ByteArray.mk l.toArray).size=l.length from rfl,show(ByteArray.mk l.toArray).data.toList=l from rfl] at this
 clear h
 by_cases h0:l=[]
 ·subst h0
  rcases hown.2 with⟨rfl,_⟩ | ⟨g,cap,cur,rfl,_,hg,_,_,_,_⟩
  ·exact(Any.Builder_String_nil L X w.heap.size b p w hbk).mono λe w' ⟨e1,e2⟩=>⟨e1,bel e2⟩
  ·by_cases hc0:cap=0
   ·subst hc0
    exact(Any.Builder_String_noroom L X w.heap.size b g p cur w (zad _) hbk hg).mono λe w' ⟨e1,e2⟩=>⟨e1,bel e2⟩
   ·exact(Any.Builder_String_room L X w.heap.size b g cap p w hc0 hbk).mono λe w' ⟨e1,e2⟩=>⟨e1,bel e2⟩
 have hl0:l.length≠0:=by grind
 obtain⟨g,cap,cur,rfl,hg,hnc,hcm,hcs,htake⟩:∃g cap cur,v=.slice (some ⟨g,0,none⟩) l.length cap/\w.heap[g]? = some (.cells cur (ρ.t 5) (0,0))/\l.length<=cap/\cap<=maxLen/\cur.size=cap*1/\cur.toList.take (l.length*1)=Lib.byteCells l:=by
  rcases hown.2 with⟨_,hz⟩ | ⟨g,cap,cur,hv,_,r⟩
  all_goals grind
 have c1:w.drew.cell? ⟨b,1,none⟩=some (.slice (some ⟨g,0,none⟩) l.length cap):=by
  have:w.drew.heap[b]? = some (.cells #[p,.slice (some ⟨g,0,none⟩) l.length cap] (ρ.t 72) (0,0)):=hbk
  rw[Lib.cell_of_heap this]; rfl
 have hSD:(Builtin.unsafeSliceData_ #[(ρ.t 37)] (ρ.t 127) #[.slice (some ⟨g,0,none⟩) l.length cap]).run P w.drew=.ok (.pointer (some ⟨g,0,none⟩)) w.drew:=
  Lib.run_unsafeSliceData_row _ _ _ _ _ _ ow
 have hUS:(Builtin.unsafeString_ #[(ρ.t 127),(ρ.t 3)] (ρ.t 9) #[.pointer (some ⟨g,0,none⟩),.int .i64 l.length]).run P w.drew=.ok (.string ⟨l.toArray⟩) (w.drew.freeze ⟨g,0,none⟩ l.length):=by
  refine Lib.run_unsafeString_row w.drew (ρ.t 127) (ρ.t 3) (ρ.t 9) (ρ.t 5) L.t127 X.cellsByte g cur.size (by have hg':w.drew.heap[g]? = some (.cells cur (ρ.t 5) (0,0)):=hg; grind [World.shape?]) l h0 ow (by grind [maxLen]) ?_
  intro j x hx
  have:=hown.cells (g:=g) rfl j (.int .u8 x.toNat) (by grind [Lib.byteCells])
  exact this
 have hfin:Kept (Blk (q5w b (.slice (some ⟨g,0,none⟩) l.length cap))) w (w.drew.freeze ⟨g,0,none⟩ l.length):=by
  refine q8c (D:=λx=>x=g) ?_ λx hx=>q6o.2 (.inr (by rw[hx]; rfl))
  unfold World.freeze
  split
  ·omega
  ·refine⟨rfl,rfl,rfl,by simp,λx hx=>?_⟩
   show(Array.modify w.heap g _)[x]? = _
   grind
 have mixed:=L.mixed
 have t72:=L.t72; have a72:=L.a72; have z72:=L.z72; have v72:=L.v72; have u72:=run_underlying L.t72
 have t70:=L.t70; have a70:=L.a70; have z70:=L.z70; have v70:=L.v70; have u70:=run_underlying L.t70
 have t37:=L.t37; have a37:=L.a37; have z37:=L.z37; have v37:=L.v37; have u37:=run_underlying L.t37
 have t127:=L.t127; have a127:=L.a127; have z127:=L.z127; have v127:=L.v127; have u127:=run_underlying L.t127
 have t3:=L.t3; have a3:=L.a3; have z3:=L.z3; have v3:=L.v3; have u3:=run_underlying L.t3
 have t9:=L.t9; have a9:=L.a9; have z9:=L.z9; have v9:=L.v9; have u9:=run_underlying L.t9
 have t5:=X.t5; have a5:=X.a5; have z5:=X.z5; have v5:=X.v5; have u5:=run_underlying X.t5
 go_enter L.f169,Body.n169_ntmps ρ
 go_wp2
 go_region_o
 all_goals (go_wp2; go_ret; simp_all)
end Eng
namespace Go.Proofs
open Go.Shelf
shelf_lay Lays.n169 Nm 169 at Tryz as Tryz.layOut
def Tryz.layWrt_ren:Go.Shelf.Ren:=⟨fun | 167=>185 | 240=>248 | 276=>278 | n=>n,fun | 0=>0 | 4=>4 | 5=>5 | 9=>9 | 20=>20 | 37=>208 | 70=>207 | 72=>210 | 75=>212 | 80=>214 | 164=>283 | n=>n,λn=>n⟩
theorem Tryz.layWrt:Lays.n167 Tryz.prog Tryz.layWrt_ren where
 mixed:=kr
 f167:=Tryz.func185.trans (za9 some kr)
 f240:=Tryz.func248.trans (za9 some kr)
 f276:=Tryz.func278.trans (za9 some kr)
 t0:=Tryz.underlying0
 a0:=Tryz.isAgg0
 z0:=Tryz.sizeOf0
 v0:=Tryz.zeroValue0
 t4:=Tryz.underlying4
 a4:=Tryz.isAgg4
 z4:=Tryz.sizeOf4
 v4:=Tryz.zeroValue4
 t5:=Tryz.underlying5
 a5:=Tryz.isAgg5
 z5:=Tryz.sizeOf5
 v5:=Tryz.zeroValue5
 t9:=Tryz.underlying9
 a9:=Tryz.isAgg9
 z9:=Tryz.sizeOf9
 v9:=Tryz.zeroValue9
 t20:=Tryz.underlying20
 a20:=Tryz.isAgg20
 z20:=Tryz.sizeOf20
 v20:=Tryz.zeroValue20
 t37:=Tryz.underlying208
 a37:=Tryz.isAgg208
 z37:=Tryz.sizeOf208
 v37:=Tryz.zeroValue208
 t70:=Tryz.underlying207
 a70:=Tryz.isAgg207
 z70:=Tryz.sizeOf207
 v70:=Tryz.zeroValue207
 t72:=Tryz.underlying210
 a72:=Tryz.isAgg210
 z72:=Tryz.sizeOf210
 v72:=Tryz.zeroValue210
 t75:=Tryz.underlying212
 a75:=Tryz.isAgg212
 z75:=Tryz.sizeOf212
 v75:=Tryz.zeroValue212
 t164:=Tryz.underlying283
 a164:=Tryz.isAgg283
 z164:=Tryz.sizeOf283
 v164:=Tryz.zeroValue283
theorem Tryz.extraWrt:Builder.Extra Tryz.prog Tryz.layWrt_ren where
 sizeBuilder:=kr
 liesBuilder:=kr
 t5:=Tryz.underlying5
 a5:=Tryz.isAgg5
 z5:=Tryz.sizeOf5
 v5:=Tryz.zeroValue5
 infoByte:=kr
 cellsByte:=kr
 sizeByte:=kr
 neB5:=dc
theorem Tryz.extraOut:Builder.Extra Tryz.prog Tryz.layOut_ren where
 sizeBuilder:=kr
 liesBuilder:=kr
 t5:=Tryz.underlying5
 a5:=Tryz.isAgg5
 z5:=Tryz.sizeOf5
 v5:=Tryz.zeroValue5
 infoByte:=kr
 cellsByte:=kr
 sizeByte:=kr
 neB5:=dc
end Go.Proofs
namespace Go.Proofs.YtnchigbbjajiiaaGreat
open Go Go.Proofs Go.RowKit Eng Ls Go.Shelf
theorem x6c:q5b Tryz.prog 185 ⟨210,5,0⟩:=
 ⟨⟨_,_,Tryz.func185,rfl,rfl⟩,λw b v q h=>λc h0 h1 hs=>xr5 Tryz.layWrt Tryz.extraWrt h c h0 h1 hs⟩
theorem out_ok:q5b Tryz.prog 186 ⟨210,5,2⟩:=
 ⟨⟨_,_,Tryz.func186,rfl,rfl⟩,λw b v q h=>x2o Tryz.layOut Tryz.extraOut h⟩
def x2p:List (Nat × wt6):=[(185,⟨210,5,0⟩),(186,⟨210,5,2⟩)]
theorem xr6:∀f B,find x2p f=some B->q5b Tryz.prog f B:=by
 intro f B h
 unfold x2p at h
 rcases q7b h with⟨rfl,rfl⟩ | h
 ·exact x6c
 rcases q7b h with⟨rfl,rfl⟩ | h
 ·exact out_ok
 cases h
def yb2 (specs:List (Nat × qa8)):Ctx:={ specs:=specs,tys:=tys,wr:=[],blds:=x2p }
theorem yb3 {specs:List (Nat × qa8)} (h:SpecsOk Tryz.prog specs):Sound Tryz.prog (yb2 specs):=SpecsOk.sound h qz5 kr (hbl:=xr6)
open Go Go.Proofs Go.RowKit Eng Ls
def x6d:ByteArray:=⟨#[45,46,43]⟩
def x2q (i:Nat):Int:=Eng.byteAt x6d i
theorem w5f (s:ByteArray) (i:Nat):0<=byteAt s i/\byteAt s i<256:=by
 unfold byteAt
 split
 ·rename_i b _; have:=b.toNat_lt; omega
 simp
def rowT (s:ByteArray) (r:List Int):Nat->ByteArray
 | 0=>s
 | k+1=>(rowT s r k).push (x2q (nI r k+1).toNat).toNat.toUInt8
def wr1 (m:List (List Int)):Nat->ByteArray
 | 0=>⟨#[]⟩
 | k+1=>(rowT (wr1 m k) (nL m k) (nL m k).length).push 10
theorem q8d (s:ByteArray) (r:List Int):∀k,(rowT s r k).size=s.size+k
 | 0=>rfl
 | k+1=>by rw[rowT,ByteArray.size_push,q8d s r k]; omega
theorem wr5 {m:List (List Int)} (h:Mk m):∀k,k<=m.length->(wr1 m k).size=k*((nL m 0).length+1)
 | 0,_=>by rw[zeb]; rfl
 | k+1,hk=>by rw[wr1,ByteArray.size_push,q8d,wr5 h k ow,h.each k ow,zdc]; omega
def w52 (m:List (List Int)):ByteArray:=if qb6 m then wr1 m m.length else⟨#[]⟩
abbrev yr3:qa8:=qe4 true none [qf8] [.str] (λ_=>True) (λx=>(w52 x.1,()))
def yb4 (m:List (List Int)):Nat->Option Inv
 | 0=>some (Inv.of [3,13] 1 (λk:Nat=>[(3,.msl 0 none),(13,.lit (.int .i64 k))]) (λk=>[.bld 210 5 (wr1 m k)]) (λk=>k<=m.length) (λk=>m.length-k))
 | 1=>some ⟨Nat,Nat,[3,19],1,λk t=>[(3,.msl 0 none),(19,.lit (.int .i64 t))],λk t=>[.bld 210 5 (rowT (wr1 m k) (nL m k) t)],λk t=>t<=(nL m k).length,λk t=>(nL m k).length-t⟩
 | _=>none
theorem wr6:Meets Tryz.prog 139 yr3:=by
 refine meets (yb3 (SpecsOk.cons qq3 (SpecsOk.nil _))) Tryz.func139 rfl rfl (λx=>yb4 x.1) (λ_=>by kernel_rfl) dc ?_
 rintro⟨m,⟨⟩⟩ -
 revert m
 intro(m:List (List Int))
 refine vcs (True/\((!qb6 m)=true->Value.string { data:=#[] }=Value.string (w52 m))/\((!qb6 m)=false->∃(v1:Unit),∃(v2:Nat),Nat.le v2 m.length/\((True/\(0:Int)=(↑v2:Int)/\True)/\{ data:=#[] }=wr1 m v2/\True)/\∀(v3:Nat),Nat.le v3 m.length->(decide ((↑v3:Int)<(↑m.length:Int))=true->((0:Int)<=(↑v3:Int)/\(↑v3:Int)<(↑m.length:Int))/\∃(v6:Nat),∃(v7:Nat),Nat.le v7 (nL m v6).length/\((True/\(0:Int)=(↑v7:Int)/\True)/\wr1 m v3=rowT (wr1 m v6) (nL m v6) v7/\True)/\∀(v8:Nat),Nat.le v8 (nL m v6).length->(decide ((↑v8:Int)<(↑(nL m v3).length:Int))=true->((0:Int)<=(↑v8:Int)/\(↑v8:Int)<(↑(nL m v3).length:Int))/\fits .i64 (nI (nL m v3) v8+(1:Int))/\((0:Int)<=nI (nL m v3) v8+(1:Int)/\nI (nL m v3) v8+(1:Int)<(↑(3:Nat):Int))/\((0:Int)<=byteAt { data:=#[(45:UInt8),(46:UInt8),(43:UInt8)] } (nI (nL m v3) v8+(1:Int)).toNat/\byteAt { data:=#[(45:UInt8),(46:UInt8),(43:UInt8)] } (nI (nL m v3) v8+(1:Int)).toNat<(256:Int)/\ByteArray.size (rowT (wr1 m v6) (nL m v6) v8)+(1:Nat)<=(1000000000:Nat))/\fits .i64 ((↑v8:Int)+(1:Int))/\∃(v11:Nat),Nat.le v11 (nL m v6).length/\(nL m v6).length-v11<(nL m v6).length-v8/\(True/\(↑v8:Int)+(1:Int)=(↑v11:Int)/\True)/\ByteArray.push (rowT (wr1 m v6) (nL m v6) v8) (Nat.toUInt8 (byteAt { data:=#[(45:UInt8),(46:UInt8),(43:UInt8)] } (nI (nL m v3) v8+(1:Int)).toNat).toNat)=rowT (wr1 m v6) (nL m v6) v11/\True)/\(decide ((↑v8:Int)<(↑(nL m v3).length:Int))=false->((0:Int)<=(10:Int)/\(10:Int)<(256:Int)/\ByteArray.size (rowT (wr1 m v6) (nL m v6) v8)+(1:Nat)<=(1000000000:Nat))/\fits .i64 ((↑v3:Int)+(1:Int))/\∃(v11:Nat),Nat.le v11 m.length/\m.length-v11<m.length-v3/\(True/\(↑v3:Int)+(1:Int)=(↑v11:Int)/\True)/\ByteArray.push (rowT (wr1 m v6) (nL m v6) v8) (Nat.toUInt8 (10:Nat))=wr1 m v11/\True))/\(decide ((↑v3:Int)<(↑m.length:Int))=false->Value.string (wr1 m v3)=Value.string (w52 m)))) ?_
 refine⟨λh=>by simp[w52,h],λhv=>?_⟩
 have hM:=Mk.of hv
 have hsz:=wr5 hM
 have m6:=hM.rows6
 have p10:=hM.pix10
 refine⟨(),0,zae _,⟨rfl,rfl⟩,λk hk=>⟨λhlt=>⟨hlt,k,0,zae _,⟨rfl,rfl⟩,λt ht=>?_⟩,λhge=>?_⟩⟩
 ·have hs0:=hsz k hk
  have hk6:k*((nL m 0).length+1)<=6*11:=zbb ow ow
  have hl:=hM.each k hlt
  have hs1:=q8d (wr1 m k) (nL m k) t
  refine⟨λh1=>?_,λh1=>?_⟩
  ·have hb:=hM.small k hlt t ow
   have hby:=w5f ⟨#[45,46,43]⟩ (Int.toNat (nI (nL m k) t+1))
   exact⟨h1,qa7,⟨ow,by grind⟩,⟨hby.1,hby.2,ow⟩,qa7,t+1,ow,ow,ow,rfl⟩
  ·obtain rfl:t=(nL m k).length:=ow
   exact⟨ow,qa7,k+1,ow,ow,ow,rfl⟩
 ·obtain rfl:k=m.length:=ow
  grind [w52]
def textF (m:List (List Int)) (f:Flt):ByteArray:=w52 (qq8 m f)
abbrev nFt (l:List Flt) (k:Nat):Flt:=l.getD k (0,0,0)
def q3x (m:List (List Int)) (L:List Flt):Nat->List (ByteArray × Bool)
 | 0=>[]
 | k+1=>q5q (q3x m L k) (textF m (nFt L k)) true
def yb5 (m:List (List Int)) (L:List Flt) (k:Nat):Bool:=(q33 (q3x m L k) (textF m (nFt L k))).getD false
def wr7 (m:List (List Int)) (L:List Flt):Nat->List Flt
 | 0=>[]
 | k+1=>wr7 m L k++if yb5 m L k then[] else[nFt L k]
theorem w2q (m:List (List Int)) (L:List Flt):∀k,(wr7 m L k).length<=k
 | 0=>zad _
 | k+1=>by
  have:=w2q m L k
  grind [wr7,List.length_append]
theorem w2r (m:List (List Int)) (k i:Nat):∀j,(q5u m k i j).length<=j
 | 0=>zad _
 | j+1=>by
  have:=w2r m k i j
  grind [q5u,List.length_append]
theorem w2s {m:List (List Int)} (h:Mk m) (k:Nat):∀i,(q4w m k i).length<=i*10
 | 0=>zae _
 | i+1=>by
  have h1:=w2s h k i
  have h2:=w2r m k i (nL m 0).length
  have h3:=h.pix10
  grind [q4w,List.length_append]
theorem xr7 {m:List (List Int)} (h:Mk m):(qk2 m 4).length<=240:=by
 have h1:=h.rows6
 grind [w2s,qk2,List.length_append,List.length_nil]
theorem w2t {m:List (List Int)} {k i:Nat} {f:Flt}:∀j,f∈q5u m k i j->fvB m f=true
 | 0,h=>by cases h
 | j+1,h=>by
  rw[q5u] at h
  rcases zaj.1 h with h | h
  ·exact w2t j h
  grind
theorem w2u {m:List (List Int)} {k:Nat} {f:Flt}:∀i,f∈q4w m k i->fvB m f=true
 | 0,h=>by cases h
 | i+1,h=>by
  rw[q4w] at h
  rcases zaj.1 h with h | h
  ·exact w2u i h
  grind [w2t]
theorem w2v {m:List (List Int)} {f:Flt}:∀k,f∈qk2 m k->fvB m f=true
 | 0,h=>by cases h
 | k+1,h=>by
  rw[qk2] at h
  rcases zaj.1 h with h | h
  ·exact w2v k h
  grind [w2u]
abbrev sAl:qa8:=qe4 true (some 170) [qf8] [.list qp3] (λx=>qb6 x.1=true) (λx=>(wr7 x.1 (qk2 x.1 4) (qk2 x.1 4).length,()))
def yb6 (m:List (List Int)) (k:Nat):List AObj:=[.box 23 (.cons (.dat (.list (.int .i64)) m) .nil),.box 70 (.cons (.own 4) .nil),.mp .bool (q3x m (qk2 m 4) k),.box 166 (.cons (.own 2) .nil),.vec 170 qp3 (wr7 m (qk2 m 4) k)]
def yr4 (m:List (List Int)):Nat->Option Inv
 | 0=>some (Inv.of [] 5 (λ_=>[]) (λc:Nat=>yb6 m c) (λc=>c<=(qk2 m 4).length) (λc=>c))
 | _=>none
theorem xr8:Meets Tryz.prog 92 sAl:=by
 refine meets (x6x (SpecsOk.cons w5c (SpecsOk.cons w9e (SpecsOk.cons wr6 (SpecsOk.nil _)))) (ItsOk.cons xr3 ItsOk.nil)) Tryz.func92 rfl rfl (λx=>yr4 x.1) (λ_=>by kernel_rfl) dc ?_
 rintro⟨m,⟨⟩⟩ h
 revert m
 intro(m:List (List Int)) (h:qb6 m=true)
 refine vcs (True/\qb6 m=true/\∃(v0:Unit),∃(v1:Nat),Nat.le v1 (qk2 m (4:Nat)).length/\v1=(0:Nat)/\((m=m/\True)/\(True/\True)/\[]=q3x m (qk2 m (4:Nat)) v1/\(True/\True)/\wr7 m (qk2 m (4:Nat)) v1=[]/\True)/\∀(v2:Nat),Nat.le v2 (qk2 m (4:Nat)).length->(∀(v4:(Int × Int × Int) × qa3._f [] PUnit.unit),(List.map fA (qk2 m (4:Nat)))[v2]?=some v4->w9d m (v4.1.1,v4.1.2.1,v4.1.2.2)/\True/\((!Option.getD (q33 (q3x m (qk2 m (4:Nat)) v2) (w52 (q1u (Ty.int .i64) (qq8 m (v4.1.1,v4.1.2.1,v4.1.2.2)) none))) (Ty.dflt Ty.bool))=true->((0:Nat)<List.length [(v4.1.1,v4.1.2.1,v4.1.2.2)]/\Nat.le ((wr7 m (qk2 m (4:Nat)) v2).length+List.length [(v4.1.1,v4.1.2.1,v4.1.2.2)]) (1000000:Nat))/\∃(v7:Nat),Nat.le v7 (qk2 m (4:Nat)).length/\v7=v2+(1:Nat)/\(m=m/\True)/\(True/\True)/\q5q (q3x m (qk2 m (4:Nat)) v2) (w52 (q1u (Ty.int .i64) (qq8 m (v4.1.1,v4.1.2.1,v4.1.2.2)) none)) true=q3x m (qk2 m (4:Nat)) v7/\(True/\True)/\wr7 m (qk2 m (4:Nat)) v2++[(v4.1.1,v4.1.2.1,v4.1.2.2)]=wr7 m (qk2 m (4:Nat)) v7/\True)/\((!Option.getD (q33 (q3x m (qk2 m (4:Nat)) v2) (w52 (q1u (Ty.int .i64) (qq8 m (v4.1.1,v4.1.2.1,v4.1.2.2)) none))) (Ty.dflt Ty.bool))=false->∃(v7:Nat),Nat.le v7 (qk2 m (4:Nat)).length/\v7=v2+(1:Nat)/\(m=m/\True)/\(True/\True)/\q5q (q3x m (qk2 m (4:Nat)) v2) (w52 (q1u (Ty.int .i64) (qq8 m (v4.1.1,v4.1.2.1,v4.1.2.2)) none)) true=q3x m (qk2 m (4:Nat)) v7/\(True/\True)/\wr7 m (qk2 m (4:Nat)) v2=wr7 m (qk2 m (4:Nat)) v7/\True))/\(v2=(List.map fA (qk2 m (4:Nat))).length->wr7 m (qk2 m (4:Nat)) v2=wr7 m (qk2 m (4:Nat)) (qk2 m (4:Nat)).length)) ?_
 have hM:=Mk.of h
 have hle:=xr7 hM
 refine⟨h,(),0,zae _,rfl,⟨rfl,rfl⟩,λk hk=>⟨?_,λe=>?_⟩⟩
 ·rintro⟨⟨kd,r,p⟩,⟨⟩⟩ hf
  rw[za5] at hf
  obtain⟨f',h1,h2⟩:=zbj.1 hf
  obtain rfl:f'=(kd,r,p):=za9 Prod.fst h2
  have hlt:=(zaf.1 h1).1
  have hn:nFt (qk2 m 4) k=(kd,r,p):=by grind
  have hv:fvB m (kd,r,p)=true:=w2v 4 (zag h1)
  have hlen:=w2q m (qk2 m 4) k
  have e1:yb5 m (qk2 m 4) k=(q33 (q3x m (qk2 m 4) k) (w52 (qq8 m (kd,r,p)))).getD false:=by grind [yb5,textF]
  have e2:q5q (q3x m (qk2 m 4) k) (w52 (qq8 m (kd,r,p))) true=q3x m (qk2 m 4) (k+1):=by rw[q3x,textF,hn]
  refine⟨⟨h,hv⟩,λhb=>⟨ow,k+1,hlt,rfl,e2,?_⟩,λhb=>⟨k+1,hlt,rfl,e2,?_⟩⟩
  ·rw[wr7,zai (by rw[e1]; exact ne_true_of_eq_false hb),hn]
  ·rw[wr7,zap (e1.trans hb),zby]
 grind
def x2r (m:List (List Int)):List Flt × Int:=if qb6 m then(wr7 m (qk2 m 4) (qk2 m 4).length,0) else([],1)
abbrev yb7:qa8:=qe4 false none [qf8] [.list qp3,qb9] (λ_=>True) (λx=>((x2r x.1).1,(x2r x.1).2,()))
theorem w5g:Meets Tryz.prog 43 yb7:=by
 refine mt0 (SpecsOk.cons qq3 (SpecsOk.cons xr8 (SpecsOk.nil _))) Tryz.func43 ?_
 rintro⟨m,⟨⟩⟩ -
 revert m
 intro(m:List (List Int))
 refine vcs (True/\((!qb6 m)=true->(x2r m).1=[]/\(1:Int)=(x2r m).2/\True)/\((!qb6 m)=false->qb6 m=true/\wr7 m (qk2 m (4:Nat)) (qk2 m (4:Nat)).length=(x2r m).1/\(0:Int)=(x2r m).2/\True)) ?_
 grind [x2r]
abbrev q0v:Ty:=.prod .bool (.list (.int .i64))
abbrev Frm:=Bool × List Int
theorem qz3:Meets Tryz.prog 80 wc6:=by
 refine mt0 (SpecsOk.nil _) Tryz.func80 ?_
 rintro⟨n,lo,hi,⟨⟩⟩ -
 revert n lo hi
 intro(n:Int) (lo:Int) (hi:Int)
 refine vcs ((decide (lo<=n)=true->decide (n<=hi)=inB n lo hi)/\(decide (lo<=n)=false->false=inB n lo hi)) ?_
 grind [inB]
def x3m (n:Int):Bool:=inB n (0-1000) 1000
abbrev yj6:qa8:=qe4 true none [qb9] [.bool] (λ_=>True) (λx=>(!x3m x.1,()))
theorem xb5:Meets Tryz.prog 177 yj6:=by
 refine mt0 (SpecsOk.cons qz3 (SpecsOk.nil _)) Tryz.func177 ?_
 rintro⟨n,⟨⟩⟩ -
 revert n
 intro(n:Int)
 refine vcs (True/\(!inB n (-1000:Int) (1000:Int))=!x3m n) ?_
 exact(zb9 _).symm
def q4x (m:List (List Int)) (x:List Int):Bool:=decide (x.length=(nL m 0).length) && x.all x3m
abbrev yr5:qa8:=qe4 true none [qf8,qd4] [.bool] (λx=>qb6 x.1=true) (λx=>(q4x x.1 x.2.1,()))
theorem wr9:Meets Tryz.prog 128 yr5:=by
 refine mt0 (SpecsOk.cons (qw4 (fs:=[(177,yj6)]) (SpecsOk.cons xb5 (SpecsOk.nil _))) (SpecsOk.nil _)) Tryz.func128 ?_
 rintro⟨m,x,⟨⟩⟩ h
 revert m x
 intro(m:List (List Int)) (x:List Int) (h:qb6 m=true)
 refine vcs (((0:Int)<=(0:Int)/\(0:Int)<(↑m.length:Int))/\(((↑x.length:Int)==(↑(nL m (0:Nat)).length:Int))=true->∃(v1:qa3 [Ty.int .i64]->Prop),∃(v2:qa3 [Ty.int .i64]->Bool),(∀(v3:Int × qa3._f [] PUnit.unit),v1 v3->True/\(!x3m v3.1)=v2 v3)/\(x.length<=(1000000:Nat)/\∀(v3:Nat),v3<x.length->v1 (nI x v3,()))/\(!List.any x λ(v3:Int)=>v2 (v3,()))=q4x m x)/\(((↑x.length:Int)==(↑(nL m (0:Nat)).length:Int))=false->false=q4x m x)) ?_
 refine⟨by have:=(Mk.of h).rows1; omega,λhl=>⟨λ_=>True,λx=>!x3m x.1,λ_ _=>(zb9 _).symm,⟨by have:=(Mk.of h).pix10; omega,λ_ _=>trivial⟩,?_⟩,λhl=>?_⟩
 all_goals grind [q4x,decide_eq_true,nL,List.not_all_eq_any_not,decide_eq_false]
abbrev yj7:qa8:=hspec [] true none [.d qd4,.cap qf8] [.bool] (λx=>qb6 x.2.1=true) (λx=>(!q4x x.2.1 x.1,()))
theorem xb6:Meets Tryz.prog 127 yj7:=by
 refine qi4 (SpecsOk.nil _) (snd (SpecsOk.cons wr9 (SpecsOk.nil _))) Tryz.func127 rfl rfl (λ_ _=>none) (λ_=>by kernel_rfl) dc ?_
 rintro⟨x,m,⟨⟩⟩ h
 revert x m
 intro(x:List Int) (m:List (List Int)) (h:qb6 m=true)
 refine vcr (qb6 m=true/\(!q4x m x)=!q4x m x) ?_
 grind
def vpB (m p:List (List Int)):Bool:=qb6 m && inB p.length 1 60 && p.all (q4x m)
abbrev sVP:qa8:=qe4 true none [qf8,qf8] [.bool] (λ_=>True) (λx=>(vpB x.1 x.2.1,()))
theorem xr9:Meets Tryz.prog 78 sVP:=by
 refine mt0 (SpecsOk.cons qq3 (SpecsOk.cons qz3 (SpecsOk.cons (wm8 (fs:=[(127,yj7)]) (SpecsOk.cons xb6 (SpecsOk.nil _))) (SpecsOk.nil _)))) Tryz.func78 ?_
 rintro⟨m,p,⟨⟩⟩ -
 revert m p
 intro(m:List (List Int)) (p:List (List Int))
 refine vcs (True/\(qb6 m=true->True/\(inB (↑p.length:Int) (1:Int) (60:Int)=true->∃(v2:qa3 [Ty.list (Ty.int .i64)]->Prop),∃(v3:qa3 [Ty.list (Ty.int .i64)]->Bool),(∀(v4:List Int × qa3._f [] PUnit.unit),v2 v4->qb6 m=true/\(!q4x m v4.1)=v3 v4)/\(p.length<=(1000000:Nat)/\∀(v4:Nat),v4<p.length->v2 (nL p v4,()))/\(!List.any p λ(v4:List Int)=>v3 (v4,()))=vpB m p)/\(inB (↑p.length:Int) (1:Int) (60:Int)=false->false=vpB m p))/\(qb6 m=false->false=vpB m p)) ?_
 refine⟨λhv=>⟨λhl=>⟨λ_=>True,λx=>!q4x m x.1,λ_ _=>⟨hv,(zb9 _).symm⟩,⟨by grind [qf9],λ_ _=>trivial⟩,?_⟩,λhl=>?_⟩,λhv=>?_⟩
 all_goals grind [vpB,List.not_all_eq_any_not]
def q8r (a b:List Int) (k:Nat):List Int:=(List.range k).map λi=>nI b i-nI a i
def xy0 (a b:List Int):List Int:=q8r a b b.length
structure w2w (a b:List Int):Prop where
 le:b.length<=a.length
 len:b.length<=1000
 ba:∀i,i<b.length->qd8 100000 (nI a i)
 bb:∀i,i<b.length->qd8 100000 (nI b i)
theorem ws0 (a b:List Int) (k:Nat):(q8r a b k).length=k:=by simp[q8r]
abbrev yr6:qa8:=qe4 true (some 3) [qd4,qd4] [qd4] (λx=>w2w x.1 x.2.1) (λx=>(xy0 x.1 x.2.1,()))
def yb8 (a b:List Int):Nat->Option Inv
 | 0=>some (Inv.of [5,10] 1 (λk:Nat=>[(5,.own 0),(10,.lit (.int .i64 k))]) (λk=>[.vec 3 (.int .i64) (q8r a b k)]) (λk=>k<=b.length) (λk=>b.length-k))
 | _=>none
theorem xb7:Meets Tryz.prog 79 yr6:=by
 refine mts (SpecsOk.nil _) Tryz.func79 (λx=>yb8 x.1 x.2.1) ?_
 rintro⟨a,b,⟨⟩⟩ h
 revert a b
 intro(a:List Int) (b:List Int) (h:w2w a b)
 refine vcs (∃(v0:Unit),∃(v1:Nat),Nat.le v1 b.length/\((True/\(0:Int)=(↑v1:Int)/\True)/\q8r a b v1=[]/\True)/\∀(v2:Nat),Nat.le v2 b.length->(decide ((↑v2:Int)<(↑b.length:Int))=true->((0:Int)<=(↑v2:Int)/\(↑v2:Int)<(↑b.length:Int))/\((0:Int)<=(↑v2:Int)/\(↑v2:Int)<(↑a.length:Int))/\fits .i64 (nI b v2-nI a v2)/\((0:Nat)<List.length [nI b v2-nI a v2]/\Nat.le ((q8r a b v2).length+List.length [nI b v2-nI a v2]) (1000000:Nat))/\fits .i64 ((↑v2:Int)+(1:Int))/\∃(v5:Nat),Nat.le v5 b.length/\b.length-v5<b.length-v2/\(True/\(↑v2:Int)+(1:Int)=(↑v5:Int)/\True)/\q8r a b v2++[nI b v2-nI a v2]=q8r a b v5/\True)/\(decide ((↑v2:Int)<(↑b.length:Int))=false->q8r a b v2=xy0 a b)) ?_
 have hl:=h.len
 refine⟨(),0,zae _,⟨rfl,rfl⟩,λk hk=>⟨λhlt=>?_,λhge=>?_⟩⟩
 ·have h1:=h.ba k hlt
  have h2:=h.bb k hlt
  have h3:=h.le
  unfold qd8 at h1 h2
  exact⟨hlt,ow,qa7,by grind [ws0],qa7,k+1,hlt,ow,ow,by simp[q8r,List.range_succ]⟩
 ·obtain rfl:k=b.length:=ow
  rfl
structure Vp (m p:List (List Int)):Prop where
 msk:Mk m
 val:qb6 m=true
 lo:1<=p.length
 hi:p.length<=60
 len:∀i,i<p.length->(nL p i).length=(nL m 0).length
 bd:∀i,i<p.length->∀j,j<(nL m 0).length->qd8 1000 (nI (nL p i) j)
theorem Vp.of {m p:List (List Int)} (h:vpB m p=true):Vp m p:=by
 unfold vpB at h
 rw[zam,zam,qf9,zaq] at h
 obtain⟨⟨h1,h2⟩,h3⟩:=h
 have h4:∀i,i<p.length->(nL p i).length=(nL m 0).length/\∀n∈nL p i,x3m n=true:=λi hi=>by
  have:=h3 (nL p i) (by grind [qk3,hi,List.getElem_mem])
  simp_all [q4x,Bool.and_eq_true,decide_eq_true_eq,List.all_eq_true]
 refine⟨Mk.of h1,h1,ow,ow,λi hi=>(h4 i hi).1,λi hi j hj=>?_⟩
 have h5:=(h4 i hi).2 (nI (nL p i) j) (by grind [qf2,hi,List.getElem_mem])
 have h6:=qf9.1 h5
 omega
theorem Vp.chg {m p:List (List Int)} (h:Vp m p) {i j:Nat} (hi:i<p.length) (hj:j<p.length):w2w (nL p i) (nL p j):=by
 have h1:=h.len i hi
 have h2:=h.len j hj
 have h3:=h.msk.pix10
 refine⟨ow,ow,λk hk=>?_,λk hk=>?_⟩
 ·have:=h.bd i hi k ow; omega
 ·have:=h.bd j hj k ow; omega
def x2s (m p:List (List Int)) (e:Nat) (i:Nat):Frm:=if i % e=0 then(true,nL p i) else(false,(qs4 m (xy0 (nL p (i-1)) (nL p i))).1)
def qp1 (m p:List (List Int)) (e:Nat) (k:Nat):List Frm:=(List.range k).map (x2s m p e)
structure w2x (m p:List (List Int)) (e:Int):Prop where
 ok:vpB m p=true
 lo:1<=e
 hi:e<=60
theorem q8e (m p:List (List Int)) (e k:Nat):(qp1 m p e k).length=k:=by simp[qp1]
abbrev yr7:qa8:=qe4 false none [qf8,qf8,qb9] [.list q0v] (λx=>w2x x.1 x.2.1 x.2.2.1) (λx=>(qp1 x.1 x.2.1 x.2.2.1.toNat x.2.1.length,()))
def yb9 (m p:List (List Int)) (e:Nat):Nat->Option Inv
 | 0=>some (Inv.of [7,13] 1 (λk:Nat=>[(7,.own 0),(13,.lit (.int .i64 k))]) (λk=>[.vec 158 q0v (qp1 m p e k)]) (λk=>k<=p.length) (λk=>p.length-k))
 | _=>none
theorem xb8:Meets Tryz.prog 81 yr7:=by
 refine mts (SpecsOk.cons q0r (SpecsOk.cons xb7 (SpecsOk.cons q9r (SpecsOk.nil _)))) Tryz.func81 (λx=>yb9 x.1 x.2.1 x.2.2.1.toNat) ?_
 rintro⟨m,p,e,⟨⟩⟩ h
 revert m p e
 intro(m:List (List Int)) (p:List (List Int)) (e:Int) (h:w2x m p e)
 refine vcs (∃(v0:Unit),∃(v1:Nat),Nat.le v1 p.length/\((True/\(0:Int)=(↑v1:Int)/\True)/\qp1 m p e.toNat v1=[]/\True)/\∀(v2:Nat),Nat.le v2 p.length->(decide ((↑v2:Int)<(↑p.length:Int))=true->((0:Int)<=(↑v2:Int)/\(↑v2:Int)<(↑p.length:Int))/\e≠(0:Int)/\(nL p v2).length<=(100000:Nat)/\((!Int.tmod (↑v2:Int) e==(0:Int))=true->fits .i64 ((↑v2:Int)-(1:Int))/\((0:Int)<=(↑v2:Int)-(1:Int)/\(↑v2:Int)-(1:Int)<(↑p.length:Int))/\w2w (nL p ((↑v2:Int)-(1:Int)).toNat) (nL p v2)/\(xy0 (nL p ((↑v2:Int)-(1:Int)).toNat) (nL p v2)).length<=(1000000:Nat)/\((0:Nat)<List.length [(Int.tmod (↑v2:Int) e==(0:Int),(qs4 m (xy0 (nL p ((↑v2:Int)-(1:Int)).toNat) (nL p v2))).1)]/\Nat.le ((qp1 m p e.toNat v2).length+List.length [(Int.tmod (↑v2:Int) e==(0:Int),(qs4 m (xy0 (nL p ((↑v2:Int)-(1:Int)).toNat) (nL p v2))).1)]) (1000000:Nat))/\fits .i64 ((↑v2:Int)+(1:Int))/\∃(v6:Nat),Nat.le v6 p.length/\p.length-v6<p.length-v2/\(True/\(↑v2:Int)+(1:Int)=(↑v6:Int)/\True)/\qp1 m p e.toNat v2++[(Int.tmod (↑v2:Int) e==(0:Int),(qs4 m (xy0 (nL p ((↑v2:Int)-(1:Int)).toNat) (nL p v2))).1)]=qp1 m p e.toNat v6/\True)/\((!Int.tmod (↑v2:Int) e==(0:Int))=false->((0:Nat)<List.length [(Int.tmod (↑v2:Int) e==(0:Int),nL p v2)]/\Nat.le ((qp1 m p e.toNat v2).length+List.length [(Int.tmod (↑v2:Int) e==(0:Int),nL p v2)]) (1000000:Nat))/\fits .i64 ((↑v2:Int)+(1:Int))/\∃(v6:Nat),Nat.le v6 p.length/\p.length-v6<p.length-v2/\(True/\(↑v2:Int)+(1:Int)=(↑v6:Int)/\True)/\qp1 m p e.toNat v2++[(Int.tmod (↑v2:Int) e==(0:Int),nL p v2)]=qp1 m p e.toNat v6/\True))/\(decide ((↑v2:Int)<(↑p.length:Int))=false->qp1 m p e.toNat v2=qp1 m p e.toNat p.length)) ?_
 have hv:=Vp.of h.ok
 have p60:=hv.hi
 have lo:=h.lo
 have hi:=h.hi
 refine⟨(),0,zae _,⟨rfl,rfl⟩,λk hk=>⟨λhlt=>?_,λhge=>?_⟩⟩
 ·have hl:=hv.len k hlt
  have p10:=hv.msk.pix10
  have el:=q8e m p e.toNat k
  have hsn:qp1 m p e.toNat (k+1)=qp1 m p e.toNat k++[x2s m p e.toNat k]:=by simp[qp1,List.range_succ]
  have htm:(k:Int).tmod e=((k % e.toNat:Nat):Int):=by
   grind
  rw[htm]
  refine⟨hlt,ow,ow,λh0=>?_,λh0=>?_⟩
  ·have hk0:k≠0:=λe0=>h0 (by simp_all)
   have e1:((k:Int)-1).toNat=k-1:=ow
   have hc:=hv.chg (i:=k-1) (j:=k) ow hlt
   have hcl:(xy0 (nL p (k-1)) (nL p k)).length=(nL p k).length:=ws0 _ _ _
   rw[e1]
   refine⟨qa7,⟨ow,ow⟩,hc,ow,ow,qa7,k+1,hlt,ow,ow,?_⟩
   rw[hsn,x2s,zai (λq=>h0 ow)]
   grind
  ·refine⟨ow,qa7,k+1,hlt,ow,ow,?_⟩
   have h1:k % e.toNat=0:=ow
   simp_all [x2s,if_pos]
 grind
abbrev yr8:qa8:=q8o (q0m [qf8,qd4,qb9]) true (some 24) (some 3) (λx=>wt4 x.1 x.2.1 x.2.2.1=0->wx8 x.1 x.2.1 x.2.2.1) (λx=>.tup (.cons (.dat (.list (.int .i64)) (qk9 x.1 x.2.1 x.2.2.1).1) (.cons (.lit (.int .i64 (qk9 x.1 x.2.1 x.2.2.1).2)) .nil)))
def xy1 (m:List (List Int)) (out:List (List Int)):List AObj:=[.box 23 (.cons (.dat (.list (.int .i64)) m) .nil),.box 121 (.cons (.clo 273 .nil) .nil),.box 22 (.cons (.msl 3 .none) .nil),.mat 24 3 (.int .i64) out .none .none]
def yc0 (m:List (List Int)) (L:List Fit):Nat->Option Inv
 | 0=>some (Inv.of [] 4 (λ_=>[]) (λc:Nat=>xy1 m (whL (nL m 0).length (L.take c))) (λc=>c<=L.length) (λc=>c))
 | 1=>some (Eng.Inv.mk (Nat × Fit) Nat [12,13,37] 6 (λq i=>[(12,.own 5),(13,.lit (.bool (whB q.2 i))),(37,.lit (.int .i64 i))]) (λq i=>xy1 m (whL (nL m 0).length (L.take q.1))++[.box 55 (.cons (.dat (.int .i64) q.2.1) (.cons (.dat qy8 q.2.2) .nil)),.vec 3 (.int .i64) (whX (nL m 0).length q.2 i)]) (λq i=>i<=q.2.1.length) (λq i=>q.2.1.length-i))
 | _=>none
theorem xb9:Meets Tryz.prog 235 yr8:=by
 refine q9c (xm5 [65] [] (SpecsOk.cons w84 (SpecsOk.cons wx7 (SpecsOk.cons w9u (SpecsOk.nil _)))) MutsOk.nil (ItsOk.cons w47 ItsOk.nil)) Tryz.func235 rfl rfl (ql4 _) (λx=>yc0 x.1 (q4n x.1 x.2.1 x.2.2.1)) (λ_=>by kernel_rfl) dc ?_
 rintro⟨m,y,k,⟨⟩⟩ h
 revert m y k
 intro(m:List (List Int)) (y:List Int) (k:Int) (h:wt4 m y k=0->wx8 m y k)
 refine vcs (let Q0:=q4n m y k; let Q1:=qk9 m y k; True/\((wt4 m y k != (0:Int))=true->Q1.1=[]/\wt4 m y k=Q1.2/\True)/\((wt4 m y k != (0:Int))=false->True/\we6 m y k/\∃(v1:Unit),∃(v2:Nat),Nat.le v2 Q0.length/\v2=(0:Nat)/\((m=m/\True)/\(True/\True)/\(True/\True)/\whL (nL m (0:Nat)).length (List.take v2 Q0)=[]/\True)/\∀(v3:Nat),Nat.le v3 Q0.length->(∀(v5:(List Int × List (Int × Int)) × qa3._f [] PUnit.unit),(List.map (λ(v7:List Int × List (Int × Int))=>(v7,())) Q0)[v3]?=some v5->((0:Int)<=(0:Int)/\(0:Int)<(↑m.length:Int))/\((↑(nL m (0:Nat)).length:Int)=(↑(nL m (0:Nat)).length:Int)/\(0:Int)<=(↑(nL m (0:Nat)).length:Int)/\(↑(nL m (0:Nat)).length:Int)<=(1000000:Int))/\∃(v7:Nat × Fit),∃(v8:Nat),Nat.le v8 v7.2.1.length/\((True/\true=whB v7.2 v8/\(0:Int)=(↑v8:Int)/\True)/\(m=m/\True)/\(True/\True)/\(True/\True)/\(whL (nL m (0:Nat)).length (List.take v3 Q0)=whL (nL m (0:Nat)).length (List.take v7.1 Q0)/\True/\True)/\(v5.1.1=v7.2.1/\v5.1.2=v7.2.2/\True)/\List.replicate (↑(nL m (0:Nat)).length:Int).toNat (Ty.dflt (TI.ty T3))=whX (nL m (0:Nat)).length v7.2 v8/\True)/\∀(v9:Nat),Nat.le v9 v7.2.1.length->(decide ((↑v9:Int)<(↑v5.1.1.length:Int))=true->((0:Int)<=(↑v9:Int)/\(↑v9:Int)<(↑v5.1.1.length:Int))/\((0:Int)<=(↑v9:Int)/\(↑v9:Int)<(↑v7.2.2.length:Int))/\(whB v7.2 v9=true->((0:Int)<=(↑v9:Int)/\(↑v9:Int)<(↑v7.2.2.length:Int))/\True/\((0:Int)<=nI v5.1.1 v9/\nI v5.1.1 v9<(↑(whX (nL m (0:Nat)).length v7.2 v9).length:Int))/\(nI v5.1.1 v9).toNat<(whX (nL m (0:Nat)).length v7.2 v9).length/\fits .i64 ((↑v9:Int)+(1:Int))/\∃(v13:Nat),Nat.le v13 v7.2.1.length/\v7.2.1.length-v13<v7.2.1.length-v9/\(True/\shB ((qe5 qy8 v7.2.2 v9).1,(qe5 qy8 v7.2.2 v9).2)=whB v7.2 v13/\(↑v9:Int)+(1:Int)=(↑v13:Int)/\True)/\(m=m/\True)/\(True/\True)/\(True/\True)/\(whL (nL m (0:Nat)).length (List.take v7.1 Q0)=whL (nL m (0:Nat)).length (List.take v7.1 Q0)/\True/\True)/\(v7.2.1=v7.2.1/\v7.2.2=v7.2.2/\True)/\List.set (whX (nL m (0:Nat)).length v7.2 v9) (nI v5.1.1 v9).toNat (qe5 qy8 v7.2.2 v9).1=whX (nL m (0:Nat)).length v7.2 v13/\True)/\(whB v7.2 v9=false->((0:Int)<=nI v5.1.1 v9/\nI v5.1.1 v9<(↑(whX (nL m (0:Nat)).length v7.2 v9).length:Int))/\(nI v5.1.1 v9).toNat<(whX (nL m (0:Nat)).length v7.2 v9).length/\fits .i64 ((↑v9:Int)+(1:Int))/\∃(v13:Nat),Nat.le v13 v7.2.1.length/\v7.2.1.length-v13<v7.2.1.length-v9/\(True/\false=whB v7.2 v13/\(↑v9:Int)+(1:Int)=(↑v13:Int)/\True)/\(m=m/\True)/\(True/\True)/\(True/\True)/\(whL (nL m (0:Nat)).length (List.take v7.1 Q0)=whL (nL m (0:Nat)).length (List.take v7.1 Q0)/\True/\True)/\(v7.2.1=v7.2.1/\v7.2.2=v7.2.2/\True)/\List.set (whX (nL m (0:Nat)).length v7.2 v9) (nI v5.1.1 v9).toNat (qe5 qy8 v7.2.2 v9).1=whX (nL m (0:Nat)).length v7.2 v13/\True))/\(decide ((↑v9:Int)<(↑v5.1.1.length:Int))=false->(whB v7.2 v9=true->((0:Nat)<(0:Nat)+(1:Nat)/\(whL (nL m (0:Nat)).length (List.take v7.1 Q0)).length+((0:Nat)+(1:Nat))<=(1000000:Nat))/\∃(v13:Nat),Nat.le v13 Q0.length/\v13=v3+(1:Nat)/\(m=m/\True)/\(True/\True)/\(True/\True)/\(whL (nL m (0:Nat)).length (List.take v7.1 Q0)++[whX (nL m (0:Nat)).length v7.2 v9]=whL (nL m (0:Nat)).length (List.take v13 Q0)/\True/\True)/\True)/\(whB v7.2 v9=false->∃(v13:Nat),Nat.le v13 Q0.length/\v13=v3+(1:Nat)/\(m=m/\True)/\(True/\True)/\(True/\True)/\(whL (nL m (0:Nat)).length (List.take v7.1 Q0)=whL (nL m (0:Nat)).length (List.take v13 Q0)/\True/\True)/\True)))/\(v3=(List.map (λ(v6:List Int × List (Int × Int))=>(v6,())) Q0).length->whL (nL m (0:Nat)).length (List.take v3 Q0)=Q1.1/\(0:Int)=Q1.2/\True))) ?_
 refine⟨λhe=>by grind [qk9],λhe=>?_⟩
 have hw:=h he
 have hlen:=hw.pre.len
 have hea:=hw.each
 have hone:=hw.pre.pre.one
 have hpx:=hw.pre.pre.pix
 have hR:qk9 m y k=(whL (nL m 0).length (q4n m y k),0):=by rw[qk9,zap he]
 refine⟨hw.pre.pre,(),0,zae _,rfl,rfl,?_⟩
 rw[hR]
 generalize q4n m y k=L at hlen hea ⊢
 rintro c hc
 refine⟨?_,λhfin=>?_⟩
 ·rintro⟨f,⟨⟩⟩ hf
  rw[za5] at hf
  obtain⟨f',h1,h2⟩:=zbj.1 hf
  obtain rfl:f'=f:=za9 Prod.fst h2
  have hlt:=(zaf.1 h1).1
  have hfi:=hea f' (zag h1)
  have hf1:=hfi.len
  have hf2:=hfi.lenB
  have hsn:=xo6 (nL m 0).length h1
  have hwl:(whL (nL m 0).length (L.take c)).length<=c:=by
   have h3:=List.length_filterMap_le (λf:Fit=>if whB f f.1.length=true then some (whX (nL m 0).length f f.1.length) else none) (L.take c)
   grind [whL,nL,List.length_take]
  dsimp only
  refine⟨ow,ow,(c,f'),0,zae _,⟨⟨rfl,rfl⟩,rfl,⟨rfl,rfl⟩,rfl⟩,λi hi=>⟨λhlt2=>?_,λhge=>?_⟩⟩
  ·have hat:=hfi.at_ i hlt2
   have hxl:=q4o (nL m 0).length f' i
   dsimp only at hi ⊢
   rw[hxl]
   refine⟨hlt2,ow,λhb=>⟨ow,hat,ow,qa7,i+1,hlt2,ow,⟨?_,ow⟩,rfl⟩,λhb=>⟨hat,ow,qa7,i+1,hlt2,ow,⟨?_,ow⟩,rfl⟩⟩
   ·rw[whB,hb,zc8]; rfl
   ·rw[whB,hb,Bool.false_and]
  grind
 grind
abbrev yc1:qa8:=qe4 true none [q0v] [.bool] (λ_=>True) (λx=>(decide (x.1.2.length=0),()))
theorem w5h:Meets Tryz.prog 234 yc1:=by
 refine mt0 (SpecsOk.nil _) Tryz.func234 ?_
 rintro⟨⟨b,l⟩,⟨⟩⟩ -
 revert b l
 intro(b:Bool) (l:List Int)
 refine vcr (((↑l.length:Int)==(0:Int))=decide (l.length=(0:Nat))) ?_
 grind
def qr1 (a b:List Int):Nat->List Int
 | 0=>a
 | k+1=>(qr1 a b k).set k (nI (qr1 a b k) k+nI b k)
def nextL (m:List (List Int)) (b:List Int) (f:Frm) (t:Int):List Int:=
 if f.2.length=0 then[] else if f.1=true then f.2 else if b=[] then[]
 else if(qk9 m f.2 t).2=0/\(qk9 m f.2 t).1.length=1 then(if q4x m (qr1 (nL (qk9 m f.2 t).1 0) b b.length) then qr1 (nL (qk9 m f.2 t).1 0) b b.length else[])
 else[]
structure wy6 (m:List (List Int)) (b:List Int) (f:Frm) (t:Int):Prop where
 val:qb6 m=true
 before:b=[]\/q4x m b=true
 len:f.2.length<=100000
 wh:f.1=false->wt4 m f.2 t=0->wx8 m f.2 t
theorem ws1 (l:List Int) {p q:Nat} (h:q≠p) (x:Int):nI (l.set p x) q=nI l q:=by
 simp_all [nI,qe5,List.getD_eq_getElem?_getD,List.getElem?_set_ne,Ne.symm]
theorem ws3 (a b:List Int):∀k,(qr1 a b k).length=a.length
 | 0=>rfl
 | k+1=>by rw[qr1,zaz,ws3 a b k]
theorem wg9 (a b:List Int):∀(k c:Nat),k<=c->nI (qr1 a b k) c=nI a c
 | 0,c,_=>rfl
 | k+1,c,h=>by rw[qr1,ws1 _ ow,wg9 a b k c ow]
theorem xs0 {m:List (List Int)} {x:List Int} (h:q4x m x=true):x.length=(nL m 0).length/\∀j,j<x.length->qd8 1000 (nI x j):=by
 unfold q4x at h
 rw[zam,zbm,zaq] at h
 refine⟨h.1,λj hj=>?_⟩
 have:=qf9.1 (h.2 (nI x j) (by grind [qf2,List.getElem_mem]))
 omega
theorem xy2 (n:Nat) (f:Fit):∀i,whB f i=true->∀c,c<n->qd8 1000000 (nI (whX n f i) c)
 | 0,_,c,hc=>by
  simp_all [qf2,q4o,whX,List.getElem_replicate,qd8]
 | i+1,h,c,hc=>by
  rw[whB,zam] at h
  by_cases e:c=(nI f.1 i).toNat
  ·have h2:=h.2
   unfold shB at h2
   rw[zam] at h2
   have h3:=qf9.1 h2.2
   simp_all [whX,qf2,List.length_set,q4o,List.getElem_set_self,qd8]
  ·rw[whX,ws1 _ e]
   exact xy2 n f i h.1 c hc
theorem xc0 {m:List (List Int)} {y:List Int} {k:Int} {r:List Int} (h:r∈(qk9 m y k).1):r.length=(nL m 0).length/\∀c,c<r.length->qd8 1000000 (nI r c):=by
 unfold qk9 at h
 split at h
 ·unfold whL at h
  obtain⟨f,_,h2⟩:=zcw.1 h
  split at h2
  ·rename_i hb
   obtain rfl:=zaa h2
   exact⟨q4o _ _ _,λc hc=>xy2 _ f _ hb c (by grind [q4o])⟩
  grind
 grind
theorem xs1 {m:List (List Int)} {b:List Int} {l:List Int} {t:Int} (h0:¬l.length=0) (hb:b.isEmpty=false) (hw:(qk9 m l t).2=0/\(qk9 m l t).1.length=1) :
  nextL m b (false,l) t=if q4x m (qr1 (nL (qk9 m l t).1 0) b b.length) then qr1 (nL (qk9 m l t).1 0) b b.length else[]:=by
 simp_all [nextL,if_neg,if_pos]
abbrev yc2:qa8:=qe4 false none [qf8,.nlist qb9,q0v,qb9] [.nlist qb9] (λx=>wy6 x.1 x.2.1 x.2.2.1 x.2.2.2.1) (λx=>(nextL x.1 x.2.1 x.2.2.1 x.2.2.2.1,()))
def x6e (m:List (List Int)) (b:List Int) (f:Frm) (t:Int):Nat->Option Inv
 | 0=>some (Inv.of [11,49] 2 (λk:Nat=>[(11,.msl 1 (some 0)),(49,.lit (.int .i64 k))]) (λk=>[.box 202 (.cons (.lit (.bool f.1)) (.cons (.dat (.int .i64) f.2) .nil)),.mat 24 3 (.int .i64) [qr1 (nL (qk9 m f.2 t).1 0) b k] .none .none]) (λk=>k<=b.length) (λk=>b.length-k))
 | _=>none
theorem w5i:Meets Tryz.prog 179 yc2:=by
 refine meets (xm5 [] [] (SpecsOk.cons w5h (SpecsOk.cons wo7 (SpecsOk.cons xb9 (SpecsOk.cons wr9 (SpecsOk.nil _))))) MutsOk.nil ItsOk.nil) Tryz.func179 rfl rfl (λx=>x6e x.1 x.2.1 x.2.2.1 x.2.2.2.1) (λ_=>by kernel_rfl) dc ?_
 rintro⟨m,b,⟨key,l⟩,t,⟨⟩⟩ h
 revert m b key l t
 intro(m:List (List Int)) (b:List Int) (key:Bool) (l:List Int) (t:Int) (h:wy6 m b (key,l) t)
 refine vcs (let Q0:=qk9 m l t; let Q1:=qe0 Q0.1.length none; True/\(decide (l.length=(0:Nat))=true->nextL m b (key,l) t=[])/\(decide (l.length=(0:Nat))=false->(key=true->(0:Nat)<l.length/\l.length<=(100000:Nat)/\l=nextL m b (key,l) t)/\(key=false->(List.isEmpty b=true->nextL m b (key,l) t=[])/\(List.isEmpty b=false->(wt4 m l t=(0:Int)->wx8 m l t)/\((Q0.2 != (0:Int))=true->nextL m b (key,l) t=[])/\((Q0.2 != (0:Int))=false->(((↑Q1:Int) != (1:Int))=true->nextL m b (key,l) t=[])/\(((↑Q1:Int) != (1:Int))=false->((0:Int)<=(0:Int)/\(0:Int)<(↑Q1:Int))/\(0:Nat)<qe0 Q0.1.length none/\∃(v5:Unit),∃(v6:Nat),Nat.le v6 b.length/\((some (0:Nat)=some (0:Nat)/\(0:Int)=(↑v6:Int)/\True)/\(key=key/\l=l/\True)/\(Q0.1=[qr1 (nL Q0.1 (0:Nat)) b v6]/\True/\True)/\True)/\∀(v7:Nat),Nat.le v7 b.length->(decide ((↑v7:Int)<(↑b.length:Int))=true->((0:Int)<=(↑v7:Int)/\(↑v7:Int)<(↑b.length:Int))/\((0:Int)<=(↑v7:Int)/\(↑v7:Int)<(↑(nL [qr1 (nL Q0.1 (0:Nat)) b v7] (0:Nat)).length:Int))/\v7<(nL [qr1 (nL Q0.1 (0:Nat)) b v7] (0:Nat)).length/\fits .i64 (nI (nL [qr1 (nL Q0.1 (0:Nat)) b v7] (0:Nat)) v7+qe5 qb9 b v7)/\((0:Int)<=(↑v7:Int)/\(↑v7:Int)<(↑(nL [qr1 (nL Q0.1 (0:Nat)) b v7] (0:Nat)).length:Int))/\v7<(nL [qr1 (nL Q0.1 (0:Nat)) b v7] (0:Nat)).length/\fits .i64 ((↑v7:Int)+(1:Int))/\∃(v10:Nat),Nat.le v10 b.length/\b.length-v10<b.length-v7/\(some (0:Nat)=some (0:Nat)/\(↑v7:Int)+(1:Int)=(↑v10:Int)/\True)/\(key=key/\l=l/\True)/\(List.set [qr1 (nL Q0.1 (0:Nat)) b v7] (0:Nat) (List.set (nL [qr1 (nL Q0.1 (0:Nat)) b v7] (0:Nat)) v7 (nI (nL [qr1 (nL Q0.1 (0:Nat)) b v7] (0:Nat)) v7+qe5 qb9 b v7))=[qr1 (nL Q0.1 (0:Nat)) b v10]/\True/\True)/\True)/\(decide ((↑v7:Int)<(↑b.length:Int))=false->qb6 m=true/\((!q4x m (nL [qr1 (nL Q0.1 (0:Nat)) b v7] (0:Nat)))=true->nextL m b (key,l) t=[])/\((!q4x m (nL [qr1 (nL Q0.1 (0:Nat)) b v7] (0:Nat)))=false->nL [qr1 (nL Q0.1 (0:Nat)) b v7] (0:Nat)=nextL m b (key,l) t/\Nat.le (1:Nat) (nL [qr1 (nL Q0.1 (0:Nat)) b v7] (0:Nat)).length)))))))) ?_
 refine⟨λh0=>zap h0,λh0=>⟨λhk=>⟨ow,h.len,?_⟩,λhk=>⟨λhb=>?_,λhb=>?_⟩⟩⟩
 ·simp_all [nextL,if_neg,if_pos]
 ·simp_all [nextL,if_neg,if_pos,List.isEmpty_iff]
 subst hk
 have hno:¬((qk9 m l t).2=0/\(qk9 m l t).1.length=1)->nextL m b (false,l) t=[]:=λhn=>by
  simp_all [nextL,if_neg]
 refine⟨h.wh rfl,λhe=>hno λq=>he q.1,λhe=>?_⟩
 simp only[qe0,qe6]
 refine⟨λhn=>hno λq=>hn ow,λhn=>⟨ow,ow,(),0,zae _,⟨rfl,?_⟩,λk hk=>?_⟩⟩
 ·show _=[nL _ 0]
  obtain⟨r,hr⟩:=zcz.1 (show(qk9 m l t).1.length=1 by omega)
  rw[hr]; rfl
 have hpb:q4x m b=true:=by
  rcases h.before with e | e
  all_goals grind
 obtain⟨hbl,hbb⟩:=xs0 hpb
 have hM:=Mk.of h.val
 have p1:=hM.pix1
 have p10:=hM.pix10
 obtain⟨hrl,hrb⟩:=xc0 (show nL (qk9 m l t).1 0∈(qk9 m l t).1 by grind [qk3,List.getElem_mem])
 simp only[ws3]
 refine⟨λhlt=>?_,λhge=>?_⟩
 ·have h1:=hbb k hlt
  have h2:=hrb k ow
  rw[wg9 _ _ k k (zad k)]
  unfold qd8 at h1 h2
  exact⟨hlt,ow,ow,qa7,ow,ow,qa7,k+1,hlt,ow,ow,by simp_all [qr1,wg9,Nat.le_refl]⟩
 ·obtain rfl:k=b.length:=ow
  have hn':=xs1 (m:=m) h0 hb ⟨he,ow⟩
  exact⟨h.val,λhp=>by grind,λhp=>⟨by grind,ow⟩⟩
abbrev nFr (F:List Frm) (i:Nat):Frm:=qe5 (.prod .bool (.list (.int .i64))) F i
def qp8 (m:List (List Int)) (F:List Frm) (t:Int):Nat->List Int
 | 0=>[]
 | k+1=>nextL m (qp8 m F t k) (nFr F k) t
def xc1 (m:List (List Int)) (F:List Frm) (t:Int):Prop:=∀i,i<F.length->(nFr F i).1=false->wt4 m (nFr F i).2 t=0->wx8 m (nFr F i).2 t
structure ws4 (F:List Frm) (m:List (List Int)) (t:Int):Prop where
 val:qb6 m=true
 size:F.length<=1000000
 len:∀i,i<F.length->(nFr F i).2.length<=100000
 key:∀i,i<F.length->(nFr F i).1=true->q4x m (nFr F i).2=true
 wh:xc1 m F t
abbrev yr9 (i:Nat) (l:List Int):qa3 [qb9,.nlist qb9]:=((i:Int),l,())
def xe8 (F:List Frm) (m:List (List Int)) (t:Int):List (qa3 [qb9,.nlist qb9]):=(List.range F.length).map λi=>yr9 i (qp8 m F t (i+1))
abbrev yc3:qz6:=wl7 [.list q0v,qf8,qb9] [qb9,.nlist qb9] (λx=>ws4 x.1 x.2.1 x.2.2.1) (λx=>xe8 x.1 x.2.1 x.2.2.1)
def yc4 (F:List Frm) (m:List (List Int)) (t:Int):Nat->Option Inv
 | 0=>some (Inv.of [5,8,10] 1 (λk:Nat=>[(5,.ndat false (.int .i64) (qp8 m F t k)),(8,.dat (.prod .bool (.list (.int .i64))) F),(10,.lit (.int .i64 k))]) (λk=>[.cnt (some k)]) (λk=>k<=F.length) (λk=>F.length-k))
 | _=>none
theorem w2y {m:List (List Int)} {b:List Int} {f:Frm} {t:Int} (hk:f.1=true->q4x m f.2=true):nextL m b f t=[]\/q4x m (nextL m b f t)=true:=by
 unfold nextL
 grind
theorem w2z {F:List Frm} {m:List (List Int)} {t:Int} (h:ws4 F m t):∀k,k<=F.length->qp8 m F t k=[]\/q4x m (qp8 m F t k)=true
 | 0,_=>.inl rfl
 | k+1,hk=>w2y (h.key k hk)
theorem w20 {m:List (List Int)} {x:List Int} (h:q4x m x=true):x.length=(nL m 0).length:=by
 simp_all [q4x,Bool.and_eq_true,decide_eq_true_eq]
theorem xc2:qv9 Tryz.prog 178 yc3:=by
 refine says (snd (SpecsOk.cons w5i (SpecsOk.cons wo8 (SpecsOk.nil _)))) Tryz.func178 rfl rfl rfl [21] (λx=>yc4 x.1 x.2.1 x.2.2.1) (λ_=>by kernel_rfl) dc ?_
 rintro⟨F,m,t,⟨⟩⟩ l h
 revert F m t
 intro(F:List Frm) (m:List (List Int)) (t:Int) (h:ws4 F m t)
 refine vcs (let Q0:=(F,m,t,PUnit.unit); let Q1:=xe8 F m t; ∃(v0:Unit),∃(v1:Nat),Nat.le v1 F.length/\((qp8 m F t v1=[]/\F=F/\(0:Int)=(↑v1:Int)/\True)/\some (0:Nat)=some v1/\True)/\∀(v2:Nat),Nat.le v2 F.length->(decide ((↑v2:Int)<(↑F.length:Int))=true->((0:Int)<=(↑v2:Int)/\(↑v2:Int)<(↑F.length:Int))/\wy6 m (qp8 m F t v2) ((qe5 (Ty.prod Ty.bool (Ty.list (Ty.int .i64))) F v2).1,(qe5 (Ty.prod Ty.bool (Ty.list (Ty.int .i64))) F v2).2) t/\(nextL m (qp8 m F t v2) ((qe5 (Ty.prod Ty.bool (Ty.list (Ty.int .i64))) F v2).1,(qe5 (Ty.prod Ty.bool (Ty.list (Ty.int .i64))) F v2).2) t).length<=(100000:Nat)/\(List.isEmpty (nextL m (qp8 m F t v2) ((qe5 (Ty.prod Ty.bool (Ty.list (Ty.int .i64))) F v2).1,(qe5 (Ty.prod Ty.bool (Ty.list (Ty.int .i64))) F v2).2) t)=true->Value.slice none (0:Nat) (0:Nat)=Value.slice none (0:Nat) (0:Nat)/\Value.func (Fn.yield l) #[] #[]=Value.func (Fn.yield (qg6.l (qt9 [Ty.list q0v,qf8,qb9] [qb9,Ty.nlist qb9] [(21:Nat)] Q0 Q1 l))) #[] #[]/\Value.slice none (0:Nat) (0:Nat)=Value.slice none (0:Nat) (0:Nat)/\(qg6.L (qt9 [Ty.list q0v,qf8,qb9] [qb9,Ty.nlist qb9] [(21:Nat)] Q0 Q1 l))[v2]?=some ((↑v2:Int),[],())/\(fits .i64 ((↑v2:Int)+(1:Int))/\∃(v6:Nat),Nat.le v6 F.length/\F.length-v6<F.length-v2/\(nextL m (qp8 m F t v2) ((qe5 (Ty.prod Ty.bool (Ty.list (Ty.int .i64))) F v2).1,(qe5 (Ty.prod Ty.bool (Ty.list (Ty.int .i64))) F v2).2) t=qp8 m F t v6/\F=F/\(↑v2:Int)+(1:Int)=(↑v6:Int)/\True)/\some (v2+(1:Nat))=some v6/\True)/\True)/\(List.isEmpty (nextL m (qp8 m F t v2) ((qe5 (Ty.prod Ty.bool (Ty.list (Ty.int .i64))) F v2).1,(qe5 (Ty.prod Ty.bool (Ty.list (Ty.int .i64))) F v2).2) t)=false->Value.func (Fn.yield l) #[] #[]=Value.func (Fn.yield (qg6.l (qt9 [Ty.list q0v,qf8,qb9] [qb9,Ty.nlist qb9] [(21:Nat)] Q0 Q1 l))) #[] #[]/\(0:Nat)<(nextL m (qp8 m F t v2) ((qe5 (Ty.prod Ty.bool (Ty.list (Ty.int .i64))) F v2).1,(qe5 (Ty.prod Ty.bool (Ty.list (Ty.int .i64))) F v2).2) t).length/\(qg6.L (qt9 [Ty.list q0v,qf8,qb9] [qb9,Ty.nlist qb9] [(21:Nat)] Q0 Q1 l))[v2]?=some ((↑v2:Int),nextL m (qp8 m F t v2) ((qe5 (Ty.prod Ty.bool (Ty.list (Ty.int .i64))) F v2).1,(qe5 (Ty.prod Ty.bool (Ty.list (Ty.int .i64))) F v2).2) t,())/\(fits .i64 ((↑v2:Int)+(1:Int))/\∃(v6:Nat),Nat.le v6 F.length/\F.length-v6<F.length-v2/\(nextL m (qp8 m F t v2) ((qe5 (Ty.prod Ty.bool (Ty.list (Ty.int .i64))) F v2).1,(qe5 (Ty.prod Ty.bool (Ty.list (Ty.int .i64))) F v2).2) t=qp8 m F t v6/\F=F/\(↑v2:Int)+(1:Int)=(↑v6:Int)/\True)/\some (v2+(1:Nat))=some v6/\True)/\True))/\(decide ((↑v2:Int)<(↑F.length:Int))=false->v2=(qg6.L (qt9 [Ty.list q0v,qf8,qb9] [qb9,Ty.nlist qb9] [(21:Nat)] Q0 Q1 l)).length)) ?_
 have hsz:=h.size
 have key:∀k,k<F.length->(xe8 F m t)[k]? = some ((k:Int),nextL m (qp8 m F t k) (nFr F k) t,()):=λk hk=>by
  unfold xe8
  rw[za5,List.getElem?_range hk]
  rfl
 refine⟨(),0,zae _,⟨⟨rfl,rfl⟩,rfl⟩,λk hk=>⟨λhlt=>?_,λhge=>?_⟩⟩
 ·have hn:nextL m (qp8 m F t k) (nFr F k) t=[]\/q4x m (nextL m (qp8 m F t k) (nFr F k) t)=true:=w2y (h.key k hlt)
  have hl:(nextL m (qp8 m F t k) (nFr F k) t).length<=100000:=by
   rcases hn with e | e
   ·grind
   ·have h1:=w20 e
    have h2:=(Mk.of h.val).pix10
    omega
  refine⟨hlt,⟨h.val,w2z h k hk,h.len k hlt,h.wh k hlt⟩,hl,λhe=>⟨rfl,?_,qa7,k+1,hlt,ow,⟨rfl,ow⟩,rfl⟩,λhe=>?_⟩
  ·have e:=List.isEmpty_iff.1 he
   have h1:=key k hlt
   rw[show nextL m (qp8 m F t k) (nFr F k) t=[] from e] at h1
   exact h1
  ·have hp:0<(nextL m (qp8 m F t k) (nFr F k) t).length:=by
    grind
   exact⟨rfl,hp,key k hlt,qa7,k+1,hlt,ow,⟨rfl,ow⟩,rfl⟩
 ·obtain rfl:k=F.length:=ow
  show _=(xe8 F m t).length
  simp[xe8]
abbrev ys1:qa8:=q68 false none [qf8,.list q0v,qb9] (λ_=>True) (λx=>.clo 178 (.cons (.imm (.cons (.dat (.prod .bool (.list (.int .i64))) x.2.1) .nil) 0) (.cons (.imm (.cons (.dat (.list (.int .i64)) x.1) .nil) 0) (.cons (.imm (.cons (.lit (.int .i64 x.2.2.1)) .nil) 0) .nil))))
theorem xc3:Meets Tryz.prog 129 ys1:=by
 refine q0o (snd (SpecsOk.nil _)) Tryz.func129 rfl rfl (λx _=>none) (λ_=>by kernel_rfl) dc ?_
 rintro⟨m,F,t,⟨⟩⟩ -
 revert m F t
 intro(m:List (List Int)) (F:List Frm) (t:Int)
 refine vcr (((F=F/\True)/\(0:Nat)=(0:Nat))/\((m=m/\True)/\(0:Nat)=(0:Nat))/\((t=t/\True)/\(0:Nat)=(0:Nat))/\True) ?_
 simp
structure xc4 (m p:List (List Int)) (e t:Int):Prop where
 enc:w2x m p e
 wh:xc1 m (qp1 m p e.toNat p.length) t
def xe9 (m p:List (List Int)) (e t:Int):Bool:=(List.range p.length).all λi=>decide (qp8 m (qp1 m p e.toNat p.length) t (i+1)=nL p i)
abbrev ys2:qa8:=qe4 true none [qf8,qf8,qb9,qb9] [.bool] (λx=>xc4 x.1 x.2.1 x.2.2.1 x.2.2.2.1) (λx=>(xe9 x.1 x.2.1 x.2.2.1 x.2.2.2.1,()))
structure xs2 (m p:List (List Int)) (e t:Int) (c:Nat):Prop where
 le:c<=p.length
 all:∀i,i<c->qp8 m (qp1 m p e.toNat p.length) t (i+1)=nL p i
def yc5 (m p:List (List Int)) (e t:Int):Nat->Option Inv
 | 0=>some (Inv.of [] 2 (λ_=>[]) (λc:Nat=>[.box 22 (.cons (.dat (.list (.int .i64)) p) .nil),.box 4 (.cons (.lit (.bool false)) .nil)]) (λc=>xs2 m p e t c) (λc=>c))
 | _=>none
theorem xc5:Meets Tryz.prog 82 ys2:=by
 refine meets (x6x (SpecsOk.cons xb8 (SpecsOk.cons xc3 (SpecsOk.cons w82 (SpecsOk.nil _)))) (ItsOk.cons xc2 ItsOk.nil)) Tryz.func82 rfl rfl (λx=>yc5 x.1 x.2.1 x.2.2.1 x.2.2.2.1) (λ_=>by kernel_rfl) dc ?_
 rintro⟨m,p,e,t,⟨⟩⟩ h
 revert m p e t
 intro(m:List (List Int)) (p:List (List Int)) (e:Int) (t:Int) (h:xc4 m p e t)
 refine vcs (let Q0:=qp1 m p e.toNat p.length; w2x m p e/\True/\ws4 Q0 m t/\∃(v0:Unit),∃(v1:Nat),xs2 m p e t v1/\v1=(0:Nat)/\((p=p/\True)/\(false=false/\True)/\True)/\∀(v2:Nat),xs2 m p e t v2->(∀(v4:Int × qa3._f [Ty.nlist qb9] ⟨qa3._f [] PUnit.unit,PUnit.unit⟩),(xe8 Q0 m t)[v2]?=some v4->(List.isEmpty v4.2.1=true->false=xe9 m p e t)/\(List.isEmpty v4.2.1=false->((0:Int)<=v4.1/\v4.1<(↑p.length:Int))/\v4.2.1.length<=(1000000:Nat)/\((!decide (v4.2.1=nL p v4.1.toNat))=true->false=xe9 m p e t)/\((!decide (v4.2.1=nL p v4.1.toNat))=false->∃(v8:Nat),xs2 m p e t v8/\v8=v2+(1:Nat)/\(p=p/\True)/\(false=false/\True)/\True)))/\(v2=(xe8 Q0 m t).length->true=xe9 m p e t)) ?_
 have hv:=Vp.of h.enc.ok
 have p60:=hv.hi
 have p1:=hv.msk.pix1
 have p10:=hv.msk.pix10
 generalize hF:qp1 m p e.toNat p.length=F
 have hFl:F.length=p.length:=by grind [q8e]
 have hat:∀i,i<p.length->nFr F i=x2s m p e.toNat i:=λi hi=>by
  rw[<- hF]
  unfold nFr
  grind [qo1,q8e,qp1]
 have hpic:∀i,i<p.length->q4x m (nL p i)=true:=λi hi=>by
  have h1:=h.enc.ok
  simp_all [vpB,Bool.and_eq_true,List.all_eq_true,qk3,List.getElem_mem]
 have hD:ws4 F m t:=by
  refine⟨hv.val,ow,λi hi=>?_,λi hi hk=>?_,?_⟩
  ·rw[hat i ow]
   unfold x2s
   split
   ·have:=hv.len i ow; grind
   ·show(qs4 m _).1.length<=_
    unfold qs4
    split
    ·have:=hv.msk.rows6; grind [qu0,List.length_map,List.length_range]
    simp
  ·rw[hat i ow] at hk ⊢
   unfold x2s at hk ⊢
   grind
  ·rw[<- hF]; exact h.wh
 have hrig:xe9 m p e t=(List.range p.length).all λi=>decide (qp8 m F t (i+1)=nL p i):=by unfold xe9; rw[hF]
 have hno:∀i,i<p.length->¬qp8 m F t (i+1)=nL p i->false=xe9 m p e t:=λi hi hne=>by
  grind
 refine⟨h.enc,hD,(),0,⟨zae _,λi hi=>absurd hi ow⟩,rfl,λc hc=>⟨?_,λhfin=>?_⟩⟩
 ·rintro⟨i,x,⟨⟩⟩ hx
  unfold xe8 at hx
  rw[za5] at hx
  obtain⟨j,hj,e1⟩:=zbj.1 hx
  have hcl:c<F.length:=by
   grind
  rw[List.getElem?_range hcl] at hj
  obtain rfl:=zaa hj
  obtain⟨rfl,rfl⟩:i=(c:Int)/\x=qp8 m F t (c+1):=⟨(za9 Prod.fst e1).symm,(za9 (λq=>q.2.1) e1).symm⟩
  dsimp only
  have hcp:c<p.length:=ow
  have hl:=hv.len c hcp
  refine⟨λhemp=>hno c hcp λq=>?_,λhemp=>⟨⟨ow,ow⟩,?_,λhne=>?_,λheq=>?_⟩⟩
  ·grind
  ·rcases w2z hD (c+1) hcl with q | q
   ·grind
   grind [w20]
  ·exact hno c hcp hne
  ·refine⟨c+1,⟨hcp,λi hi=>?_⟩,rfl⟩
   rw[hF]
   by_cases q:i=c
   ·subst q; exact heq
   ·have:=hc.all i ow; grind
 ·have hfin:c=p.length:=by grind [xe8]
  rw[hrig]
  symm
  rw[zaq]
  intro i hi
  have hi:=za2.1 hi
  have:=hc.all i ow
  grind
def w21 (m p:List (List Int)) (e t:Int):Bool × Int:=if vpB m p=false then(false,1) else if inB e 1 60 && inB t 0 (nL m 0).length then(xe9 m p e t,0) else(false,7)
abbrev ys3:qa8:=qe4 true none [qf8,qf8,qb9,qb9] [.bool,qb9] (λx=>(w21 x.1 x.2.1 x.2.2.1 x.2.2.2.1).2=0->xc1 x.1 (qp1 x.1 x.2.1 x.2.2.1.toNat x.2.1.length) x.2.2.2.1) (λx=>((w21 x.1 x.2.1 x.2.2.1 x.2.2.2.1).1,(w21 x.1 x.2.1 x.2.2.1 x.2.2.2.1).2,()))
theorem xc6:Meets Tryz.prog 34 ys3:=by
 refine mt0 (SpecsOk.cons xr9 (SpecsOk.cons qz3 (SpecsOk.cons xc5 (SpecsOk.nil _)))) Tryz.func34 ?_
 rintro⟨m,p,e,t,⟨⟩⟩ h
 revert m p e t
 intro(m:List (List Int)) (p:List (List Int)) (e:Int) (t:Int) (h:(w21 m p e t).2=0->xc1 m (qp1 m p e.toNat p.length) t)
 refine vcs (let Q0:=w21 m p e t; True/\((!vpB m p)=true->false=Q0.1/\(1:Int)=Q0.2/\True)/\((!vpB m p)=false->True/\((!inB e (1:Int) (60:Int))=true->false=Q0.1/\(7:Int)=Q0.2/\True)/\((!inB e (1:Int) (60:Int))=false->((0:Int)<=(0:Int)/\(0:Int)<(↑m.length:Int))/\True/\((!inB t (0:Int) (↑(nL m (0:Nat)).length:Int))=true->false=Q0.1/\(7:Int)=Q0.2/\True)/\((!inB t (0:Int) (↑(nL m (0:Nat)).length:Int))=false->xc4 m p e t/\xe9 m p e t=Q0.1/\(0:Int)=Q0.2/\True)))) ?_
 have h7:vpB m p=true->(inB e 1 60 && inB t 0 (nL m 0).length)=false->(w21 m p e t).1=false/\(w21 m p e t).2=7:=λhv hb=>by grind [w21]
 refine⟨λhv=>by grind [w21],λhv=>⟨λhe=>?_,λhe=>⟨by have:=(Vp.of hv).msk.rows1; omega,λht=>?_,λht=>?_⟩⟩⟩
 ·grind
 ·grind
 ·have hs:w21 m p e t=(xe9 m p e t,0):=by grind [w21]
  rw[hs] at h ⊢
  exact⟨⟨⟨hv,(qf9.1 he).1,(qf9.1 he).2⟩,h rfl⟩,rfl,rfl⟩
open Go Go.RowKit Eng
abbrev tU64:Ty:=.int .u64
abbrev x2t:Ty:=.prod (.int .i64) (.int .u64)
theorem xs3 {x:Int} (h0:0<=x) (h1:x<=18446744073709551615):fits IntKind.u64 x:=by
 grind [fits,Go.IntWalk.u64_in]
def lil (x:Int):Prop:=0<=x/\x<=2000000000
theorem yc6 {a:Int} (h0:0<=a) (h1:a<18446744073709551616):IntKind.u64.wrap ((BitVec.ofInt 64 a &&& BitVec.ofInt 64 4294967295).toNat:Int)=a % 4294967296:=by
 have e1:(BitVec.ofInt 64 a).toNat=a.toNat:=by
  rw[BitVec.toNat_ofInt]
  omega
 have e2:(BitVec.ofInt 64 4294967295).toNat=2 ^ 32-1:=dc
 rw[BitVec.toNat_and,e1,e2,Nat.and_two_pow_sub_one_eq_mod]
 have e4:((a.toNat % 2 ^ 32:Nat):Int)=a % 4294967296:=ow
 rw[e4]
 exact Go.IntWalk.u64_in _ ow
theorem xc7 {a:Int} (h0:0<=a):a.fdiv 4294967296=a / 4294967296:=Int.fdiv_eq_ediv_of_nonneg _ dc
theorem x2u (n:Int):IntKind.u64.wrap n=n % 18446744073709551616:=rfl
def hiU (n:Int):Int:=n / 18446744073709551616
def loU (n:Int):Int:=n % 18446744073709551616
def spl (n:Int):Int × Int:=(hiU n,loU n)
abbrev yc7:qa8:=qe4 true none [tU64,tU64] [tU64,tU64] (λx=>(0<=x.1/\x.1<18446744073709551616)/\0<=x.2.1/\x.2.1<18446744073709551616) (λx=>((spl (x.1*x.2.1)).1,(spl (x.1*x.2.1)).2,()))
theorem w5j:Meets Tryz.prog 220 yc7:=by
 refine meets (yi7 [50] (SpecsOk.nil _)) Tryz.func220 rfl rfl (λ_ _=>none) (λ_=>by kernel_rfl) dc ?_
 rintro⟨x,y,⟨⟩⟩ h
 revert x y
 intro(x:Int) (y:Int) (h:(0<=x/\x<18446744073709551616)/\0<=y/\y<18446744073709551616)
 refine vcs ((0:Int)<=(32:Int)/\(0:Int)<=(32:Int)/\fits IntKind.u64 (IntKind.wrap IntKind.u64 (↑(BitVec.toNat (BitVec.ofInt (64:Nat) x &&& BitVec.ofInt (64:Nat) (4294967295:Int))):Int)*IntKind.wrap IntKind.u64 (↑(BitVec.toNat (BitVec.ofInt (64:Nat) y &&& BitVec.ofInt (64:Nat) (4294967295:Int))):Int))/\fits IntKind.u64 (Int.fdiv x (4294967296:Int)*IntKind.wrap IntKind.u64 (↑(BitVec.toNat (BitVec.ofInt (64:Nat) y &&& BitVec.ofInt (64:Nat) (4294967295:Int))):Int))/\(0:Int)<=(32:Int)/\fits IntKind.u64 (Int.fdiv x (4294967296:Int)*IntKind.wrap IntKind.u64 (↑(BitVec.toNat (BitVec.ofInt (64:Nat) y &&& BitVec.ofInt (64:Nat) (4294967295:Int))):Int)+Int.fdiv (IntKind.wrap IntKind.u64 (↑(BitVec.toNat (BitVec.ofInt (64:Nat) x &&& BitVec.ofInt (64:Nat) (4294967295:Int))):Int)*IntKind.wrap IntKind.u64 (↑(BitVec.toNat (BitVec.ofInt (64:Nat) y &&& BitVec.ofInt (64:Nat) (4294967295:Int))):Int)) (4294967296:Int))/\(0:Int)<=(32:Int)/\fits IntKind.u64 (IntKind.wrap IntKind.u64 (↑(BitVec.toNat (BitVec.ofInt (64:Nat) x &&& BitVec.ofInt (64:Nat) (4294967295:Int))):Int)*Int.fdiv y (4294967296:Int))/\fits IntKind.u64 (IntKind.wrap IntKind.u64 (↑(BitVec.toNat (BitVec.ofInt (64:Nat) (Int.fdiv x (4294967296:Int)*IntKind.wrap IntKind.u64 (↑(BitVec.toNat (BitVec.ofInt (64:Nat) y &&& BitVec.ofInt (64:Nat) (4294967295:Int))):Int)+Int.fdiv (IntKind.wrap IntKind.u64 (↑(BitVec.toNat (BitVec.ofInt (64:Nat) x &&& BitVec.ofInt (64:Nat) (4294967295:Int))):Int)*IntKind.wrap IntKind.u64 (↑(BitVec.toNat (BitVec.ofInt (64:Nat) y &&& BitVec.ofInt (64:Nat) (4294967295:Int))):Int)) (4294967296:Int)) &&& BitVec.ofInt (64:Nat) (4294967295:Int))):Int)+IntKind.wrap IntKind.u64 (↑(BitVec.toNat (BitVec.ofInt (64:Nat) x &&& BitVec.ofInt (64:Nat) (4294967295:Int))):Int)*Int.fdiv y (4294967296:Int))/\fits IntKind.u64 (Int.fdiv x (4294967296:Int)*Int.fdiv y (4294967296:Int))/\fits IntKind.u64 (Int.fdiv x (4294967296:Int)*Int.fdiv y (4294967296:Int)+Int.fdiv (Int.fdiv x (4294967296:Int)*IntKind.wrap IntKind.u64 (↑(BitVec.toNat (BitVec.ofInt (64:Nat) y &&& BitVec.ofInt (64:Nat) (4294967295:Int))):Int)+Int.fdiv (IntKind.wrap IntKind.u64 (↑(BitVec.toNat (BitVec.ofInt (64:Nat) x &&& BitVec.ofInt (64:Nat) (4294967295:Int))):Int)*IntKind.wrap IntKind.u64 (↑(BitVec.toNat (BitVec.ofInt (64:Nat) y &&& BitVec.ofInt (64:Nat) (4294967295:Int))):Int)) (4294967296:Int)) (4294967296:Int))/\(0:Int)<=(32:Int)/\fits IntKind.u64 (Int.fdiv x (4294967296:Int)*Int.fdiv y (4294967296:Int)+Int.fdiv (Int.fdiv x (4294967296:Int)*IntKind.wrap IntKind.u64 (↑(BitVec.toNat (BitVec.ofInt (64:Nat) y &&& BitVec.ofInt (64:Nat) (4294967295:Int))):Int)+Int.fdiv (IntKind.wrap IntKind.u64 (↑(BitVec.toNat (BitVec.ofInt (64:Nat) x &&& BitVec.ofInt (64:Nat) (4294967295:Int))):Int)*IntKind.wrap IntKind.u64 (↑(BitVec.toNat (BitVec.ofInt (64:Nat) y &&& BitVec.ofInt (64:Nat) (4294967295:Int))):Int)) (4294967296:Int)) (4294967296:Int)+Int.fdiv (IntKind.wrap IntKind.u64 (↑(BitVec.toNat (BitVec.ofInt (64:Nat) (Int.fdiv x (4294967296:Int)*IntKind.wrap IntKind.u64 (↑(BitVec.toNat (BitVec.ofInt (64:Nat) y &&& BitVec.ofInt (64:Nat) (4294967295:Int))):Int)+Int.fdiv (IntKind.wrap IntKind.u64 (↑(BitVec.toNat (BitVec.ofInt (64:Nat) x &&& BitVec.ofInt (64:Nat) (4294967295:Int))):Int)*IntKind.wrap IntKind.u64 (↑(BitVec.toNat (BitVec.ofInt (64:Nat) y &&& BitVec.ofInt (64:Nat) (4294967295:Int))):Int)) (4294967296:Int)) &&& BitVec.ofInt (64:Nat) (4294967295:Int))):Int)+IntKind.wrap IntKind.u64 (↑(BitVec.toNat (BitVec.ofInt (64:Nat) x &&& BitVec.ofInt (64:Nat) (4294967295:Int))):Int)*Int.fdiv y (4294967296:Int)) (4294967296:Int))/\Int.fdiv x (4294967296:Int)*Int.fdiv y (4294967296:Int)+Int.fdiv (Int.fdiv x (4294967296:Int)*IntKind.wrap IntKind.u64 (↑(BitVec.toNat (BitVec.ofInt (64:Nat) y &&& BitVec.ofInt (64:Nat) (4294967295:Int))):Int)+Int.fdiv (IntKind.wrap IntKind.u64 (↑(BitVec.toNat (BitVec.ofInt (64:Nat) x &&& BitVec.ofInt (64:Nat) (4294967295:Int))):Int)*IntKind.wrap IntKind.u64 (↑(BitVec.toNat (BitVec.ofInt (64:Nat) y &&& BitVec.ofInt (64:Nat) (4294967295:Int))):Int)) (4294967296:Int)) (4294967296:Int)+Int.fdiv (IntKind.wrap IntKind.u64 (↑(BitVec.toNat (BitVec.ofInt (64:Nat) (Int.fdiv x (4294967296:Int)*IntKind.wrap IntKind.u64 (↑(BitVec.toNat (BitVec.ofInt (64:Nat) y &&& BitVec.ofInt (64:Nat) (4294967295:Int))):Int)+Int.fdiv (IntKind.wrap IntKind.u64 (↑(BitVec.toNat (BitVec.ofInt (64:Nat) x &&& BitVec.ofInt (64:Nat) (4294967295:Int))):Int)*IntKind.wrap IntKind.u64 (↑(BitVec.toNat (BitVec.ofInt (64:Nat) y &&& BitVec.ofInt (64:Nat) (4294967295:Int))):Int)) (4294967296:Int)) &&& BitVec.ofInt (64:Nat) (4294967295:Int))):Int)+IntKind.wrap IntKind.u64 (↑(BitVec.toNat (BitVec.ofInt (64:Nat) x &&& BitVec.ofInt (64:Nat) (4294967295:Int))):Int)*Int.fdiv y (4294967296:Int)) (4294967296:Int)=(spl (x*y)).1/\IntKind.wrap IntKind.u64 (x*y)=(spl (x*y)).2/\True) ?_
 obtain⟨⟨x0,x1⟩,y0,y1⟩:=h
 simp only[yc6 x0 x1,yc6 y0 y1,xc7 x0,xc7 y0]
 have hmul:∀u v:Int,0<=u->u<=4294967295->0<=v->v<=4294967295->0<=u*v/\u*v<=18446744065119617025:=λu v a1 a2 a3 a4=>⟨Int.mul_nonneg a1 a3,Int.le_trans (Int.mul_le_mul a2 a4 a3 dc) dc⟩
 have P:=hmul (x % 4294967296) (y % 4294967296) ow ow ow ow
 have Q:=hmul (x / 4294967296) (y % 4294967296) ow ow ow ow
 have R:=hmul (x % 4294967296) (y / 4294967296) ow ow ow ow
 have S:=hmul (x / 4294967296) (y / 4294967296) ow ow ow ow
 have hxy:x*y=(x / 4294967296)*(y / 4294967296)*18446744073709551616+((x / 4294967296)*(y % 4294967296)+(x % 4294967296)*(y / 4294967296))*4294967296+(x % 4294967296)*(y % 4294967296):=by
  have e1:x=4294967296*(x / 4294967296)+x % 4294967296:=ow
  have e2:y=4294967296*(y / 4294967296)+y % 4294967296:=ow
  generalize x / 4294967296=a at e1 ⊢
  generalize x % 4294967296=b at e1 ⊢
  generalize y / 4294967296=c at e2 ⊢
  generalize y % 4294967296=d at e2 ⊢
  rw[e1,e2]
  grind
 rw[x2u (x*y)]
 unfold spl hiU loU
 generalize x*y=xy at hxy ⊢
 generalize x % 4294967296*(y % 4294967296)=p at P hxy ⊢
 generalize x / 4294967296*(y % 4294967296)=q at Q hxy ⊢
 generalize x % 4294967296*(y / 4294967296)=r at R hxy ⊢
 generalize x / 4294967296*(y / 4294967296)=s at S hxy ⊢
 have t0:0<=q+p / 4294967296:=ow
 have t1:q+p / 4294967296<18446744073709551616:=ow
 simp only[xc7 P.1,yc6 t0 t1,xc7 t0]
 have u0:0<=(q+p / 4294967296) % 4294967296+r:=ow
 simp only[xc7 u0]
 refine⟨xs3 ow ow,xs3 ow ow,xs3 ow ow,xs3 ow ow,xs3 ow ow,xs3 ow ow,xs3 ow ow,xs3 ow ow,?_,trivial⟩
 (try dsimp only); omega
abbrev yc8:qa8:=qe4 true none [qb9] [tU64] (λx=>qd8 BIG x.1) (λx=>((x.1.natAbs:Int),()))
theorem w5k:Meets Tryz.prog 221 yc8:=by
 refine meets (yi7 [6,7] (SpecsOk.nil _)) Tryz.func221 rfl rfl (λ_ _=>none) (λ_=>by kernel_rfl) dc ?_
 rintro⟨x,⟨⟩⟩ h
 revert x
 intro(x:Int) (h:qd8 BIG x)
 refine vcs ((decide (x<(0:Int))=true->IntKind.wrap IntKind.u64 ((0:Int)-IntKind.wrap IntKind.u64 x)=(↑(Int.natAbs x):Int))/\(decide (x<(0:Int))=false->fits IntKind.u64 x/\x=(↑(Int.natAbs x):Int))) ?_
 have hB:BIG=4000000000000000000:=rfl
 unfold qd8 at h
 refine⟨λhl=>?_,λhl=>⟨xs3 ow ow,ow⟩⟩
 rw[x2u,x2u]; omega
structure qt8 (a b:Int):Prop where
 fa:qd8 BIG a
 fb:qd8 BIG b
 sg:decide (a<0)=decide (b<0)
abbrev yc9:qa8:=qe4 true none [qb9,qb9] [x2t] (λx=>qt8 x.1 x.2.1) (λx=>(spl (x.1*x.2.1),()))
theorem w5l:Meets Tryz.prog 222 yc9:=by
 refine mt0 (SpecsOk.cons w5j (SpecsOk.cons w5k (SpecsOk.nil _))) Tryz.func222 ?_
 rintro⟨x,y,⟨⟩⟩ h
 revert x y
 intro(x:Int) (y:Int) (h:qt8 x y)
 refine vcs (let Q0:=Int.natAbs y; let Q1:=Int.natAbs x; qd8 BIG x/\qd8 BIG y/\(((0:Ty.den tU64)<=(↑Q1:Int)/\(↑Q1:Int)<(18446744073709551616:Ty.den tU64))/\(0:Ty.den tU64)<=(↑Q0:Int)/\(↑Q0:Int)<(18446744073709551616:Ty.den tU64))/\fits .i64 (spl ((↑Q1:Int)*(↑Q0:Int))).1/\((decide (x<(0:Int)) != decide (y<(0:Int)))=true->False)/\((decide (x<(0:Int)) != decide (y<(0:Int)))=false->(spl ((↑Q1:Int)*(↑Q0:Int))).1=(spl (x*y)).1/\(spl ((↑Q1:Int)*(↑Q0:Int))).2=(spl (x*y)).2/\True)) ?_
 have hB:BIG=4000000000000000000:=rfl
 obtain⟨hx,hy,hs⟩:=h
 have e:(x.natAbs:Int)*(y.natAbs:Int)=x*y:=by
  rw[decide_eq_decide] at hs
  rcases zdi x 0 with q | q
  ·rw[show((x.natAbs:Nat):Int)=-x by omega,show((y.natAbs:Nat):Int)=-y by omega,Int.neg_mul_neg]
  ·rw[show((x.natAbs:Nat):Int)=x by omega,show((y.natAbs:Nat):Int)=y by omega]
 have hb:0<=x*y/\x*y<=16000000000000000000000000000000000000:=by
  unfold qd8 at hx hy
  rw[<- e]
  exact⟨Int.mul_nonneg ow ow,Int.le_trans (Int.mul_le_mul (show(x.natAbs:Int)<=4000000000000000000 by omega) (show(y.natAbs:Int)<=4000000000000000000 by omega) ow dc) dc⟩
 rw[e]
 unfold spl hiU loU
 refine⟨hx,hy,?_,qa7 (by(try dsimp only); omega) (by(try dsimp only); omega),λq=>absurd hs q,λ_=>⟨rfl,rfl⟩⟩
 unfold qd8 at hx hy
 omega
def w22 (a b:Int × Int):Int:=if a.1=b.1/\a.2=b.2 then 0 else if a.1<b.1\/a.1=b.1/\a.2<b.2 then -1 else 1
abbrev yd0:qa8:=qe4 true none [x2t,x2t] [qb9] (λ_=>True) (λx=>(w22 x.1 x.2.1,()))
theorem w5m:Meets Tryz.prog 218 yd0:=by
 refine mt0 (SpecsOk.nil _) Tryz.func218 ?_
 rintro⟨⟨a,b⟩,⟨c,d⟩,⟨⟩⟩ -
 revert a b c d
 intro(a:Int) (b:Int) (c:Int) (d:Int)
 refine vcs (((a==c && b==d)=true->(0:Int)=w22 (a,b) (c,d))/\((a==c && b==d)=false->(decide (a<c)=true->(-1:Int)=w22 (a,b) (c,d))/\(decide (a<c)=false->((a==c)=true->(decide (b<d)=true->(-1:Int)=w22 (a,b) (c,d))/\(decide (b<d)=false->(1:Int)=w22 (a,b) (c,d)))/\((a==c)=false->(1:Int)=w22 (a,b) (c,d))))) ?_
 rw[zam,beq_iff_eq,beq_iff_eq,zdo,ne_eq,zam,beq_iff_eq,beq_iff_eq]
 simp_all [w22,if_pos,if_neg]
def xc8 (a b:Int × Int):Int:=if a.1*b.2=b.1*a.2 then 0 else if a.1*b.2<b.1*a.2 then -1 else 1
structure q4y (a:Int × Int):Prop where
 n:lil a.1
 d:lil a.2
 pos:1<=a.2
abbrev yd1:qa8:=qe4 true none [qy8,qy8] [qb9] (λx=>q4y x.1/\q4y x.2.1) (λx=>(xc8 x.1 x.2.1,()))
def dn (d:Int):Int:=if d<1 then 1 else d
def xy3 (a b:Int × Int):Int:=xc8 (a.1,dn a.2) (b.1,dn b.2)
structure CmP (a:Int × Int):Prop where
 n0:0<=a.1
 n1:a.1<=10000000000
 d0:0<=a.2
 d1:a.2<=2000000000
abbrev yd2:qa8:=qe4 true none [qy8,qy8] [qb9] (λx=>CmP x.1/\CmP x.2.1) (λx=>(xy3 x.1 x.2.1,()))
theorem xs4 (u v:Int):w22 (spl u) (spl v)=if u=v then 0 else if u<v then -1 else 1:=by
 unfold w22 spl hiU loU
 dsimp only
 by_cases h:u=v
 ·subst h; rw[zap ⟨rfl,rfl⟩,zap rfl]
 ·rw[zai ow,zai h]
  by_cases q:u<v
  ·rw[zap ow,zap q]
  ·rw[zai ow,zai q]
theorem CmP.prd {a:Int × Int} (ha:CmP a) {d:Int} (h0:0<=d) (h1:d<=2000000000):qt8 a.1 d:=by
 obtain⟨a1,a2,a3,a4⟩:=ha
 have hB:BIG=4000000000000000000:=rfl
 refine⟨?_,?_,?_⟩
 ·unfold qd8; omega
 ·unfold qd8; omega
 ·rw[zbr ow,zbr ow]
theorem wy7:Meets Tryz.prog 173 yd2:=by
 refine mt0 (SpecsOk.cons w5l (SpecsOk.cons w5m (SpecsOk.nil _))) Tryz.func173 ?_
 rintro⟨⟨a,b⟩,⟨c,d⟩,⟨⟩⟩ h
 revert a b c d
 intro(a:Int) (b:Int) (c:Int) (d:Int) (h:CmP (a,b)/\CmP (c,d))
 refine vcs (let Q0:=((spl (c*b)).1,(spl (c*b)).2); let Q1:=((spl (a*d)).1,(spl (a*d)).2); (decide (b<(1:Int))=true->(decide (d<(1:Int))=true->qt8 a (1:Int)/\qt8 c (1:Int)/\True/\w22 ((spl (a*(1:Int))).1,(spl (a*(1:Int))).2) ((spl (c*(1:Int))).1,(spl (c*(1:Int))).2)=xy3 (a,b) (c,d))/\(decide (d<(1:Int))=false->qt8 a d/\qt8 c (1:Int)/\True/\w22 Q1 ((spl (c*(1:Int))).1,(spl (c*(1:Int))).2)=xy3 (a,b) (c,d)))/\(decide (b<(1:Int))=false->(decide (d<(1:Int))=true->qt8 a (1:Int)/\qt8 c b/\True/\w22 ((spl (a*(1:Int))).1,(spl (a*(1:Int))).2) Q0=xy3 (a,b) (c,d))/\(decide (d<(1:Int))=false->qt8 a d/\qt8 c b/\True/\w22 Q1 Q0=xy3 (a,b) (c,d)))) ?_
 obtain⟨h1,h2⟩:=h
 have key:∀x y:Int,x=dn b->y=dn d->w22 ((spl (a*y)).1,(spl (a*y)).2) ((spl (c*x)).1,(spl (c*x)).2)=xy3 (a,b) (c,d):=λx y hx hy=>by
  subst hx hy
  exact xs4 _ _
 have b1:b<1->1=dn b:=λq=>(zap q).symm
 have b2:1<=b->b=dn b:=λq=>(zai ow).symm
 have d1:d<1->1=dn d:=λq=>(zap q).symm
 have d2:1<=d->d=dn d:=λq=>(zai ow).symm
 have e1:qt8 a 1:=h1.prd dc dc
 have e2:qt8 c 1:=h2.prd dc dc
 have e3:qt8 a d:=h1.prd h2.d0 h2.d1
 have e4:qt8 c b:=h2.prd h1.d0 h1.d1
 exact⟨λp=>⟨λq=>⟨e1,e2,key _ _ (b1 p) (d1 q)⟩,λq=>⟨e3,e2,key _ _ (b1 p) (d2 q)⟩⟩,λp=>⟨λq=>⟨e1,e4,key _ _ (b2 p) (d1 q)⟩,λq=>⟨e3,e4,key _ _ (b2 p) (d2 q)⟩⟩⟩
theorem w5n:Meets Tryz.prog 123 yd1:=by
 refine mt0 (SpecsOk.cons wy7 (SpecsOk.nil _)) Tryz.func123 ?_
 rintro⟨⟨a,b⟩,⟨c,d⟩,⟨⟩⟩ h
 revert a b c d
 intro(a:Int) (b:Int) (c:Int) (d:Int) (h:q4y (a,b)/\q4y (c,d))
 refine vcs ((CmP (a,b)/\CmP (c,d))/\xy3 (a,b) (c,d)=xc8 (a,b) (c,d)) ?_
 obtain⟨⟨⟨a0,a1⟩,⟨b0,b1⟩,b2⟩,⟨c0,c1⟩,⟨d0,d1⟩,d2⟩:=h
 dsimp only at a0 a1 b0 b1 b2 c0 c1 d0 d1 d2
 refine⟨⟨⟨a0,by dsimp only; omega,b0,b1⟩,c0,by dsimp only; omega,d0,d1⟩,?_⟩
 unfold xy3 dn
 dsimp only
 rw[zai ow,zai ow]
end Go.Proofs.YtnchigbbjajiiaaGreat
