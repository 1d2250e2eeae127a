/- The bound by coherence is at most Sure: plain mathematics. No condition. -/
import Derived.Test.YtdibdlelmkcccaaGreatKR4
import Derived.Test.YtdibdlelmkcccaaGreatKT2
import Derived.Test.YtdibdlelmkcccaaGreatKT1
set_option linter.unusedVariables false
set_option linter.unusedSimpArgs false
namespace Go.Proofs.YtdibdlelmkcccaaGreat.K
open Go Go.RowKit Eng Ls
theorem wg9:qd3 Tryz.prog 19 (sMB validB):=wc0 ⟨_,_,Tryz.func19,rfl,rfl⟩ λw m x vs hm _ hx=>by
 obtain⟨u,us,rfl,h1,h2⟩:=hx
 obtain rfl:us=[]:=h2
 obtain⟨A,c,rfl,hs⟩:=w9b hm h1
 exact(q4k A _ c _ w hs).mono λe w' ⟨h1,h2⟩=>⟨_,h1,by subst h2; exact Below.refl _ _,[_],rfl,_,_,rfl,rfl,rfl⟩
def x59:qc0:=qf8 true none [tMask,tInt,tInt] [.prod tInt tInt,tInt] (λ_=>True) (λx=>((w2i x.1 x.2.1 x.2.2.1,q3l x.1 x.2.1 x.2.2.1),qh6 x.1 x.2.1 x.2.2.1,()))
theorem q7x:qd3 Tryz.prog 84 x59:=wc0 ⟨_,_,Tryz.func84,rfl,rfl⟩ λw m x vs hm _ hx=>by
 obtain⟨u,us,rfl,h1,u',us',rfl,h2,u'',us'',rfl,h3,h4⟩:=hx
 obtain rfl:us''=[]:=h4
 obtain⟨A,c,rfl,hs⟩:=w9b hm h1
 obtain rfl:u'=.int .i64 x.2.1:=h2
 obtain rfl:u''=.int .i64 x.2.2.1:=h3
 exact(wg8 A _ c _ _ _ w hs).mono λe w' ⟨h1,h2⟩=>⟨_,h1,h2,[_,_],rfl,_,_,rfl,⟨_,rfl,[_],[_],rfl,rfl,rfl⟩,_,_,rfl,rfl,rfl⟩
def w4l (j n:Nat):List (Nat × Nat):=(List.range n).map λi=>(i,j)
def wx6:Nat->List (Nat × Nat)
 | 0=>[]
 | j+1=>wx6 j++w4l j j
def q9q (m:List (List Int)) (l:List (Nat × Nat)):Option (Int × Int):=l.foldl (qm6 m) (some (0,1))
def rcK (m:List (List Int)) (j i:Nat):Option (Int × Int):=q9q m (wx6 j++w4l j i)
def rcL (m:List (List Int)):Option (Int × Int):=q9q m (wx6 (nthL m 0).length)
def rcE (m:List (List Int)):Int:=if validB m=false then 1 else if(nthL m 0).length<2 then 8 else if(rcL m).isNone then 8 else 0
def rcR (m:List (List Int)):Int × Int:=if rcE m=0 then(rcL m).getD (0,0) else(0,0)
def sRCoh:qc0:=qf8 true none [tMask] [.prod tInt tInt,tInt] (λ_=>True) (λx=>(rcR x.1,rcE x.1,()))
def x2k (m:List (List Int)):Nat->Option Inv
 | 0=>some (Inv.of [24] 2 (λs:Nat × (Int × Int)=>[(24,.lit (.int .i64 s.1))]) (λs=>[.box 42 (.cons (.lit (.int .i64 0)) (.cons (.lit (.int .i64 0)) .nil)),.box 42 (.cons (.lit (.int .i64 s.2.1)) (.cons (.lit (.int .i64 s.2.2)) .nil))]) (λs=>s.1<=(nthL m 0).length/\rcK m s.1 0=some s.2) (λs=>(nthL m 0).length-s.1))
 | 1=>some ⟨Nat,Nat × (Int × Int),[28],2,λ_ s=>[(28,.lit (.int .i64 s.1))],λ_ s=>[.box 42 (.cons (.lit (.int .i64 0)) (.cons (.lit (.int .i64 0)) .nil)),.box 42 (.cons (.lit (.int .i64 s.2.1)) (.cons (.lit (.int .i64 s.2.2)) .nil))],λj s=>s.1<=j/\rcK m j s.1=some s.2,λj s=>j-s.1⟩
 | _=>none
theorem w9g (m:List (List Int)) (l:List (Nat × Nat)) (q:Nat × Nat):q9q m (l++[q])=qm6 m (q9q m l) q:=by simp[q9q]
theorem w9h {m:List (List Int)} {l:List (Nat × Nat)} (h:q9q m l=none) (r:List (Nat × Nat)):q9q m (l++r)=none:=by
 unfold q9q at h ⊢
 rw[List.foldl_append,h]
 induction r with
 | nil=>rfl
 | cons q r ih=>exact ih
theorem wq5 (j i:Nat):w4l j (i+1)=w4l j i++[(i,j)]:=by simp[w4l,List.range_succ]
theorem xi6 {j p:Nat} (h:j<=p):∃r,wx6 p=wx6 j++r:=by
 induction p with
 | zero=>
  obtain rfl:j=0:=by omega
  exact⟨[],rfl⟩
 | succ p ih=>
  by_cases e:j=p+1
  ·subst e; exact⟨[],by simp⟩
  ·obtain⟨r,hr⟩:=ih (by omega)
   exact⟨r++w4l p p,by rw[wx6,hr,List.append_assoc]⟩
theorem xi7 {j i n:Nat} (h:i<=n):∃r,w4l j n=w4l j i++r:=by
 induction n with
 | zero=>
  obtain rfl:i=0:=by omega
  exact⟨[],rfl⟩
 | succ n ih=>
  by_cases e:i=n+1
  ·subst e; exact⟨[],by simp⟩
  ·obtain⟨r,hr⟩:=ih (by omega)
   exact⟨r++[(n,j)],by rw[wq5,hr,List.append_assoc]⟩
theorem xi8 {m:List (List Int)} {j i:Nat} (hi:i<=j) (hj:j<(nthL m 0).length) (h:rcK m j i=none):rcL m=none:=by
 obtain⟨r,hr⟩:=xi6 (j:=j+1) (p:=(nthL m 0).length) hj
 obtain⟨r2,hr2⟩:=xi7 (j:=j) hi
 unfold rcL
 have e:wx6 j++(w4l j i++r2)++r=(wx6 j++w4l j i)++(r2++r):=by simp
 rw[hr,wx6,hr2,e]
 exact w9h h _
theorem w2j (m:List (List Int)) (j i:Nat):rcK m j (i+1)=qm6 m (rcK m j i) (i,j):=by
 unfold rcK
 rw[wq5,<- List.append_assoc,w9g]
theorem w2k (m:List (List Int)) (j:Nat):rcK m j j=rcK m (j+1) 0:=by
 unfold rcK
 simp[wx6,w4l]
theorem xi9 {m:List (List Int)} (h:IsMask m) {j:Nat} (hj:j<(nthL m 0).length):Sm (colA m j):=q7w h (j:=j) hj
theorem w4m {m:List (List Int)} (h:IsMask m) {i j:Nat} (hi:i<(nthL m 0).length) (hj:j<(nthL m 0).length) {o:Option (Int × Int)} (ho:∀b,o=some b->(0<=b.1/\b.1<=100)/\0<=b.2/\b.2<=100):∀b,qm6 m o (i,j)=some b->(0<=b.1/\b.1<=100)/\0<=b.2/\b.2<=100:=by
 intro b hb
 cases o with
 | none=>cases hb
 | some b0=>
  simp only[qm6,Option.bind_some] at hb
  split at hb
  ·cases hb
  ·injection hb with hb
   subst hb
   split
   ·exact wg6 (xi9 h hi) (xi9 h hj)
   ·exact ho b0 rfl
theorem wx7 {m:List (List Int)} (h:IsMask m) {j:Nat} (hj:j<(nthL m 0).length) (h0:∀b,rcK m j 0=some b->(0<=b.1/\b.1<=100)/\0<=b.2/\b.2<=100):∀i,i<=j->∀b,rcK m j i=some b->(0<=b.1/\b.1<=100)/\0<=b.2/\b.2<=100
 | 0,_=>h0
 | i+1,hi=>by
  rw[w2j]
  exact w4m h (by omega) hj (wx7 h hj h0 i (by omega))
theorem w9i {m:List (List Int)} (h:IsMask m):∀j,j<=(nthL m 0).length->∀b,rcK m j 0=some b->(0<=b.1/\b.1<=100)/\0<=b.2/\b.2<=100
 | 0,_,b,hb=>by
  have hb:some (0,1)=some b:=hb
  injection hb with hb
  subst hb
  simp
 | j+1,hj,b,hb=>by
  rw[<- w2k] at hb
  exact wx7 h (by omega) (w9i h j (by omega)) j (Nat.le_refl _) b hb
theorem x2l {m:List (List Int)} (h:IsMask m) {i j:Nat} (hv:validB m=true) (hi:i<(nthL m 0).length) (hj:j<(nthL m 0).length) :
  qh6 m i j=(if(likP (colA m i) (colA m j)).2=true then 0 else 8)/\((likP (colA m i) (colA m j)).2=true->w2i m i j=(likP (colA m i) (colA m j)).1.1/\q3l m i j=(likP (colA m i) (colA m j)).1.2):=by
 have hn:qs4 m [(i:Int),(j:Int)]=0:=by
  unfold qs4
  rw[if_pos hv,if_pos]
  simp only[List.all_cons,List.all_nil,Bool.and_true,Bool.and_eq_true,inB_iff]
  omega
 have hc:∀k:Nat,qo4 m (k:Int).toNat=colA m k:=λk=>rfl
 have e1:qh6 m i j=if likeD (colA m i) (colA m j)=0 then 8 else 0:=by unfold qh6; rw[if_pos hn,hc,hc]
 unfold likP
 by_cases h0:likeD (colA m i) (colA m j)=0
 ·rw[if_pos h0,e1,if_pos h0]
  exact⟨rfl,λhh=>by cases hh⟩
 ·rw[if_neg h0]
  have e2:qh6 m i j=0:=by rw[e1,if_neg h0]
  refine⟨by rw[e2]; rfl,λ_=>?_⟩
  unfold w2i q3l
  rw[if_pos e2,if_pos e2,hc,hc]
  exact⟨rfl,rfl⟩
theorem rCoherence_meets:qd3 Tryz.prog 46 sRCoh:=by
 refine meets (snd (SpecsOk.cons wg9 (SpecsOk.cons q7x (SpecsOk.nil _))) []) Tryz.func46 rfl rfl (λx=>x2k x.1) (λ_=>by kernel_rfl) (by decide) ?_
 rintro⟨m,⟨⟩⟩ -
 revert m
 intro(m:List (List Int))
 refine @qd8 _ (True/\((!validB m)=true->((0:Int)=Prod.fst (rcR m)/\(0:Int)=Prod.snd (rcR m)/\True)/\(1:Int)=rcE m/\True)/\((!validB m)=false->((0:Int)<=(0:Int)/\(0:Int)<(↑(List.length m):Int))/\(decide ((↑(List.length (qa1 (Ty.list (Ty.int .i64)) m (0:Nat))):Int)<(2:Int))=true->((0:Int)=Prod.fst (rcR m)/\(0:Int)=Prod.snd (rcR m)/\True)/\(8:Int)=rcE m/\True)/\(decide ((↑(List.length (qa1 (Ty.list (Ty.int .i64)) m (0:Nat))):Int)<(2:Int))=false->((0:Int)<=(0:Int)/\(0:Int)<(↑(List.length m):Int))/\∃(v2:Unit),∃(v3:Nat × Int × Int),(Prod.fst v3<=List.length (Ls.nthL m (0:Nat))/\rcK m (Prod.fst v3) (0:Nat)=some (Prod.snd v3))/\(((0:Int)=(↑(Prod.fst v3):Int)/\True)/\((0:Int)=(0:Int)/\(0:Int)=(0:Int)/\True)/\((0:Int)=Prod.fst (Prod.snd v3)/\(1:Int)=Prod.snd (Prod.snd v3)/\True)/\True)/\∀(v4:Nat × Int × Int),Prod.fst v4<=List.length (Ls.nthL m (0:Nat))/\rcK m (Prod.fst v4) (0:Nat)=some (Prod.snd v4)->(decide ((↑(Prod.fst v4):Int)<(↑(List.length (qa1 (Ty.list (Ty.int .i64)) m (0:Nat))):Int))=true->∃(v7:Nat),∃(v8:Nat × Int × Int),(Prod.fst v8<=v7/\rcK m v7 (Prod.fst v8)=some (Prod.snd v8))/\(((0:Int)=(↑(Prod.fst v8):Int)/\True)/\((0:Int)=(0:Int)/\(0:Int)=(0:Int)/\True)/\(Prod.fst (Prod.snd v4)=Prod.fst (Prod.snd v8)/\Prod.snd (Prod.snd v4)=Prod.snd (Prod.snd v8)/\True)/\True)/\∀(v9:Nat × Int × Int),Prod.fst v9<=v7/\rcK m v7 (Prod.fst v9)=some (Prod.snd v9)->(decide ((↑(Prod.fst v9):Int)<(↑(Prod.fst v4):Int))=true->True/\((qh6 m (↑(Prod.fst v9):Int) (↑(Prod.fst v4):Int) != (0:Int))=true->((0:Int)=Prod.fst (rcR m)/\(0:Int)=Prod.snd (rcR m)/\True)/\qh6 m (↑(Prod.fst v9):Int) (↑(Prod.fst v4):Int)=rcE m/\True)/\((qh6 m (↑(Prod.fst v9):Int) (↑(Prod.fst v4):Int) != (0:Int))=false->fits .i64 (w2i m (↑(Prod.fst v9):Int) (↑(Prod.fst v4):Int)*Prod.snd (Prod.snd v9))/\fits .i64 (Prod.fst (Prod.snd v9)*q3l m (↑(Prod.fst v9):Int) (↑(Prod.fst v4):Int))/\(decide (Prod.fst (Prod.snd v9)*q3l m (↑(Prod.fst v9):Int) (↑(Prod.fst v4):Int)<w2i m (↑(Prod.fst v9):Int) (↑(Prod.fst v4):Int)*Prod.snd (Prod.snd v9))=true->fits .i64 ((↑(Prod.fst v9):Int)+(1:Int))/\∃(v14:Nat × Int × Int),(Prod.fst v14<=v7/\rcK m v7 (Prod.fst v14)=some (Prod.snd v14))/\v7-Prod.fst v14<v7-Prod.fst v9/\((↑(Prod.fst v9):Int)+(1:Int)=(↑(Prod.fst v14):Int)/\True)/\((0:Int)=(0:Int)/\(0:Int)=(0:Int)/\True)/\(w2i m (↑(Prod.fst v9):Int) (↑(Prod.fst v4):Int)=Prod.fst (Prod.snd v14)/\q3l m (↑(Prod.fst v9):Int) (↑(Prod.fst v4):Int)=Prod.snd (Prod.snd v14)/\True)/\True)/\(decide (Prod.fst (Prod.snd v9)*q3l m (↑(Prod.fst v9):Int) (↑(Prod.fst v4):Int)<w2i m (↑(Prod.fst v9):Int) (↑(Prod.fst v4):Int)*Prod.snd (Prod.snd v9))=false->fits .i64 ((↑(Prod.fst v9):Int)+(1:Int))/\∃(v14:Nat × Int × Int),(Prod.fst v14<=v7/\rcK m v7 (Prod.fst v14)=some (Prod.snd v14))/\v7-Prod.fst v14<v7-Prod.fst v9/\((↑(Prod.fst v9):Int)+(1:Int)=(↑(Prod.fst v14):Int)/\True)/\((0:Int)=(0:Int)/\(0:Int)=(0:Int)/\True)/\(Prod.fst (Prod.snd v9)=Prod.fst (Prod.snd v14)/\Prod.snd (Prod.snd v9)=Prod.snd (Prod.snd v14)/\True)/\True)))/\(decide ((↑(Prod.fst v9):Int)<(↑(Prod.fst v4):Int))=false->fits .i64 ((↑(Prod.fst v4):Int)+(1:Int))/\∃(v12:Nat × Int × Int),(Prod.fst v12<=List.length (Ls.nthL m (0:Nat))/\rcK m (Prod.fst v12) (0:Nat)=some (Prod.snd v12))/\List.length (Ls.nthL m (0:Nat))-Prod.fst v12<List.length (Ls.nthL m (0:Nat))-Prod.fst v4/\((↑(Prod.fst v4):Int)+(1:Int)=(↑(Prod.fst v12):Int)/\True)/\((0:Int)=(0:Int)/\(0:Int)=(0:Int)/\True)/\(Prod.fst (Prod.snd v9)=Prod.fst (Prod.snd v12)/\Prod.snd (Prod.snd v9)=Prod.snd (Prod.snd v12)/\True)/\True))/\(decide ((↑(Prod.fst v4):Int)<(↑(List.length (qa1 (Ty.list (Ty.int .i64)) m (0:Nat))):Int))=false->(Prod.fst (Prod.snd v4)=Prod.fst (rcR m)/\Prod.snd (Prod.snd v4)=Prod.snd (rcR m)/\True)/\(0:Int)=rcE m/\True)))) (by kernel_rfl) ?_
 refine⟨trivial,λhv=>?_,λhv=>?_⟩
 ·have hv:validB m=false:=by simpa using hv
  have e:rcE m=1:=by simp[rcE,hv]
  have e2:rcR m=(0,0):=by simp[rcR,e]
  rw[e,e2]
  exact⟨⟨rfl,rfl,trivial⟩,rfl,trivial⟩
 have hv:validB m=true:=by simpa using hv
 have hm:=IsMask.of hv
 have hr1:=hm.rows1
 have hp10:=hm.pix10
 have hnn:qa1 (.list (.int .i64)) m 0=nthL m 0:=rfl
 rw[hnn]
 refine⟨⟨by omega,by omega⟩,λh2=>?_,λh2=>?_⟩
 ·have h2:(nthL m 0).length<2:=by have:=of_decide_eq_true h2; omega
  have e:rcE m=8:=by unfold rcE; rw[if_neg (by simp[hv]),if_pos h2]
  have e2:rcR m=(0,0):=by simp[rcR,e]
  rw[e,e2]
  exact⟨⟨rfl,rfl,trivial⟩,rfl,trivial⟩
 have h2:¬(nthL m 0).length<2:=by have:=of_decide_eq_false h2; omega
 have hE:rcE m=if(rcL m).isNone then 8 else 0:=by unfold rcE; rw[if_neg (by simp[hv]),if_neg h2]
 refine⟨⟨by omega,by omega⟩,(),(0,(0,1)),⟨Nat.zero_le _,rfl⟩,⟨⟨rfl,trivial⟩,⟨rfl,rfl,trivial⟩,⟨rfl,rfl,trivial⟩,trivial⟩,?_⟩
 rintro⟨j,b⟩ ⟨hj,hb⟩
 have hj:j<=(nthL m 0).length:=hj
 have hb:rcK m j 0=some b:=hb
 refine⟨λhlt=>?_,λhge=>?_⟩
 ·have hlt:j<(nthL m 0).length:=by have:=of_decide_eq_true hlt; dsimp only at this; omega
  refine⟨j,(0,b),⟨Nat.zero_le _,hb⟩,⟨⟨rfl,trivial⟩,⟨rfl,rfl,trivial⟩,⟨rfl,rfl,trivial⟩,trivial⟩,?_⟩
  rintro⟨i,c⟩ ⟨hi,hc⟩
  have hi:i<=j:=hi
  have hc:rcK m j i=some c:=hc
  refine⟨λhil=>?_,λhil=>?_⟩
  ·have hil:i<j:=by have:=of_decide_eq_true hil; dsimp only at this; omega
   obtain⟨l1,l2⟩:=x2l hm hv (i:=i) (j:=j) (by omega) hlt
   have hst:=w2j m j i
   have h6:=wx7 hm hlt (w9i hm j hj) i hi c hc
   have h5:=wg6 (xi9 hm (j:=i) (by omega)) (xi9 hm hlt)
   rw[hc] at hst
   simp only[qm6,Option.bind_some] at hst
   dsimp only
   refine⟨trivial,λhl=>?_,λhl=>?_⟩
   ·have hl0:(likP (colA m i) (colA m j)).2=false:=by
     cases hz:(likP (colA m i) (colA m j)).2 with
     | false=>rfl
     | true=>rw[hz] at l1; rw[l1] at hl; simp at hl
    rw[hl0] at hst l1
    have e:rcE m=8:=by rw[hE,xi8 (i:=i+1) (by omega) hlt hst]; rfl
    have e2:rcR m=(0,0):=by simp[rcR,e]
    rw[e,e2,l1]
    exact⟨⟨rfl,rfl,trivial⟩,rfl,trivial⟩
   ·have hl0:(likP (colA m i) (colA m j)).2=true:=by
     cases hz:(likP (colA m i) (colA m j)).2 with
     | true=>rfl
     | false=>rw[hz] at l1; rw[l1] at hl; simp at hl
    obtain⟨n1,n2⟩:=l2 hl0
    rw[n1,n2]
    rw[hl0] at hst
    simp only at hst
    generalize likP (colA m i) (colA m j)=z at *
    have b1:=q40 (x:=z.1.1) (y:=c.2) (K:=100) (L:=100) (by omega) (by omega) (by omega) (by omega)
    have b2:=q40 (x:=c.1) (y:=z.1.2) (K:=100) (L:=100) (by omega) (by omega) (by omega) (by omega)
    refine⟨qa7 (by omega) (by omega),qa7 (by omega) (by omega),λhg=>?_,λhg=>?_⟩
    ·rw[if_pos (by simpa using hg)] at hst
     exact⟨qa7 (by omega) (by omega),(i+1,z.1),⟨hil,hst⟩,by dsimp only; omega,⟨by simp,trivial⟩,⟨rfl,rfl,trivial⟩,⟨rfl,rfl,trivial⟩,trivial⟩
    ·rw[if_neg (by simpa using hg)] at hst
     exact⟨qa7 (by omega) (by omega),(i+1,c),⟨hil,hst⟩,by dsimp only; omega,⟨by simp,trivial⟩,⟨rfl,rfl,trivial⟩,⟨rfl,rfl,trivial⟩,trivial⟩
  ·have hil:i=j:=by have:=of_decide_eq_false hil; dsimp only at this; omega
   subst hil
   rw[w2k] at hc
   exact⟨qa7 (by dsimp only; omega) (by dsimp only; omega),(i+1,c),⟨hlt,hc⟩,by dsimp only; omega,⟨by simp,trivial⟩,⟨rfl,rfl,trivial⟩,⟨rfl,rfl,trivial⟩,trivial⟩
 ·have hge:j=(nthL m 0).length:=by have:=of_decide_eq_false hge; dsimp only at this; omega
  subst hge
  have hL:rcL m=some b:=by rw[<- hb]; unfold rcL rcK; simp[w4l]
  have e:rcE m=0:=by rw[hE,hL]; rfl
  have e2:rcR m=b:=by simp[rcR,e,hL]
  rw[e,e2]
  exact⟨⟨rfl,rfl,trivial⟩,rfl,trivial⟩
open Go.RowKit Ls
def Lo (b:Int × Int):Prop:=0<=b.1/\0<b.2/\Nat.gcd b.1.toNat b.2.toNat=1
theorem yb3:Lo (0,1):=by unfold Lo; simp
theorem x6a {a b:Int × Int} (ha:Lo a) (hb:Lo b) (h:a.1*b.2=b.1*a.2):a=b:=by
 obtain⟨a1,a2⟩:=a
 obtain⟨b1,b2⟩:=b
 obtain⟨h1,h2,h3⟩:=ha
 obtain⟨k1,k2,k3⟩:=hb
 simp only at *
 obtain⟨x1,rfl⟩:=Int.eq_ofNat_of_zero_le h1
 obtain⟨x2,rfl⟩:=Int.eq_ofNat_of_zero_le (Int.le_of_lt h2)
 obtain⟨y1,rfl⟩:=Int.eq_ofNat_of_zero_le k1
 obtain⟨y2,rfl⟩:=Int.eq_ofNat_of_zero_le (Int.le_of_lt k2)
 simp only[Int.toNat_natCast] at h3 k3
 have hn:x1*y2=y1*x2:=by exact_mod_cast h
 have d1:x2∣y2:=Nat.Coprime.dvd_of_dvd_mul_left (show Nat.Coprime x2 x1 by rw[Nat.Coprime,Nat.gcd_comm]; exact h3) ⟨y1,by rw[hn,Nat.mul_comm]⟩
 have d2:y2∣x2:=Nat.Coprime.dvd_of_dvd_mul_left (show Nat.Coprime y2 y1 by rw[Nat.Coprime,Nat.gcd_comm]; exact k3) ⟨x1,by rw[<- hn,Nat.mul_comm]⟩
 have e:x2=y2:=Nat.dvd_antisymm d1 d2
 subst e
 have hp:0<x2:=by omega
 have:x1=y1:=Nat.eq_of_mul_eq_mul_right hp hn
 rw[this]
theorem w9j {a b:List Int} (h:(likP a b).2=true):Lo (likP a b).1:=by
 unfold likP at h ⊢
 split at h
 ·cases h
 ·rename_i h0
  rw[if_neg h0]
  have hp:0<likeD a b:=by omega
  have hg:0<Nat.gcd (likeN a b) (likeD a b):=Nat.gcd_pos_of_pos_right _ hp
  refine⟨Int.natCast_nonneg _,?_,?_⟩
  ·unfold ratD
   have:0<likeD a b / Nat.gcd (likeN a b) (likeD a b):=Nat.div_pos (Nat.le_of_dvd hp (Nat.gcd_dvd_right _ _)) hg
   exact Int.natCast_pos.2 this
  ·unfold ratN ratD
   simp only[Int.toNat_natCast]
   exact Nat.coprime_div_gcd_div_gcd hg
def lk (m:List (List Int)) (q:Nat × Nat):(Int × Int) × Bool:=likP (colA m q.1) (colA m q.2)
structure Best (m:List (List Int)) (l:List (Nat × Nat)) (b:Int × Int):Prop where
 lo:Lo b
 mem:b=(0,1)\/∃q∈l,b=(lk m q).1
 all:∀q∈l,(lk m q).2=true/\(lk m q).1.1*b.2<=b.1*(lk m q).1.2
theorem xj0 {r1 r2 b1 b2 q1 q2:Int} (hr2:0<r2) (hb2:0<b2) (hq2:0<q2) (h1:r1*b2<=b1*r2) (h2:b1*q2<q1*b2):r1*q2<=q1*r2:=by
 have e1:r1*b2*q2<=b1*r2*q2:=Int.mul_le_mul_of_nonneg_right h1 (Int.le_of_lt hq2)
 have e2:b1*q2*r2<=q1*b2*r2:=Int.mul_le_mul_of_nonneg_right (Int.le_of_lt h2) (Int.le_of_lt hr2)
 have e3:b1*r2*q2=b1*q2*r2:=by rw[Int.mul_assoc,Int.mul_comm r2 q2,<- Int.mul_assoc]
 have e4:r1*b2*q2=r1*q2*b2:=by rw[Int.mul_assoc,Int.mul_comm b2 q2,<- Int.mul_assoc]
 have e5:q1*b2*r2=q1*r2*b2:=by rw[Int.mul_assoc,Int.mul_comm b2 r2,<- Int.mul_assoc]
 have e6:r1*q2*b2<=q1*r2*b2:=by omega
 exact Int.le_of_mul_le_mul_right e6 hb2
theorem q9r (m:List (List Int)) (b:Int × Int) (q:Nat × Nat):qm6 m (some b) q=if(lk m q).2=true then some (if(lk m q).1.1*b.2 > b.1*(lk m q).1.2 then(lk m q).1 else b) else none:=by
 show(match(lk m q).2 with
  | false=>none
  | true=>some (if(lk m q).1.1*b.2 > b.1*(lk m q).1.2 then(lk m q).1 else b))=_
 cases(lk m q).2 <;> rfl
theorem w9k {m:List (List Int)} {l:List (Nat × Nat)} {b b':Int × Int} {q:Nat × Nat} (h:Best m l b) (hs:qm6 m (some b) q=some b'):Best m (l++[q]) b':=by
 rw[q9r] at hs
 split at hs
 ·rename_i hq
  have hlo:Lo (lk m q).1:=w9j hq
  injection hs with hs
  split at hs
  ·rename_i hg
   subst hs
   refine⟨hlo,.inr ⟨q,by simp,rfl⟩,λr hr=>?_⟩
   rcases List.mem_append.1 hr with hr | hr
   ·obtain⟨r1,r2⟩:=h.all r hr
    exact⟨r1,xj0 (w9j r1).2.1 h.lo.2.1 hlo.2.1 r2 hg⟩
   ·obtain rfl:r=q:=by simpa using hr
    exact⟨hq,Int.le_refl _⟩
  ·rename_i hg
   subst hs
   refine⟨h.lo,h.mem.imp id λ⟨r,hr,e⟩=>⟨r,by simp[hr],e⟩,λr hr=>?_⟩
   rcases List.mem_append.1 hr with hr | hr
   ·exact h.all r hr
   ·obtain rfl:r=q:=by simpa using hr
    exact⟨hq,by omega⟩
 ·cases hs
theorem w9l {m:List (List Int)}:∀(r l:List (Nat × Nat)) (b b':Int × Int),Best m l b->r.foldl (qm6 m) (some b)=some b'->Best m (l++r) b'
 | [],l,b,b',h,hs=>by
  simp at hs
  subst hs
  simpa using h
 | q :: r,l,b,b',h,hs=>by
  rw[List.foldl_cons] at hs
  cases hc:qm6 m (some b) q with
  | none=>
   rw[hc] at hs
   have:∀r:List (Nat × Nat),r.foldl (qm6 m) none=none:=λr=>by induction r with
    | nil=>rfl
    | cons q r ih=>exact ih
   rw[this] at hs; cases hs
  | some b1=>
   rw[hc] at hs
   have:=w9l r (l++[q]) b1 b' (w9k h hc) hs
   simpa using this
theorem cohF_best {m:List (List Int)} {l:List (Nat × Nat)} {b:Int × Int} (h:q9q m l=some b):Best m l b:=by
 have:=w9l l [] (0,1) b ⟨yb3,.inl rfl,λq hq=>by cases hq⟩ h
 simpa using this
theorem w2l {m:List (List Int)}:∀(r:List (Nat × Nat)) (b:Int × Int),(∀q∈r,(lk m q).2=true)->∃b',r.foldl (qm6 m) (some b)=some b'
 | [],b,_=>⟨b,rfl⟩
 | q :: r,b,h=>by
  rw[List.foldl_cons,q9r,if_pos (h q (by simp))]
  exact w2l r _ λq' hq'=>h q' (by simp[hq'])
theorem w9m {m:List (List Int)} {l l':List (Nat × Nat)} {b b':Int × Int} (h:Best m l b) (h':Best m l' b') (hm:∀q,q∈l↔q∈l'):b=b':=by
 have one:∀{l l':List (Nat × Nat)} {b b':Int × Int},Best m l b->Best m l' b'->(∀q,q∈l->q∈l')->b.1*b'.2<=b'.1*b.2:=by
  intro l l' b b' h h' hm
  rcases h.mem with rfl | ⟨q,hq,e⟩
  ·have:=h'.lo.1
   simp only[Int.zero_mul,Int.mul_one]; omega
  ·rw[e]
   exact(h'.all q (hm q hq)).2
 refine x6a h.lo h'.lo ?_
 have h1:=one h h' λq=>(hm q).1
 have h2:=one h' h λq=>(hm q).2
 omega
theorem mem_prs {p i:Nat} {q:Nat × Nat}:q∈prs p i↔q.1<i/\q.1<q.2/\q.2<p:=by
 induction i with
 | zero=>simp[prs]
 | succ i ih=>
  rw[prs,List.mem_append,ih]
  obtain⟨a,b⟩:=q
  simp only[rowP,List.mem_map,List.mem_range,Prod.mk.injEq]
  constructor
  ·rintro(h | ⟨d,hd,rfl,rfl⟩)
   ·omega
   ·omega
  ·rintro⟨h1,h2,h3⟩
   by_cases e:a=i
   ·exact .inr ⟨b-(i+1),by omega,by omega,by omega⟩
   ·exact .inl (by omega)
theorem xj1 {j:Nat} {q:Nat × Nat}:q∈wx6 j↔q.1<q.2/\q.2<j:=by
 induction j with
 | zero=>simp[wx6]
 | succ j ih=>
  rw[wx6,List.mem_append,ih]
  obtain⟨a,b⟩:=q
  simp only[w4l,List.mem_map,List.mem_range,Prod.mk.injEq]
  constructor
  ·rintro(h | ⟨d,hd,rfl,rfl⟩)
   ·omega
   ·omega
  ·rintro⟨h1,h2⟩
   by_cases e:b=j
   ·exact .inr ⟨a,by omega,rfl,e.symm⟩
   ·exact .inl (by omega)
theorem wh0 (m:List (List Int)) (q:Nat × Nat):q∈prsL m↔q∈wx6 (nthL m 0).length:=by
 show q∈prs (nthL m 0).length (nthL m 0).length↔_
 rw[mem_prs,xj1]
 omega
theorem cohK_all (m:List (List Int)):q9p m (prsL m).length=q9q m (prsL m):=by
 unfold q9p q9q
 rw[List.take_length]
theorem q3m {m:List (List Int)} {l:List (Nat × Nat)}:(q9q m l).isNone=false↔∀q∈l,(lk m q).2=true:=by
 constructor
 ·intro h q hq
  cases hc:q9q m l with
  | none=>rw[hc] at h; cases h
  | some b=>exact((cohF_best hc).all q hq).1
 ·intro h
  obtain⟨b,hb⟩:=w2l l (0,1) h
  have:q9q m l=some b:=hb
  rw[this]; rfl
theorem q9s (m:List (List Int)):(q9p m (prsL m).length).isNone=(rcL m).isNone:=by
 rw[cohK_all]
 unfold rcL
 cases h:(q9q m (prsL m)).isNone with
 | false=>
  have h1:=q3m.1 h
  exact(q3m.2 λq hq=>h1 q ((wh0 m q).2 hq)).symm
 | true=>
  cases h':(q9q m (wx6 (nthL m 0).length)).isNone with
  | true=>rfl
  | false=>
   have h1:=q3m.1 h'
   have:=q3m.2 λq hq=>h1 q ((wh0 m q).1 hq)
   rw[this] at h; cases h
theorem cohE_same (m:List (List Int)):cohE m=rcE m:=by
 unfold cohE rcE
 rw[q9s]
 rfl
theorem coh_some {m:List (List Int)} (h:cohE m=0):validB m=true/\∃b,q9q m (prsL m)=some b/\cohR m=b/\rcL m=some b:=by
 have hv:validB m=true:=by
  cases hv:validB m with
  | true=>rfl
  | false=>simp[cohE,hv] at h
 have hn:(q9q m (prsL m)).isNone=false:=by
  unfold cohE at h
  rw[if_neg (by simp[hv])] at h
  split at h
  ·cases h
  ·split at h
   ·cases h
   ·rename_i hh
    rw[cohK_all] at hh
    cases hz:(q9q m (prsL m)).isNone with
    | false=>rfl
    | true=>exact absurd hz hh
 cases hb:q9q m (prsL m) with
 | none=>rw[hb] at hn; cases hn
 | some b=>
  have hn':=q9s m
  rw[cohK_all,hb] at hn'
  cases hb':rcL m with
  | none=>rw[hb'] at hn'; cases hn'
  | some b'=>
   have e:=w9m (cohF_best hb) (cohF_best hb') (wh0 m)
   subst e
   refine⟨hv,b,rfl,?_,rfl⟩
   unfold cohR
   rw[if_pos h,cohK_all,hb]
   rfl
theorem cohR_same (m:List (List Int)):cohR m=rcR m:=by
 by_cases h:cohE m=0
 ·obtain⟨_,b,_,h2,h3⟩:=coh_some h
  unfold rcR
  rw[if_pos (by rw[<- cohE_same]; exact h),h3,h2]
  rfl
 ·unfold cohR rcR
  rw[if_neg h,if_neg (by rw[<- cohE_same]; exact h)]
end Go.Proofs.YtdibdlelmkcccaaGreat.K
namespace Go.Proofs.YtdibdlelmkcccaaGreat
open Go Go.RowKit Eng
theorem w9n (m:List (List Int)):K.validB m=validB m:=rfl
theorem w9o (f:Nat->Int):∀n,sm (n+1) f=f 0+sm n λi=>f (i+1)
 | 0=>by simp[sm]
 | n+1=>by rw[sm,w9o f n,sm]; omega
theorem q4m:∀(m:List (List Int)) (i j:Nat),K.dotI (K.colA m i) (K.colA m j)=sm m.length λa=>nI (nL m a) i*nI (nL m a) j
 | [],_,_=>rfl
 | r :: m,i,j=>by
  rw[List.length_cons,w9o]
  show nI r i*nI r j+K.dotI (K.colA m i) (K.colA m j)=_
  rw[q4m m i j]
  rfl
def cq (m:List (List Int)) (i j:Nat):Int:=sm m.length λa=>nI (nL m a) i*nI (nL m a) j
theorem x2m (m:List (List Int)) (i j:Nat):cq m i j=cq m j i:=qf5 λa _=>Int.mul_comm _ _
theorem x6b (m:List (List Int)) (i:Nat):0<=cq m i i:=by
 unfold cq
 generalize m.length=n
 induction n with
 | zero=>exact Int.le_refl _
 | succ n ih=>rw[sm]; have:=isq (nI (nL m n) i); omega
theorem xw8 {m:List (List Int)} {i j:Nat} (h:i<j) (hj:j<(nL m 0).length):(i,j)∈K.prsL m:=by
 unfold K.prsL
 rw[K.mem_prs]
 have hj:j<(qa1 (.list (.int .i64)) m 0:List Int).length:=hj
 exact⟨by omega,h,hj⟩
theorem q5p {m:List (List Int)} {b:Int × Int} (hB:K.Best m (K.prsL m) b) {i j:Nat} (h:i<j) (hj:j<(nL m 0).length):0<cq m i i*cq m j j/\cq m i j*cq m i j*b.2<=b.1*(cq m i i*cq m j j):=by
 obtain⟨h1,h2⟩:=hB.all _ (xw8 h hj)
 unfold K.lk K.likP at h1 h2
 simp only at h1 h2
 split at h1
 ·cases h1
 ·rename_i h0
  rw[if_neg h0] at h2
  unfold K.likeD K.likeN at *
  rw[q4m,q4m] at h0
  rw[q4m,q4m,q4m] at h2
  change ¬(cq m i i*cq m j j).toNat=0 at h0
  change K.ratN (cq m i j*cq m i j).toNat (cq m i i*cq m j j).toNat*b.2<=b.1*K.ratD (cq m i j*cq m i j).toNat (cq m i i*cq m j j).toNat at h2
  have hP:0<cq m i i*cq m j j:=by omega
  refine⟨hP,?_⟩
  have hQ:=isq (cq m i j)
  generalize cq m i i*cq m j j=P at *
  generalize cq m i j*cq m i j=Q at *
  obtain⟨p,rfl⟩:=Int.eq_ofNat_of_zero_le (Int.le_of_lt hP)
  obtain⟨q,rfl⟩:=Int.eq_ofNat_of_zero_le hQ
  simp only[Int.toNat_natCast] at h2
  unfold K.ratN K.ratD at h2
  have e1:Nat.gcd q p*(q / Nat.gcd q p)=q:=Nat.mul_div_cancel' (Nat.gcd_dvd_left q p)
  have e2:Nat.gcd q p*(p / Nat.gcd q p)=p:=Nat.mul_div_cancel' (Nat.gcd_dvd_right q p)
  generalize Nat.gcd q p=g at *
  generalize q / g=x at *
  generalize p / g=y at *
  subst e1
  subst e2
  have h3:=Int.mul_le_mul_of_nonneg_left h2 (Int.natCast_nonneg g)
  have e3:((g*x:Nat):Int)*b.2=g*(x*b.2):=by rw[Int.natCast_mul,Int.mul_assoc]
  have e4:b.1*((g*y:Nat):Int)=g*(b.1*y):=by rw[Int.natCast_mul,<- Int.mul_assoc,Int.mul_comm b.1,Int.mul_assoc]
  rw[e3,e4]
  exact h3
def wh7 (m:List (List Int)):Int:=K.cohE m
def q8c (m:List (List Int)):Int:=if K.cohE m=0 then(bndTo (K.cohR m).1 (K.cohR m).2 (nL m 0).length 0:Nat) else 0
theorem x6c {m:List (List Int)} {d:Nat->Int} (h:Sol m.length (nL m 0).length (rowOf m) d) (j:Nat):(sm (nL m 0).length λc=>d c*cq m c j)=0:=by
 have e:(sm (nL m 0).length λc=>d c*cq m c j)=sm m.length λa=>nI (nL m a) j*sm (nL m 0).length λc=>rowOf m a c*d c:=by
  have e1:(sm (nL m 0).length λc=>d c*cq m c j)=sm (nL m 0).length λc=>sm m.length λa=>d c*(nI (nL m a) c*nI (nL m a) j):=qf5 λc _=>(qp2 _ _ _).symm
  rw[e1,wv4]
  refine qf5 λa _=>?_
  rw[<- qp2]
  refine qf5 λc _=>?_
  show d c*(nI (nL m a) c*nI (nL m a) j)=nI (nL m a) j*(nI (nL m a) c*d c)
  grind
 rw[e]
 exact qr9 λa ha=>by rw[h a ha,Int.mul_zero]
theorem xj2 {m:List (List Int)} (hl:ql0 m=true) (he:wh7 m=0) (hk:(qi5 m).2=0):q8c m<=(qu4 m).1:=by
 obtain⟨hv,b,hb,hR,_⟩:=K.coh_some he
 have hv:validB m=true:=hv
 have hB:=K.cohF_best hb
 have hM:=Mk.of hv
 have hn2:2<=(nL m 0).length:=by
  refine Classical.byContradiction λq=>?_
  have e:K.cohE m=8:=by
   unfold K.cohE
   rw[if_neg (by rw[w9n,hv]; decide),if_pos (show(qa1 (.list (.int .i64)) m 0:List Int).length<2 from Nat.lt_of_not_le q)]
  have he:K.cohE m=0:=he
  rw[e] at he; cases he
 have hp:∀c,c<(nL m 0).length->0<cq m c c:=λc hc=>by
  have hne:∀i,i<c\/c<i->i<(nL m 0).length->cq m c c≠0:=λi hi hin e=>by
   rcases hi with hi | hi
   ·have:=(q5p hB hi hc).1
    rw[e,Int.mul_zero] at this; omega
   ·have:=(q5p hB hi hin).1
    rw[e,Int.zero_mul] at this; omega
  have h0:=x6b m c
  have h1:cq m c c≠0:=by
   by_cases q:c=0
   ·exact hne 1 (.inr (by omega)) (by omega)
   ·exact hne 0 (.inl (by omega)) (by omega)
  omega
 have hq:∀i j,i<(nL m 0).length->j<(nL m 0).length->i≠j->cq m i j*cq m i j*b.2<=b.1*(cq m i i*cq m j j):=λi j hi hj hne=>by
  rcases Nat.lt_or_gt_of_ne hne with q | q
  ·exact(q5p hB q hj).2
  ·have:=(q5p hB q hi).2
   rw[x2m m i j,Int.mul_comm (cq m i i)]
   exact this
 have hs2:(qm3 m).2=0:=by rw[q5m hl]; exact hk
 rcases q9l hl hv with⟨h1,s,hc,_⟩ | ⟨h1,_,_⟩
 ·have h0:nI (qi8 m).1 (nI s 0).toNat≠0:=hc.on 0 hc.pos
  have hat:=hc.nam.at_ 0 hc.pos
  obtain⟨M,hM1,hM2⟩:=xi2 (q:=cq m) (d:=nI (qi8 m).1) hB.lo.1 hB.lo.2.1 hp hq (λj _=>x6c hc.sol j) (c0:=(nI s 0).toNat) (by omega) h0
  have h3:=xi3 (n:=(nL m 0).length) hB.lo.1 hM1 hM2 hB.lo.2.1
  have e1:q8c m=(bndTo b.1 b.2 (nL m 0).length 0:Nat):=by
   unfold q8c
   rw[if_pos (show K.cohE m=0 from he),hR]
  have e2:(qm3 m).1=(q1p (qi8 m).1 (qi8 m).1.length:Int):=rfl
  have e3:(qu4 m).1=((qm3 m).1-1).tdiv 2:=by unfold qu4; rw[if_pos hs2]
  rw[e1,e3,e2,w2a,hc.len]
  generalize bndTo b.1 b.2 (nL m 0).length 0=k at *
  generalize cntN (nL m 0).length (nI (qi8 m).1)=t at *
  rw[Int.tdiv_eq_ediv_of_nonneg (by omega)]
  omega
 ·have:(qm3 m).2=8:=h1
  omega
end Go.Proofs.YtdibdlelmkcccaaGreat
