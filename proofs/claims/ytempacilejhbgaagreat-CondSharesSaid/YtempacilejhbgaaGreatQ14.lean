/- The document's shares: contracts by the engine. No condition. -/
import Derived.Test.YtempacilejhbgaaGreatQ10
set_option linter.unusedVariables false
set_option linter.unusedSimpArgs false
namespace Go.Proofs.YtempacilejhbgaaGreat
open Go Go.RowKit Eng
abbrev x1g:qc0:=qg7 true none [qd6] [qd6] (λx=>qe8 1000000000 x.1) (λx=>(qg3 x.1,()))
theorem w2e:qd7 Tryz.prog 103 x1g:=by
 refine meets (snd (SpecsOk.nil _)) Tryz.func103 rfl rfl (λ_ _=>none) (λ_=>by kernel_rfl) (by decide) ?_
 rintro⟨x,⟨⟩⟩ h
 revert x
 intro(x:Int) (h:qe8 1000000000 x)
 refine @qe1 _ ((decide (x<(0:Int))=true->fits .i64 ((0:Int)-x)/\(0:Int)-x=qg3 x)/\(decide (x<(0:Int))=false->x=qg3 x)) (by kernel_rfl) ?_
 try simp only[z0,z1,z2,z3,z4,z5,z6,z7,z8,z9,z10,Int.reduceEq,z11,z12,z13,z14,z15,z16,z17,z18,z19,z20,z21,z22,z23,z24,z25,z26,z27,z28,z29,z30,Int.reduceLE,Int.reduceLT,z31,z32,z33,z34,qa4]
 try simp only[qb3,qb4,qb9,List.set_cons_zero,List.cons.injEq,and_true,true_and]
 unfold qe8 at h
 unfold qg3
 exact⟨λq=>⟨qa7 (by omega) (by omega),by omega⟩,λq=>by omega⟩
def xt4 (n d:Int):Nat->Option Inv
 | 0=>some (Inv.of [5,6] 1 (λs:Int × Int=>[(5,.lit (.int .i64 s.1)),(6,.lit (.int .i64 s.2))]) (λ_=>[.box 34 xn1]) (λs=>((0<=s.1/\s.1<=BIG)/\0<=s.2/\s.2<=BIG)/\gcdI s.1 s.2=gcdI n d) (λs=>s.2.toNat))
 | _=>none
abbrev x1h:qc0:=qg7 true none [qd6,qd6] [qy9] (λx=>(0<=x.1/\x.1<=BIG)/\0<x.2.1/\x.2.1<=BIG) (λx=>(ofR x.1 x.2.1,()))
theorem w2f:qd7 Tryz.prog 104 x1h:=by
 refine meets (snd (SpecsOk.nil _)) Tryz.func104 rfl rfl (λx=>xt4 x.1 x.2.1) (λ_=>by kernel_rfl) (by decide) ?_
 rintro⟨n,d,⟨⟩⟩ h
 revert n d
 intro(n:Int) (d:Int) (h:(0<=n/\n<=BIG)/\0<d/\d<=BIG)
 refine @qe1 _ (∃(v0:Unit),∃(v1:Int × Int),((((0:Int)<=Prod.fst v1/\Prod.fst v1<=BIG)/\(0:Int)<=Prod.snd v1/\Prod.snd v1<=BIG)/\gcdI (Prod.fst v1) (Prod.snd v1)=gcdI n d)/\((n=Prod.fst v1/\d=Prod.snd v1/\True)/\((0:Int)=(0:Int)/\(0:Int)=(0:Int)/\True)/\True)/\∀(v2:Int × Int),(((0:Int)<=Prod.fst v2/\Prod.fst v2<=BIG)/\(0:Int)<=Prod.snd v2/\Prod.snd v2<=BIG)/\gcdI (Prod.fst v2) (Prod.snd v2)=gcdI n d->(decide ((0:Int)<Prod.snd v2)=true->Prod.snd v2≠(0:Int)/\∃(v5:Int × Int),((((0:Int)<=Prod.fst v5/\Prod.fst v5<=BIG)/\(0:Int)<=Prod.snd v5/\Prod.snd v5<=BIG)/\gcdI (Prod.fst v5) (Prod.snd v5)=gcdI n d)/\Int.toNat (Prod.snd v5)<Int.toNat (Prod.snd v2)/\(Prod.snd v2=Prod.fst v5/\Int.tmod (Prod.fst v2) (Prod.snd v2)=Prod.snd v5/\True)/\((0:Int)=(0:Int)/\(0:Int)=(0:Int)/\True)/\True)/\(decide ((0:Int)<Prod.snd v2)=false->Prod.fst v2≠(0:Int)/\fits .i64 (Int.tdiv n (Prod.fst v2))/\Prod.fst v2≠(0:Int)/\fits .i64 (Int.tdiv d (Prod.fst v2))/\Int.tdiv n (Prod.fst v2)=Prod.fst (ofR n d)/\Int.tdiv d (Prod.fst v2)=Prod.snd (ofR n d)/\True)) (by kernel_rfl) ?_
 try simp only[z0,z1,z2,z3,z4,z5,z6,z7,z8,z9,z10,Int.reduceEq,z11,z12,z13,z14,z15,z16,z17,z18,z19,z20,z21,z22,z23,z24,z25,z26,z27,z28,z29,z30,Int.reduceLE,Int.reduceLT,z31,z32,z33,z34,qa4]
 try simp only[qb3,qb4,qb9,List.set_cons_zero,List.cons.injEq,and_true,true_and]
 have hB:BIG=4000000000000000000:=rfl
 refine⟨(),(n,d),⟨⟨⟨by dsimp only; omega,by dsimp only; omega⟩,by dsimp only; omega,by dsimp only; omega⟩,rfl⟩,⟨rfl,rfl⟩,?_⟩
 rintro⟨x,y⟩ ⟨⟨⟨h1,h2⟩,h3,h4⟩,h5⟩
 dsimp only at h1 h2 h3 h4 h5 ⊢
 refine⟨λhy=>⟨by omega,(y,x.tmod y),⟨⟨⟨h3,h4⟩,?_,?_⟩,?_⟩,?_,rfl,rfl⟩,λhy=>?_⟩
 ·rw[Int.tmod_eq_emod_of_nonneg h1]
  exact Int.emod_nonneg x (by omega)
 ·rw[Int.tmod_eq_emod_of_nonneg h1]
  have k2:=Int.emod_lt_of_pos x hy
  dsimp only; omega
 ·exact(wg8 h1 h3).trans h5
 ·rw[Int.tmod_eq_emod_of_nonneg h1]
  have k1:=Int.emod_nonneg x (b:=y) (by omega)
  have k2:=Int.emod_lt_of_pos x hy
  dsimp only; omega
 ·obtain rfl:y=0:=by omega
  rw[wg9 x h1] at h5
  have hp:=qp9 (a:=n) (b:=d) (.inr (by omega))
  have q1:=qk4 (g:=x) (a:=n) (K:=BIG) (by omega)
  have q2:=qk4 (g:=x) (a:=d) (K:=BIG) (by omega)
  have e:ofR n d=(n.tdiv x,d.tdiv x):=by unfold ofR; rw[if_neg (by omega),h5]
  rw[e]
  exact⟨by omega,qa7 (by omega) (by omega),by omega,qa7 (by omega) (by omega),rfl,rfl⟩
structure wx8 (n:Int) (l:List Int) (k:Nat):Prop where
 le:k<=l.length
 ok:∀i,i<k->inB (nI l i) 0 (n-1)=true
def xt5 (n:Int) (l:List Int):Nat->Option Inv
 | 0=>some (Inv.of [5] 0 (λk:Nat=>[(5,.lit (.int .i64 k))]) (λ_=>[]) (λk=>1<=k/\(AscTo l k\/(k=1/\l=[]))) (λk=>l.length-k))
 | 1=>some (Inv.of [26] 0 (λk:Nat=>[(26,.lit (.int .i64 k))]) (λ_=>[]) (λk=>wx8 n l k) (λk=>l.length-k))
 | _=>none
abbrev x1i:qc0:=qg7 true none [qf2,qd6] [qd6] (λx=>x.1.length<=1000000) (λx=>(q1d x.2.1 x.1,()))
theorem q8h:qd7 Tryz.prog 60 x1i:=by
 refine meets (snd (SpecsOk.nil _)) Tryz.func60 rfl rfl (λx=>xt5 x.2.1 x.1) (λ_=>by kernel_rfl) (by decide) ?_
 rintro⟨l,n,⟨⟩⟩ hl
 revert l n
 intro(l:List Int) (n:Int) (hl:l.length<=1000000)
 refine @qe1 _ (let Q0:=List.length l; ∃(v0:Unit),∃(v1:Nat),((1:Nat)<=v1/\(AscTo l v1\/v1=(1:Nat)/\l=[]))/\(((1:Int)=(↑v1:Int)/\True)/\True)/\∀(v2:Nat),(1:Nat)<=v2/\(AscTo l v2\/v2=(1:Nat)/\l=[])->(decide ((↑v2:Int)<(↑Q0:Int))=true->((0:Int)<=(↑v2:Int)/\(↑v2:Int)<(↑Q0:Int))/\fits .i64 ((↑v2:Int)-(1:Int))/\((0:Int)<=(↑v2:Int)-(1:Int)/\(↑v2:Int)-(1:Int)<(↑Q0:Int))/\(decide (qa1 (Ty.int .i64) l (Int.toNat (↑v2:Int))<=qa1 (Ty.int .i64) l (Int.toNat ((↑v2:Int)-(1:Int))))=true->(7:Int)=q1d n l)/\(decide (qa1 (Ty.int .i64) l (Int.toNat (↑v2:Int))<=qa1 (Ty.int .i64) l (Int.toNat ((↑v2:Int)-(1:Int))))=false->fits .i64 ((↑v2:Int)+(1:Int))/\∃(v6:Nat),((1:Nat)<=v6/\(AscTo l v6\/v6=(1:Nat)/\l=[]))/\List.length l-v6<List.length l-v2/\((↑v2:Int)+(1:Int)=(↑v6:Int)/\True)/\True))/\(decide ((↑v2:Int)<(↑Q0:Int))=false->∃(v5:Unit),∃(v6:Nat),wx8 n l v6/\(((0:Int)=(↑v6:Int)/\True)/\True)/\∀(v7:Nat),wx8 n l v7->(decide ((↑v7:Int)<(↑Q0:Int))=true->((0:Int)<=(↑v7:Int)/\(↑v7:Int)<(↑Q0:Int))/\(decide (qa1 (Ty.int .i64) l (Int.toNat (↑v7:Int))<(0:Int))=true->(5:Int)=q1d n l)/\(decide (qa1 (Ty.int .i64) l (Int.toNat (↑v7:Int))<(0:Int))=false->(decide (n<=qa1 (Ty.int .i64) l (Int.toNat (↑v7:Int)))=true->(5:Int)=q1d n l)/\(decide (n<=qa1 (Ty.int .i64) l (Int.toNat (↑v7:Int)))=false->fits .i64 ((↑v7:Int)+(1:Int))/\∃(v12:Nat),wx8 n l v12/\List.length l-v12<List.length l-v7/\((↑v7:Int)+(1:Int)=(↑v12:Int)/\True)/\True)))/\(decide ((↑v7:Int)<(↑Q0:Int))=false->(0:Int)=q1d n l))) (by kernel_rfl) ?_
 try simp only[z0,z1,z2,z3,z4,z5,z6,z7,z8,z9,z10,Int.reduceEq,z11,z12,z13,z14,z15,z16,z17,z18,z19,z20,z21,z22,z23,z24,z25,z26,z27,z28,z29,z30,Int.reduceLE,Int.reduceLT,z31,z32,z33,z34,qa4]
 try simp only[qb3,qb4,qb9,List.set_cons_zero,List.cons.injEq,and_true,true_and]
 refine⟨(),1,⟨Nat.le_refl _,?_⟩,rfl,λk ⟨h1,hk⟩=>⟨λhlt=>?_,λhge=>?_⟩⟩
 ·cases l with
  | nil=>exact .inr ⟨rfl,rfl⟩
  | cons a l=>exact .inl ⟨by simp,λi h0 hi=>by omega⟩
 ·have hk:AscTo l k:=hk.resolve_right λ⟨_,e⟩=>by subst e; simp at hlt
  have e:((k:Int)-1).toNat=k-1:=by omega
  rw[e]
  exact⟨hlt,qa7 (by omega) (by omega),⟨by omega,by omega⟩,λh2=>by unfold q1d; rw[if_pos (wx0 (by omega) hlt h2)],λh2=>⟨qa7 (by omega) (by omega),k+1,⟨by omega,.inl (hk.step hlt (.inr h2))⟩,by omega,by omega⟩⟩
 ·have ha:xc0 l=true:=by
   rcases hk with hk | ⟨_,rfl⟩
   ·obtain rfl:k=l.length:=by have:=hk.le; omega
    exact hk.all
   ·rfl
  refine⟨(),0,⟨Nat.zero_le _,λi hi=>by omega⟩,rfl,λj hj=>⟨λhlt=>?_,λhge2=>?_⟩⟩
  ·have bad:¬(0<=nI l j/\nI l j<=n-1)->5=q1d n l:=λq=>by
    have:(l.any λp=>!(inB p 0 (n-1)))=true:=by
     rw[List.any_eq_true]
     exact⟨nI l j,by rw[qg5 l j hlt]; exact List.getElem_mem hlt,by rw[xi1.2 q]; rfl⟩
    simp[q1d,ha,this]
   refine⟨hlt,λh0=>bad λq=>Int.not_lt.2 q.1 h0,λh0=>⟨λh2=>bad λq=>absurd (show n<=nI l j from h2) (by omega),λh2=>⟨qa7 (by omega) (by omega),j+1,⟨hlt,λi hi=>?_⟩,by omega,by omega⟩⟩⟩
   by_cases e:i=j
   ·subst e; exact qm0.2 ⟨h0,by omega⟩
   ·exact hj.ok i (by omega)
  ·obtain rfl:j=l.length:=by have:=hj.le; omega
   have:(l.any λp=>!(inB p 0 (n-1)))=false:=by
    rw[List.any_eq_false]
    intro x hx
    obtain⟨i,hi,rfl⟩:=List.getElem_of_mem hx
    have:=hj.ok i hi
    rw[qg5 l i hi] at this
    rw[this]; simp
   simp[q1d,ha,this]
def xt6 (h pix:List Int):Nat->Option Inv
 | 0=>some (Inv.of [6,13] 1 (λk:Nat=>[(6,.lit (.int .i64 (qz4 h k))),(13,.lit (.int .i64 k))]) (λ_=>[.box 34 xn1]) (λk=>k<=h.length) (λk=>h.length-k))
 | 1=>some (Inv.of [5,24] 1 (λk:Nat=>[(5,.lit (.int .i64 (ql6 h pix k))),(24,.lit (.int .i64 k))]) (λ_=>[.box 34 xn1]) (λk=>k<=pix.length) (λk=>pix.length-k))
 | _=>none
abbrev x1j:qc0:=qg7 true none [qf2,qf2] [qy9] (λx=>wj2 x.1 x.2.1) (λx=>(shR x.1 x.2.1,()))
theorem q8i:qd7 Tryz.prog 61 x1j:=by
 refine meets (snd (SpecsOk.cons w2e (SpecsOk.cons w2f (SpecsOk.nil _)))) Tryz.func61 rfl rfl (λx=>xt6 x.1 x.2.1) (λ_=>by kernel_rfl) (by decide) ?_
 rintro⟨h,p,⟨⟩⟩ hh
 revert h p
 intro(h:List Int) (p:List Int) (hh:wj2 h p)
 refine @qe1 _ (let Q0:=List.length h; let Q1:=List.length p; ∃(v0:Unit),∃(v1:Nat),Nat.le v1 Q0/\(((0:Int)=qz4 h v1/\(0:Int)=(↑v1:Int)/\True)/\((0:Int)=(0:Int)/\(0:Int)=(0:Int)/\True)/\True)/\∀(v2:Nat),Nat.le v2 Q0->(decide ((↑v2:Int)<(↑Q0:Int))=true->((0:Int)<=(↑v2:Int)/\(↑v2:Int)<(↑Q0:Int))/\qe8 (1000000000:Int) (qa1 (Ty.int .i64) h (Int.toNat (↑v2:Int)))/\fits .i64 (qz4 h v2+qg3 (qa1 (Ty.int .i64) h (Int.toNat (↑v2:Int))))/\fits .i64 ((↑v2:Int)+(1:Int))/\∃(v5:Nat),Nat.le v5 Q0/\List.length h-v5<List.length h-v2/\(qz4 h v2+qg3 (qa1 (Ty.int .i64) h (Int.toNat (↑v2:Int)))=qz4 h v5/\(↑v2:Int)+(1:Int)=(↑v5:Int)/\True)/\((0:Int)=(0:Int)/\(0:Int)=(0:Int)/\True)/\True)/\(decide ((↑v2:Int)<(↑Q0:Int))=false->∃(v5:Unit),∃(v6:Nat),Nat.le v6 Q1/\(((0:Int)=ql6 h p v6/\(0:Int)=(↑v6:Int)/\True)/\((0:Int)=(0:Int)/\(0:Int)=(0:Int)/\True)/\True)/\∀(v7:Nat),Nat.le v7 Q1->(decide ((↑v7:Int)<(↑Q1:Int))=true->((0:Int)<=(↑v7:Int)/\(↑v7:Int)<(↑Q1:Int))/\((0:Int)<=qa1 (Ty.int .i64) p (Int.toNat (↑v7:Int))/\qa1 (Ty.int .i64) p (Int.toNat (↑v7:Int))<(↑Q0:Int))/\qe8 (1000000000:Int) (qa1 (Ty.int .i64) h (Int.toNat (qa1 (Ty.int .i64) p (Int.toNat (↑v7:Int)))))/\fits .i64 (ql6 h p v7+qg3 (qa1 (Ty.int .i64) h (Int.toNat (qa1 (Ty.int .i64) p (Int.toNat (↑v7:Int))))))/\fits .i64 ((↑v7:Int)+(1:Int))/\∃(v10:Nat),Nat.le v10 Q1/\List.length p-v10<List.length p-v7/\(ql6 h p v7+qg3 (qa1 (Ty.int .i64) h (Int.toNat (qa1 (Ty.int .i64) p (Int.toNat (↑v7:Int)))))=ql6 h p v10/\(↑v7:Int)+(1:Int)=(↑v10:Int)/\True)/\((0:Int)=(0:Int)/\(0:Int)=(0:Int)/\True)/\True)/\(decide ((↑v7:Int)<(↑Q1:Int))=false->(((0:Ty.den qd6)<=ql6 h p v7/\ql6 h p v7<=BIG)/\(0:Ty.den qd6)<qz4 h v2/\qz4 h v2<=BIG)/\Prod.fst (ofR (ql6 h p v7) (qz4 h v2))=Prod.fst (shR h p)/\Prod.snd (ofR (ql6 h p v7) (qz4 h v2))=Prod.snd (shR h p)/\True))) (by kernel_rfl) ?_
 try simp only[z0,z1,z2,z3,z4,z5,z6,z7,z8,z9,z10,Int.reduceEq,z11,z12,z13,z14,z15,z16,z17,z18,z19,z20,z21,z22,z23,z24,z25,z26,z27,z28,z29,z30,Int.reduceLE,Int.reduceLT,z31,z32,z33,z34,qa4]
 try simp only[qb3,qb4,qb9,List.set_cons_zero,List.cons.injEq,and_true,true_and]
 have hl:=hh.len
 have hb:=hh.ok.len
 refine⟨(),0,Nat.zero_le _,⟨rfl,rfl⟩,λk hk=>⟨λhlt=>?_,λhge=>?_⟩⟩
 ·have h1:=qy4 hh.ok k
  have h2:=qy4 hh.ok (k+1)
  have h3:=hh.ok.sm k
  unfold qe8 at h3
  have e:qz4 h k+qg3 (nI h k)=qz4 h (k+1):=rfl
  exact⟨hlt,by unfold qe8; omega,qa7 (by omega) (by omega),qa7 (by omega) (by omega),k+1,hlt,by omega,e,by push_cast; rfl⟩
 obtain rfl:k=h.length:=by omega
 refine⟨(),0,Nat.zero_le _,⟨rfl,rfl⟩,λk hk=>⟨λhlt=>?_,λhge=>?_⟩⟩
 ·have h1:=qy5 (pix:=p) hh.ok k
  have h2:=qy5 (pix:=p) hh.ok (k+1)
  have h3:=hh.ok.sm (nI p k).toNat
  have h4:=hh.at_ k hlt
  unfold qe8 at h3
  have e:ql6 h p k+qg3 (nI h (nI p k).toNat)=ql6 h p (k+1):=rfl
  exact⟨hlt,h4,by unfold qe8; omega,qa7 (by omega) (by omega),qa7 (by omega) (by omega),k+1,hlt,by omega,e,by push_cast; rfl⟩
 ·obtain rfl:k=p.length:=by omega
  have h1:=qy5 (pix:=p) hh.ok p.length
  have h2:=qy4 hh.ok h.length
  have h3:=q90 hh.ok hh.ne
  unfold szL at h3
  have hB:BIG=4000000000000000000:=rfl
  exact⟨⟨⟨h1.1,by omega⟩,h3,by omega⟩,rfl,rfl⟩
def qs0 (h:List Int):Nat->Bool
 | 0=>true
 | k+1=>qs0 h k && (nI h k==0)
theorem w5x (h:List Int):∀k,0<=qz4 h k
 | 0=>Int.le_refl _
 | k+1=>by
  have:=w5x h k
  rw[qz4]; unfold qg3; omega
theorem w5y (h:List Int):∀k,qs0 h k=decide (qz4 h k=0)
 | 0=>by simp[qs0,qz4]
 | k+1=>by
  have h0:=w5x h k
  rw[qs0,qz4,w5y h k]
  rw[Bool.eq_iff_iff,Bool.and_eq_true,decide_eq_true_eq,decide_eq_true_eq,beq_iff_eq]
  unfold qg3
  omega
def wb2 (h:List Int):Bool:=decide (10<h.length) || q67 h || decide (szL h=0)
def shE (h p:List Int):Int:=if wb2 h=true then 1 else q1d h.length p
def shQ (h p:List Int):Int × Int:=if shE h p=0 then shR h p else(0,0)
theorem xj7 {h:List Int} (hb:wb2 h=false):HOk h/\szL h≠0/\h.length<=10:=by
 unfold wb2 at hb
 simp only[Bool.or_eq_false_iff,decide_eq_false_iff_not] at hb
 obtain⟨⟨h1,h2⟩,h3⟩:=hb
 refine⟨⟨by omega,λi=>?_⟩,h3,by omega⟩
 rcases Nat.lt_or_ge i h.length with q | q
 ·unfold q67 at h2
  rw[List.any_eq_false] at h2
  have:=h2 (nI h i) (by rw[qg5 h i q]; exact List.getElem_mem q)
  simp only[Bool.not_eq_true,Bool.not_eq_false'] at this
  have:=qm0.1 this
  unfold qe8; omega
 ·have:nI h i=0:=by unfold nI qa1; rw[List.getD_eq_getElem?_getD,List.getElem?_eq_none q]; rfl
  rw[this]; unfold qe8; decide
theorem w5z {h p:List Int} (he:shE h p=0):wj2 h p/\Named h.length p/\wb2 h=false:=by
 unfold shE at he
 split at he
 ·cases he
 rename_i hb
 have hb:wb2 h=false:=by simpa using hb
 obtain⟨h1,h2,h3⟩:=xj7 hb
 have hN:=Named.of he
 have:=hN.len
 exact⟨⟨h1,by omega,hN.at_,h2⟩,hN,hb⟩
structure w2g (h p:List Int):Prop where
 h:h.length<=1000
 p:p.length<=1000
structure w2h (h:List Int) (k:Nat):Prop where
 le:k<=h.length
 ok:∀i,i<k->qe8 1000000 (nI h i)
def w9j (h:List Int):Nat->Option Inv
 | 0=>some (Inv.of [6,12] 1 (λk:Nat=>[(6,.lit (.bool (qs0 h k))),(12,.lit (.int .i64 k))]) (λ_=>[.box 34 xn1]) (λk=>w2h h k) (λk=>h.length-k))
 | _=>none
abbrev xj8:qc0:=qg7 true none [qf2,qf2] [qy9,qd6] (λx=>w2g x.1 x.2.1) (λx=>(shQ x.1 x.2.1,shE x.1 x.2.1,()))
theorem wj8:qd7 Tryz.prog 19 xj8:=by
 refine meets (snd (SpecsOk.cons q8h (SpecsOk.cons q8i (SpecsOk.nil _)))) Tryz.func19 rfl rfl (λx=>w9j x.1) (λ_=>by kernel_rfl) (by decide) ?_
 rintro⟨h,p,⟨⟩⟩ hh
 revert h p
 intro(h:List Int) (p:List Int) (hh:w2g h p)
 refine @qe1 _ (let Q0:=List.length h; ∃(v0:Unit),∃(v1:Nat),w2h h v1/\((true=qs0 h v1/\(0:Int)=(↑v1:Int)/\True)/\((0:Int)=(0:Int)/\(0:Int)=(0:Int)/\True)/\True)/\∀(v2:Nat),w2h h v2->(decide ((↑v2:Int)<(↑Q0:Int))=true->((0:Int)<=(↑v2:Int)/\(↑v2:Int)<(↑Q0:Int))/\(decide (qa1 (Ty.int .i64) h (Int.toNat (↑v2:Int))<(-1000000:Int))=true->((0:Int)=Prod.fst (shQ h p)/\(0:Int)=Prod.snd (shQ h p)/\True)/\(1:Int)=shE h p/\True)/\(decide (qa1 (Ty.int .i64) h (Int.toNat (↑v2:Int))<(-1000000:Int))=false->(decide ((1000000:Int)<qa1 (Ty.int .i64) h (Int.toNat (↑v2:Int)))=true->((0:Int)=Prod.fst (shQ h p)/\(0:Int)=Prod.snd (shQ h p)/\True)/\(1:Int)=shE h p/\True)/\(decide ((1000000:Int)<qa1 (Ty.int .i64) h (Int.toNat (↑v2:Int)))=false->(qs0 h v2=true->fits .i64 ((↑v2:Int)+(1:Int))/\∃(v8:Nat),w2h h v8/\List.length h-v8<List.length h-v2/\((qa1 (Ty.int .i64) h (Int.toNat (↑v2:Int))==(0:Int))=qs0 h v8/\(↑v2:Int)+(1:Int)=(↑v8:Int)/\True)/\((0:Int)=(0:Int)/\(0:Int)=(0:Int)/\True)/\True)/\(qs0 h v2=false->fits .i64 ((↑v2:Int)+(1:Int))/\∃(v8:Nat),w2h h v8/\List.length h-v8<List.length h-v2/\(false=qs0 h v8/\(↑v2:Int)+(1:Int)=(↑v8:Int)/\True)/\((0:Int)=(0:Int)/\(0:Int)=(0:Int)/\True)/\True))))/\(decide ((↑v2:Int)<(↑Q0:Int))=false->(qs0 h v2=true->((0:Int)=Prod.fst (shQ h p)/\(0:Int)=Prod.snd (shQ h p)/\True)/\(1:Int)=shE h p/\True)/\(qs0 h v2=false->(decide ((10:Int)<(↑Q0:Int))=true->((0:Int)=Prod.fst (shQ h p)/\(0:Int)=Prod.snd (shQ h p)/\True)/\(1:Int)=shE h p/\True)/\(decide ((10:Int)<(↑Q0:Int))=false->List.length p<=(1000000:Nat)/\((q1d (↑Q0:Int) p != (0:Int))=true->((0:Int)=Prod.fst (shQ h p)/\(0:Int)=Prod.snd (shQ h p)/\True)/\q1d (↑Q0:Int) p=shE h p/\True)/\((q1d (↑Q0:Int) p != (0:Int))=false->wj2 h p/\(Prod.fst (shR h p)=Prod.fst (shQ h p)/\Prod.snd (shR h p)=Prod.snd (shQ h p)/\True)/\(0:Int)=shE h p/\True))))) (by kernel_rfl) ?_
 try simp only[z0,z1,z2,z3,z4,z5,z6,z7,z8,z9,z10,Int.reduceEq,z11,z12,z13,z14,z15,z16,z17,z18,z19,z20,z21,z22,z23,z24,z25,z26,z27,z28,z29,z30,Int.reduceLE,Int.reduceLT,z31,z32,z33,z34,qa4]
 try simp only[qb3,qb4,qb9,List.set_cons_zero,List.cons.injEq,and_true,true_and]
 have hl:=hh.h
 have hp:=hh.p
 have bad:wb2 h=true->(0=(shQ h p).fst/\0=(shQ h p).snd)/\1=shE h p:=λq=>by
  have e:shE h p=1:=if_pos q
  unfold shQ
  rw[e,if_neg (by decide)]
  exact⟨⟨rfl,rfl⟩,rfl⟩
 have out:∀k,k<h.length->¬(-1000000<=nI h k/\nI h k<=1000000)->wb2 h=true:=λk hk q=>by
  have:q67 h=true:=by
   unfold q67
   rw[List.any_eq_true]
   exact⟨nI h k,by rw[qg5 h k hk]; exact List.getElem_mem hk,by rw[Bool.not_eq_true',Bool.eq_false_iff]; exact λe=>q (qm0.1 e)⟩
  simp[wb2,this]
 refine⟨(),0,⟨Nat.zero_le _,λi hi=>by omega⟩,⟨rfl,rfl⟩,λk hk=>⟨λhlt=>⟨hlt,λh1=>bad (out k hlt λq=>Int.not_lt.2 q.1 h1),λh1=>⟨λh2=>bad (out k hlt λq=>Int.not_lt.2 q.2 h2),λh2=>?_⟩⟩,λhge=>?_⟩⟩
 ·have h1:-1000000<=nI h k:=h1
  have h2:nI h k<=1000000:=h2
  have nx:w2h h (k+1):=⟨hlt,λi hi=>by
   by_cases e:i=k
   ·subst e; unfold qe8; omega
   ·exact hk.ok i (by omega)⟩
  exact⟨λhz=>⟨qa7 (by omega) (by omega),k+1,nx,by omega,by rw[qs0,hz,Bool.true_and],by push_cast; rfl⟩,λhz=>⟨qa7 (by omega) (by omega),k+1,nx,by omega,by rw[qs0,hz,Bool.false_and],by push_cast; rfl⟩⟩
 ·obtain rfl:k=h.length:=by have:=hk.le; omega
  have hz:=w5y h h.length
  have e:szL h=qz4 h h.length:=rfl
  refine⟨λh1=>bad ?_,λh1=>⟨λh2=>bad ?_,λh2=>?_⟩⟩
  ·rw[hz,<- e] at h1
   simp[wb2,h1]
  ·have:10<h.length:=by omega
   simp[wb2,this]
  have hb:wb2 h=false:=by
   rw[hz,<- e] at h1
   have q1:¬10<h.length:=by omega
   have q2:q67 h=false:=by
    unfold q67
    rw[List.any_eq_false]
    intro x hx
    obtain⟨i,hi,rfl⟩:=List.getElem_of_mem hx
    have:=hk.ok i hi
    rw[qg5 h i hi] at this
    unfold qe8 at this
    rw[qm0.2 ⟨by omega,by omega⟩]; simp
   simp[wb2,h1,q1,q2]
  have hE:shE h p=q1d h.length p:=if_neg (by rw[hb]; decide)
  refine⟨by omega,λhn=>?_,λhn=>?_⟩
  ·unfold shQ
   rw[hE,if_neg hn]
   exact⟨⟨rfl,rfl⟩,rfl⟩
  ·have hs:shE h p=0:=hE.trans hn
   unfold shQ
   rw[if_pos hs]
   exact⟨(w5z hs).1,⟨rfl,rfl⟩,hs.symm⟩
abbrev xj9:qc0:=qg7 true none [qf2,qf2] [qy9,qd6] (λx=>w2g x.1 x.2.1) (λx=>(shQ x.1 x.2.1,shE x.1 x.2.1,()))
theorem wj9:qd7 Tryz.prog 18 xj9:=by
 refine meets (snd (SpecsOk.cons w4z (SpecsOk.cons (q51 (fs:=[(99,xr3)]) (SpecsOk.cons w1l (SpecsOk.nil _))) (SpecsOk.cons q4d (SpecsOk.cons wh4 (SpecsOk.cons q3p (SpecsOk.nil _))))))) Tryz.func18 rfl rfl (λ_ _=>none) (λ_=>by kernel_rfl) (by decide) ?_
 rintro⟨h,p,⟨⟩⟩ hh
 revert h p
 intro(h:List Int) (p:List Int) (hh:w2g h p)
 refine @qe1 _ (let Q0:=List.length h; (decide ((10:Int)<(↑Q0:Int))=true->((0:Int)=Prod.fst (shQ h p)/\(0:Int)=Prod.snd (shQ h p)/\True)/\(1:Int)=shE h p/\True)/\(decide ((10:Int)<(↑Q0:Int))=false->True/\∃(v1:qa6 [Ty.int .i64]->Prop),∃(v2:qa6 [Ty.int .i64]->Bool),(∀(v3:Int × qa6._f [] PUnit.unit),v1 v3->((0:PTy.den (PTy.cap qd6))<=(1000000:Int)/\(1000000:Int)<=BIG)/\(!inB (Prod.fst v3) ((0:Int)-(1000000:Int)) (1000000:Int))=v2 v3)/\(List.length h<=(1000000:Nat)/\∀(v3:Nat),v3<List.length h->v1 (qa1 (Ty.int .i64) h v3,()))/\((List.any h λ(v4:Int)=>v2 (v4,()))=true->((0:Int)=Prod.fst (shQ h p)/\(0:Int)=Prod.snd (shQ h p)/\True)/\(1:Int)=shE h p/\True)/\((List.any h λ(v4:Int)=>v2 (v4,()))=false->HOk h/\((szL h==(0:Int))=true->((0:Int)=Prod.fst (shQ h p)/\(0:Int)=Prod.snd (shQ h p)/\True)/\(1:Int)=shE h p/\True)/\((szL h==(0:Int))=false->(((0:Ty.den qd6)<=(↑Q0:Int)/\(↑Q0:Int)<=BIG)/\List.length p<=(1000000:Nat))/\((q1d (↑Q0:Int) p != (0:Int))=true->((0:Int)=Prod.fst (shQ h p)/\(0:Int)=Prod.snd (shQ h p)/\True)/\q1d (↑Q0:Int) p=shE h p/\True)/\((q1d (↑Q0:Int) p != (0:Int))=false->wj2 h p/\(Prod.fst (shR h p)=Prod.fst (shQ h p)/\Prod.snd (shR h p)=Prod.snd (shQ h p)/\True)/\(0:Int)=shE h p/\True))))) (by kernel_rfl) ?_
 try simp only[z0,z1,z2,z3,z4,z5,z6,z7,z8,z9,z10,Int.reduceEq,z11,z12,z13,z14,z15,z16,z17,z18,z19,z20,z21,z22,z23,z24,z25,z26,z27,z28,z29,z30,Int.reduceLE,Int.reduceLT,z31,z32,z33,z34,qa4]
 try simp only[qb3,qb4,qb9,List.set_cons_zero,List.cons.injEq,and_true,true_and]
 have hl:=hh.h
 have hp:=hh.p
 have bad:wb2 h=true->(0=(shQ h p).fst/\0=(shQ h p).snd)/\1=shE h p:=λq=>by
  have e:shE h p=1:=if_pos q
  unfold shQ
  rw[e,if_neg (by decide)]
  exact⟨⟨rfl,rfl⟩,rfl⟩
 refine⟨λh1=>bad ?_,λh1=>⟨λ_=>True,λx=>!(inB x.1 (0-1000000) 1000000),λx _=>⟨by decide,by simp⟩,⟨by omega,λ_ _=>trivial⟩,λho=>bad ?_,λho=>⟨?_,λh2=>bad ?_,λh2=>?_⟩⟩⟩
 ·have:10<h.length:=by omega
  simp[wb2,this]
 ·have:q67 h=true:=ho
  simp[wb2,this]
 ·refine⟨by omega,λi=>?_⟩
  rcases Nat.lt_or_ge i h.length with q | q
  ·rw[List.any_eq_false] at ho
   have:=ho (nI h i) (by rw[qg5 h i q]; exact List.getElem_mem q)
   simp only[Bool.not_eq_true,Bool.not_eq_false'] at this
   have:=qm0.1 this
   unfold qe8; omega
  ·have:nI h i=0:=by unfold nI qa1; rw[List.getD_eq_getElem?_getD,List.getElem?_eq_none q]; rfl
   rw[this]; unfold qe8; decide
 ·simp[wb2,h2]
 ·have hb:wb2 h=false:=by
   have q1:¬10<h.length:=by omega
   have q2:q67 h=false:=ho
   simp[wb2,h2,q1,q2]
  have hE:shE h p=q1d h.length p:=if_neg (by rw[hb]; decide)
  unfold BIG
  refine⟨⟨by omega,by omega⟩,λhn=>?_,λhn=>?_⟩
  ·unfold shQ
   rw[hE,if_neg hn]
   exact⟨⟨rfl,rfl⟩,rfl⟩
  ·have hs:shE h p=0:=hE.trans hn
   unfold shQ
   rw[if_pos hs]
   exact⟨(w5z hs).1,⟨rfl,rfl⟩,hs.symm⟩
end Go.Proofs.YtempacilejhbgaaGreat
