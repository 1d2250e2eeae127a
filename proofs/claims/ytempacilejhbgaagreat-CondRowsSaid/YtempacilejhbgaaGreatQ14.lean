/- The document's shares: contracts by the engine. No condition. -/
import Derived.Test.YtempacilejhbgaaGreatQ9
set_option linter.unusedVariables false
set_option linter.unusedSimpArgs false
namespace Go.Proofs.YtempacilejhbgaaGreat
open Go Go.RowKit Eng
def q3s (a b:Int × Int):Bool:=decide (a.1*b.2<b.1*a.2)
abbrev x4z:qb9:=qg1 true none [q0c,q0c] [.bool] (λx=>qr5 x.1/\qr5 x.2.1) (λx=>(q3s x.1 x.2.1,()))
theorem q9k:qd6 Tryz.prog 23 x4z:=by
 refine meets (snd (SpecsOk.nil _)) Tryz.func23 rfl rfl (λ_ _=>none) (λ_=>by kernel_rfl) (by decide) ?_
 rintro⟨⟨a,b⟩,⟨c,d⟩,⟨⟩⟩ h
 revert a b c d
 intro(a:Int) (b:Int) (c:Int) (d:Int) (h:qr5 (a,b)/\qr5 (c,d))
 refine @qd9 _ (fits .i64 (a*d)/\fits .i64 (c*b)/\decide (a*d<c*b)=q3s (a,b) (c,d)) (by kernel_rfl) ?_
 try simp only[z0,z1,z2,z3,z4,z5,z6,z7,z8,z9,z10,Int.reduceEq,z11,z12,z13,z14,z15,z16,z17,z18,z19,z20,z21,z22,z23,z24,z25,z26,z27,z28,z29,z30,Int.reduceLE,Int.reduceLT,z31,z32,z33,z34,qa3]
 try simp only[qb4,qb5,qc0,z31,z32,z2,z1]
 have h1:0<=a*d/\a*d<=4000000000000000000:=wt8 h.1.n h.2.d
 have h2:0<=c*b/\c*b<=4000000000000000000:=wt8 h.2.n h.1.d
 exact⟨qa6 (by omega) (by omega),qa6 (by omega) (by omega),rfl⟩
abbrev x42:qb9:=qg1 true none [tInt] [tInt] (λx=>qf4 1000000000 x.1) (λx=>(q0a x.1,()))
theorem w3u:qd6 Tryz.prog 103 x42:=by
 refine meets (snd (SpecsOk.nil _)) Tryz.func103 rfl rfl (λ_ _=>none) (λ_=>by kernel_rfl) (by decide) ?_
 rintro⟨x,⟨⟩⟩ h
 revert x
 intro(x:Int) (h:qf4 1000000000 x)
 refine @qd9 _ ((decide (x<(0:Int))=true->fits .i64 ((0:Int)-x)/\(0:Int)-x=q0a x)/\(decide (x<(0:Int))=false->x=q0a x)) (by kernel_rfl) ?_
 try simp only[z0,z1,z2,z3,z4,z5,z6,z7,z8,z9,z10,Int.reduceEq,z11,z12,z13,z14,z15,z16,z17,z18,z19,z20,z21,z22,z23,z24,z25,z26,z27,z28,z29,z30,Int.reduceLE,Int.reduceLT,z31,z32,z33,z34,qa3]
 try simp only[qb4,qb5,qc0,z31,z32,z2,z1]
 unfold qf4 at h
 unfold q0a
 exact⟨λq=>⟨qa6 (by omega) (by omega),by omega⟩,λq=>by omega⟩
def x0z (n d:Int):Nat->Option Inv
 | 0=>some (Inv.of [5,6] 1 (λs:Int × Int=>[(5,.lit (.int .i64 s.1)),(6,.lit (.int .i64 s.2))]) (λ_=>[.box 34 x0v]) (λs=>((0<=s.1/\s.1<=BIG)/\0<=s.2/\s.2<=BIG)/\gcdI s.1 s.2=gcdI n d) (λs=>s.2.toNat))
 | _=>none
abbrev x44:qb9:=qg1 true none [tInt,tInt] [q0c] (λx=>(0<=x.1/\x.1<=BIG)/\0<x.2.1/\x.2.1<=BIG) (λx=>(ofR x.1 x.2.1,()))
theorem w3v:qd6 Tryz.prog 104 x44:=by
 refine meets (snd (SpecsOk.nil _)) Tryz.func104 rfl rfl (λx=>x0z x.1 x.2.1) (λ_=>by kernel_rfl) (by decide) ?_
 rintro⟨n,d,⟨⟩⟩ h
 revert n d
 intro(n:Int) (d:Int) (h:(0<=n/\n<=BIG)/\0<d/\d<=BIG)
 refine @qd9 _ (∃(v0:Unit),∃(v1:Int × Int),((((0:Int)<=v1.1/\v1.1<=BIG)/\(0:Int)<=v1.2/\v1.2<=BIG)/\gcdI v1.1 v1.2=gcdI n d)/\((n=v1.1/\d=v1.2/\True)/\((0:Int)=(0:Int)/\(0:Int)=(0:Int)/\True)/\True)/\∀(v2:Int × Int),(((0:Int)<=v2.1/\v2.1<=BIG)/\(0:Int)<=v2.2/\v2.2<=BIG)/\gcdI v2.1 v2.2=gcdI n d->(decide ((0:Int)<v2.2)=true->v2.2≠(0:Int)/\∃(v5:Int × Int),((((0:Int)<=v5.1/\v5.1<=BIG)/\(0:Int)<=v5.2/\v5.2<=BIG)/\gcdI v5.1 v5.2=gcdI n d)/\v5.2.toNat<v2.2.toNat/\(v2.2=v5.1/\Int.tmod v2.1 v2.2=v5.2/\True)/\((0:Int)=(0:Int)/\(0:Int)=(0:Int)/\True)/\True)/\(decide ((0:Int)<v2.2)=false->v2.1≠(0:Int)/\fits .i64 (Int.tdiv n v2.1)/\v2.1≠(0:Int)/\fits .i64 (Int.tdiv d v2.1)/\Int.tdiv n v2.1=(ofR n d).1/\Int.tdiv d v2.1=(ofR n d).2/\True)) (by kernel_rfl) ?_
 try simp only[z0,z1,z2,z3,z4,z5,z6,z7,z8,z9,z10,Int.reduceEq,z11,z12,z13,z14,z15,z16,z17,z18,z19,z20,z21,z22,z23,z24,z25,z26,z27,z28,z29,z30,Int.reduceLE,Int.reduceLT,z31,z32,z33,z34,qa3]
 try simp only[qb4,qb5,qc0,z31,z32,z2,z1]
 have hB:BIG=4000000000000000000:=rfl
 refine⟨(),(n,d),⟨⟨⟨by dsimp only; omega,by dsimp only; omega⟩,by dsimp only; omega,by dsimp only; omega⟩,rfl⟩,⟨rfl,rfl⟩,?_⟩
 rintro⟨x,y⟩ ⟨⟨⟨h1,h2⟩,h3,h4⟩,h5⟩
 dsimp only at h1 h2 h3 h4 h5 ⊢
 refine⟨λhy=>⟨by omega,(y,x.tmod y),⟨⟨⟨h3,h4⟩,?_,?_⟩,?_⟩,?_,rfl,rfl⟩,λhy=>?_⟩
 ·rw[Int.tmod_eq_emod_of_nonneg h1]
  exact Int.emod_nonneg x (by omega)
 ·rw[Int.tmod_eq_emod_of_nonneg h1]
  have k2:=Int.emod_lt_of_pos x hy
  dsimp only; omega
 ·exact(wl7 h1 h3).trans h5
 ·rw[Int.tmod_eq_emod_of_nonneg h1]
  have k1:=Int.emod_nonneg x (b:=y) (by omega)
  have k2:=Int.emod_lt_of_pos x hy
  dsimp only; omega
 ·obtain rfl:y=0:=by omega
  rw[wl8 x h1] at h5
  have hp:=qp9 (a:=n) (b:=d) (.inr (by omega))
  have q1:=qk3 (g:=x) (a:=n) (K:=BIG) (by omega)
  have q2:=qk3 (g:=x) (a:=d) (K:=BIG) (by omega)
  have e:ofR n d=(n.tdiv x,d.tdiv x):=by unfold ofR; rw[if_neg (by omega),h5]
  rw[e]
  exact⟨by omega,qa6 (by omega) (by omega),by omega,qa6 (by omega) (by omega),rfl,rfl⟩
structure w1a (n:Int) (l:List Int) (k:Nat):Prop where
 le:k<=l.length
 ok:∀i,i<k->inB (nI l i) 0 (n-1)=true
def x00 (n:Int) (l:List Int):Nat->Option Inv
 | 0=>some (Inv.of [5] 0 (λk:Nat=>[(5,.lit (.int .i64 k))]) (λ_=>[]) (λk=>1<=k/\(AscTo l k\/(k=1/\l=[]))) (λk=>l.length-k))
 | 1=>some (Inv.of [26] 0 (λk:Nat=>[(26,.lit (.int .i64 k))]) (λ_=>[]) (λk=>w1a n l k) (λk=>l.length-k))
 | _=>none
abbrev x45:qb9:=qg1 true none [tInts,tInt] [tInt] (λx=>x.1.length<=1000000) (λx=>(wh5 x.2.1 x.1,()))
theorem w3w:qd6 Tryz.prog 60 x45:=by
 refine meets (snd (SpecsOk.nil _)) Tryz.func60 rfl rfl (λx=>x00 x.2.1 x.1) (λ_=>by kernel_rfl) (by decide) ?_
 rintro⟨l,n,⟨⟩⟩ hl
 revert l n
 intro(l:List Int) (n:Int) (hl:l.length<=1000000)
 refine @qd9 _ (∃(v0:Unit),∃(v1:Nat),((1:Nat)<=v1/\(AscTo l v1\/v1=(1:Nat)/\l=[]))/\(((1:Int)=(↑v1:Int)/\True)/\True)/\∀(v2:Nat),(1:Nat)<=v2/\(AscTo l v2\/v2=(1:Nat)/\l=[])->(decide ((↑v2:Int)<(↑l.length:Int))=true->((0:Int)<=(↑v2:Int)/\(↑v2:Int)<(↑l.length:Int))/\fits .i64 ((↑v2:Int)-(1:Int))/\((0:Int)<=(↑v2:Int)-(1:Int)/\(↑v2:Int)-(1:Int)<(↑l.length:Int))/\(decide (nI l v2<=nI l ((↑v2:Int)-(1:Int)).toNat)=true->(7:Int)=wh5 n l)/\(decide (nI l v2<=nI l ((↑v2:Int)-(1:Int)).toNat)=false->fits .i64 ((↑v2:Int)+(1:Int))/\∃(v6:Nat),((1:Nat)<=v6/\(AscTo l v6\/v6=(1:Nat)/\l=[]))/\l.length-v6<l.length-v2/\((↑v2:Int)+(1:Int)=(↑v6:Int)/\True)/\True))/\(decide ((↑v2:Int)<(↑l.length:Int))=false->∃(v5:Unit),∃(v6:Nat),w1a n l v6/\(((0:Int)=(↑v6:Int)/\True)/\True)/\∀(v7:Nat),w1a n l v7->(decide ((↑v7:Int)<(↑l.length:Int))=true->((0:Int)<=(↑v7:Int)/\(↑v7:Int)<(↑l.length:Int))/\(decide (nI l v7<(0:Int))=true->(5:Int)=wh5 n l)/\(decide (nI l v7<(0:Int))=false->(decide (n<=nI l v7)=true->(5:Int)=wh5 n l)/\(decide (n<=nI l v7)=false->fits .i64 ((↑v7:Int)+(1:Int))/\∃(v12:Nat),w1a n l v12/\l.length-v12<l.length-v7/\((↑v7:Int)+(1:Int)=(↑v12:Int)/\True)/\True)))/\(decide ((↑v7:Int)<(↑l.length:Int))=false->(0:Int)=wh5 n l))) (by kernel_rfl) ?_
 try simp only[z0,z1,z2,z3,z4,z5,z6,z7,z8,z9,z10,Int.reduceEq,z11,z12,z13,z14,z15,z16,z17,z18,z19,z20,z21,z22,z23,z24,z25,z26,z27,z28,z29,z30,Int.reduceLE,Int.reduceLT,z31,z32,z33,z34,qa3]
 try simp only[qb4,qb5,qc0,z31,z32,z2,z1]
 refine⟨(),1,⟨Nat.le_refl _,?_⟩,rfl,λk ⟨h1,hk⟩=>⟨λhlt=>?_,λhge=>?_⟩⟩
 ·cases l with
  | nil=>exact .inr ⟨rfl,rfl⟩
  | cons a l=>exact .inl ⟨by simp,λi h0 hi=>by omega⟩
 ·have hk:AscTo l k:=hk.resolve_right λ⟨_,e⟩=>by subst e; simp at hlt
  have e:((k:Int)-1).toNat=k-1:=by omega
  rw[e]
  exact⟨hlt,qa6 (by omega) (by omega),⟨by omega,by omega⟩,λh2=>by unfold wh5; rw[if_pos (xb8 (by omega) hlt h2)],λh2=>⟨qa6 (by omega) (by omega),k+1,⟨by omega,.inl (hk.step hlt (.inr h2))⟩,by omega,by omega⟩⟩
 ·have ha:xb7 l=true:=by
   rcases hk with hk | ⟨_,rfl⟩
   ·obtain rfl:k=l.length:=by have:=hk.le; omega
    exact hk.all
   ·rfl
  refine⟨(),0,⟨Nat.zero_le _,λi hi=>by omega⟩,rfl,λj hj=>⟨λhlt=>?_,λhge2=>?_⟩⟩
  ·have bad:¬(0<=nI l j/\nI l j<=n-1)->5=wh5 n l:=λq=>by
    have:(l.any λp=>!(inB p 0 (n-1)))=true:=by
     rw[List.any_eq_true]
     exact⟨nI l j,by rw[qg4 l j hlt]; exact List.getElem_mem hlt,by rw[xr2.2 q]; rfl⟩
    simp[wh5,ha,this]
   refine⟨hlt,λh0=>bad λq=>Int.not_lt.2 q.1 h0,λh0=>⟨λh2=>bad λq=>absurd (show n<=nI l j from h2) (by omega),λh2=>⟨qa6 (by omega) (by omega),j+1,⟨hlt,λi hi=>?_⟩,by omega,by omega⟩⟩⟩
   by_cases e:i=j
   ·subst e; exact inB_iff.2 ⟨h0,by omega⟩
   ·exact hj.ok i (by omega)
  ·obtain rfl:j=l.length:=by have:=hj.le; omega
   have:(l.any λp=>!(inB p 0 (n-1)))=false:=by
    rw[List.any_eq_false]
    intro x hx
    obtain⟨i,hi,rfl⟩:=List.getElem_of_mem hx
    have:=hj.ok i hi
    rw[qg4 l i hi] at this
    rw[this]; simp
   simp[wh5,ha,this]
def x01 (h pix:List Int):Nat->Option Inv
 | 0=>some (Inv.of [6,13] 1 (λk:Nat=>[(6,.lit (.int .i64 (q2q h k))),(13,.lit (.int .i64 k))]) (λ_=>[.box 34 x0v]) (λk=>k<=h.length) (λk=>h.length-k))
 | 1=>some (Inv.of [5,24] 1 (λk:Nat=>[(5,.lit (.int .i64 (qm6 h pix k))),(24,.lit (.int .i64 k))]) (λ_=>[.box 34 x0v]) (λk=>k<=pix.length) (λk=>pix.length-k))
 | _=>none
abbrev x46:qb9:=qg1 true none [tInts,tInts] [q0c] (λx=>wo1 x.1 x.2.1) (λx=>(shR x.1 x.2.1,()))
theorem q9l:qd6 Tryz.prog 61 x46:=by
 refine meets (snd (SpecsOk.cons w3u (SpecsOk.cons w3v (SpecsOk.nil _)))) Tryz.func61 rfl rfl (λx=>x01 x.1 x.2.1) (λ_=>by kernel_rfl) (by decide) ?_
 rintro⟨h,p,⟨⟩⟩ hh
 revert h p
 intro(h:List Int) (p:List Int) (hh:wo1 h p)
 refine @qd9 _ (∃(v0:Unit),∃(v1:Nat),Nat.le v1 h.length/\(((0:Int)=q2q h v1/\(0:Int)=(↑v1:Int)/\True)/\((0:Int)=(0:Int)/\(0:Int)=(0:Int)/\True)/\True)/\∀(v2:Nat),Nat.le v2 h.length->(decide ((↑v2:Int)<(↑h.length:Int))=true->((0:Int)<=(↑v2:Int)/\(↑v2:Int)<(↑h.length:Int))/\qf4 (1000000000:Int) (nI h v2)/\fits .i64 (q2q h v2+q0a (nI h v2))/\fits .i64 ((↑v2:Int)+(1:Int))/\∃(v5:Nat),Nat.le v5 h.length/\h.length-v5<h.length-v2/\(q2q h v2+q0a (nI h v2)=q2q h v5/\(↑v2:Int)+(1:Int)=(↑v5:Int)/\True)/\((0:Int)=(0:Int)/\(0:Int)=(0:Int)/\True)/\True)/\(decide ((↑v2:Int)<(↑h.length:Int))=false->∃(v5:Unit),∃(v6:Nat),Nat.le v6 p.length/\(((0:Int)=qm6 h p v6/\(0:Int)=(↑v6:Int)/\True)/\((0:Int)=(0:Int)/\(0:Int)=(0:Int)/\True)/\True)/\∀(v7:Nat),Nat.le v7 p.length->(decide ((↑v7:Int)<(↑p.length:Int))=true->((0:Int)<=(↑v7:Int)/\(↑v7:Int)<(↑p.length:Int))/\((0:Int)<=nI p v7/\nI p v7<(↑h.length:Int))/\qf4 (1000000000:Int) (nI h (nI p v7).toNat)/\fits .i64 (qm6 h p v7+q0a (nI h (nI p v7).toNat))/\fits .i64 ((↑v7:Int)+(1:Int))/\∃(v10:Nat),Nat.le v10 p.length/\p.length-v10<p.length-v7/\(qm6 h p v7+q0a (nI h (nI p v7).toNat)=qm6 h p v10/\(↑v7:Int)+(1:Int)=(↑v10:Int)/\True)/\((0:Int)=(0:Int)/\(0:Int)=(0:Int)/\True)/\True)/\(decide ((↑v7:Int)<(↑p.length:Int))=false->(((0:Ty.den tInt)<=qm6 h p v7/\qm6 h p v7<=BIG)/\(0:Ty.den tInt)<q2q h v2/\q2q h v2<=BIG)/\(ofR (qm6 h p v7) (q2q h v2)).1=(shR h p).1/\(ofR (qm6 h p v7) (q2q h v2)).2=(shR h p).2/\True))) (by kernel_rfl) ?_
 try simp only[z0,z1,z2,z3,z4,z5,z6,z7,z8,z9,z10,Int.reduceEq,z11,z12,z13,z14,z15,z16,z17,z18,z19,z20,z21,z22,z23,z24,z25,z26,z27,z28,z29,z30,Int.reduceLE,Int.reduceLT,z31,z32,z33,z34,qa3]
 try simp only[qb4,qb5,qc0,z31,z32,z2,z1]
 have hl:=hh.len
 have hb:=hh.ok.len
 refine⟨(),0,Nat.zero_le _,⟨rfl,rfl⟩,λk hk=>⟨λhlt=>?_,λhge=>?_⟩⟩
 ·have h1:=qz1 hh.ok k
  have h2:=qz1 hh.ok (k+1)
  have h3:=hh.ok.sm k
  unfold qf4 at h3
  have e:q2q h k+q0a (nI h k)=q2q h (k+1):=rfl
  exact⟨hlt,by unfold qf4; omega,qa6 (by omega) (by omega),qa6 (by omega) (by omega),k+1,hlt,by omega,e,by push_cast; rfl⟩
 obtain rfl:k=h.length:=by omega
 refine⟨(),0,Nat.zero_le _,⟨rfl,rfl⟩,λk hk=>⟨λhlt=>?_,λhge=>?_⟩⟩
 ·have h1:=qz2 (pix:=p) hh.ok k
  have h2:=qz2 (pix:=p) hh.ok (k+1)
  have h3:=hh.ok.sm (nI p k).toNat
  have h4:=hh.at_ k hlt
  unfold qf4 at h3
  have e:qm6 h p k+q0a (nI h (nI p k).toNat)=qm6 h p (k+1):=rfl
  exact⟨hlt,h4,by unfold qf4; omega,qa6 (by omega) (by omega),qa6 (by omega) (by omega),k+1,hlt,by omega,e,by push_cast; rfl⟩
 ·obtain rfl:k=p.length:=by omega
  have h1:=qz2 (pix:=p) hh.ok p.length
  have h2:=qz1 hh.ok h.length
  have h3:=q7c hh.ok hh.ne
  unfold szL at h3
  have hB:BIG=4000000000000000000:=rfl
  exact⟨⟨⟨h1.1,by omega⟩,h3,by omega⟩,rfl,rfl⟩
end Go.Proofs.YtempacilejhbgaaGreat
