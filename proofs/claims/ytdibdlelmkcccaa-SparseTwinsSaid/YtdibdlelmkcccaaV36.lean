/- The law SparseTwins: contract by the engine. No condition. -/
import Derived.Test.YtdibdlelmkcccaaV34
import Derived.Test.YtdibdlelmkcccaaW17
set_option linter.unusedVariables false
set_option linter.unusedSimpArgs false
namespace Go.Proofs.Ytdibdlelmkcccaa
open Go Go.RowKit Eng
theorem wd1 (m:List (List Int)) (k:Int):(qd1 m k).2.2=q0d m k:=by
 unfold qd1
 split
 ·rename_i h; exact h.symm
 ·rfl
theorem w69 {m:List (List Int)} {k:Int} (h:q0d m k=0):(qd1 m k).1=twA (qb4 m).1 k (qb4 m).1.length/\(qd1 m k).2.1=twB (qb4 m).1 k (qb4 m).1.length:=by
 unfold qd1
 rw[if_pos h]
 exact⟨rfl,rfl⟩
theorem w7a {m:List (List Int)} (hl:qk7 m=true) (k:Int):(qd1 m k).1.length<=10/\(qd1 m k).2.1.length<=10/\∀i,-160<=nI ((qd1 m k).1++(qd1 m k).2.1) i/\nI ((qd1 m k).1++(qd1 m k).2.1) i<=160:=by
 have hc:=q3u hl
 by_cases h:q0d m k=0
 ·obtain⟨e1,e2⟩:=w69 h
  have T:=xk9 (h:=(qb4 m).1) hc.2 (k:=k) (qb4 m).1.length (Nat.le_refl _)
  rw[e1,e2,q67,q68]
  refine⟨hc.1,hc.1,λi=>?_⟩
  rcases Nat.lt_or_ge i (twA (qb4 m).1 k (qb4 m).1.length).length with q | q
  ·rw[qh9 _ i (by rw[List.length_append]; omega),List.getElem_append_left q,<- qh9 _ i q]
   have:=T.sa i; omega
  ·rcases Nat.lt_or_ge i (twA (qb4 m).1 k (qb4 m).1.length++twB (qb4 m).1 k (qb4 m).1.length).length with q2 | q2
   ·have q3:i-(twA (qb4 m).1 k (qb4 m).1.length).length<(twB (qb4 m).1 k (qb4 m).1.length).length:=by rw[List.length_append] at q2; omega
    rw[qh9 _ i q2,List.getElem_append_right q,<- qh9 _ _ q3]
    have:=T.sb (i-(twA (qb4 m).1 k (qb4 m).1.length).length); omega
   ·rw[qw2 _ q2]; omega
 ·have:qd1 m k=([],[],q0d m k):=by unfold qd1; rw[if_neg h]
  rw[this]
  refine⟨Nat.zero_le _,Nat.zero_le _,λi=>?_⟩
  rw[qw2 _ (Nat.zero_le _)]
  omega
theorem xl0 {m:List (List Int)} (hl:qk7 m=true):0<=(qi3 m).1+1/\(qi3 m).1<=1000000:=by
 have h10:=(q3u hl).1
 have hn:=q04 (qb4 m).1 (qb4 m).1.length
 have e:(qh5 m).1=(nzTo (qb4 m).1 (qb4 m).1.length:Int):=rfl
 unfold qi3
 split
 ·have h1:qf3 10 ((qh5 m).1-1):=by unfold qf3; omega
  have h2:qf3 10 (((qh5 m).1-1).tdiv 2):=ql4 h1
  have h3:(((qh5 m).1-1).tdiv 2).natAbs=((qh5 m).1-1).natAbs / 2:=Int.natAbs_tdiv _ _
  unfold qf3 at h2
  show 0<=((qh5 m).1-1).tdiv 2+1/\((qh5 m).1-1).tdiv 2<=1000000
  rcases Int.lt_or_le ((qh5 m).1-1) 0 with q | q
  ·omega
  ·have:=Int.tdiv_nonneg q (show(0:Int)<=2 by decide); omega
 ·split
  ·rename_i h8
   have hv:qd3 m=true:=by
    cases e:qd3 m with
    | true=>rfl
    | false=>
     have e2:(qh5 m).2=1:=by unfold qh5; rw[q3t e]
     rw[e2] at h8; cases h8
   have:=(Mk.of hv).pix10
   show 0<=((nL m 0).length:Int)+1/\((nL m 0).length:Int)<=1000000
   omega
  ·show(0:Int)<=0+1/\(0:Int)<=1000000
   omega
abbrev xl1:qc9:=qh6 true none [qk0,qg1,qf6,qf6] [.bool] (λx=>q6o x.1) (λ_=>(true,()))
def x1c (l:List Int):Nat->Option Inv
 | 0=>some (Inv.of [78,80] 1 (λi:Nat=>[(78,.own 0),(80,.lit (.int .i64 i))]) (λi=>[.vec 3 (.int .i64) l]) (λi=>i<=l.length) (λi=>l.length-i))
 | _=>none
theorem q4o:qe1 Try.prog 6 xl1:=by
 refine meets (xf8 [] [76,78] (SpecsOk.cons w53 (SpecsOk.cons w2i (SpecsOk.cons wl5 (SpecsOk.cons w2h (SpecsOk.cons wq4 (SpecsOk.cons w89 (SpecsOk.cons wq7 (SpecsOk.cons q84 (SpecsOk.cons q4y (SpecsOk.nil _))))))))))) Try.func6 rfl rfl (λx=>x1c ((qd1 x.1 x.2.1).1++(qd1 x.1 x.2.1).2.1)) (λ_=>by kernel_rfl) (by decide) ?_
 rintro⟨m,k,a,b,⟨⟩⟩ h
 revert m k a b
 intro(m:List (List Int)) (k:Int) (a:List Int) (b:List Int) (h:q6o m)
 refine qe6 (B:=q6o m/\((!qk7 m)=true->True/\true=true)/\((!qk7 m)=false->List.length [a,b]<=(1000:Nat)/\(wb9 [a,b]=true->True/\true=true)/\(wb9 [a,b]=false->wb6 m a b/\wb6 m a b/\((qj0 m k a b != qj0 m k a b)=true->false=true)/\((qj0 m k a b != qj0 m k a b)=false->xh7 m/\w7e m/\((Prod.snd (Prod.snd (qd1 m k)) != qu7 m k)=true->false=true)/\((Prod.snd (Prod.snd (qd1 m k)) != qu7 m k)=false->((Prod.snd (Prod.snd (qd1 m k))==(0:Int))=true->wb6 m (Prod.fst (qd1 m k)) (Prod.fst (Prod.snd (qd1 m k)))/\((!qj0 m k (Prod.fst (qd1 m k)) (Prod.fst (Prod.snd (qd1 m k))))=true->false=true)/\((!qj0 m k (Prod.fst (qd1 m k)) (Prod.fst (Prod.snd (qd1 m k))))=false->wb6 m (Prod.fst (qd1 m k)) (Prod.fst (Prod.snd (qd1 m k)))/\((!qj0 m k (Prod.fst (qd1 m k)) (Prod.fst (Prod.snd (qd1 m k))))=true->false=true)/\((!qj0 m k (Prod.fst (qd1 m k)) (Prod.fst (Prod.snd (qd1 m k))))=false->Nat.le ((0:Nat)+List.length (Prod.fst (qd1 m k))) (1000000:Nat)/\Nat.le (List.length ([]++Prod.fst (qd1 m k))+List.length (Prod.fst (Prod.snd (qd1 m k)))) (1000000:Nat)/\∃(v7:Unit),∃(v8:Nat),Nat.le v8 (List.length (Prod.fst (qd1 m k)++Prod.fst (Prod.snd (qd1 m k))))/\((True/\(0:Int)=(↑v8:Int)/\True)/\[]++Prod.fst (qd1 m k)++Prod.fst (Prod.snd (qd1 m k))=Prod.fst (qd1 m k)++Prod.fst (Prod.snd (qd1 m k))/\True)/\∀(v9:Nat),Nat.le v9 (List.length (Prod.fst (qd1 m k)++Prod.fst (Prod.snd (qd1 m k))))->(decide ((↑v9:Int)<(↑(List.length ([]++Prod.fst (qd1 m k)++Prod.fst (Prod.snd (qd1 m k)))):Int))=true->((0:Int)<=(↑v9:Int)/\(↑v9:Int)<(↑(List.length (Prod.fst (qd1 m k)++Prod.fst (Prod.snd (qd1 m k)))):Int))/\Int.toNat (↑v9:Int)<List.length (Prod.fst (qd1 m k)++Prod.fst (Prod.snd (qd1 m k)))/\(decide (qa3 (Ty.int .i64) (Prod.fst (qd1 m k)++Prod.fst (Prod.snd (qd1 m k))) (Int.toNat (↑v9:Int))<(-160:Int))=true->false=true)/\(decide (qa3 (Ty.int .i64) (Prod.fst (qd1 m k)++Prod.fst (Prod.snd (qd1 m k))) (Int.toNat (↑v9:Int))<(-160:Int))=false->(decide ((160:Int)<qa3 (Ty.int .i64) (Prod.fst (qd1 m k)++Prod.fst (Prod.snd (qd1 m k))) (Int.toNat (↑v9:Int)))=true->false=true)/\(decide ((160:Int)<qa3 (Ty.int .i64) (Prod.fst (qd1 m k)++Prod.fst (Prod.snd (qd1 m k))) (Int.toNat (↑v9:Int)))=false->fits .i64 ((↑v9:Int)+(1:Int))/\∃(v14:Nat),Nat.le v14 (List.length (Prod.fst (qd1 m k)++Prod.fst (Prod.snd (qd1 m k))))/\List.length (Prod.fst (qd1 m k)++Prod.fst (Prod.snd (qd1 m k)))-v14<List.length (Prod.fst (qd1 m k)++Prod.fst (Prod.snd (qd1 m k)))-v9/\(True/\(↑v9:Int)+(1:Int)=(↑v14:Int)/\True)/\Prod.fst (qd1 m k)++Prod.fst (Prod.snd (qd1 m k))=Prod.fst (qd1 m k)++Prod.fst (Prod.snd (qd1 m k))/\True)))/\(decide ((↑v9:Int)<(↑(List.length ([]++Prod.fst (qd1 m k)++Prod.fst (Prod.snd (qd1 m k)))):Int))=false->q45 m/\((Prod.snd (qi3 m) != (0:Int))=true->True/\true=true)/\((Prod.snd (qi3 m) != (0:Int))=false->fits .i64 (Prod.fst (qi3 m)+(1:Int))/\xh7 m/\w7e m/\((!qj0 m k a b)=true->((Prod.snd (qi0 m) != (0:Int))=true->True/\true=true)/\((Prod.snd (qi0 m) != (0:Int))=false->(decide ((10:Int)<=Prod.fst (qi3 m))=true->True/\true=true)/\(decide ((10:Int)<=Prod.fst (qi3 m))=false->((Prod.snd (Prod.snd (qd1 m (Prod.fst (qi3 m)+(1:Int))))==(0:Int))=true->True/\true=true)/\((Prod.snd (Prod.snd (qd1 m (Prod.fst (qi3 m)+(1:Int))))==(0:Int))=false->false=true))))/\((!qj0 m k a b)=false->(decide (Prod.fst (qi3 m)<k)=true->((Prod.snd (qi0 m) != (0:Int))=true->True/\true=true)/\((Prod.snd (qi0 m) != (0:Int))=false->(decide ((10:Int)<=Prod.fst (qi3 m))=true->True/\true=true)/\(decide ((10:Int)<=Prod.fst (qi3 m))=false->((Prod.snd (Prod.snd (qd1 m (Prod.fst (qi3 m)+(1:Int))))==(0:Int))=true->True/\true=true)/\((Prod.snd (Prod.snd (qd1 m (Prod.fst (qi3 m)+(1:Int))))==(0:Int))=false->false=true))))/\(decide (Prod.fst (qi3 m)<k)=false->false=true)))))))/\((Prod.snd (Prod.snd (qd1 m k))==(0:Int))=false->Nat.le ((0:Nat)+List.length (Prod.fst (qd1 m k))) (1000000:Nat)/\Nat.le (List.length ([]++Prod.fst (qd1 m k))+List.length (Prod.fst (Prod.snd (qd1 m k)))) (1000000:Nat)/\∃(v5:Unit),∃(v6:Nat),Nat.le v6 (List.length (Prod.fst (qd1 m k)++Prod.fst (Prod.snd (qd1 m k))))/\((True/\(0:Int)=(↑v6:Int)/\True)/\[]++Prod.fst (qd1 m k)++Prod.fst (Prod.snd (qd1 m k))=Prod.fst (qd1 m k)++Prod.fst (Prod.snd (qd1 m k))/\True)/\∀(v7:Nat),Nat.le v7 (List.length (Prod.fst (qd1 m k)++Prod.fst (Prod.snd (qd1 m k))))->(decide ((↑v7:Int)<(↑(List.length ([]++Prod.fst (qd1 m k)++Prod.fst (Prod.snd (qd1 m k)))):Int))=true->((0:Int)<=(↑v7:Int)/\(↑v7:Int)<(↑(List.length (Prod.fst (qd1 m k)++Prod.fst (Prod.snd (qd1 m k)))):Int))/\Int.toNat (↑v7:Int)<List.length (Prod.fst (qd1 m k)++Prod.fst (Prod.snd (qd1 m k)))/\(decide (qa3 (Ty.int .i64) (Prod.fst (qd1 m k)++Prod.fst (Prod.snd (qd1 m k))) (Int.toNat (↑v7:Int))<(-160:Int))=true->false=true)/\(decide (qa3 (Ty.int .i64) (Prod.fst (qd1 m k)++Prod.fst (Prod.snd (qd1 m k))) (Int.toNat (↑v7:Int))<(-160:Int))=false->(decide ((160:Int)<qa3 (Ty.int .i64) (Prod.fst (qd1 m k)++Prod.fst (Prod.snd (qd1 m k))) (Int.toNat (↑v7:Int)))=true->false=true)/\(decide ((160:Int)<qa3 (Ty.int .i64) (Prod.fst (qd1 m k)++Prod.fst (Prod.snd (qd1 m k))) (Int.toNat (↑v7:Int)))=false->fits .i64 ((↑v7:Int)+(1:Int))/\∃(v12:Nat),Nat.le v12 (List.length (Prod.fst (qd1 m k)++Prod.fst (Prod.snd (qd1 m k))))/\List.length (Prod.fst (qd1 m k)++Prod.fst (Prod.snd (qd1 m k)))-v12<List.length (Prod.fst (qd1 m k)++Prod.fst (Prod.snd (qd1 m k)))-v7/\(True/\(↑v7:Int)+(1:Int)=(↑v12:Int)/\True)/\Prod.fst (qd1 m k)++Prod.fst (Prod.snd (qd1 m k))=Prod.fst (qd1 m k)++Prod.fst (Prod.snd (qd1 m k))/\True)))/\(decide ((↑v7:Int)<(↑(List.length ([]++Prod.fst (qd1 m k)++Prod.fst (Prod.snd (qd1 m k)))):Int))=false->q45 m/\((Prod.snd (qi3 m) != (0:Int))=true->True/\true=true)/\((Prod.snd (qi3 m) != (0:Int))=false->fits .i64 (Prod.fst (qi3 m)+(1:Int))/\xh7 m/\w7e m/\((!qj0 m k a b)=true->((Prod.snd (qi0 m) != (0:Int))=true->True/\true=true)/\((Prod.snd (qi0 m) != (0:Int))=false->(decide ((10:Int)<=Prod.fst (qi3 m))=true->True/\true=true)/\(decide ((10:Int)<=Prod.fst (qi3 m))=false->((Prod.snd (Prod.snd (qd1 m (Prod.fst (qi3 m)+(1:Int))))==(0:Int))=true->True/\true=true)/\((Prod.snd (Prod.snd (qd1 m (Prod.fst (qi3 m)+(1:Int))))==(0:Int))=false->false=true))))/\((!qj0 m k a b)=false->(decide (Prod.fst (qi3 m)<k)=true->((Prod.snd (qi0 m) != (0:Int))=true->True/\true=true)/\((Prod.snd (qi0 m) != (0:Int))=false->(decide ((10:Int)<=Prod.fst (qi3 m))=true->True/\true=true)/\(decide ((10:Int)<=Prod.fst (qi3 m))=false->((Prod.snd (Prod.snd (qd1 m (Prod.fst (qi3 m)+(1:Int))))==(0:Int))=true->True/\true=true)/\((Prod.snd (Prod.snd (qd1 m (Prod.fst (qi3 m)+(1:Int))))==(0:Int))=false->false=true))))/\(decide (Prod.fst (qi3 m)<k)=false->false=true)))))))))) (by kernel_rfl) ?_
 try simp only[z0,z1,z2,z3,z4,z5,z6,z7,z8,z9,z10,Int.reduceEq,z11,z12,z13,z14,z15,z16,z17,z18,z19,z20,z21,z22,z23,z24,z25,z26,z27,z28,z29,z30,Int.reduceLE,Int.reduceLT,z31,z32,z33,z34,qa4]
 try simp only[qb8,qb9,qd2,List.set_cons_zero,List.cons.injEq,and_true,true_and]
 refine⟨h,λhl=>⟨by omega,λhg=>?_⟩⟩
 have hab:a.length<=100/\b.length<=100:=by
  unfold wb9 at hg
  rw[List.any_eq_false] at hg
  have h1:=hg a (by simp)
  have h2:=hg b (by simp)
  simp at h1 h2
  omega
 have hp:wb6 m a b:=⟨h,by omega,by omega⟩
 obtain⟨l1,l2,l3⟩:=w7a hl k
 have hsb:=xl0 hl
 have hq:wb6 m (qd1 m k).1 (qd1 m k).2.1:=⟨h,by omega,by omega⟩
 have ht:=x4z hl
 have hk:=x42 h hl
 have tail:q45 m/\((qi3 m).snd=0->fits IntKind.i64 ((qi3 m).fst+1)/\xh7 m/\w7e m/\(qj0 m k a b=false->(qi0 m).snd=0->(qi3 m).fst<10->¬(qd1 m ((qi3 m).fst+1)).snd.snd=0->false=true) /\
   (qj0 m k a b=true->((qi3 m).fst<k->(qi0 m).snd=0->(qi3 m).fst<10->¬(qd1 m ((qi3 m).fst+1)).snd.snd=0->false=true)/\(k<=(qi3 m).fst->false=true))):=
  ⟨xu5 hl,λh0=>⟨qa8 (by omega) (by omega),ht,hk,λ_ h1 h2 h3=>absurd (by rw[wd1]; exact wm4 hl h1 h2) h3,λhtw=>⟨λ_ h1 h2 h3=>absurd (by rw[wd1]; exact wm4 hl h1 h2) h3,λh1=>by have:=xk7 hl htw h0; omega⟩⟩⟩
 have loop:(qd1 m k).fst.length<=1000000/\(qd1 m k).fst.length+(qd1 m k).snd.fst.length<=1000000:=by omega
 refine⟨hp,hp,λq=>absurd trivial q,ht,hk,λhn=>absurd (by rw[wd1,xk8 hl]) hn,λhe=>⟨λh0=>?_,λh0=>?_⟩⟩
 ·rw[wd1] at h0
  have hb:qj0 m k (qd1 m k).1 (qd1 m k).2.1=true:=by
   rw[(w69 h0).1,(w69 h0).2]; exact w92 hl h0
  refine⟨hq,(λq=>by rw[hb] at q; cases q),λ_=>⟨hq,(λq=>by rw[hb] at q; cases q),λ_=>⟨loop.1,loop.2,(),0,Nat.zero_le _,rfl,λi hi=>⟨λhlt=>?_,λ_=>tail⟩⟩⟩⟩
  have:=l3 i
  exact⟨hlt,hlt,λq=>absurd q (Int.not_lt.2 this.1),λ_=>⟨λq=>absurd q (Int.not_lt.2 this.2),λ_=>⟨qa8 (by omega) (by rw[List.length_append] at hlt; omega),i+1,hlt,by omega,by omega⟩⟩⟩
 ·refine⟨loop.1,loop.2,(),0,Nat.zero_le _,rfl,λi hi=>⟨λhlt=>?_,λ_=>tail⟩⟩
  have:=l3 i
  exact⟨hlt,hlt,λq=>absurd q (Int.not_lt.2 this.1),λ_=>⟨λq=>absurd q (Int.not_lt.2 this.2),λ_=>⟨qa8 (by omega) (by rw[List.length_append] at hlt; omega),i+1,hlt,by omega,by omega⟩⟩⟩
end Go.Proofs.Ytdibdlelmkcccaa
