/- Masks, and the errors of masks, readings and pixels: contracts by the engine. No condition. -/
import Derived.Test.YtmijnbjlhnpokaaGreatV1
set_option linter.unusedVariables false
set_option linter.unusedSimpArgs false
namespace Go.Proofs.YtmijnbjlhnpokaaGreat
open Go Go.RowKit Eng
def x0f:Int:=2000000000000000000
def q1 (r b:List Int) (c:Nat):Int:=(nI b c).tdiv (qe2 (nI r c) (nI b c))
def q2 (r b:List Int) (c:Nat):Int:=(nI r c).tdiv (qe2 (nI r c) (nI b c))
def xr0 (r b:List Int) (c i:Nat):Int:=(nI r i)*q1 r b c-(nI b i)*q2 r b c
def q5i (r b:List Int) (c:Nat):List Int:=(List.range r.length).map (xr0 r b c)
def qx4 (r b:List Int) (c:Nat):List Int:=qf2 (q5i r b c)
structure wl7 (r b:List Int) (c:Nat):Prop where
 at_:c<r.length
 len:b.length=r.length
 max:r.length<=1000
 ne:(nI b c)≠(0:Int)
 bdr:qc8 BIG (nI r c)
 bdb:qc8 BIG (nI b c)
 one:∀i,i<r.length->qc8 x0f ((nI r i)*q1 r b c)
 two:∀i,i<r.length->qc8 x0f ((nI b i)*q2 r b c)
def xk7:qs6:=w6f (wc6 [qf1,qg0]) false false 0 3 (.int .i64) (λrows x=>0<=x.2.1/\wl7 (nL rows 0) x.1 x.2.1.toNat) (λ_ _=>.tup .nil) (λrows x=>[qx4 (nL rows 0) x.1 x.2.1.toNat])
def clK (r b:List Int) (c k:Nat):List Int:=ovr (.int .i64) (xr0 r b c) r k
def xr1 (T:q8a) (r b:List Int) (c:Nat):Nat->Option Inv
 | 0=>some (Inv.of [0,23] 11 (λs:Nat × List Int=>[(0,.msl 0 (some 0)),(23,.lit (.int .i64 s.1))]) (λs=>[.mat 0 3 (.int .i64) [s.2] (some []) (some T),.dead,.dead,.dead,.dead,.dead,.dead,.dead,.dead,.dead,.dead]) (λs=>s.1<=r.length/\s.2=clK r b c s.1) (λs=>r.length-s.1))
 | _=>none
theorem q1v (r b:List Int) (c:Nat):(q5i r b c).length=r.length:=by simp[q5i]
theorem xr2 (r b:List Int) (c k:Nat):(clK r b c k).length=r.length:=qq5 (.int .i64) _ r k
theorem x0g (r b:List Int) (c k:Nat) (hk:k<r.length):nI (clK r b c k) k=nI r k:=(q3t (.int .i64) _ r k k hk).trans (if_neg (Nat.lt_irrefl k))
theorem xe0 (r b:List Int) (c k:Nat):(clK r b c k).set k (xr0 r b c k)=clK r b c (k+1):=qt4 (.int .i64) _ r k
theorem xr3 (r b:List Int) (c:Nat):clK r b c r.length=q5i r b c:=q07 (.int .i64) _ r _ (Nat.le_refl _)
theorem w29 {r b:List Int} {c:Nat} (h:wl7 r b c):q7e (q5i r b c):=by
 refine⟨by rw[q1v]; exact h.max,λx hx=>?_⟩
 unfold q5i at hx
 obtain⟨i,hi,rfl⟩:=List.mem_map.1 hx
 have hi:=List.mem_range.1 hi
 have h1:=h.one i hi
 have h2:=h.two i hi
 unfold xr0
 unfold x0f at h1 h2
 unfold BIG
 omega
theorem wt1:qx1 Tryz.prog 131 xk7:=by
 refine w0s (x7i (SpecsOk.cons qp6 (SpecsOk.nil _)) (MutsOk.cons q2v MutsOk.nil)) Tryz.func131 rfl rfl (q1u [qf1,qg0]) (λT rows x=>xr1 T (nL rows 0) x.1 x.2.1.toNat) (λ_ _ _=>by kernel_rfl) (by decide) ?_ rfl
 rintro T rows ⟨b,c,⟨⟩⟩ h hone
 revert b c
 intro(b:List Int) (c:Int) h
 obtain⟨r,rfl⟩:∃l:List Int,rows=[l]:=by
  have h1:=hone rfl
  match rows,h1 with
  | [l],_=>exact⟨l,rfl⟩
 have h:0<=c/\wl7 r b c.toNat:=h
 obtain⟨j,rfl⟩:∃j:Nat,c=j:=⟨c.toNat,by omega⟩
 refine @qe1 _ (let Q0:=qs6.t xk6; ((0:Int)<=(↑j:Int)/\(↑j:Int)<(↑(nL [r] (0:Nat)).length:Int))/\(↑j:Int).toNat<(nL [r] (0:Nat)).length/\((0:Int)<=(↑j:Int)/\(↑j:Int)<(↑b.length:Int))/\(((-4000000000000000000:Int)<=nI (nL [r] (0:Nat)) (↑j:Int).toNat/\nI (nL [r] (0:Nat)) (↑j:Int).toNat<=BIG)/\(-4000000000000000000:Int)<=nI b (↑j:Int).toNat/\nI b (↑j:Int).toNat<=BIG)/\∃(v0:Unit),∃(v1:Nat × List Int),(v1.1<=(nL [r] (0:Nat)).length/\v1.2=clK (nL [r] (0:Nat)) b (↑j:Int).toNat v1.1)/\((some (0:Nat)=some (0:Nat)/\(0:Int)=(↑v1.1:Int)/\True)/\([r]=[v1.2]/\True/\T=T)/\True/\True/\True/\True/\True/\True/\True/\True/\True/\True/\True)/\∀(v2:Nat × List Int),v2.1<=(nL [r] (0:Nat)).length/\v2.2=clK (nL [r] (0:Nat)) b (↑j:Int).toNat v2.1->(decide ((↑v2.1:Int)<(↑(nL [r] (0:Nat)).length:Int))=true->((0:Int)<=(↑v2.1:Int)/\(↑v2.1:Int)<(↑(nL [v2.2] (0:Nat)).length:Int))/\(↑v2.1:Int).toNat<(nL [v2.2] (0:Nat)).length/\qe2 (nI (nL [r] (0:Nat)) (↑j:Int).toNat) (nI b (↑j:Int).toNat)≠(0:Int)/\fits .i64 (Int.tdiv (nI b (↑j:Int).toNat) (qe2 (nI (nL [r] (0:Nat)) (↑j:Int).toNat) (nI b (↑j:Int).toNat)))/\fits .i64 (nI (nL [v2.2] (0:Nat)) (↑v2.1:Int).toNat*Int.tdiv (nI b (↑j:Int).toNat) (qe2 (nI (nL [r] (0:Nat)) (↑j:Int).toNat) (nI b (↑j:Int).toNat)))/\((0:Int)<=(↑v2.1:Int)/\(↑v2.1:Int)<(↑b.length:Int))/\qe2 (nI (nL [r] (0:Nat)) (↑j:Int).toNat) (nI b (↑j:Int).toNat)≠(0:Int)/\fits .i64 (Int.tdiv (nI (nL [r] (0:Nat)) (↑j:Int).toNat) (qe2 (nI (nL [r] (0:Nat)) (↑j:Int).toNat) (nI b (↑j:Int).toNat)))/\fits .i64 (nI b (↑v2.1:Int).toNat*Int.tdiv (nI (nL [r] (0:Nat)) (↑j:Int).toNat) (qe2 (nI (nL [r] (0:Nat)) (↑j:Int).toNat) (nI b (↑j:Int).toNat)))/\fits .i64 (nI (nL [v2.2] (0:Nat)) (↑v2.1:Int).toNat*Int.tdiv (nI b (↑j:Int).toNat) (qe2 (nI (nL [r] (0:Nat)) (↑j:Int).toNat) (nI b (↑j:Int).toNat))-nI b (↑v2.1:Int).toNat*Int.tdiv (nI (nL [r] (0:Nat)) (↑j:Int).toNat) (qe2 (nI (nL [r] (0:Nat)) (↑j:Int).toNat) (nI b (↑j:Int).toNat)))/\((0:Int)<=(↑v2.1:Int)/\(↑v2.1:Int)<(↑(nL [v2.2] (0:Nat)).length:Int))/\(↑v2.1:Int).toNat<(nL [v2.2] (0:Nat)).length/\fits .i64 ((↑v2.1:Int)+(1:Int))/\∃(v5:Nat × List Int),(v5.1<=(nL [r] (0:Nat)).length/\v5.2=clK (nL [r] (0:Nat)) b (↑j:Int).toNat v5.1)/\(nL [r] (0:Nat)).length-v5.1<(nL [r] (0:Nat)).length-v2.1/\(some (0:Nat)=some (0:Nat)/\(↑v2.1:Int)+(1:Int)=(↑v5.1:Int)/\True)/\(List.set [v2.2] (0:Nat) (List.set (nL [v2.2] (0:Nat)) (↑v2.1:Int).toNat (nI (nL [v2.2] (0:Nat)) (↑v2.1:Int).toNat*Int.tdiv (nI b (↑j:Int).toNat) (qe2 (nI (nL [r] (0:Nat)) (↑j:Int).toNat) (nI b (↑j:Int).toNat))-nI b (↑v2.1:Int).toNat*Int.tdiv (nI (nL [r] (0:Nat)) (↑j:Int).toNat) (qe2 (nI (nL [r] (0:Nat)) (↑j:Int).toNat) (nI b (↑j:Int).toNat))))=[v5.2]/\True/\T=T)/\True/\True/\True/\True/\True/\True/\True/\True/\True/\True/\True)/\(decide ((↑v2.1:Int)<(↑(nL [r] (0:Nat)).length:Int))=false->q7e (nL [qd1 (Ty.list Q0) [v2.2] (0:Nat)] (0:Nat))/\List.set [v2.2] (0:Nat) (qd1 (Ty.list Q0) [qf2 (nL [qd1 (Ty.list Q0) [v2.2] (0:Nat)] (0:Nat))] (0:Nat))=[qx4 (nL [r] (0:Nat)) b (↑j:Int).toNat]/\T=T/\True/\True)) (by kernel_rfl) ?_
 try simp only[z0,z1,z2,z3,z4,z5,z6,z7,z8,z9,z10,Int.reduceEq,z11,z12,z13,z14,z15,z16,z17,z18,z19,z20,z21,z22,z23,z24,z25,z26,z27,z28,z29,z30,Int.reduceLE,Int.reduceLT,z31,z32,z33,z34,qa1]
 try simp only[qb5,qb6,qd2,z31,z32,z2,z1]
 obtain⟨_,h⟩:=h
 rw[Int.toNat_natCast] at h
 have hB:BIG=4000000000000000000:=rfl
 have hB2:x0f=2000000000000000000:=rfl
 have hl:=h.len
 have hj:=h.at_
 have hmx:=h.max
 refine⟨hj,hj,by omega,⟨by rw[<- hB]; exact h.bdr,by rw[<- hB]; exact h.bdb⟩,(),(0,r),⟨Nat.zero_le _,(qv5 (.int .i64) _ r).symm⟩,⟨rfl,rfl⟩,?_⟩
 rintro⟨k,l⟩ ⟨h1,h2⟩
 dsimp only at h1 h2 ⊢
 subst h2
 have hkl:=xr2 r b j k
 refine⟨λhlt=>?_,λhge=>?_⟩
 ·have hg:=qm8 (a:=nI r j) (b:=nI b j) (.inr h.ne)
  have k1:=ql3 (g:=qe2 (nI r j) (nI b j)) h.bdr
  have k2:=ql3 (g:=qe2 (nI r j) (nI b j)) h.bdb
  have k3:=h.one k hlt
  have k4:=h.two k hlt
  rw[x0g r b j k hlt]
  unfold q1 at k3
  unfold q2 at k4
  exact⟨by omega,by omega,by omega,qa7 (by omega) (by omega),qa7 (by omega) (by omega),by omega,by omega,qa7 (by omega) (by omega),qa7 (by omega) (by omega),qa7 (by omega) (by omega),by omega,by omega,qa7 (by omega) (by omega),(k+1,clK r b j (k+1)),⟨by dsimp only; omega,rfl⟩,by dsimp only; omega,by dsimp only; omega,xe0 r b j k⟩
 ·obtain rfl:k=r.length:=by omega
  rw[xr3]
  exact⟨w29 h,rfl⟩
def ixT (t:Ty) (f:t.den->Bool) (l:List t.den):Int:=if l.any f then(l.findIdx f:Int) else -1
theorem w03 (t:Ty) (f:t.den->Bool) (l:List t.den) (k:Nat) (hk:k<l.length) (h:∀i,i<k->f (qd1 t l i)=false) (hf:f (qd1 t l k)=true):ixT t f l=k:=by
 have hk':f l[k]=true:=by rw[<- ql9 l k hk]; exact hf
 unfold ixT
 rw[if_pos (List.any_eq_true.2 ⟨_,List.getElem_mem hk,hk'⟩)]
 have:l.findIdx f=k:=by
  rw[List.findIdx_eq hk]
  refine⟨hk',λj hj=>?_⟩
  have:=h j hj
  rw[ql9 l j (by omega)] at this
  exact this
 rw[this]
theorem q54 (t:Ty) (f:t.den->Bool) (l:List t.den) (h:∀i,i<l.length->f (qd1 t l i)=false):ixT t f l=-1:=by
 unfold ixT
 rw[if_neg]
 intro he
 obtain⟨x,hx,hf⟩:=List.any_eq_true.1 he
 obtain⟨i,hi,rfl⟩:=List.getElem_of_mem hx
 have:=h i hi
 rw[ql9 l i hi,hf] at this
 cases this
theorem q1w (t:Ty) (f:t.den->Bool) (l:List t.den):decide (0<=ixT t f l)=l.any f:=by
 unfold ixT
 split
 ·rename_i h; rw[h]; simp
 ·rename_i h; simp at h ⊢; exact h
theorem xk8 (t:Ty) (f:t.den->Bool) (l:List t.den):ixT t f l<l.length/\-1<=ixT t f l:=by
 unfold ixT
 split
 ·rename_i h
  have:l.findIdx f<l.length:=List.findIdx_lt_length.2 (List.any_eq_true.1 h)
  omega
 ·omega
def x2p (t:Ty) (l:List t.den) (f:t.den->Bool):Nat->Option Inv
 | 0=>some (Inv.of [8] 0 (λk:Nat=>[(8,.lit (.int .i64 k))]) (λ_=>[]) (λk=>k<=l.length/\∀i,i<k->f (qd1 t l i)=false) (λk=>l.length-k))
 | _=>none
abbrev x9c (fs:List (Nat × qc9)):qc9:=hspec fs true none [.d (.list (.list (.int .i64))),.fn [.list (.int .i64)] .bool] [qg0] (λx=>x.1.length<=1000000/\∀i,i<x.1.length->x.2.1.1 (qd1 (.list (.int .i64)) x.1 i,())) (λx=>(ixT (.list (.int .i64)) (λe=>x.2.1.2 (e,())) x.1,()))
theorem wl8 {fs:List (Nat × qc9)} (hfs:SpecsOk Tryz.prog fs):Meets Tryz.prog 129 (x9c fs):=by
 refine qt0 hfs (snd (SpecsOk.nil _)) Tryz.func129 rfl rfl (λx=>x2p (.list (.int .i64)) x.1 (λe=>x.2.1.2 (e,()))) (λ_=>by kernel_rfl) (by decide) ?_
 rintro⟨l,⟨p,f⟩,⟨⟩⟩ h
 revert l p f
 intro(l:List (Ty.den (.list (.int .i64)))) (p:qa5 [.list (.int .i64)]->Prop) (f:qa5 [.list (.int .i64)]->Bool) (h:l.length<=1000000/\∀i,i<l.length->p (qd1 (.list (.int .i64)) l i,()))
 refine @qe1 _ (∃(v0:Unit),∃(v1:Nat),(v1<=l.length/\∀(v2:Nat),Nat.le (Nat.succ v2) v1->f (nL l v2,())=false)/\(((0:Int)=(↑v1:Int)/\True)/\True)/\∀(v2:Nat),(v2<=l.length/\∀(v4:Nat),Nat.le (Nat.succ v4) v2->f (nL l v4,())=false)->(decide ((↑v2:Int)<(↑l.length:Int))=true->((0:Int)<=(↑v2:Int)/\(↑v2:Int)<(↑l.length:Int))/\p (nL l v2,())/\(f (nL l v2,())=true->(↑v2:Int)=ixT (Ty.list (Ty.int .i64)) (λ(v6:List Int)=>f (v6,())) l)/\(f (nL l v2,())=false->fits .i64 ((↑v2:Int)+(1:Int))/\∃(v6:Nat),(v6<=l.length/\∀(v7:Nat),Nat.le (Nat.succ v7) v6->f (nL l v7,())=false)/\l.length-v6<l.length-v2/\((↑v2:Int)+(1:Int)=(↑v6:Int)/\True)/\True))/\(decide ((↑v2:Int)<(↑l.length:Int))=false->(-1:Int)=ixT (Ty.list (Ty.int .i64)) (λ(v5:List Int)=>f (v5,())) l)) (by kernel_rfl) ?_
 try simp only[z0,z1,z2,z3,z4,z5,z6,z7,z8,z9,z10,Int.reduceEq,z11,z12,z13,z14,z15,z16,z17,z18,z19,z20,z21,z22,z23,z24,z25,z26,z27,z28,z29,z30,Int.reduceLE,Int.reduceLT,z31,z32,z33,z34,qa1]
 try simp only[qb5,qb6,qd2,z31,z32,z2,z1]
 obtain⟨hl,hp⟩:=h
 refine⟨(),0,⟨Nat.zero_le _,λi hi=>absurd hi (by omega)⟩,rfl,λk ⟨hk,hall⟩=>?_⟩
 refine⟨λhlt=>⟨hlt,hp k hlt,λhf=>(w03 (.list (.int .i64)) (λe=>f (e,())) l k hlt hall hf).symm,λhf=>⟨qa7 (by omega) (by omega),k+1,⟨by omega,λi hi=>?_⟩,by omega,by omega⟩⟩,λhge=>(q54 (.list (.int .i64)) (λe=>f (e,())) l λi hi=>hall i (by omega)).symm⟩
 by_cases e:i=k
 ·subst e; exact hf
 ·exact hall i (by omega)
abbrev x9d (fs:List (Nat × qc9)):qc9:=hspec fs true none [.d (.list (.int .i64)),.fn [.int .i64] .bool] [qg0] (λx=>x.1.length<=1000000/\∀i,i<x.1.length->x.2.1.1 (qd1 (.int .i64) x.1 i,())) (λx=>(ixT (.int .i64) (λe=>x.2.1.2 (e,())) x.1,()))
theorem wl9 {fs:List (Nat × qc9)} (hfs:SpecsOk Tryz.prog fs):Meets Tryz.prog 178 (x9d fs):=by
 refine qt0 hfs (snd (SpecsOk.nil _)) Tryz.func178 rfl rfl (λx=>x2p (.int .i64) x.1 (λe=>x.2.1.2 (e,()))) (λ_=>by kernel_rfl) (by decide) ?_
 rintro⟨l,⟨p,f⟩,⟨⟩⟩ h
 revert l p f
 intro(l:List (Ty.den (.int .i64))) (p:qa5 [.int .i64]->Prop) (f:qa5 [.int .i64]->Bool) (h:l.length<=1000000/\∀i,i<l.length->p (qd1 (.int .i64) l i,()))
 refine @qe1 _ (∃(v0:Unit),∃(v1:Nat),(v1<=l.length/\∀(v2:Nat),Nat.le (Nat.succ v2) v1->f (nI l v2,())=false)/\(((0:Int)=(↑v1:Int)/\True)/\True)/\∀(v2:Nat),(v2<=l.length/\∀(v4:Nat),Nat.le (Nat.succ v4) v2->f (nI l v4,())=false)->(decide ((↑v2:Int)<(↑l.length:Int))=true->((0:Int)<=(↑v2:Int)/\(↑v2:Int)<(↑l.length:Int))/\p (nI l v2,())/\(f (nI l v2,())=true->(↑v2:Int)=ixT (Ty.int .i64) (λ(v6:Int)=>f (v6,())) l)/\(f (nI l v2,())=false->fits .i64 ((↑v2:Int)+(1:Int))/\∃(v6:Nat),(v6<=l.length/\∀(v7:Nat),Nat.le (Nat.succ v7) v6->f (nI l v7,())=false)/\l.length-v6<l.length-v2/\((↑v2:Int)+(1:Int)=(↑v6:Int)/\True)/\True))/\(decide ((↑v2:Int)<(↑l.length:Int))=false->(-1:Int)=ixT (Ty.int .i64) (λ(v5:Int)=>f (v5,())) l)) (by kernel_rfl) ?_
 try simp only[z0,z1,z2,z3,z4,z5,z6,z7,z8,z9,z10,Int.reduceEq,z11,z12,z13,z14,z15,z16,z17,z18,z19,z20,z21,z22,z23,z24,z25,z26,z27,z28,z29,z30,Int.reduceLE,Int.reduceLT,z31,z32,z33,z34,qa1]
 try simp only[qb5,qb6,qd2,z31,z32,z2,z1]
 obtain⟨hl,hp⟩:=h
 refine⟨(),0,⟨Nat.zero_le _,λi hi=>absurd hi (by omega)⟩,rfl,λk ⟨hk,hall⟩=>?_⟩
 refine⟨λhlt=>⟨hlt,hp k hlt,λhf=>(w03 (.int .i64) (λe=>f (e,())) l k hlt hall hf).symm,λhf=>⟨qa7 (by omega) (by omega),k+1,⟨by omega,λi hi=>?_⟩,by omega,by omega⟩⟩,λhge=>(q54 (.int .i64) (λe=>f (e,())) l λi hi=>hall i (by omega)).symm⟩
 by_cases e:i=k
 ·subst e; exact hf
 ·exact hall i (by omega)
abbrev x9e (fs:List (Nat × qc9)):qc9:=hspec fs true none [.d (.list (.prod (.int .i64) (.int .i64))),.fn [.prod (.int .i64) (.int .i64)] .bool] [qg0] (λx=>x.1.length<=1000000/\∀i,i<x.1.length->x.2.1.1 (qd1 (.prod (.int .i64) (.int .i64)) x.1 i,())) (λx=>(ixT (.prod (.int .i64) (.int .i64)) (λe=>x.2.1.2 (e,())) x.1,()))
theorem w6y {fs:List (Nat × qc9)} (hfs:SpecsOk Tryz.prog fs):Meets Tryz.prog 250 (x9e fs):=by
 refine qt0 hfs (snd (SpecsOk.nil _)) Tryz.func250 rfl rfl (λx=>x2p (.prod (.int .i64) (.int .i64)) x.1 (λe=>x.2.1.2 (e,()))) (λ_=>by kernel_rfl) (by decide) ?_
 rintro⟨l,⟨p,f⟩,⟨⟩⟩ h
 revert l p f
 intro(l:List (Ty.den (.prod (.int .i64) (.int .i64)))) (p:qa5 [.prod (.int .i64) (.int .i64)]->Prop) (f:qa5 [.prod (.int .i64) (.int .i64)]->Bool) (h:l.length<=1000000/\∀i,i<l.length->p (qd1 (.prod (.int .i64) (.int .i64)) l i,()))
 refine @qe1 _ (∃(v0:Unit),∃(v1:Nat),(v1<=l.length/\∀(v2:Nat),Nat.le (Nat.succ v2) v1->f (qd1 (Ty.prod (Ty.int .i64) (Ty.int .i64)) l v2,())=false)/\(((0:Int)=(↑v1:Int)/\True)/\True)/\∀(v2:Nat),(v2<=l.length/\∀(v4:Nat),Nat.le (Nat.succ v4) v2->f (qd1 (Ty.prod (Ty.int .i64) (Ty.int .i64)) l v4,())=false)->(decide ((↑v2:Int)<(↑l.length:Int))=true->((0:Int)<=(↑v2:Int)/\(↑v2:Int)<(↑l.length:Int))/\p (((qd1 (Ty.prod (Ty.int .i64) (Ty.int .i64)) l v2).1,(qd1 (Ty.prod (Ty.int .i64) (Ty.int .i64)) l v2).2),())/\(f (((qd1 (Ty.prod (Ty.int .i64) (Ty.int .i64)) l v2).1,(qd1 (Ty.prod (Ty.int .i64) (Ty.int .i64)) l v2).2),())=true->(↑v2:Int)=ixT (Ty.prod (Ty.int .i64) (Ty.int .i64)) (λ(v6:Int × Int)=>f (v6,())) l)/\(f (((qd1 (Ty.prod (Ty.int .i64) (Ty.int .i64)) l v2).1,(qd1 (Ty.prod (Ty.int .i64) (Ty.int .i64)) l v2).2),())=false->fits .i64 ((↑v2:Int)+(1:Int))/\∃(v6:Nat),(v6<=l.length/\∀(v7:Nat),Nat.le (Nat.succ v7) v6->f (qd1 (Ty.prod (Ty.int .i64) (Ty.int .i64)) l v7,())=false)/\l.length-v6<l.length-v2/\((↑v2:Int)+(1:Int)=(↑v6:Int)/\True)/\True))/\(decide ((↑v2:Int)<(↑l.length:Int))=false->(-1:Int)=ixT (Ty.prod (Ty.int .i64) (Ty.int .i64)) (λ(v5:Int × Int)=>f (v5,())) l)) (by kernel_rfl) ?_
 try simp only[z0,z1,z2,z3,z4,z5,z6,z7,z8,z9,z10,Int.reduceEq,z11,z12,z13,z14,z15,z16,z17,z18,z19,z20,z21,z22,z23,z24,z25,z26,z27,z28,z29,z30,Int.reduceLE,Int.reduceLT,z31,z32,z33,z34,qa1]
 try simp only[qb5,qb6,qd2,z31,z32,z2,z1]
 obtain⟨hl,hp⟩:=h
 refine⟨(),0,⟨Nat.zero_le _,λi hi=>absurd hi (by omega)⟩,rfl,λk ⟨hk,hall⟩=>?_⟩
 refine⟨λhlt=>⟨hlt,hp k hlt,λhf=>(w03 (.prod (.int .i64) (.int .i64)) (λe=>f (e,())) l k hlt hall hf).symm,λhf=>⟨qa7 (by omega) (by omega),k+1,⟨by omega,λi hi=>?_⟩,by omega,by omega⟩⟩,λhge=>(q54 (.prod (.int .i64) (.int .i64)) (λe=>f (e,())) l λi hi=>hall i (by omega)).symm⟩
 by_cases e:i=k
 ·subst e; exact hf
 ·exact hall i (by omega)
abbrev x9g (fs:List (Nat × qc9)):qc9:=hspec fs true none [.d (.list (.list (.int .i64))),.fn [.list (.int .i64)] .bool] [.bool] (λx=>x.1.length<=1000000/\∀i,i<x.1.length->x.2.1.1 (qd1 (.list (.int .i64)) x.1 i,())) (λx=>(x.1.any λe=>x.2.1.2 (e,()),()))
theorem w6z {fs:List (Nat × qc9)} (hfs:SpecsOk Tryz.prog fs):Meets Tryz.prog 107 (x9g fs):=by
 refine qt0 hfs (snd (SpecsOk.cons (wl8 (fs:=fs) hfs) (SpecsOk.nil _))) Tryz.func107 rfl rfl (λx=>λ_=>none) (λ_=>by kernel_rfl) (by decide) ?_
 rintro⟨l,⟨p,f⟩,⟨⟩⟩ h
 revert l p f
 intro(l:List (Ty.den (.list (.int .i64)))) (p:qa5 [.list (.int .i64)]->Prop) (f:qa5 [.list (.int .i64)]->Bool) (h:l.length<=1000000/\∀i,i<l.length->p (qd1 (.list (.int .i64)) l i,()))
 refine @qe1 _ (∃(v0:qa5 [Ty.list (Ty.int .i64)]->Prop),∃(v1:qa5 [Ty.list (Ty.int .i64)]->Bool),([Ty.list (Ty.int .i64)]=[Ty.list (Ty.int .i64)]/\Ty.bool=Ty.bool/\p ≍ v0/\f ≍ v1)/\(l.length<=(1000000:Nat)/\∀(v2:Nat),v2<l.length->v0 (nL l v2,()))/\decide ((0:Int)<=ixT (Ty.list (Ty.int .i64)) (λ(v2:List Int)=>v1 (v2,())) l)=List.any l λ(v2:List Int)=>f (v2,())) (by kernel_rfl) ?_
 try simp only[z0,z1,z2,z3,z4,z5,z6,z7,z8,z9,z10,Int.reduceEq,z11,z12,z13,z14,z15,z16,z17,z18,z19,z20,z21,z22,z23,z24,z25,z26,z27,z28,z29,z30,Int.reduceLE,Int.reduceLT,z31,z32,z33,z34,qa1]
 try simp only[qb5,qb6,qd2,z31,z32,z2,z1]
 exact⟨p,f,⟨HEq.rfl,HEq.rfl⟩,h,q1w (.list (.int .i64)) (λe=>f (e,())) l⟩
abbrev x9h (fs:List (Nat × qc9)):qc9:=hspec fs true none [.d (.list (.int .i64)),.fn [.int .i64] .bool] [.bool] (λx=>x.1.length<=1000000/\∀i,i<x.1.length->x.2.1.1 (qd1 (.int .i64) x.1 i,())) (λx=>(x.1.any λe=>x.2.1.2 (e,()),()))
theorem q3v {fs:List (Nat × qc9)} (hfs:SpecsOk Tryz.prog fs):Meets Tryz.prog 132 (x9h fs):=by
 refine qt0 hfs (snd (SpecsOk.cons (wl9 (fs:=fs) hfs) (SpecsOk.nil _))) Tryz.func132 rfl rfl (λx=>λ_=>none) (λ_=>by kernel_rfl) (by decide) ?_
 rintro⟨l,⟨p,f⟩,⟨⟩⟩ h
 revert l p f
 intro(l:List (Ty.den (.int .i64))) (p:qa5 [.int .i64]->Prop) (f:qa5 [.int .i64]->Bool) (h:l.length<=1000000/\∀i,i<l.length->p (qd1 (.int .i64) l i,()))
 refine @qe1 _ (∃(v0:qa5 [Ty.int .i64]->Prop),∃(v1:qa5 [Ty.int .i64]->Bool),([Ty.int .i64]=[Ty.int .i64]/\Ty.bool=Ty.bool/\p ≍ v0/\f ≍ v1)/\(l.length<=(1000000:Nat)/\∀(v2:Nat),v2<l.length->v0 (nI l v2,()))/\decide ((0:Int)<=ixT (Ty.int .i64) (λ(v2:Int)=>v1 (v2,())) l)=List.any l λ(v2:Int)=>f (v2,())) (by kernel_rfl) ?_
 try simp only[z0,z1,z2,z3,z4,z5,z6,z7,z8,z9,z10,Int.reduceEq,z11,z12,z13,z14,z15,z16,z17,z18,z19,z20,z21,z22,z23,z24,z25,z26,z27,z28,z29,z30,Int.reduceLE,Int.reduceLT,z31,z32,z33,z34,qa1]
 try simp only[qb5,qb6,qd2,z31,z32,z2,z1]
 exact⟨p,f,⟨HEq.rfl,HEq.rfl⟩,h,q1w (.int .i64) (λe=>f (e,())) l⟩
abbrev x9i (fs:List (Nat × qc9)):qc9:=hspec fs true none [.d (.list (.prod (.int .i64) (.int .i64))),.fn [.prod (.int .i64) (.int .i64)] .bool] [.bool] (λx=>x.1.length<=1000000/\∀i,i<x.1.length->x.2.1.1 (qd1 (.prod (.int .i64) (.int .i64)) x.1 i,())) (λx=>(x.1.any λe=>x.2.1.2 (e,()),()))
theorem w60 {fs:List (Nat × qc9)} (hfs:SpecsOk Tryz.prog fs):Meets Tryz.prog 239 (x9i fs):=by
 refine qt0 hfs (snd (SpecsOk.cons (w6y (fs:=fs) hfs) (SpecsOk.nil _))) Tryz.func239 rfl rfl (λx=>λ_=>none) (λ_=>by kernel_rfl) (by decide) ?_
 rintro⟨l,⟨p,f⟩,⟨⟩⟩ h
 revert l p f
 intro(l:List (Ty.den (.prod (.int .i64) (.int .i64)))) (p:qa5 [.prod (.int .i64) (.int .i64)]->Prop) (f:qa5 [.prod (.int .i64) (.int .i64)]->Bool) (h:l.length<=1000000/\∀i,i<l.length->p (qd1 (.prod (.int .i64) (.int .i64)) l i,()))
 refine @qe1 _ (∃(v0:qa5 [Ty.prod (Ty.int .i64) (Ty.int .i64)]->Prop),∃(v1:qa5 [Ty.prod (Ty.int .i64) (Ty.int .i64)]->Bool),([Ty.prod (Ty.int .i64) (Ty.int .i64)]=[Ty.prod (Ty.int .i64) (Ty.int .i64)]/\Ty.bool=Ty.bool/\p ≍ v0/\f ≍ v1)/\(l.length<=(1000000:Nat)/\∀(v2:Nat),v2<l.length->v0 (qd1 (Ty.prod (Ty.int .i64) (Ty.int .i64)) l v2,()))/\decide ((0:Int)<=ixT (Ty.prod (Ty.int .i64) (Ty.int .i64)) (λ(v2:Int × Int)=>v1 (v2,())) l)=List.any l λ(v2:Int × Int)=>f (v2,())) (by kernel_rfl) ?_
 try simp only[z0,z1,z2,z3,z4,z5,z6,z7,z8,z9,z10,Int.reduceEq,z11,z12,z13,z14,z15,z16,z17,z18,z19,z20,z21,z22,z23,z24,z25,z26,z27,z28,z29,z30,Int.reduceLE,Int.reduceLT,z31,z32,z33,z34,qa1]
 try simp only[qb5,qb6,qd2,z31,z32,z2,z1]
 exact⟨p,f,⟨HEq.rfl,HEq.rfl⟩,h,q1w (.prod (.int .i64) (.int .i64)) (λe=>f (e,())) l⟩
def inB (n lo hi:Int):Bool:=decide (lo<=n) && decide (n<=hi)
theorem qz9 {n lo hi:Int}:inB n lo hi=true↔lo<=n/\n<=hi:=by simp[inB]
abbrev wt2:qc9:=qg4 true none [qg0,qg0,qg0] [.bool] (λ_=>True) (λx=>(inB x.1 x.2.1 x.2.2.1,()))
theorem q0a:Meets Tryz.prog 121 wt2:=by
 refine meets (snd (SpecsOk.nil _)) Tryz.func121 rfl rfl (λ_ _=>none) (λ_=>by kernel_rfl) (by decide) ?_
 rintro⟨n,lo,hi,⟨⟩⟩ -
 revert n lo hi
 intro(n:Int) (lo:Int) (hi:Int)
 refine @qe1 _ ((decide (lo<=n)=true->decide (n<=hi)=inB n lo hi)/\(decide (lo<=n)=false->false=inB n lo hi)) (by kernel_rfl) ?_
 try simp only[z0,z1,z2,z3,z4,z5,z6,z7,z8,z9,z10,Int.reduceEq,z11,z12,z13,z14,z15,z16,z17,z18,z19,z20,z21,z22,z23,z24,z25,z26,z27,z28,z29,z30,Int.reduceLE,Int.reduceLT,z31,z32,z33,z34,qa1]
 try simp only[qb5,qb6,qd2,z31,z32,z2,z1]
 constructor
 ·intro h1
  simp[inB,h1]
 ·intro h1
  have:¬lo<=n:=by omega
  simp[inB,this]
theorem q3w:Meets Tryz.prog 191 wt2:=by
 refine meets (snd (SpecsOk.nil _)) Tryz.func191 rfl rfl (λ_ _=>none) (λ_=>by kernel_rfl) (by decide) ?_
 rintro⟨n,lo,hi,⟨⟩⟩ -
 revert n lo hi
 intro(n:Int) (lo:Int) (hi:Int)
 refine @qe1 _ ((decide (lo<=n)=true->decide (n<=hi)=inB n lo hi)/\(decide (lo<=n)=false->false=inB n lo hi)) (by kernel_rfl) ?_
 try simp only[z0,z1,z2,z3,z4,z5,z6,z7,z8,z9,z10,Int.reduceEq,z11,z12,z13,z14,z15,z16,z17,z18,z19,z20,z21,z22,z23,z24,z25,z26,z27,z28,z29,z30,Int.reduceLE,Int.reduceLT,z31,z32,z33,z34,qa1]
 try simp only[qb5,qb6,qd2,z31,z32,z2,z1]
 constructor
 ·intro h1
  simp[inB,h1]
 ·intro h1
  have:¬lo<=n:=by omega
  simp[inB,this]
theorem q0b:Meets Tryz.prog 75 wt2:=by
 refine meets (snd (SpecsOk.nil _)) Tryz.func75 rfl rfl (λ_ _=>none) (λ_=>by kernel_rfl) (by decide) ?_
 rintro⟨n,lo,hi,⟨⟩⟩ -
 revert n lo hi
 intro(n:Int) (lo:Int) (hi:Int)
 refine @qe1 _ ((decide (lo<=n)=true->decide (n<=hi)=inB n lo hi)/\(decide (lo<=n)=false->false=inB n lo hi)) (by kernel_rfl) ?_
 try simp only[z0,z1,z2,z3,z4,z5,z6,z7,z8,z9,z10,Int.reduceEq,z11,z12,z13,z14,z15,z16,z17,z18,z19,z20,z21,z22,z23,z24,z25,z26,z27,z28,z29,z30,Int.reduceLE,Int.reduceLT,z31,z32,z33,z34,qa1]
 try simp only[qb5,qb6,qd2,z31,z32,z2,z1]
 constructor
 ·intro h1
  simp[inB,h1]
 ·intro h1
  have:¬lo<=n:=by omega
  simp[inB,this]
abbrev xk9 (fs:List (Nat × qc9)):qc9:=hspec fs true none [.d qg0,.capfn [qg0] .bool] [.bool] (λx=>x.2.1.1 (x.1,())) (λx=>(!(x.2.1.2 (x.1,())),()))
theorem wt3 {fs:List (Nat × qc9)} (hfs:SpecsOk Tryz.prog fs):Meets Tryz.prog 226 (xk9 fs):=by
 refine qt0 hfs (snd (SpecsOk.nil _)) Tryz.func226 rfl rfl (λ_ _=>none) (λ_=>by kernel_rfl) (by decide) ?_
 rintro⟨n,⟨p,f⟩,⟨⟩⟩ h
 revert n p f
 intro(n:Int) (p:qa5 [.int .i64]->Prop) (f:qa5 [.int .i64]->Bool) (h:p (n,()))
 refine @qe1 _ (p (n,())/\(!f (n,()))=!f (n,())) (by kernel_rfl) ?_
 try simp only[z0,z1,z2,z3,z4,z5,z6,z7,z8,z9,z10,Int.reduceEq,z11,z12,z13,z14,z15,z16,z17,z18,z19,z20,z21,z22,z23,z24,z25,z26,z27,z28,z29,z30,Int.reduceLE,Int.reduceLT,z31,z32,z33,z34,qa1]
 try simp only[qb5,qb6,qd2,z31,z32,z2,z1]
 exact h
abbrev xl0 (fs:List (Nat × qc9)):qc9:=hspec fs true none [.d qf1,.capfn [qf1] .bool] [.bool] (λx=>x.2.1.1 (x.1,())) (λx=>(!(x.2.1.2 (x.1,())),()))
theorem wt4 {fs:List (Nat × qc9)} (hfs:SpecsOk Tryz.prog fs):Meets Tryz.prog 180 (xl0 fs):=by
 refine qt0 hfs (snd (SpecsOk.nil _)) Tryz.func180 rfl rfl (λ_ _=>none) (λ_=>by kernel_rfl) (by decide) ?_
 rintro⟨n,⟨p,f⟩,⟨⟩⟩ h
 revert n p f
 intro(n:List Int) (p:qa5 [.list (.int .i64)]->Prop) (f:qa5 [.list (.int .i64)]->Bool) (h:p (n,()))
 refine @qe1 _ (p (n,())/\(!f (n,()))=!f (n,())) (by kernel_rfl) ?_
 try simp only[z0,z1,z2,z3,z4,z5,z6,z7,z8,z9,z10,Int.reduceEq,z11,z12,z13,z14,z15,z16,z17,z18,z19,z20,z21,z22,z23,z24,z25,z26,z27,z28,z29,z30,Int.reduceLE,Int.reduceLT,z31,z32,z33,z34,qa1]
 try simp only[qb5,qb6,qd2,z31,z32,z2,z1]
 exact h
abbrev fsI (fs:List (Nat × qc9)):List (Nat × qc9):=[(226,xk9 fs)]
abbrev fsL (fs:List (Nat × qc9)):List (Nat × qc9):=[(180,xl0 fs)]
abbrev x4p (fs:List (Nat × qc9)):qc9:=hspec fs true none [.d qf1,.fn [qg0] .bool] [.bool] (λx=>x.1.length<=1000000/\∀i,i<x.1.length->x.2.1.1 (nI x.1 i,())) (λx=>(x.1.all λe=>x.2.1.2 (e,()),()))
abbrev x4q (fs:List (Nat × qc9)):qc9:=hspec fs true none [.d qo2,.fn [qf1] .bool] [.bool] (λx=>x.1.length<=1000000/\∀i,i<x.1.length->x.2.1.1 (nL x.1 i,())) (λx=>(x.1.all λe=>x.2.1.2 (e,()),()))
theorem w3a {fs:List (Nat × qc9)} (hfs:SpecsOk Tryz.prog fs):Meets Tryz.prog 181 (x4p fs):=by
 refine qt0 hfs (snd (SpecsOk.cons (q3v (fs:=fsI fs) (SpecsOk.cons (wt3 hfs) (SpecsOk.nil _))) (SpecsOk.nil _))) Tryz.func181 rfl rfl (λ_ _=>none) (λ_=>by kernel_rfl) (by decide) ?_
 rintro⟨l,⟨p,f⟩,⟨⟩⟩ h
 revert l p f
 intro(l:List Int) (p:qa5 [.int .i64]->Prop) (f:qa5 [.int .i64]->Bool) (h:l.length<=1000000/\∀i,i<l.length->p (nI l i,()))
 refine @qe1 _ (∃(v0:qa5 [Ty.int .i64]->Prop),∃(v1:qa5 [Ty.int .i64]->Bool),(∀(v2:Int × qa5._f [] PUnit.unit),v0 v2->∃(v4:qa5 [qg0]->Prop),∃(v5:qa5 [qg0]->Bool),([qg0]=[qg0]/\Ty.bool=Ty.bool/\p ≍ v4/\f ≍ v5)/\v4 (v2.1,())/\(!v5 (v2.1,()))=v1 v2)/\(l.length<=(1000000:Nat)/\∀(v2:Nat),v2<l.length->v0 (nI l v2,()))/\(!List.any l λ(v2:Int)=>v1 (v2,()))=List.all l λ(v2:Int)=>f (v2,())) (by kernel_rfl) ?_
 try simp only[z0,z1,z2,z3,z4,z5,z6,z7,z8,z9,z10,Int.reduceEq,z11,z12,z13,z14,z15,z16,z17,z18,z19,z20,z21,z22,z23,z24,z25,z26,z27,z28,z29,z30,Int.reduceLE,Int.reduceLT,z31,z32,z33,z34,qa1]
 try simp only[qb5,qb6,qd2,z31,z32,z2,z1]
 exact⟨p,λx=>!f x,λx hx=>⟨p,f,⟨HEq.rfl,HEq.rfl⟩,hx,(Bool.not_not (f x)).symm⟩,h,by simp[List.not_all_eq_any_not]⟩
theorem w3b {fs:List (Nat × qc9)} (hfs:SpecsOk Tryz.prog fs):Meets Tryz.prog 122 (x4q fs):=by
 refine qt0 hfs (snd (SpecsOk.cons (w6z (fs:=fsL fs) (SpecsOk.cons (wt4 hfs) (SpecsOk.nil _))) (SpecsOk.nil _))) Tryz.func122 rfl rfl (λ_ _=>none) (λ_=>by kernel_rfl) (by decide) ?_
 rintro⟨l,⟨p,f⟩,⟨⟩⟩ h
 revert l p f
 intro(l:List (List Int)) (p:qa5 [.list (.int .i64)]->Prop) (f:qa5 [.list (.int .i64)]->Bool) (h:l.length<=1000000/\∀i,i<l.length->p (nL l i,()))
 refine @qe1 _ (∃(v0:qa5 [Ty.list (Ty.int .i64)]->Prop),∃(v1:qa5 [Ty.list (Ty.int .i64)]->Bool),(∀(v2:List Int × qa5._f [] PUnit.unit),v0 v2->∃(v4:qa5 [qf1]->Prop),∃(v5:qa5 [qf1]->Bool),([qf1]=[qf1]/\Ty.bool=Ty.bool/\p ≍ v4/\f ≍ v5)/\v4 (v2.1,())/\(!v5 (v2.1,()))=v1 v2)/\(l.length<=(1000000:Nat)/\∀(v2:Nat),v2<l.length->v0 (nL l v2,()))/\(!List.any l λ(v2:List Int)=>v1 (v2,()))=List.all l λ(v2:List Int)=>f (v2,())) (by kernel_rfl) ?_
 try simp only[z0,z1,z2,z3,z4,z5,z6,z7,z8,z9,z10,Int.reduceEq,z11,z12,z13,z14,z15,z16,z17,z18,z19,z20,z21,z22,z23,z24,z25,z26,z27,z28,z29,z30,Int.reduceLE,Int.reduceLT,z31,z32,z33,z34,qa1]
 try simp only[qb5,qb6,qd2,z31,z32,z2,z1]
 exact⟨p,λx=>!f x,λx hx=>⟨p,f,⟨HEq.rfl,HEq.rfl⟩,hx,(Bool.not_not (f x)).symm⟩,h,by simp[List.not_all_eq_any_not]⟩
abbrev x0h:qc9:=qg4 true none [qg0] [.bool] (λ_=>True) (λx=>(inB x.1 (-1) 1,()))
theorem w3c:Meets Tryz.prog 182 x0h:=by
 refine meets (snd (SpecsOk.cons q0a (SpecsOk.nil _))) Tryz.func182 rfl rfl (λ_ _=>none) (λ_=>by kernel_rfl) (by decide) ?_
 rintro⟨n,⟨⟩⟩ -
 revert n
 intro(n:Int)
 refine @qe1 _ (True/\inB n (-1:Int) (1:Int)=inB n (-1:Int) (1:Int)) (by kernel_rfl) ?_
 try simp only[z0,z1,z2,z3,z4,z5,z6,z7,z8,z9,z10,Int.reduceEq,z11,z12,z13,z14,z15,z16,z17,z18,z19,z20,z21,z22,z23,z24,z25,z26,z27,z28,z29,z30,Int.reduceLE,Int.reduceLT,z31,z32,z33,z34,qa1]
 try simp only[qb5,qb6,qd2,z31,z32,z2,z1]
def rowB (l:List Int):Bool:=inB l.length 1 10 && l.all λn=>inB n (-1) 1
abbrev x9j:qc9:=qg4 true none [qf1] [.bool] (λ_=>True) (λx=>(rowB x.1,()))
theorem w61:Meets Tryz.prog 124 x9j:=by
 refine meets (snd (SpecsOk.cons q0a (SpecsOk.cons (w3a (fs:=[(182,x0h)]) (SpecsOk.cons w3c (SpecsOk.nil _))) (SpecsOk.nil _)))) Tryz.func124 rfl rfl (λ_ _=>none) (λ_=>by kernel_rfl) (by decide) ?_
 rintro⟨l,⟨⟩⟩ -
 revert l
 intro(l:List Int)
 refine @qe1 _ (True/\(inB (↑l.length:Int) (1:Int) (10:Int)=true->∃(v1:qa5 [qg0]->Prop),∃(v2:qa5 [qg0]->Bool),(∀(v3:Int × qa5._f [] PUnit.unit),v1 v3->True/\inB v3.1 (-1:Int) (1:Int)=v2 v3)/\(l.length<=(1000000:Nat)/\∀(v3:Nat),v3<l.length->v1 (nI l v3,()))/\(List.all l λ(v3:Int)=>v2 (v3,()))=rowB l)/\(inB (↑l.length:Int) (1:Int) (10:Int)=false->false=rowB l)) (by kernel_rfl) ?_
 try simp only[z0,z1,z2,z3,z4,z5,z6,z7,z8,z9,z10,Int.reduceEq,z11,z12,z13,z14,z15,z16,z17,z18,z19,z20,z21,z22,z23,z24,z25,z26,z27,z28,z29,z30,Int.reduceLE,Int.reduceLT,z31,z32,z33,z34,qa1]
 try simp only[qb5,qb6,qd2,z31,z32,z2,z1]
 refine⟨λh=>⟨λ_=>True,λx=>inB x.1 (-1) 1,λ_ _=>rfl,⟨by rw[qz9] at h; omega,λ_ _=>trivial⟩,by simp[rowB,h]⟩,λh=>by simp[rowB,h]⟩
abbrev x7l:qc9:=hspec [] true none [.d qf1,.cap qo2] [.bool] (λx=>0<x.2.1.length) (λx=>(decide (x.1.length=(nL x.2.1 0).length) && rowB x.1,()))
theorem w62:Meets Tryz.prog 123 x7l:=by
 refine qt0 (SpecsOk.nil _) (snd (SpecsOk.cons w61 (SpecsOk.nil _))) Tryz.func123 rfl rfl (λ_ _=>none) (λ_=>by kernel_rfl) (by decide) ?_
 rintro⟨l,m,⟨⟩⟩ h
 revert l m
 intro(l:List Int) (m:List (List Int)) (h:0<m.length)
 refine @qe1 _ (((0:Int)<=(0:Int)/\(0:Int)<(↑m.length:Int))/\(((↑l.length:Int)==(↑(nL m (0:Nat)).length:Int))=true->True/\rowB l=(decide (l.length=(nL m (0:Nat)).length) && rowB l))/\(((↑l.length:Int)==(↑(nL m (0:Nat)).length:Int))=false->false=(decide (l.length=(nL m (0:Nat)).length) && rowB l))) (by kernel_rfl) ?_
 try simp only[z0,z1,z2,z3,z4,z5,z6,z7,z8,z9,z10,Int.reduceEq,z11,z12,z13,z14,z15,z16,z17,z18,z19,z20,z21,z22,z23,z24,z25,z26,z27,z28,z29,z30,Int.reduceLE,Int.reduceLT,z31,z32,z33,z34,qa1]
 try simp only[qb5,qb6,qd2,z31,z32,z2,z1]
 refine⟨by omega,λh1=>?_,λh1=>?_⟩
 ·rw[decide_eq_true (Int.ofNat.inj h1)]; simp
 ·rw[decide_eq_false λe=>h1 (congrArg _ e)]; simp
def qe9 (m:List (List Int)):Bool:=inB m.length 1 6 && m.all λl=>decide (l.length=(nL m 0).length) && rowB l
abbrev sMV:qc9:=qg4 true none [qo2] [.bool] (λ_=>True) (λx=>(qe9 x.1,()))
theorem wd8:Meets Tryz.prog 65 sMV:=by
 refine meets (snd (SpecsOk.cons q0a (SpecsOk.cons (w3b (fs:=[(123,x7l)]) (SpecsOk.cons w62 (SpecsOk.nil _))) (SpecsOk.nil _)))) Tryz.func65 rfl rfl (λ_ _=>none) (λ_=>by kernel_rfl) (by decide) ?_
 rintro⟨m,⟨⟩⟩ -
 revert m
 intro(m:List (List Int))
 refine @qe1 _ (True/\(inB (↑m.length:Int) (1:Int) (6:Int)=true->∃(v1:qa5 [qf1]->Prop),∃(v2:qa5 [qf1]->Bool),(∀(v3:List Int × qa5._f [] PUnit.unit),v1 v3->(0:Nat)<m.length/\(decide (v3.1.length=(nL m (0:Nat)).length) && rowB v3.1)=v2 v3)/\(m.length<=(1000000:Nat)/\∀(v3:Nat),v3<m.length->v1 (nL m v3,()))/\(List.all m λ(v3:List Int)=>v2 (v3,()))=qe9 m)/\(inB (↑m.length:Int) (1:Int) (6:Int)=false->false=qe9 m)) (by kernel_rfl) ?_
 try simp only[z0,z1,z2,z3,z4,z5,z6,z7,z8,z9,z10,Int.reduceEq,z11,z12,z13,z14,z15,z16,z17,z18,z19,z20,z21,z22,z23,z24,z25,z26,z27,z28,z29,z30,Int.reduceLE,Int.reduceLT,z31,z32,z33,z34,qa1]
 try simp only[qb5,qb6,qd2,z31,z32,z2,z1]
 refine⟨λh=>?_,λh=>by simp[qe9,h]⟩
 have hm:=qz9.1 h
 exact⟨λ_=>True,λx=>decide (x.1.length=(nL m 0).length) && rowB x.1,λx _=>⟨by omega,rfl⟩,⟨by omega,λ_ _=>trivial⟩,by simp[qe9,h]⟩
end Go.Proofs.YtmijnbjlhnpokaaGreat
