/- The library's searches over lists, with a function: contracts by the engine. No condition. -/
import Derived.Test.YtmijnbjlhnpokaaGreatV1
set_option linter.unusedVariables false
set_option linter.unusedSimpArgs false
namespace Go.Proofs.YtmijnbjlhnpokaaGreat
open Go Go.RowKit Eng
def xt8:Int:=2000000000000000000
def q1 (r b:List Int) (c:Nat):Int:=(nI b c).tdiv (qd7 (nI r c) (nI b c))
def q2 (r b:List Int) (c:Nat):Int:=(nI r c).tdiv (qd7 (nI r c) (nI b c))
def xl5 (r b:List Int) (c i:Nat):Int:=(nI r i)*q1 r b c-(nI b i)*q2 r b c
def q4x (r b:List Int) (c:Nat):List Int:=(List.range r.length).map (xl5 r b c)
def qw5 (r b:List Int) (c:Nat):List Int:=qe7 (q4x r b c)
structure wj7 (r b:List Int) (c:Nat):Prop where
 at_:c<r.length
 len:b.length=r.length
 max:r.length<=1000
 ne:(nI b c)≠(0:Int)
 bdr:qd0 BIG (nI r c)
 bdb:qd0 BIG (nI b c)
 one:∀i,i<r.length->qd0 xt8 ((nI r i)*q1 r b c)
 two:∀i,i<r.length->qd0 xt8 ((nI b i)*q2 r b c)
def xf5:qr8:=w48 (wa9 [qd4,qf8]) false false 0 3 (.int .i64) (λrows x=>0<=x.2.1/\wj7 (nL rows 0) x.1 x.2.1.toNat) (λ_ _=>.tup .nil) (λrows x=>[qw5 (nL rows 0) x.1 x.2.1.toNat])
def clK (r b:List Int) (c k:Nat):List Int:=ovr (.int .i64) (xl5 r b c) r k
def xl6 (T:q7s) (r b:List Int) (c:Nat):Nat->Option Inv
 | 0=>some (Inv.of [0,23] 11 (λs:Nat × List Int=>[(0,.msl 0 (some 0)),(23,.lit (.int .i64 s.1))]) (λs=>[.mat 0 3 (.int .i64) [s.2] (some []) (some T),.dead,.dead,.dead,.dead,.dead,.dead,.dead,.dead,.dead,.dead]) (λs=>s.1<=r.length/\s.2=clK r b c s.1) (λs=>r.length-s.1))
 | _=>none
theorem q1i (r b:List Int) (c:Nat):(q4x r b c).length=r.length:=by simp[q4x]
theorem xl7 (r b:List Int) (c k:Nat):(clK r b c k).length=r.length:=qq0 (.int .i64) _ r k
theorem xt9 (r b:List Int) (c k:Nat) (hk:k<r.length):nI (clK r b c k) k=nI r k:=(q29 (.int .i64) _ r k k hk).trans (if_neg (Nat.lt_irrefl k))
theorem w93 (r b:List Int) (c k:Nat):(clK r b c k).set k (xl5 r b c k)=clK r b c (k+1):=qs7 (.int .i64) _ r k
theorem xl8 (r b:List Int) (c:Nat):clK r b c r.length=q4x r b c:=q0u (.int .i64) _ r _ (Nat.le_refl _)
theorem w14 {r b:List Int} {c:Nat} (h:wj7 r b c):q6w (q4x r b c):=by
 refine⟨by rw[q1i]; exact h.max,λx hx=>?_⟩
 unfold q4x at hx
 obtain⟨i,hi,rfl⟩:=List.mem_map.1 hx
 have hi:=List.mem_range.1 hi
 have h1:=h.one i hi
 have h2:=h.two i hi
 unfold xl5
 unfold xt8 at h1 h2
 unfold BIG
 omega
theorem wq5:qw2 Tryz.prog 131 xf5:=by
 refine wz4 (x4v (SpecsOk.cons qo9 (SpecsOk.nil _)) (MutsOk.cons q2g MutsOk.nil)) Tryz.func131 rfl rfl (q1h [qd4,qf8]) (λT rows x=>xl6 T (nL rows 0) x.1 x.2.1.toNat) (λ_ _ _=>by kernel_rfl) (by decide) ?_ rfl
 rintro T rows ⟨b,c,⟨⟩⟩ h hone
 revert b c
 intro(b:List Int) (c:Int) h
 obtain⟨r,rfl⟩:∃l:List Int,rows=[l]:=by
  have h1:=hone rfl
  match rows,h1 with
  | [l],_=>exact⟨l,rfl⟩
 have h:0<=c/\wj7 r b c.toNat:=h
 obtain⟨j,rfl⟩:∃j:Nat,c=j:=⟨c.toNat,by omega⟩
 refine @qe0 _ (let Q0:=qr8.t xf4; ((0:Int)<=(↑j:Int)/\(↑j:Int)<(↑(nL [r] (0:Nat)).length:Int))/\(↑j:Int).toNat<(nL [r] (0:Nat)).length/\((0:Int)<=(↑j:Int)/\(↑j:Int)<(↑b.length:Int))/\(((-4000000000000000000:Int)<=nI (nL [r] (0:Nat)) (↑j:Int).toNat/\nI (nL [r] (0:Nat)) (↑j:Int).toNat<=BIG)/\(-4000000000000000000:Int)<=nI b (↑j:Int).toNat/\nI b (↑j:Int).toNat<=BIG)/\∃(v0:Unit),∃(v1:Nat × List Int),(v1.1<=(nL [r] (0:Nat)).length/\v1.2=clK (nL [r] (0:Nat)) b (↑j:Int).toNat v1.1)/\((some (0:Nat)=some (0:Nat)/\(0:Int)=(↑v1.1:Int)/\True)/\([r]=[v1.2]/\True/\T=T)/\True/\True/\True/\True/\True/\True/\True/\True/\True/\True/\True)/\∀(v2:Nat × List Int),v2.1<=(nL [r] (0:Nat)).length/\v2.2=clK (nL [r] (0:Nat)) b (↑j:Int).toNat v2.1->(decide ((↑v2.1:Int)<(↑(nL [r] (0:Nat)).length:Int))=true->((0:Int)<=(↑v2.1:Int)/\(↑v2.1:Int)<(↑(nL [v2.2] (0:Nat)).length:Int))/\(↑v2.1:Int).toNat<(nL [v2.2] (0:Nat)).length/\qd7 (nI (nL [r] (0:Nat)) (↑j:Int).toNat) (nI b (↑j:Int).toNat)≠(0:Int)/\fits .i64 (Int.tdiv (nI b (↑j:Int).toNat) (qd7 (nI (nL [r] (0:Nat)) (↑j:Int).toNat) (nI b (↑j:Int).toNat)))/\fits .i64 (nI (nL [v2.2] (0:Nat)) (↑v2.1:Int).toNat*Int.tdiv (nI b (↑j:Int).toNat) (qd7 (nI (nL [r] (0:Nat)) (↑j:Int).toNat) (nI b (↑j:Int).toNat)))/\((0:Int)<=(↑v2.1:Int)/\(↑v2.1:Int)<(↑b.length:Int))/\qd7 (nI (nL [r] (0:Nat)) (↑j:Int).toNat) (nI b (↑j:Int).toNat)≠(0:Int)/\fits .i64 (Int.tdiv (nI (nL [r] (0:Nat)) (↑j:Int).toNat) (qd7 (nI (nL [r] (0:Nat)) (↑j:Int).toNat) (nI b (↑j:Int).toNat)))/\fits .i64 (nI b (↑v2.1:Int).toNat*Int.tdiv (nI (nL [r] (0:Nat)) (↑j:Int).toNat) (qd7 (nI (nL [r] (0:Nat)) (↑j:Int).toNat) (nI b (↑j:Int).toNat)))/\fits .i64 (nI (nL [v2.2] (0:Nat)) (↑v2.1:Int).toNat*Int.tdiv (nI b (↑j:Int).toNat) (qd7 (nI (nL [r] (0:Nat)) (↑j:Int).toNat) (nI b (↑j:Int).toNat))-nI b (↑v2.1:Int).toNat*Int.tdiv (nI (nL [r] (0:Nat)) (↑j:Int).toNat) (qd7 (nI (nL [r] (0:Nat)) (↑j:Int).toNat) (nI b (↑j:Int).toNat)))/\((0:Int)<=(↑v2.1:Int)/\(↑v2.1:Int)<(↑(nL [v2.2] (0:Nat)).length:Int))/\(↑v2.1:Int).toNat<(nL [v2.2] (0:Nat)).length/\fits .i64 ((↑v2.1:Int)+(1:Int))/\∃(v5:Nat × List Int),(v5.1<=(nL [r] (0:Nat)).length/\v5.2=clK (nL [r] (0:Nat)) b (↑j:Int).toNat v5.1)/\(nL [r] (0:Nat)).length-v5.1<(nL [r] (0:Nat)).length-v2.1/\(some (0:Nat)=some (0:Nat)/\(↑v2.1:Int)+(1:Int)=(↑v5.1:Int)/\True)/\(List.set [v2.2] (0:Nat) (List.set (nL [v2.2] (0:Nat)) (↑v2.1:Int).toNat (nI (nL [v2.2] (0:Nat)) (↑v2.1:Int).toNat*Int.tdiv (nI b (↑j:Int).toNat) (qd7 (nI (nL [r] (0:Nat)) (↑j:Int).toNat) (nI b (↑j:Int).toNat))-nI b (↑v2.1:Int).toNat*Int.tdiv (nI (nL [r] (0:Nat)) (↑j:Int).toNat) (qd7 (nI (nL [r] (0:Nat)) (↑j:Int).toNat) (nI b (↑j:Int).toNat))))=[v5.2]/\True/\T=T)/\True/\True/\True/\True/\True/\True/\True/\True/\True/\True/\True)/\(decide ((↑v2.1:Int)<(↑(nL [r] (0:Nat)).length:Int))=false->q6w (nL [qf2 (Ty.list Q0) [v2.2] (0:Nat)] (0:Nat))/\List.set [v2.2] (0:Nat) (qf2 (Ty.list Q0) [qe7 (nL [qf2 (Ty.list Q0) [v2.2] (0:Nat)] (0:Nat))] (0:Nat))=[qw5 (nL [r] (0:Nat)) b (↑j:Int).toNat]/\T=T/\True/\True)) (by kernel_rfl) ?_
 try simp only[z0,z1,z2,z3,z4,z5,z6,z7,z8,z9,z10,Int.reduceEq,z11,z12,z13,z14,z15,z16,z17,z18,z19,z20,z21,z22,z23,z24,z25,z26,z27,z28,z29,z30,Int.reduceLE,Int.reduceLT,z31,z32,z33,z34,qa1]
 try simp only[qb4,qb5,qc8,z31,z32,z2,z1]
 obtain⟨_,h⟩:=h
 rw[Int.toNat_natCast] at h
 have hB:BIG=4000000000000000000:=rfl
 have hB2:xt8=2000000000000000000:=rfl
 have hl:=h.len
 have hj:=h.at_
 have hmx:=h.max
 refine⟨hj,hj,by omega,⟨by rw[<- hB]; exact h.bdr,by rw[<- hB]; exact h.bdb⟩,(),(0,r),⟨Nat.zero_le _,(qu5 (.int .i64) _ r).symm⟩,⟨rfl,rfl⟩,?_⟩
 rintro⟨k,l⟩ ⟨h1,h2⟩
 dsimp only at h1 h2 ⊢
 subst h2
 have hkl:=xl7 r b j k
 refine⟨λhlt=>?_,λhge=>?_⟩
 ·have hg:=ql3 (a:=nI r j) (b:=nI b j) (.inr h.ne)
  have k1:=qj0 (g:=qd7 (nI r j) (nI b j)) h.bdr
  have k2:=qj0 (g:=qd7 (nI r j) (nI b j)) h.bdb
  have k3:=h.one k hlt
  have k4:=h.two k hlt
  rw[xt9 r b j k hlt]
  unfold q1 at k3
  unfold q2 at k4
  exact⟨by omega,by omega,by omega,qa7 (by omega) (by omega),qa7 (by omega) (by omega),by omega,by omega,qa7 (by omega) (by omega),qa7 (by omega) (by omega),qa7 (by omega) (by omega),by omega,by omega,qa7 (by omega) (by omega),(k+1,clK r b j (k+1)),⟨by dsimp only; omega,rfl⟩,by dsimp only; omega,by dsimp only; omega,w93 r b j k⟩
 ·obtain rfl:k=r.length:=by omega
  rw[xl8]
  exact⟨w14 h,rfl⟩
def ixT (t:Ty) (f:t.den->Bool) (l:List t.den):Int:=if l.any f then(l.findIdx f:Int) else -1
theorem w0d (t:Ty) (f:t.den->Bool) (l:List t.den) (k:Nat) (hk:k<l.length) (h:∀i,i<k->f (qf2 t l i)=false) (hf:f (qf2 t l k)=true):ixT t f l=k:=by
 have hk':f l[k]=true:=by rw[<- qk4 l k hk]; exact hf
 unfold ixT
 rw[if_pos (List.any_eq_true.2 ⟨_,List.getElem_mem hk,hk'⟩)]
 have:l.findIdx f=k:=by
  rw[List.findIdx_eq hk]
  refine⟨hk',λj hj=>?_⟩
  have:=h j hj
  rw[qk4 l j (by omega)] at this
  exact this
 rw[this]
theorem q5o (t:Ty) (f:t.den->Bool) (l:List t.den) (h:∀i,i<l.length->f (qf2 t l i)=false):ixT t f l=-1:=by
 unfold ixT
 rw[if_neg]
 intro he
 obtain⟨x,hx,hf⟩:=List.any_eq_true.1 he
 obtain⟨i,hi,rfl⟩:=List.getElem_of_mem hx
 have:=h i hi
 rw[qk4 l i hi,hf] at this
 cases this
theorem q1j (t:Ty) (f:t.den->Bool) (l:List t.den):decide (0<=ixT t f l)=l.any f:=by
 unfold ixT
 split
 ·rename_i h; rw[h]; simp
 ·rename_i h; simp at h ⊢; exact h
theorem xf6 (t:Ty) (f:t.den->Bool) (l:List t.den):ixT t f l<l.length/\-1<=ixT t f l:=by
 unfold ixT
 split
 ·rename_i h
  have:l.findIdx f<l.length:=List.findIdx_lt_length.2 (List.any_eq_true.1 h)
  omega
 ·omega
def x0b (t:Ty) (l:List t.den) (f:t.den->Bool):Nat->Option Inv
 | 0=>some (Inv.of [8] 0 (λk:Nat=>[(8,.lit (.int .i64 k))]) (λ_=>[]) (λk=>k<=l.length/\∀i,i<k->f (qf2 t l i)=false) (λk=>l.length-k))
 | _=>none
abbrev x6d (fs:List (Nat × qc7)):qc7:=hspec fs true none [.d (.list (.list (.int .i64))),.fn [.list (.int .i64)] .bool] [qf8] (λx=>x.1.length<=1000000/\∀i,i<x.1.length->x.2.1.1 (qf2 (.list (.int .i64)) x.1 i,())) (λx=>(ixT (.list (.int .i64)) (λe=>x.2.1.2 (e,())) x.1,()))
theorem wj8 {fs:List (Nat × qc7)} (hfs:SpecsOk Tryz.prog fs):Meets Tryz.prog 129 (x6d fs):=by
 refine qs2 hfs (snd (SpecsOk.nil _)) Tryz.func129 rfl rfl (λx=>x0b (.list (.int .i64)) x.1 (λe=>x.2.1.2 (e,()))) (λ_=>by kernel_rfl) (by decide) ?_
 rintro⟨l,⟨p,f⟩,⟨⟩⟩ h
 revert l p f
 intro(l:List (Ty.den (.list (.int .i64)))) (p:qa5 [.list (.int .i64)]->Prop) (f:qa5 [.list (.int .i64)]->Bool) (h:l.length<=1000000/\∀i,i<l.length->p (qf2 (.list (.int .i64)) l i,()))
 refine @qe0 _ (∃(v0:Unit),∃(v1:Nat),(v1<=l.length/\∀(v2:Nat),Nat.le (Nat.succ v2) v1->f (nL l v2,())=false)/\(((0:Int)=(↑v1:Int)/\True)/\True)/\∀(v2:Nat),(v2<=l.length/\∀(v4:Nat),Nat.le (Nat.succ v4) v2->f (nL l v4,())=false)->(decide ((↑v2:Int)<(↑l.length:Int))=true->((0:Int)<=(↑v2:Int)/\(↑v2:Int)<(↑l.length:Int))/\p (nL l v2,())/\(f (nL l v2,())=true->(↑v2:Int)=ixT (Ty.list (Ty.int .i64)) (λ(v6:List Int)=>f (v6,())) l)/\(f (nL l v2,())=false->fits .i64 ((↑v2:Int)+(1:Int))/\∃(v6:Nat),(v6<=l.length/\∀(v7:Nat),Nat.le (Nat.succ v7) v6->f (nL l v7,())=false)/\l.length-v6<l.length-v2/\((↑v2:Int)+(1:Int)=(↑v6:Int)/\True)/\True))/\(decide ((↑v2:Int)<(↑l.length:Int))=false->(-1:Int)=ixT (Ty.list (Ty.int .i64)) (λ(v5:List Int)=>f (v5,())) l)) (by kernel_rfl) ?_
 try simp only[z0,z1,z2,z3,z4,z5,z6,z7,z8,z9,z10,Int.reduceEq,z11,z12,z13,z14,z15,z16,z17,z18,z19,z20,z21,z22,z23,z24,z25,z26,z27,z28,z29,z30,Int.reduceLE,Int.reduceLT,z31,z32,z33,z34,qa1]
 try simp only[qb4,qb5,qc8,z31,z32,z2,z1]
 obtain⟨hl,hp⟩:=h
 refine⟨(),0,⟨Nat.zero_le _,λi hi=>absurd hi (by omega)⟩,rfl,λk ⟨hk,hall⟩=>?_⟩
 refine⟨λhlt=>⟨hlt,hp k hlt,λhf=>(w0d (.list (.int .i64)) (λe=>f (e,())) l k hlt hall hf).symm,λhf=>⟨qa7 (by omega) (by omega),k+1,⟨by omega,λi hi=>?_⟩,by omega,by omega⟩⟩,λhge=>(q5o (.list (.int .i64)) (λe=>f (e,())) l λi hi=>hall i (by omega)).symm⟩
 by_cases e:i=k
 ·subst e; exact hf
 ·exact hall i (by omega)
abbrev x6e (fs:List (Nat × qc7)):qc7:=hspec fs true none [.d (.list (.int .i64)),.fn [.int .i64] .bool] [qf8] (λx=>x.1.length<=1000000/\∀i,i<x.1.length->x.2.1.1 (qf2 (.int .i64) x.1 i,())) (λx=>(ixT (.int .i64) (λe=>x.2.1.2 (e,())) x.1,()))
theorem wj9 {fs:List (Nat × qc7)} (hfs:SpecsOk Tryz.prog fs):Meets Tryz.prog 178 (x6e fs):=by
 refine qs2 hfs (snd (SpecsOk.nil _)) Tryz.func178 rfl rfl (λx=>x0b (.int .i64) x.1 (λe=>x.2.1.2 (e,()))) (λ_=>by kernel_rfl) (by decide) ?_
 rintro⟨l,⟨p,f⟩,⟨⟩⟩ h
 revert l p f
 intro(l:List (Ty.den (.int .i64))) (p:qa5 [.int .i64]->Prop) (f:qa5 [.int .i64]->Bool) (h:l.length<=1000000/\∀i,i<l.length->p (qf2 (.int .i64) l i,()))
 refine @qe0 _ (∃(v0:Unit),∃(v1:Nat),(v1<=l.length/\∀(v2:Nat),Nat.le (Nat.succ v2) v1->f (nI l v2,())=false)/\(((0:Int)=(↑v1:Int)/\True)/\True)/\∀(v2:Nat),(v2<=l.length/\∀(v4:Nat),Nat.le (Nat.succ v4) v2->f (nI l v4,())=false)->(decide ((↑v2:Int)<(↑l.length:Int))=true->((0:Int)<=(↑v2:Int)/\(↑v2:Int)<(↑l.length:Int))/\p (nI l v2,())/\(f (nI l v2,())=true->(↑v2:Int)=ixT (Ty.int .i64) (λ(v6:Int)=>f (v6,())) l)/\(f (nI l v2,())=false->fits .i64 ((↑v2:Int)+(1:Int))/\∃(v6:Nat),(v6<=l.length/\∀(v7:Nat),Nat.le (Nat.succ v7) v6->f (nI l v7,())=false)/\l.length-v6<l.length-v2/\((↑v2:Int)+(1:Int)=(↑v6:Int)/\True)/\True))/\(decide ((↑v2:Int)<(↑l.length:Int))=false->(-1:Int)=ixT (Ty.int .i64) (λ(v5:Int)=>f (v5,())) l)) (by kernel_rfl) ?_
 try simp only[z0,z1,z2,z3,z4,z5,z6,z7,z8,z9,z10,Int.reduceEq,z11,z12,z13,z14,z15,z16,z17,z18,z19,z20,z21,z22,z23,z24,z25,z26,z27,z28,z29,z30,Int.reduceLE,Int.reduceLT,z31,z32,z33,z34,qa1]
 try simp only[qb4,qb5,qc8,z31,z32,z2,z1]
 obtain⟨hl,hp⟩:=h
 refine⟨(),0,⟨Nat.zero_le _,λi hi=>absurd hi (by omega)⟩,rfl,λk ⟨hk,hall⟩=>?_⟩
 refine⟨λhlt=>⟨hlt,hp k hlt,λhf=>(w0d (.int .i64) (λe=>f (e,())) l k hlt hall hf).symm,λhf=>⟨qa7 (by omega) (by omega),k+1,⟨by omega,λi hi=>?_⟩,by omega,by omega⟩⟩,λhge=>(q5o (.int .i64) (λe=>f (e,())) l λi hi=>hall i (by omega)).symm⟩
 by_cases e:i=k
 ·subst e; exact hf
 ·exact hall i (by omega)
abbrev x6f (fs:List (Nat × qc7)):qc7:=hspec fs true none [.d (.list (.prod (.int .i64) (.int .i64))),.fn [.prod (.int .i64) (.int .i64)] .bool] [qf8] (λx=>x.1.length<=1000000/\∀i,i<x.1.length->x.2.1.1 (qf2 (.prod (.int .i64) (.int .i64)) x.1 i,())) (λx=>(ixT (.prod (.int .i64) (.int .i64)) (λe=>x.2.1.2 (e,())) x.1,()))
theorem w5r {fs:List (Nat × qc7)} (hfs:SpecsOk Tryz.prog fs):Meets Tryz.prog 250 (x6f fs):=by
 refine qs2 hfs (snd (SpecsOk.nil _)) Tryz.func250 rfl rfl (λx=>x0b (.prod (.int .i64) (.int .i64)) x.1 (λe=>x.2.1.2 (e,()))) (λ_=>by kernel_rfl) (by decide) ?_
 rintro⟨l,⟨p,f⟩,⟨⟩⟩ h
 revert l p f
 intro(l:List (Ty.den (.prod (.int .i64) (.int .i64)))) (p:qa5 [.prod (.int .i64) (.int .i64)]->Prop) (f:qa5 [.prod (.int .i64) (.int .i64)]->Bool) (h:l.length<=1000000/\∀i,i<l.length->p (qf2 (.prod (.int .i64) (.int .i64)) l i,()))
 refine @qe0 _ (∃(v0:Unit),∃(v1:Nat),(v1<=l.length/\∀(v2:Nat),Nat.le (Nat.succ v2) v1->f (qf2 (Ty.prod (Ty.int .i64) (Ty.int .i64)) l v2,())=false)/\(((0:Int)=(↑v1:Int)/\True)/\True)/\∀(v2:Nat),(v2<=l.length/\∀(v4:Nat),Nat.le (Nat.succ v4) v2->f (qf2 (Ty.prod (Ty.int .i64) (Ty.int .i64)) l v4,())=false)->(decide ((↑v2:Int)<(↑l.length:Int))=true->((0:Int)<=(↑v2:Int)/\(↑v2:Int)<(↑l.length:Int))/\p (((qf2 (Ty.prod (Ty.int .i64) (Ty.int .i64)) l v2).1,(qf2 (Ty.prod (Ty.int .i64) (Ty.int .i64)) l v2).2),())/\(f (((qf2 (Ty.prod (Ty.int .i64) (Ty.int .i64)) l v2).1,(qf2 (Ty.prod (Ty.int .i64) (Ty.int .i64)) l v2).2),())=true->(↑v2:Int)=ixT (Ty.prod (Ty.int .i64) (Ty.int .i64)) (λ(v6:Int × Int)=>f (v6,())) l)/\(f (((qf2 (Ty.prod (Ty.int .i64) (Ty.int .i64)) l v2).1,(qf2 (Ty.prod (Ty.int .i64) (Ty.int .i64)) l v2).2),())=false->fits .i64 ((↑v2:Int)+(1:Int))/\∃(v6:Nat),(v6<=l.length/\∀(v7:Nat),Nat.le (Nat.succ v7) v6->f (qf2 (Ty.prod (Ty.int .i64) (Ty.int .i64)) l v7,())=false)/\l.length-v6<l.length-v2/\((↑v2:Int)+(1:Int)=(↑v6:Int)/\True)/\True))/\(decide ((↑v2:Int)<(↑l.length:Int))=false->(-1:Int)=ixT (Ty.prod (Ty.int .i64) (Ty.int .i64)) (λ(v5:Int × Int)=>f (v5,())) l)) (by kernel_rfl) ?_
 try simp only[z0,z1,z2,z3,z4,z5,z6,z7,z8,z9,z10,Int.reduceEq,z11,z12,z13,z14,z15,z16,z17,z18,z19,z20,z21,z22,z23,z24,z25,z26,z27,z28,z29,z30,Int.reduceLE,Int.reduceLT,z31,z32,z33,z34,qa1]
 try simp only[qb4,qb5,qc8,z31,z32,z2,z1]
 obtain⟨hl,hp⟩:=h
 refine⟨(),0,⟨Nat.zero_le _,λi hi=>absurd hi (by omega)⟩,rfl,λk ⟨hk,hall⟩=>?_⟩
 refine⟨λhlt=>⟨hlt,hp k hlt,λhf=>(w0d (.prod (.int .i64) (.int .i64)) (λe=>f (e,())) l k hlt hall hf).symm,λhf=>⟨qa7 (by omega) (by omega),k+1,⟨by omega,λi hi=>?_⟩,by omega,by omega⟩⟩,λhge=>(q5o (.prod (.int .i64) (.int .i64)) (λe=>f (e,())) l λi hi=>hall i (by omega)).symm⟩
 by_cases e:i=k
 ·subst e; exact hf
 ·exact hall i (by omega)
abbrev x6g (fs:List (Nat × qc7)):qc7:=hspec fs true none [.d (.list (.list (.int .i64))),.fn [.list (.int .i64)] .bool] [.bool] (λx=>x.1.length<=1000000/\∀i,i<x.1.length->x.2.1.1 (qf2 (.list (.int .i64)) x.1 i,())) (λx=>(x.1.any λe=>x.2.1.2 (e,()),()))
theorem w5s {fs:List (Nat × qc7)} (hfs:SpecsOk Tryz.prog fs):Meets Tryz.prog 107 (x6g fs):=by
 refine qs2 hfs (snd (SpecsOk.cons (wj8 (fs:=fs) hfs) (SpecsOk.nil _))) Tryz.func107 rfl rfl (λx=>λ_=>none) (λ_=>by kernel_rfl) (by decide) ?_
 rintro⟨l,⟨p,f⟩,⟨⟩⟩ h
 revert l p f
 intro(l:List (Ty.den (.list (.int .i64)))) (p:qa5 [.list (.int .i64)]->Prop) (f:qa5 [.list (.int .i64)]->Bool) (h:l.length<=1000000/\∀i,i<l.length->p (qf2 (.list (.int .i64)) l i,()))
 refine @qe0 _ (∃(v0:qa5 [Ty.list (Ty.int .i64)]->Prop),∃(v1:qa5 [Ty.list (Ty.int .i64)]->Bool),([Ty.list (Ty.int .i64)]=[Ty.list (Ty.int .i64)]/\Ty.bool=Ty.bool/\p ≍ v0/\f ≍ v1)/\(l.length<=(1000000:Nat)/\∀(v2:Nat),v2<l.length->v0 (nL l v2,()))/\decide ((0:Int)<=ixT (Ty.list (Ty.int .i64)) (λ(v2:List Int)=>v1 (v2,())) l)=List.any l λ(v2:List Int)=>f (v2,())) (by kernel_rfl) ?_
 try simp only[z0,z1,z2,z3,z4,z5,z6,z7,z8,z9,z10,Int.reduceEq,z11,z12,z13,z14,z15,z16,z17,z18,z19,z20,z21,z22,z23,z24,z25,z26,z27,z28,z29,z30,Int.reduceLE,Int.reduceLT,z31,z32,z33,z34,qa1]
 try simp only[qb4,qb5,qc8,z31,z32,z2,z1]
 exact⟨p,f,⟨HEq.rfl,HEq.rfl⟩,h,q1j (.list (.int .i64)) (λe=>f (e,())) l⟩
abbrev x6h (fs:List (Nat × qc7)):qc7:=hspec fs true none [.d (.list (.int .i64)),.fn [.int .i64] .bool] [.bool] (λx=>x.1.length<=1000000/\∀i,i<x.1.length->x.2.1.1 (qf2 (.int .i64) x.1 i,())) (λx=>(x.1.any λe=>x.2.1.2 (e,()),()))
theorem q3b {fs:List (Nat × qc7)} (hfs:SpecsOk Tryz.prog fs):Meets Tryz.prog 132 (x6h fs):=by
 refine qs2 hfs (snd (SpecsOk.cons (wj9 (fs:=fs) hfs) (SpecsOk.nil _))) Tryz.func132 rfl rfl (λx=>λ_=>none) (λ_=>by kernel_rfl) (by decide) ?_
 rintro⟨l,⟨p,f⟩,⟨⟩⟩ h
 revert l p f
 intro(l:List (Ty.den (.int .i64))) (p:qa5 [.int .i64]->Prop) (f:qa5 [.int .i64]->Bool) (h:l.length<=1000000/\∀i,i<l.length->p (qf2 (.int .i64) l i,()))
 refine @qe0 _ (∃(v0:qa5 [Ty.int .i64]->Prop),∃(v1:qa5 [Ty.int .i64]->Bool),([Ty.int .i64]=[Ty.int .i64]/\Ty.bool=Ty.bool/\p ≍ v0/\f ≍ v1)/\(l.length<=(1000000:Nat)/\∀(v2:Nat),v2<l.length->v0 (nI l v2,()))/\decide ((0:Int)<=ixT (Ty.int .i64) (λ(v2:Int)=>v1 (v2,())) l)=List.any l λ(v2:Int)=>f (v2,())) (by kernel_rfl) ?_
 try simp only[z0,z1,z2,z3,z4,z5,z6,z7,z8,z9,z10,Int.reduceEq,z11,z12,z13,z14,z15,z16,z17,z18,z19,z20,z21,z22,z23,z24,z25,z26,z27,z28,z29,z30,Int.reduceLE,Int.reduceLT,z31,z32,z33,z34,qa1]
 try simp only[qb4,qb5,qc8,z31,z32,z2,z1]
 exact⟨p,f,⟨HEq.rfl,HEq.rfl⟩,h,q1j (.int .i64) (λe=>f (e,())) l⟩
abbrev x6i (fs:List (Nat × qc7)):qc7:=hspec fs true none [.d (.list (.prod (.int .i64) (.int .i64))),.fn [.prod (.int .i64) (.int .i64)] .bool] [.bool] (λx=>x.1.length<=1000000/\∀i,i<x.1.length->x.2.1.1 (qf2 (.prod (.int .i64) (.int .i64)) x.1 i,())) (λx=>(x.1.any λe=>x.2.1.2 (e,()),()))
theorem w5t {fs:List (Nat × qc7)} (hfs:SpecsOk Tryz.prog fs):Meets Tryz.prog 239 (x6i fs):=by
 refine qs2 hfs (snd (SpecsOk.cons (w5r (fs:=fs) hfs) (SpecsOk.nil _))) Tryz.func239 rfl rfl (λx=>λ_=>none) (λ_=>by kernel_rfl) (by decide) ?_
 rintro⟨l,⟨p,f⟩,⟨⟩⟩ h
 revert l p f
 intro(l:List (Ty.den (.prod (.int .i64) (.int .i64)))) (p:qa5 [.prod (.int .i64) (.int .i64)]->Prop) (f:qa5 [.prod (.int .i64) (.int .i64)]->Bool) (h:l.length<=1000000/\∀i,i<l.length->p (qf2 (.prod (.int .i64) (.int .i64)) l i,()))
 refine @qe0 _ (∃(v0:qa5 [Ty.prod (Ty.int .i64) (Ty.int .i64)]->Prop),∃(v1:qa5 [Ty.prod (Ty.int .i64) (Ty.int .i64)]->Bool),([Ty.prod (Ty.int .i64) (Ty.int .i64)]=[Ty.prod (Ty.int .i64) (Ty.int .i64)]/\Ty.bool=Ty.bool/\p ≍ v0/\f ≍ v1)/\(l.length<=(1000000:Nat)/\∀(v2:Nat),v2<l.length->v0 (qf2 (Ty.prod (Ty.int .i64) (Ty.int .i64)) l v2,()))/\decide ((0:Int)<=ixT (Ty.prod (Ty.int .i64) (Ty.int .i64)) (λ(v2:Int × Int)=>v1 (v2,())) l)=List.any l λ(v2:Int × Int)=>f (v2,())) (by kernel_rfl) ?_
 try simp only[z0,z1,z2,z3,z4,z5,z6,z7,z8,z9,z10,Int.reduceEq,z11,z12,z13,z14,z15,z16,z17,z18,z19,z20,z21,z22,z23,z24,z25,z26,z27,z28,z29,z30,Int.reduceLE,Int.reduceLT,z31,z32,z33,z34,qa1]
 try simp only[qb4,qb5,qc8,z31,z32,z2,z1]
 exact⟨p,f,⟨HEq.rfl,HEq.rfl⟩,h,q1j (.prod (.int .i64) (.int .i64)) (λe=>f (e,())) l⟩
end Go.Proofs.YtmijnbjlhnpokaaGreat
