/- Masks, and the errors of masks, readings and pixels: contracts by the engine. No condition. -/
import Derived.Test.YtempacilejhbgaaGreatQ1
set_option linter.unusedVariables false
set_option linter.unusedSimpArgs false
namespace Go.Proofs.YtempacilejhbgaaGreat
open Go Go.RowKit Eng
def x1o:Int:=2000000000000000000
def q1 (r b:List Int) (c:Nat):Int:=(nI b c).tdiv (gcdI (nI r c) (nI b c))
def q2 (r b:List Int) (c:Nat):Int:=(nI r c).tdiv (gcdI (nI r c) (nI b c))
def xv6 (r b:List Int) (c i:Nat):Int:=(nI r i)*q1 r b c-(nI b i)*q2 r b c
def q5d (r b:List Int) (c:Nat):List Int:=(List.range r.length).map (xv6 r b c)
def qx0 (r b:List Int) (c:Nat):List Int:=qe0 (q5d r b c)
structure wo6 (r b:List Int) (c:Nat):Prop where
 at_:c<r.length
 len:b.length=r.length
 max:r.length<=1000
 ne:(nI b c)≠(0:Int)
 bdr:qf0 BIG (nI r c)
 bdb:qf0 BIG (nI b c)
 one:∀i,i<r.length->qf0 x1o ((nI r i)*q1 r b c)
 two:∀i,i<r.length->qf0 x1o ((nI b i)*q2 r b c)
def xp4:qp1:=wn8 (q6x [tInts,tInt]) false false 0 3 (.int .i64) (λrows x=>0<=x.2.1/\wo6 (nL rows 0) x.1 x.2.1.toNat) (λ_ _=>.tup .nil) (λrows x=>[qx0 (nL rows 0) x.1 x.2.1.toNat])
def clK (r b:List Int) (c k:Nat):List Int:=ovr (.int .i64) (xv6 r b c) r k
def xv7 (T:q59) (r b:List Int) (c:Nat):Nat->Option Inv
 | 0=>some (Inv.of [0,23] 11 (λs:Nat × List Int=>[(0,.msl 0 (some 0)),(23,.lit (.int .i64 s.1))]) (λs=>[.mat 0 3 (.int .i64) [s.2] (some []) (some T),.dead,.dead,.dead,.dead,.dead,.dead,.dead,.dead,.dead,.dead]) (λs=>s.1<=r.length/\s.2=clK r b c s.1) (λs=>r.length-s.1))
 | _=>none
theorem q1m (r b:List Int) (c:Nat):(q5d r b c).length=r.length:=by simp[q5d]
theorem xv8 (r b:List Int) (c k:Nat):(clK r b c k).length=r.length:=qr4 (.int .i64) _ r k
theorem x1p (r b:List Int) (c k:Nat) (hk:k<r.length):nI (clK r b c k) k=nI r k:=(q5c (.int .i64) _ r k k hk).trans (if_neg (Nat.lt_irrefl k))
theorem xh4 (r b:List Int) (c k:Nat):(clK r b c k).set k (xv6 r b c k)=clK r b c (k+1):=qv2 (.int .i64) _ r k
theorem xv9 (r b:List Int) (c:Nat):clK r b c r.length=q5d r b c:=q2m (.int .i64) _ r _ (Nat.le_refl _)
theorem w4b {r b:List Int} {c:Nat} (h:wo6 r b c):q4o (q5d r b c):=by
 refine⟨by rw[q1m]; exact h.max,λx hx=>?_⟩
 unfold q5d at hx
 obtain⟨i,hi,rfl⟩:=List.mem_map.1 hx
 have hi:=List.mem_range.1 hi
 have h1:=h.one i hi
 have h2:=h.two i hi
 unfold xv6
 unfold x1o at h1 h2
 unfold BIG
 omega
theorem wx0:qv1 Tryz.prog 184 xp4:=by
 refine q61 (x1k (SpecsOk.cons qs8 (SpecsOk.nil _)) (MutsOk.cons q2n MutsOk.nil)) Tryz.func184 rfl rfl (qz2 [tInts,tInt]) (λT rows x=>xv7 T (nL rows 0) x.1 x.2.1.toNat) (λ_ _ _=>by kernel_rfl) (by decide) ?_ rfl
 rintro T rows ⟨b,c,⟨⟩⟩ h hone
 revert b c
 intro(b:List Int) (c:Int) h
 obtain⟨r,rfl⟩:∃l:List Int,rows=[l]:=by
  have h1:=hone rfl
  match rows,h1 with
  | [l],_=>exact⟨l,rfl⟩
 have h:0<=c/\wo6 r b c.toNat:=h
 obtain⟨j,rfl⟩:∃j:Nat,c=j:=⟨c.toNat,by omega⟩
 refine @qd7 _ (let Q0:=qp1.t xp3; ((0:Int)<=(↑j:Int)/\(↑j:Int)<(↑(nL [r] (0:Nat)).length:Int))/\(↑j:Int).toNat<(nL [r] (0:Nat)).length/\((0:Int)<=(↑j:Int)/\(↑j:Int)<(↑b.length:Int))/\(((-4000000000000000000:Int)<=nI (nL [r] (0:Nat)) (↑j:Int).toNat/\nI (nL [r] (0:Nat)) (↑j:Int).toNat<=BIG)/\(-4000000000000000000:Int)<=nI b (↑j:Int).toNat/\nI b (↑j:Int).toNat<=BIG)/\∃(v0:Unit),∃(v1:Nat × List Int),(v1.1<=(nL [r] (0:Nat)).length/\v1.2=clK (nL [r] (0:Nat)) b (↑j:Int).toNat v1.1)/\((some (0:Nat)=some (0:Nat)/\(0:Int)=(↑v1.1:Int)/\True)/\([r]=[v1.2]/\True/\T=T)/\True/\True/\True/\True/\True/\True/\True/\True/\True/\True/\True)/\∀(v2:Nat × List Int),v2.1<=(nL [r] (0:Nat)).length/\v2.2=clK (nL [r] (0:Nat)) b (↑j:Int).toNat v2.1->(decide ((↑v2.1:Int)<(↑(nL [r] (0:Nat)).length:Int))=true->((0:Int)<=(↑v2.1:Int)/\(↑v2.1:Int)<(↑(nL [v2.2] (0:Nat)).length:Int))/\(↑v2.1:Int).toNat<(nL [v2.2] (0:Nat)).length/\gcdI (nI (nL [r] (0:Nat)) (↑j:Int).toNat) (nI b (↑j:Int).toNat)≠(0:Int)/\fits .i64 (Int.tdiv (nI b (↑j:Int).toNat) (gcdI (nI (nL [r] (0:Nat)) (↑j:Int).toNat) (nI b (↑j:Int).toNat)))/\fits .i64 (nI (nL [v2.2] (0:Nat)) (↑v2.1:Int).toNat*Int.tdiv (nI b (↑j:Int).toNat) (gcdI (nI (nL [r] (0:Nat)) (↑j:Int).toNat) (nI b (↑j:Int).toNat)))/\((0:Int)<=(↑v2.1:Int)/\(↑v2.1:Int)<(↑b.length:Int))/\gcdI (nI (nL [r] (0:Nat)) (↑j:Int).toNat) (nI b (↑j:Int).toNat)≠(0:Int)/\fits .i64 (Int.tdiv (nI (nL [r] (0:Nat)) (↑j:Int).toNat) (gcdI (nI (nL [r] (0:Nat)) (↑j:Int).toNat) (nI b (↑j:Int).toNat)))/\fits .i64 (nI b (↑v2.1:Int).toNat*Int.tdiv (nI (nL [r] (0:Nat)) (↑j:Int).toNat) (gcdI (nI (nL [r] (0:Nat)) (↑j:Int).toNat) (nI b (↑j:Int).toNat)))/\fits .i64 (nI (nL [v2.2] (0:Nat)) (↑v2.1:Int).toNat*Int.tdiv (nI b (↑j:Int).toNat) (gcdI (nI (nL [r] (0:Nat)) (↑j:Int).toNat) (nI b (↑j:Int).toNat))-nI b (↑v2.1:Int).toNat*Int.tdiv (nI (nL [r] (0:Nat)) (↑j:Int).toNat) (gcdI (nI (nL [r] (0:Nat)) (↑j:Int).toNat) (nI b (↑j:Int).toNat)))/\((0:Int)<=(↑v2.1:Int)/\(↑v2.1:Int)<(↑(nL [v2.2] (0:Nat)).length:Int))/\(↑v2.1:Int).toNat<(nL [v2.2] (0:Nat)).length/\fits .i64 ((↑v2.1:Int)+(1:Int))/\∃(v5:Nat × List Int),(v5.1<=(nL [r] (0:Nat)).length/\v5.2=clK (nL [r] (0:Nat)) b (↑j:Int).toNat v5.1)/\(nL [r] (0:Nat)).length-v5.1<(nL [r] (0:Nat)).length-v2.1/\(some (0:Nat)=some (0:Nat)/\(↑v2.1:Int)+(1:Int)=(↑v5.1:Int)/\True)/\(List.set [v2.2] (0:Nat) (List.set (nL [v2.2] (0:Nat)) (↑v2.1:Int).toNat (nI (nL [v2.2] (0:Nat)) (↑v2.1:Int).toNat*Int.tdiv (nI b (↑j:Int).toNat) (gcdI (nI (nL [r] (0:Nat)) (↑j:Int).toNat) (nI b (↑j:Int).toNat))-nI b (↑v2.1:Int).toNat*Int.tdiv (nI (nL [r] (0:Nat)) (↑j:Int).toNat) (gcdI (nI (nL [r] (0:Nat)) (↑j:Int).toNat) (nI b (↑j:Int).toNat))))=[v5.2]/\True/\T=T)/\True/\True/\True/\True/\True/\True/\True/\True/\True/\True/\True)/\(decide ((↑v2.1:Int)<(↑(nL [r] (0:Nat)).length:Int))=false->q4o (nL [qh4 (Ty.list Q0) [v2.2] (0:Nat)] (0:Nat))/\List.set [v2.2] (0:Nat) (qh4 (Ty.list Q0) [qe0 (nL [qh4 (Ty.list Q0) [v2.2] (0:Nat)] (0:Nat))] (0:Nat))=[qx0 (nL [r] (0:Nat)) b (↑j:Int).toNat]/\T=T/\True/\True)) (by kernel_rfl) ?_
 try simp only[z0,z1,z2,z3,z4,z5,z6,z7,z8,z9,z10,Int.reduceEq,z11,z12,z13,z14,z15,z16,z17,z18,z19,z20,z21,z22,z23,z24,z25,z26,z27,z28,z29,z30,Int.reduceLE,Int.reduceLT,z31,z32,z33,z34,qa1]
 try simp only[qb3,qb4,qc0,z31,z32,z2,z1]
 obtain⟨_,h⟩:=h
 rw[Int.toNat_natCast] at h
 have hB:BIG=4000000000000000000:=rfl
 have hB2:x1o=2000000000000000000:=rfl
 have hl:=h.len
 have hj:=h.at_
 have hmx:=h.max
 refine⟨hj,hj,by omega,⟨by rw[<- hB]; exact h.bdr,by rw[<- hB]; exact h.bdb⟩,(),(0,r),⟨Nat.zero_le _,(qz4 (.int .i64) _ r).symm⟩,⟨rfl,rfl⟩,?_⟩
 rintro⟨k,l⟩ ⟨h1,h2⟩
 dsimp only at h1 h2 ⊢
 subst h2
 have hkl:=xv8 r b j k
 refine⟨λhlt=>?_,λhge=>?_⟩
 ·have hg:=qq6 (a:=nI r j) (b:=nI b j) (.inr h.ne)
  have k1:=qj9 (g:=gcdI (nI r j) (nI b j)) h.bdr
  have k2:=qj9 (g:=gcdI (nI r j) (nI b j)) h.bdb
  have k3:=h.one k hlt
  have k4:=h.two k hlt
  rw[x1p r b j k hlt]
  unfold q1 at k3
  unfold q2 at k4
  exact⟨by omega,by omega,by omega,qa4 (by omega) (by omega),qa4 (by omega) (by omega),by omega,by omega,qa4 (by omega) (by omega),qa4 (by omega) (by omega),qa4 (by omega) (by omega),by omega,by omega,qa4 (by omega) (by omega),(k+1,clK r b j (k+1)),⟨by dsimp only; omega,rfl⟩,by dsimp only; omega,by dsimp only; omega,xh4 r b j k⟩
 ·obtain rfl:k=r.length:=by omega
  rw[xv9]
  exact⟨w4b h,rfl⟩
def ixT (t:Ty) (f:t.den->Bool) (l:List t.den):Int:=if l.any f then(l.findIdx f:Int) else -1
theorem w14 (t:Ty) (f:t.den->Bool) (l:List t.den) (k:Nat) (hk:k<l.length) (h:∀i,i<k->f (qh4 t l i)=false) (hf:f (qh4 t l k)=true):ixT t f l=k:=by
 have hk':f l[k]=true:=by rw[<- qv9 l k hk]; exact hf
 unfold ixT
 rw[if_pos (List.any_eq_true.2 ⟨_,List.getElem_mem hk,hk'⟩)]
 have:l.findIdx f=k:=by
  rw[List.findIdx_eq hk]
  refine⟨hk',λj hj=>?_⟩
  have:=h j hj
  rw[qv9 l j (by omega)] at this
  exact this
 rw[this]
theorem we6 (t:Ty) (f:t.den->Bool) (l:List t.den) (h:∀i,i<l.length->f (qh4 t l i)=false):ixT t f l=-1:=by
 unfold ixT
 rw[if_neg]
 intro he
 obtain⟨x,hx,hf⟩:=List.any_eq_true.1 he
 obtain⟨i,hi,rfl⟩:=List.getElem_of_mem hx
 have:=h i hi
 rw[qv9 l i hi,hf] at this
 cases this
theorem q4p (t:Ty) (f:t.den->Bool) (l:List t.den):decide (0<=ixT t f l)=l.any f:=by
 unfold ixT
 split
 ·rename_i h; rw[h]; simp
 ·rename_i h; simp at h ⊢; exact h
theorem xp5 (t:Ty) (f:t.den->Bool) (l:List t.den):ixT t f l<l.length/\-1<=ixT t f l:=by
 unfold ixT
 split
 ·rename_i h
  have:l.findIdx f<l.length:=List.findIdx_lt_length.2 (List.any_eq_true.1 h)
  omega
 ·omega
def x5k (t:Ty) (l:List t.den) (f:t.den->Bool):Nat->Option Inv
 | 0=>some (Inv.of [8] 0 (λk:Nat=>[(8,.lit (.int .i64 k))]) (λ_=>[]) (λk=>k<=l.length/\∀i,i<k->f (qh4 t l i)=false) (λk=>l.length-k))
 | _=>none
abbrev x9u (fs:List (Nat × qb9)):qb9:=hspec fs true none [.d (.list (.list (.int .i64))),.fn [.list (.int .i64)] .bool] [tInt] (λx=>x.1.length<=1000000/\∀i,i<x.1.length->x.2.1.1 (qh4 (.list (.int .i64)) x.1 i,())) (λx=>(ixT (.list (.int .i64)) (λe=>x.2.1.2 (e,())) x.1,()))
theorem wo7 {fs:List (Nat × qb9)} (hfs:SpecsOk Tryz.prog fs):qd4 Tryz.prog 78 (x9u fs):=by
 refine qw8 hfs (snd (SpecsOk.nil _)) Tryz.func78 rfl rfl (λx=>x5k (.list (.int .i64)) x.1 (λe=>x.2.1.2 (e,()))) (λ_=>by kernel_rfl) (by decide) ?_
 rintro⟨l,⟨p,f⟩,⟨⟩⟩ h
 revert l p f
 intro(l:List (Ty.den (.list (.int .i64)))) (p:qa6 [.list (.int .i64)]->Prop) (f:qa6 [.list (.int .i64)]->Bool) (h:l.length<=1000000/\∀i,i<l.length->p (qh4 (.list (.int .i64)) l i,()))
 refine @qd7 _ (∃(v0:Unit),∃(v1:Nat),(v1<=l.length/\∀(v2:Nat),Nat.le (Nat.succ v2) v1->f (nL l v2,())=false)/\(((0:Int)=(↑v1:Int)/\True)/\True)/\∀(v2:Nat),(v2<=l.length/\∀(v4:Nat),Nat.le (Nat.succ v4) v2->f (nL l v4,())=false)->(decide ((↑v2:Int)<(↑l.length:Int))=true->((0:Int)<=(↑v2:Int)/\(↑v2:Int)<(↑l.length:Int))/\p (nL l v2,())/\(f (nL l v2,())=true->(↑v2:Int)=ixT (Ty.list (Ty.int .i64)) (λ(v6:List Int)=>f (v6,())) l)/\(f (nL l v2,())=false->fits .i64 ((↑v2:Int)+(1:Int))/\∃(v6:Nat),(v6<=l.length/\∀(v7:Nat),Nat.le (Nat.succ v7) v6->f (nL l v7,())=false)/\l.length-v6<l.length-v2/\((↑v2:Int)+(1:Int)=(↑v6:Int)/\True)/\True))/\(decide ((↑v2:Int)<(↑l.length:Int))=false->(-1:Int)=ixT (Ty.list (Ty.int .i64)) (λ(v5:List Int)=>f (v5,())) l)) (by kernel_rfl) ?_
 try simp only[z0,z1,z2,z3,z4,z5,z6,z7,z8,z9,z10,Int.reduceEq,z11,z12,z13,z14,z15,z16,z17,z18,z19,z20,z21,z22,z23,z24,z25,z26,z27,z28,z29,z30,Int.reduceLE,Int.reduceLT,z31,z32,z33,z34,qa1]
 try simp only[qb3,qb4,qc0,z31,z32,z2,z1]
 obtain⟨hl,hp⟩:=h
 refine⟨(),0,⟨Nat.zero_le _,λi hi=>absurd hi (by omega)⟩,rfl,λk ⟨hk,hall⟩=>?_⟩
 refine⟨λhlt=>⟨hlt,hp k hlt,λhf=>(w14 (.list (.int .i64)) (λe=>f (e,())) l k hlt hall hf).symm,λhf=>⟨qa4 (by omega) (by omega),k+1,⟨by omega,λi hi=>?_⟩,by omega,by omega⟩⟩,λhge=>(we6 (.list (.int .i64)) (λe=>f (e,())) l λi hi=>hall i (by omega)).symm⟩
 by_cases e:i=k
 ·subst e; exact hf
 ·exact hall i (by omega)
abbrev x9v (fs:List (Nat × qb9)):qb9:=hspec fs true none [.d (.list (.int .i64)),.fn [.int .i64] .bool] [tInt] (λx=>x.1.length<=1000000/\∀i,i<x.1.length->x.2.1.1 (qh4 (.int .i64) x.1 i,())) (λx=>(ixT (.int .i64) (λe=>x.2.1.2 (e,())) x.1,()))
theorem wo8 {fs:List (Nat × qb9)} (hfs:SpecsOk Tryz.prog fs):qd4 Tryz.prog 98 (x9v fs):=by
 refine qw8 hfs (snd (SpecsOk.nil _)) Tryz.func98 rfl rfl (λx=>x5k (.int .i64) x.1 (λe=>x.2.1.2 (e,()))) (λ_=>by kernel_rfl) (by decide) ?_
 rintro⟨l,⟨p,f⟩,⟨⟩⟩ h
 revert l p f
 intro(l:List (Ty.den (.int .i64))) (p:qa6 [.int .i64]->Prop) (f:qa6 [.int .i64]->Bool) (h:l.length<=1000000/\∀i,i<l.length->p (qh4 (.int .i64) l i,()))
 refine @qd7 _ (∃(v0:Unit),∃(v1:Nat),(v1<=l.length/\∀(v2:Nat),Nat.le (Nat.succ v2) v1->f (nI l v2,())=false)/\(((0:Int)=(↑v1:Int)/\True)/\True)/\∀(v2:Nat),(v2<=l.length/\∀(v4:Nat),Nat.le (Nat.succ v4) v2->f (nI l v4,())=false)->(decide ((↑v2:Int)<(↑l.length:Int))=true->((0:Int)<=(↑v2:Int)/\(↑v2:Int)<(↑l.length:Int))/\p (nI l v2,())/\(f (nI l v2,())=true->(↑v2:Int)=ixT (Ty.int .i64) (λ(v6:Int)=>f (v6,())) l)/\(f (nI l v2,())=false->fits .i64 ((↑v2:Int)+(1:Int))/\∃(v6:Nat),(v6<=l.length/\∀(v7:Nat),Nat.le (Nat.succ v7) v6->f (nI l v7,())=false)/\l.length-v6<l.length-v2/\((↑v2:Int)+(1:Int)=(↑v6:Int)/\True)/\True))/\(decide ((↑v2:Int)<(↑l.length:Int))=false->(-1:Int)=ixT (Ty.int .i64) (λ(v5:Int)=>f (v5,())) l)) (by kernel_rfl) ?_
 try simp only[z0,z1,z2,z3,z4,z5,z6,z7,z8,z9,z10,Int.reduceEq,z11,z12,z13,z14,z15,z16,z17,z18,z19,z20,z21,z22,z23,z24,z25,z26,z27,z28,z29,z30,Int.reduceLE,Int.reduceLT,z31,z32,z33,z34,qa1]
 try simp only[qb3,qb4,qc0,z31,z32,z2,z1]
 obtain⟨hl,hp⟩:=h
 refine⟨(),0,⟨Nat.zero_le _,λi hi=>absurd hi (by omega)⟩,rfl,λk ⟨hk,hall⟩=>?_⟩
 refine⟨λhlt=>⟨hlt,hp k hlt,λhf=>(w14 (.int .i64) (λe=>f (e,())) l k hlt hall hf).symm,λhf=>⟨qa4 (by omega) (by omega),k+1,⟨by omega,λi hi=>?_⟩,by omega,by omega⟩⟩,λhge=>(we6 (.int .i64) (λe=>f (e,())) l λi hi=>hall i (by omega)).symm⟩
 by_cases e:i=k
 ·subst e; exact hf
 ·exact hall i (by omega)
abbrev x9w (fs:List (Nat × qb9)):qb9:=hspec fs true none [.d (.list (.list (.int .i64))),.fn [.list (.int .i64)] .bool] [.bool] (λx=>x.1.length<=1000000/\∀i,i<x.1.length->x.2.1.1 (qh4 (.list (.int .i64)) x.1 i,())) (λx=>(x.1.any λe=>x.2.1.2 (e,()),()))
theorem w7p {fs:List (Nat × qb9)} (hfs:SpecsOk Tryz.prog fs):qd4 Tryz.prog 83 (x9w fs):=by
 refine qw8 hfs (snd (SpecsOk.cons (wo7 (fs:=fs) hfs) (SpecsOk.nil _))) Tryz.func83 rfl rfl (λx=>λ_=>none) (λ_=>by kernel_rfl) (by decide) ?_
 rintro⟨l,⟨p,f⟩,⟨⟩⟩ h
 revert l p f
 intro(l:List (Ty.den (.list (.int .i64)))) (p:qa6 [.list (.int .i64)]->Prop) (f:qa6 [.list (.int .i64)]->Bool) (h:l.length<=1000000/\∀i,i<l.length->p (qh4 (.list (.int .i64)) l i,()))
 refine @qd7 _ (∃(v0:qa6 [Ty.list (Ty.int .i64)]->Prop),∃(v1:qa6 [Ty.list (Ty.int .i64)]->Bool),([Ty.list (Ty.int .i64)]=[Ty.list (Ty.int .i64)]/\Ty.bool=Ty.bool/\p ≍ v0/\f ≍ v1)/\(l.length<=(1000000:Nat)/\∀(v2:Nat),v2<l.length->v0 (nL l v2,()))/\decide ((0:Int)<=ixT (Ty.list (Ty.int .i64)) (λ(v2:List Int)=>v1 (v2,())) l)=List.any l λ(v2:List Int)=>f (v2,())) (by kernel_rfl) ?_
 try simp only[z0,z1,z2,z3,z4,z5,z6,z7,z8,z9,z10,Int.reduceEq,z11,z12,z13,z14,z15,z16,z17,z18,z19,z20,z21,z22,z23,z24,z25,z26,z27,z28,z29,z30,Int.reduceLE,Int.reduceLT,z31,z32,z33,z34,qa1]
 try simp only[qb3,qb4,qc0,z31,z32,z2,z1]
 exact⟨p,f,⟨HEq.rfl,HEq.rfl⟩,h,q4p (.list (.int .i64)) (λe=>f (e,())) l⟩
abbrev x9y (fs:List (Nat × qb9)):qb9:=hspec fs true none [.d (.list (.int .i64)),.fn [.int .i64] .bool] [.bool] (λx=>x.1.length<=1000000/\∀i,i<x.1.length->x.2.1.1 (qh4 (.int .i64) x.1 i,())) (λx=>(x.1.any λe=>x.2.1.2 (e,()),()))
theorem wo9 {fs:List (Nat × qb9)} (hfs:SpecsOk Tryz.prog fs):qd4 Tryz.prog 55 (x9y fs):=by
 refine qw8 hfs (snd (SpecsOk.cons (wo8 (fs:=fs) hfs) (SpecsOk.nil _))) Tryz.func55 rfl rfl (λx=>λ_=>none) (λ_=>by kernel_rfl) (by decide) ?_
 rintro⟨l,⟨p,f⟩,⟨⟩⟩ h
 revert l p f
 intro(l:List (Ty.den (.int .i64))) (p:qa6 [.int .i64]->Prop) (f:qa6 [.int .i64]->Bool) (h:l.length<=1000000/\∀i,i<l.length->p (qh4 (.int .i64) l i,()))
 refine @qd7 _ (∃(v0:qa6 [Ty.int .i64]->Prop),∃(v1:qa6 [Ty.int .i64]->Bool),([Ty.int .i64]=[Ty.int .i64]/\Ty.bool=Ty.bool/\p ≍ v0/\f ≍ v1)/\(l.length<=(1000000:Nat)/\∀(v2:Nat),v2<l.length->v0 (nI l v2,()))/\decide ((0:Int)<=ixT (Ty.int .i64) (λ(v2:Int)=>v1 (v2,())) l)=List.any l λ(v2:Int)=>f (v2,())) (by kernel_rfl) ?_
 try simp only[z0,z1,z2,z3,z4,z5,z6,z7,z8,z9,z10,Int.reduceEq,z11,z12,z13,z14,z15,z16,z17,z18,z19,z20,z21,z22,z23,z24,z25,z26,z27,z28,z29,z30,Int.reduceLE,Int.reduceLT,z31,z32,z33,z34,qa1]
 try simp only[qb3,qb4,qc0,z31,z32,z2,z1]
 exact⟨p,f,⟨HEq.rfl,HEq.rfl⟩,h,q4p (.int .i64) (λe=>f (e,())) l⟩
def inB (n lo hi:Int):Bool:=decide (lo<=n) && decide (n<=hi)
theorem inB_iff {n lo hi:Int}:inB n lo hi=true↔lo<=n/\n<=hi:=by simp[inB]
theorem xw0 {n lo hi:Int}:inB n lo hi=false↔¬(lo<=n/\n<=hi):=by rw[<- inB_iff]; simp
abbrev wx1:qb9:=qf6 true none [tInt,tInt,tInt] [.bool] (λ_=>True) (λx=>(inB x.1 x.2.1 x.2.2.1,()))
theorem qz5:qd4 Tryz.prog 90 wx1:=by
 refine meets (snd (SpecsOk.nil _)) Tryz.func90 rfl rfl (λ_ _=>none) (λ_=>by kernel_rfl) (by decide) ?_
 rintro⟨n,lo,hi,⟨⟩⟩ -
 revert n lo hi
 intro(n:Int) (lo:Int) (hi:Int)
 refine @qd7 _ ((decide (lo<=n)=true->decide (n<=hi)=inB n lo hi)/\(decide (lo<=n)=false->false=inB n lo hi)) (by kernel_rfl) ?_
 try simp only[z0,z1,z2,z3,z4,z5,z6,z7,z8,z9,z10,Int.reduceEq,z11,z12,z13,z14,z15,z16,z17,z18,z19,z20,z21,z22,z23,z24,z25,z26,z27,z28,z29,z30,Int.reduceLE,Int.reduceLT,z31,z32,z33,z34,qa1]
 try simp only[qb3,qb4,qc0,z31,z32,z2,z1]
 constructor
 ·intro h1
  simp[inB,h1]
 ·intro h1
  have:¬lo<=n:=by omega
  simp[inB,this]
theorem q3p:qd4 Tryz.prog 84 wx1:=by
 refine meets (snd (SpecsOk.nil _)) Tryz.func84 rfl rfl (λ_ _=>none) (λ_=>by kernel_rfl) (by decide) ?_
 rintro⟨n,lo,hi,⟨⟩⟩ -
 revert n lo hi
 intro(n:Int) (lo:Int) (hi:Int)
 refine @qd7 _ ((decide (lo<=n)=true->decide (n<=hi)=inB n lo hi)/\(decide (lo<=n)=false->false=inB n lo hi)) (by kernel_rfl) ?_
 try simp only[z0,z1,z2,z3,z4,z5,z6,z7,z8,z9,z10,Int.reduceEq,z11,z12,z13,z14,z15,z16,z17,z18,z19,z20,z21,z22,z23,z24,z25,z26,z27,z28,z29,z30,Int.reduceLE,Int.reduceLT,z31,z32,z33,z34,qa1]
 try simp only[qb3,qb4,qc0,z31,z32,z2,z1]
 constructor
 ·intro h1
  simp[inB,h1]
 ·intro h1
  have:¬lo<=n:=by omega
  simp[inB,this]
theorem q3q:qd4 Tryz.prog 95 wx1:=by
 refine meets (snd (SpecsOk.nil _)) Tryz.func95 rfl rfl (λ_ _=>none) (λ_=>by kernel_rfl) (by decide) ?_
 rintro⟨n,lo,hi,⟨⟩⟩ -
 revert n lo hi
 intro(n:Int) (lo:Int) (hi:Int)
 refine @qd7 _ ((decide (lo<=n)=true->decide (n<=hi)=inB n lo hi)/\(decide (lo<=n)=false->false=inB n lo hi)) (by kernel_rfl) ?_
 try simp only[z0,z1,z2,z3,z4,z5,z6,z7,z8,z9,z10,Int.reduceEq,z11,z12,z13,z14,z15,z16,z17,z18,z19,z20,z21,z22,z23,z24,z25,z26,z27,z28,z29,z30,Int.reduceLE,Int.reduceLT,z31,z32,z33,z34,qa1]
 try simp only[qb3,qb4,qc0,z31,z32,z2,z1]
 constructor
 ·intro h1
  simp[inB,h1]
 ·intro h1
  have:¬lo<=n:=by omega
  simp[inB,this]
abbrev xp6 (fs:List (Nat × qb9)):qb9:=hspec fs true none [.d tInt,.capfn [tInt] .bool] [.bool] (λx=>x.2.1.1 (x.1,())) (λx=>(!(x.2.1.2 (x.1,())),()))
theorem wx2 {fs:List (Nat × qb9)} (hfs:SpecsOk Tryz.prog fs):qd4 Tryz.prog 151 (xp6 fs):=by
 refine qw8 hfs (snd (SpecsOk.nil _)) Tryz.func151 rfl rfl (λ_ _=>none) (λ_=>by kernel_rfl) (by decide) ?_
 rintro⟨n,⟨p,f⟩,⟨⟩⟩ h
 revert n p f
 intro(n:Int) (p:qa6 [.int .i64]->Prop) (f:qa6 [.int .i64]->Bool) (h:p (n,()))
 refine @qd7 _ (p (n,())/\(!f (n,()))=!f (n,())) (by kernel_rfl) ?_
 try simp only[z0,z1,z2,z3,z4,z5,z6,z7,z8,z9,z10,Int.reduceEq,z11,z12,z13,z14,z15,z16,z17,z18,z19,z20,z21,z22,z23,z24,z25,z26,z27,z28,z29,z30,Int.reduceLE,Int.reduceLT,z31,z32,z33,z34,qa1]
 try simp only[qb3,qb4,qc0,z31,z32,z2,z1]
 exact h
abbrev xp7 (fs:List (Nat × qb9)):qb9:=hspec fs true none [.d tInts,.capfn [tInts] .bool] [.bool] (λx=>x.2.1.1 (x.1,())) (λx=>(!(x.2.1.2 (x.1,())),()))
theorem wx3 {fs:List (Nat × qb9)} (hfs:SpecsOk Tryz.prog fs):qd4 Tryz.prog 122 (xp7 fs):=by
 refine qw8 hfs (snd (SpecsOk.nil _)) Tryz.func122 rfl rfl (λ_ _=>none) (λ_=>by kernel_rfl) (by decide) ?_
 rintro⟨n,⟨p,f⟩,⟨⟩⟩ h
 revert n p f
 intro(n:List Int) (p:qa6 [.list (.int .i64)]->Prop) (f:qa6 [.list (.int .i64)]->Bool) (h:p (n,()))
 refine @qd7 _ (p (n,())/\(!f (n,()))=!f (n,())) (by kernel_rfl) ?_
 try simp only[z0,z1,z2,z3,z4,z5,z6,z7,z8,z9,z10,Int.reduceEq,z11,z12,z13,z14,z15,z16,z17,z18,z19,z20,z21,z22,z23,z24,z25,z26,z27,z28,z29,z30,Int.reduceLE,Int.reduceLT,z31,z32,z33,z34,qa1]
 try simp only[qb3,qb4,qc0,z31,z32,z2,z1]
 exact h
abbrev fsI (fs:List (Nat × qb9)):List (Nat × qb9):=[(151,xp6 fs)]
abbrev fsL (fs:List (Nat × qb9)):List (Nat × qb9):=[(122,xp7 fs)]
abbrev x5l (fs:List (Nat × qb9)):qb9:=hspec fs true none [.d tInts,.fn [tInt] .bool] [.bool] (λx=>x.1.length<=1000000/\∀i,i<x.1.length->x.2.1.1 (nI x.1 i,())) (λx=>(x.1.all λe=>x.2.1.2 (e,()),()))
abbrev x5m (fs:List (Nat × qb9)):qb9:=hspec fs true none [.d tMask,.fn [tInts] .bool] [.bool] (λx=>x.1.length<=1000000/\∀i,i<x.1.length->x.2.1.1 (nL x.1 i,())) (λx=>(x.1.all λe=>x.2.1.2 (e,()),()))
theorem w4c {fs:List (Nat × qb9)} (hfs:SpecsOk Tryz.prog fs):qd4 Tryz.prog 123 (x5l fs):=by
 refine qw8 hfs (snd (SpecsOk.cons (wo9 (fs:=fsI fs) (SpecsOk.cons (wx2 hfs) (SpecsOk.nil _))) (SpecsOk.nil _))) Tryz.func123 rfl rfl (λ_ _=>none) (λ_=>by kernel_rfl) (by decide) ?_
 rintro⟨l,⟨p,f⟩,⟨⟩⟩ h
 revert l p f
 intro(l:List Int) (p:qa6 [.int .i64]->Prop) (f:qa6 [.int .i64]->Bool) (h:l.length<=1000000/\∀i,i<l.length->p (nI l i,()))
 refine @qd7 _ (∃(v0:qa6 [Ty.int .i64]->Prop),∃(v1:qa6 [Ty.int .i64]->Bool),(∀(v2:Int × qa6._f [] PUnit.unit),v0 v2->∃(v4:qa6 [tInt]->Prop),∃(v5:qa6 [tInt]->Bool),([tInt]=[tInt]/\Ty.bool=Ty.bool/\p ≍ v4/\f ≍ v5)/\v4 (v2.1,())/\(!v5 (v2.1,()))=v1 v2)/\(l.length<=(1000000:Nat)/\∀(v2:Nat),v2<l.length->v0 (nI l v2,()))/\(!List.any l λ(v2:Int)=>v1 (v2,()))=List.all l λ(v2:Int)=>f (v2,())) (by kernel_rfl) ?_
 try simp only[z0,z1,z2,z3,z4,z5,z6,z7,z8,z9,z10,Int.reduceEq,z11,z12,z13,z14,z15,z16,z17,z18,z19,z20,z21,z22,z23,z24,z25,z26,z27,z28,z29,z30,Int.reduceLE,Int.reduceLT,z31,z32,z33,z34,qa1]
 try simp only[qb3,qb4,qc0,z31,z32,z2,z1]
 exact⟨p,λx=>!f x,λx hx=>⟨p,f,⟨HEq.rfl,HEq.rfl⟩,hx,(Bool.not_not (f x)).symm⟩,h,by simp[List.not_all_eq_any_not]⟩
theorem w4d {fs:List (Nat × qb9)} (hfs:SpecsOk Tryz.prog fs):qd4 Tryz.prog 91 (x5m fs):=by
 refine qw8 hfs (snd (SpecsOk.cons (w7p (fs:=fsL fs) (SpecsOk.cons (wx3 hfs) (SpecsOk.nil _))) (SpecsOk.nil _))) Tryz.func91 rfl rfl (λ_ _=>none) (λ_=>by kernel_rfl) (by decide) ?_
 rintro⟨l,⟨p,f⟩,⟨⟩⟩ h
 revert l p f
 intro(l:List (List Int)) (p:qa6 [.list (.int .i64)]->Prop) (f:qa6 [.list (.int .i64)]->Bool) (h:l.length<=1000000/\∀i,i<l.length->p (nL l i,()))
 refine @qd7 _ (∃(v0:qa6 [Ty.list (Ty.int .i64)]->Prop),∃(v1:qa6 [Ty.list (Ty.int .i64)]->Bool),(∀(v2:List Int × qa6._f [] PUnit.unit),v0 v2->∃(v4:qa6 [tInts]->Prop),∃(v5:qa6 [tInts]->Bool),([tInts]=[tInts]/\Ty.bool=Ty.bool/\p ≍ v4/\f ≍ v5)/\v4 (v2.1,())/\(!v5 (v2.1,()))=v1 v2)/\(l.length<=(1000000:Nat)/\∀(v2:Nat),v2<l.length->v0 (nL l v2,()))/\(!List.any l λ(v2:List Int)=>v1 (v2,()))=List.all l λ(v2:List Int)=>f (v2,())) (by kernel_rfl) ?_
 try simp only[z0,z1,z2,z3,z4,z5,z6,z7,z8,z9,z10,Int.reduceEq,z11,z12,z13,z14,z15,z16,z17,z18,z19,z20,z21,z22,z23,z24,z25,z26,z27,z28,z29,z30,Int.reduceLE,Int.reduceLT,z31,z32,z33,z34,qa1]
 try simp only[qb3,qb4,qc0,z31,z32,z2,z1]
 exact⟨p,λx=>!f x,λx hx=>⟨p,f,⟨HEq.rfl,HEq.rfl⟩,hx,(Bool.not_not (f x)).symm⟩,h,by simp[List.not_all_eq_any_not]⟩
abbrev x1q:qb9:=qf6 true none [tInt] [.bool] (λ_=>True) (λx=>(inB x.1 (-1) 1,()))
theorem w4e:qd4 Tryz.prog 124 x1q:=by
 refine meets (snd (SpecsOk.cons qz5 (SpecsOk.nil _))) Tryz.func124 rfl rfl (λ_ _=>none) (λ_=>by kernel_rfl) (by decide) ?_
 rintro⟨n,⟨⟩⟩ -
 revert n
 intro(n:Int)
 refine @qd7 _ (True/\inB n (-1:Int) (1:Int)=inB n (-1:Int) (1:Int)) (by kernel_rfl) ?_
 try simp only[z0,z1,z2,z3,z4,z5,z6,z7,z8,z9,z10,Int.reduceEq,z11,z12,z13,z14,z15,z16,z17,z18,z19,z20,z21,z22,z23,z24,z25,z26,z27,z28,z29,z30,Int.reduceLE,Int.reduceLT,z31,z32,z33,z34,qa1]
 try simp only[qb3,qb4,qc0,z31,z32,z2,z1]
def rowB (l:List Int):Bool:=inB l.length 1 10 && l.all λn=>inB n (-1) 1
abbrev x9z:qb9:=qf6 true none [tInts] [.bool] (λ_=>True) (λx=>(rowB x.1,()))
theorem w7q:qd4 Tryz.prog 93 x9z:=by
 refine meets (snd (SpecsOk.cons qz5 (SpecsOk.cons (w4c (fs:=[(124,x1q)]) (SpecsOk.cons w4e (SpecsOk.nil _))) (SpecsOk.nil _)))) Tryz.func93 rfl rfl (λ_ _=>none) (λ_=>by kernel_rfl) (by decide) ?_
 rintro⟨l,⟨⟩⟩ -
 revert l
 intro(l:List Int)
 refine @qd7 _ (True/\(inB (↑l.length:Int) (1:Int) (10:Int)=true->∃(v1:qa6 [tInt]->Prop),∃(v2:qa6 [tInt]->Bool),(∀(v3:Int × qa6._f [] PUnit.unit),v1 v3->True/\inB v3.1 (-1:Int) (1:Int)=v2 v3)/\(l.length<=(1000000:Nat)/\∀(v3:Nat),v3<l.length->v1 (nI l v3,()))/\(List.all l λ(v3:Int)=>v2 (v3,()))=rowB l)/\(inB (↑l.length:Int) (1:Int) (10:Int)=false->false=rowB l)) (by kernel_rfl) ?_
 try simp only[z0,z1,z2,z3,z4,z5,z6,z7,z8,z9,z10,Int.reduceEq,z11,z12,z13,z14,z15,z16,z17,z18,z19,z20,z21,z22,z23,z24,z25,z26,z27,z28,z29,z30,Int.reduceLE,Int.reduceLT,z31,z32,z33,z34,qa1]
 try simp only[qb3,qb4,qc0,z31,z32,z2,z1]
 refine⟨λh=>⟨λ_=>True,λx=>inB x.1 (-1) 1,λ_ _=>rfl,⟨by rw[inB_iff] at h; omega,λ_ _=>trivial⟩,by simp[rowB,h]⟩,λh=>by simp[rowB,h]⟩
abbrev x70:qb9:=hspec [] true none [.d tInts,.cap tMask] [.bool] (λx=>0<x.2.1.length) (λx=>(decide (x.1.length=(nL x.2.1 0).length) && rowB x.1,()))
theorem w7r:qd4 Tryz.prog 92 x70:=by
 refine qw8 (SpecsOk.nil _) (snd (SpecsOk.cons w7q (SpecsOk.nil _))) Tryz.func92 rfl rfl (λ_ _=>none) (λ_=>by kernel_rfl) (by decide) ?_
 rintro⟨l,m,⟨⟩⟩ h
 revert l m
 intro(l:List Int) (m:List (List Int)) (h:0<m.length)
 refine @qd7 _ (((0:Int)<=(0:Int)/\(0:Int)<(↑m.length:Int))/\(((↑l.length:Int)==(↑(nL m (0:Nat)).length:Int))=true->True/\rowB l=(decide (l.length=(nL m (0:Nat)).length) && rowB l))/\(((↑l.length:Int)==(↑(nL m (0:Nat)).length:Int))=false->false=(decide (l.length=(nL m (0:Nat)).length) && rowB l))) (by kernel_rfl) ?_
 try simp only[z0,z1,z2,z3,z4,z5,z6,z7,z8,z9,z10,Int.reduceEq,z11,z12,z13,z14,z15,z16,z17,z18,z19,z20,z21,z22,z23,z24,z25,z26,z27,z28,z29,z30,Int.reduceLE,Int.reduceLT,z31,z32,z33,z34,qa1]
 try simp only[qb3,qb4,qc0,z31,z32,z2,z1]
 refine⟨by omega,λh1=>?_,λh1=>?_⟩
 ·rw[decide_eq_true (Int.ofNat.inj h1)]; simp
 ·rw[decide_eq_false λe=>h1 (congrArg _ e)]; simp
def validB (m:List (List Int)):Bool:=inB m.length 1 6 && m.all λl=>decide (l.length=(nL m 0).length) && rowB l
abbrev sMV:qb9:=qf6 true none [tMask] [.bool] (λ_=>True) (λx=>(validB x.1,()))
theorem q5q:qd4 Tryz.prog 49 sMV:=by
 refine meets (snd (SpecsOk.cons qz5 (SpecsOk.cons (w4d (fs:=[(92,x70)]) (SpecsOk.cons w7r (SpecsOk.nil _))) (SpecsOk.nil _)))) Tryz.func49 rfl rfl (λ_ _=>none) (λ_=>by kernel_rfl) (by decide) ?_
 rintro⟨m,⟨⟩⟩ -
 revert m
 intro(m:List (List Int))
 refine @qd7 _ (True/\(inB (↑m.length:Int) (1:Int) (6:Int)=true->∃(v1:qa6 [tInts]->Prop),∃(v2:qa6 [tInts]->Bool),(∀(v3:List Int × qa6._f [] PUnit.unit),v1 v3->(0:Nat)<m.length/\(decide (v3.1.length=(nL m (0:Nat)).length) && rowB v3.1)=v2 v3)/\(m.length<=(1000000:Nat)/\∀(v3:Nat),v3<m.length->v1 (nL m v3,()))/\(List.all m λ(v3:List Int)=>v2 (v3,()))=validB m)/\(inB (↑m.length:Int) (1:Int) (6:Int)=false->false=validB m)) (by kernel_rfl) ?_
 try simp only[z0,z1,z2,z3,z4,z5,z6,z7,z8,z9,z10,Int.reduceEq,z11,z12,z13,z14,z15,z16,z17,z18,z19,z20,z21,z22,z23,z24,z25,z26,z27,z28,z29,z30,Int.reduceLE,Int.reduceLT,z31,z32,z33,z34,qa1]
 try simp only[qb3,qb4,qc0,z31,z32,z2,z1]
 refine⟨λh=>?_,λh=>by simp[validB,h]⟩
 have hm:=inB_iff.1 h
 exact⟨λ_=>True,λx=>decide (x.1.length=(nL m 0).length) && rowB x.1,λx _=>⟨by omega,rfl⟩,⟨by omega,λ_ _=>trivial⟩,by simp[validB,h]⟩
end Go.Proofs.YtempacilejhbgaaGreat
