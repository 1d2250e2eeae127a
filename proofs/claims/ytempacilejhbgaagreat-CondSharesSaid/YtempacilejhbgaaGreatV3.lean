/- The library's searches over lists, with a function: contracts by the engine. No condition. -/
import Derived.Test.YtempacilejhbgaaGreatV1
set_option linter.unusedVariables false
set_option linter.unusedSimpArgs false
namespace Go.Proofs.YtempacilejhbgaaGreat
open Go Go.RowKit Eng
def xr0:Int:=2000000000000000000
def q1 (r b:List Int) (c:Nat):Int:=(nI b c).tdiv (gcdI (nI r c) (nI b c))
def q2 (r b:List Int) (c:Nat):Int:=(nI r c).tdiv (gcdI (nI r c) (nI b c))
def xh7 (r b:List Int) (c i:Nat):Int:=(nI r i)*q1 r b c-(nI b i)*q2 r b c
def q4c (r b:List Int) (c:Nat):List Int:=(List.range r.length).map (xh7 r b c)
def qv7 (r b:List Int) (c:Nat):List Int:=qd9 (q4c r b c)
structure wh1 (r b:List Int) (c:Nat):Prop where
 at_:c<r.length
 len:b.length=r.length
 max:r.length<=1000
 ne:(nI b c)≠(0:Int)
 bdr:qe8 BIG (nI r c)
 bdb:qe8 BIG (nI b c)
 one:∀i,i<r.length->qe8 xr0 ((nI r i)*q1 r b c)
 two:∀i,i<r.length->qe8 xr0 ((nI b i)*q2 r b c)
def xb6:qo7:=wf7 (q5u [qf2,qd6]) false false 0 3 (.int .i64) (λrows x=>0<=x.2.1/\wh1 (nL rows 0) x.1 x.2.1.toNat) (λ_ _=>.tup .nil) (λrows x=>[qv7 (nL rows 0) x.1 x.2.1.toNat])
def clK (r b:List Int) (c k:Nat):List Int:=ovr (.int .i64) (xh7 r b c) r k
def xh8 (T:q45) (r b:List Int) (c:Nat):Nat->Option Inv
 | 0=>some (Inv.of [0,23] 11 (λs:Nat × List Int=>[(0,.msl 0 (some 0)),(23,.lit (.int .i64 s.1))]) (λs=>[.mat 0 3 (.int .i64) [s.2] (some []) (some T),.dead,.dead,.dead,.dead,.dead,.dead,.dead,.dead,.dead,.dead]) (λs=>s.1<=r.length/\s.2=clK r b c s.1) (λs=>r.length-s.1))
 | _=>none
theorem q02 (r b:List Int) (c:Nat):(q4c r b c).length=r.length:=by simp[q4c]
theorem xh9 (r b:List Int) (c k:Nat):(clK r b c k).length=r.length:=qq7 (.int .i64) _ r k
theorem xr1 (r b:List Int) (c k:Nat) (hk:k<r.length):nI (clK r b c k) k=nI r k:=(q4b (.int .i64) _ r k k hk).trans (if_neg (Nat.lt_irrefl k))
theorem w8s (r b:List Int) (c k:Nat):(clK r b c k).set k (xh7 r b c k)=clK r b c (k+1):=qu1 (.int .i64) _ r k
theorem xi0 (r b:List Int) (c:Nat):clK r b c r.length=q4c r b c:=q1w (.int .i64) _ r _ (Nat.le_refl _)
theorem w1h {r b:List Int} {c:Nat} (h:wh1 r b c):q3l (q4c r b c):=by
 refine⟨by rw[q02]; exact h.max,λx hx=>?_⟩
 unfold q4c at hx
 obtain⟨i,hi,rfl⟩:=List.mem_map.1 hx
 have hi:=List.mem_range.1 hi
 have h1:=h.one i hi
 have h2:=h.two i hi
 unfold xh7
 unfold xr0 at h1 h2
 unfold BIG
 omega
theorem wo7:qt9 Tryz.prog 184 xb6:=by
 refine q5x (xq6 (SpecsOk.cons qr7 (SpecsOk.nil _)) (MutsOk.cons q1x MutsOk.nil)) Tryz.func184 rfl rfl (qx8 [qf2,qd6]) (λT rows x=>xh8 T (nL rows 0) x.1 x.2.1.toNat) (λ_ _ _=>by kernel_rfl) (by decide) ?_ rfl
 rintro T rows ⟨b,c,⟨⟩⟩ h hone
 revert b c
 intro(b:List Int) (c:Int) h
 obtain⟨r,rfl⟩:∃l:List Int,rows=[l]:=by
  have h1:=hone rfl
  match rows,h1 with
  | [l],_=>exact⟨l,rfl⟩
 have h:0<=c/\wh1 r b c.toNat:=h
 obtain⟨j,rfl⟩:∃j:Nat,c=j:=⟨c.toNat,by omega⟩
 refine @qe1 _ (let Q0:=qo7.t xb5; ((0:Int)<=(↑j:Int)/\(↑j:Int)<(↑(List.length (qa1 (Ty.list (Ty.int .i64)) [r] (0:Nat))):Int))/\Int.toNat (↑j:Int)<List.length (qa1 (Ty.list (Ty.int .i64)) [r] (0:Nat))/\((0:Int)<=(↑j:Int)/\(↑j:Int)<(↑(List.length b):Int))/\(((-4000000000000000000:Int)<=qa1 (Ty.int .i64) (qa1 (Ty.list (Ty.int .i64)) [r] (0:Nat)) (Int.toNat (↑j:Int))/\qa1 (Ty.int .i64) (qa1 (Ty.list (Ty.int .i64)) [r] (0:Nat)) (Int.toNat (↑j:Int))<=BIG)/\(-4000000000000000000:Int)<=qa1 (Ty.int .i64) b (Int.toNat (↑j:Int))/\qa1 (Ty.int .i64) b (Int.toNat (↑j:Int))<=BIG)/\∃(v0:Unit),∃(v1:Nat × List Int),(Prod.fst v1<=List.length (nL [r] (0:Nat))/\Prod.snd v1=clK (nL [r] (0:Nat)) b (Int.toNat (↑j:Int)) (Prod.fst v1))/\((some (0:Nat)=some (0:Nat)/\(0:Int)=(↑(Prod.fst v1):Int)/\True)/\([r]=[Prod.snd v1]/\True/\T=T)/\True/\True/\True/\True/\True/\True/\True/\True/\True/\True/\True)/\∀(v2:Nat × List Int),Prod.fst v2<=List.length (nL [r] (0:Nat))/\Prod.snd v2=clK (nL [r] (0:Nat)) b (Int.toNat (↑j:Int)) (Prod.fst v2)->(decide ((↑(Prod.fst v2):Int)<(↑(List.length (qa1 (Ty.list (Ty.int .i64)) [r] (0:Nat))):Int))=true->((0:Int)<=(↑(Prod.fst v2):Int)/\(↑(Prod.fst v2):Int)<(↑(List.length (qa1 (Ty.list (Ty.int .i64)) [Prod.snd v2] (0:Nat))):Int))/\Int.toNat (↑(Prod.fst v2):Int)<List.length (qa1 (Ty.list (Ty.int .i64)) [Prod.snd v2] (0:Nat))/\gcdI (qa1 (Ty.int .i64) (qa1 (Ty.list (Ty.int .i64)) [r] (0:Nat)) (Int.toNat (↑j:Int))) (qa1 (Ty.int .i64) b (Int.toNat (↑j:Int)))≠(0:Int)/\fits .i64 (Int.tdiv (qa1 (Ty.int .i64) b (Int.toNat (↑j:Int))) (gcdI (qa1 (Ty.int .i64) (qa1 (Ty.list (Ty.int .i64)) [r] (0:Nat)) (Int.toNat (↑j:Int))) (qa1 (Ty.int .i64) b (Int.toNat (↑j:Int)))))/\fits .i64 (qa1 (Ty.int .i64) (qa1 (Ty.list (Ty.int .i64)) [Prod.snd v2] (0:Nat)) (Int.toNat (↑(Prod.fst v2):Int))*Int.tdiv (qa1 (Ty.int .i64) b (Int.toNat (↑j:Int))) (gcdI (qa1 (Ty.int .i64) (qa1 (Ty.list (Ty.int .i64)) [r] (0:Nat)) (Int.toNat (↑j:Int))) (qa1 (Ty.int .i64) b (Int.toNat (↑j:Int)))))/\((0:Int)<=(↑(Prod.fst v2):Int)/\(↑(Prod.fst v2):Int)<(↑(List.length b):Int))/\gcdI (qa1 (Ty.int .i64) (qa1 (Ty.list (Ty.int .i64)) [r] (0:Nat)) (Int.toNat (↑j:Int))) (qa1 (Ty.int .i64) b (Int.toNat (↑j:Int)))≠(0:Int)/\fits .i64 (Int.tdiv (qa1 (Ty.int .i64) (qa1 (Ty.list (Ty.int .i64)) [r] (0:Nat)) (Int.toNat (↑j:Int))) (gcdI (qa1 (Ty.int .i64) (qa1 (Ty.list (Ty.int .i64)) [r] (0:Nat)) (Int.toNat (↑j:Int))) (qa1 (Ty.int .i64) b (Int.toNat (↑j:Int)))))/\fits .i64 (qa1 (Ty.int .i64) b (Int.toNat (↑(Prod.fst v2):Int))*Int.tdiv (qa1 (Ty.int .i64) (qa1 (Ty.list (Ty.int .i64)) [r] (0:Nat)) (Int.toNat (↑j:Int))) (gcdI (qa1 (Ty.int .i64) (qa1 (Ty.list (Ty.int .i64)) [r] (0:Nat)) (Int.toNat (↑j:Int))) (qa1 (Ty.int .i64) b (Int.toNat (↑j:Int)))))/\fits .i64 (qa1 (Ty.int .i64) (qa1 (Ty.list (Ty.int .i64)) [Prod.snd v2] (0:Nat)) (Int.toNat (↑(Prod.fst v2):Int))*Int.tdiv (qa1 (Ty.int .i64) b (Int.toNat (↑j:Int))) (gcdI (qa1 (Ty.int .i64) (qa1 (Ty.list (Ty.int .i64)) [r] (0:Nat)) (Int.toNat (↑j:Int))) (qa1 (Ty.int .i64) b (Int.toNat (↑j:Int))))-qa1 (Ty.int .i64) b (Int.toNat (↑(Prod.fst v2):Int))*Int.tdiv (qa1 (Ty.int .i64) (qa1 (Ty.list (Ty.int .i64)) [r] (0:Nat)) (Int.toNat (↑j:Int))) (gcdI (qa1 (Ty.int .i64) (qa1 (Ty.list (Ty.int .i64)) [r] (0:Nat)) (Int.toNat (↑j:Int))) (qa1 (Ty.int .i64) b (Int.toNat (↑j:Int)))))/\((0:Int)<=(↑(Prod.fst v2):Int)/\(↑(Prod.fst v2):Int)<(↑(List.length (qa1 (Ty.list (Ty.int .i64)) [Prod.snd v2] (0:Nat))):Int))/\Int.toNat (↑(Prod.fst v2):Int)<List.length (qa1 (Ty.list (Ty.int .i64)) [Prod.snd v2] (0:Nat))/\fits .i64 ((↑(Prod.fst v2):Int)+(1:Int))/\∃(v5:Nat × List Int),(Prod.fst v5<=List.length (nL [r] (0:Nat))/\Prod.snd v5=clK (nL [r] (0:Nat)) b (Int.toNat (↑j:Int)) (Prod.fst v5))/\List.length (nL [r] (0:Nat))-Prod.fst v5<List.length (nL [r] (0:Nat))-Prod.fst v2/\(some (0:Nat)=some (0:Nat)/\(↑(Prod.fst v2):Int)+(1:Int)=(↑(Prod.fst v5):Int)/\True)/\(List.set [Prod.snd v2] (0:Nat) (List.set (qa1 (Ty.list (Ty.int .i64)) [Prod.snd v2] (0:Nat)) (Int.toNat (↑(Prod.fst v2):Int)) (qa1 (Ty.int .i64) (qa1 (Ty.list (Ty.int .i64)) [Prod.snd v2] (0:Nat)) (Int.toNat (↑(Prod.fst v2):Int))*Int.tdiv (qa1 (Ty.int .i64) b (Int.toNat (↑j:Int))) (gcdI (qa1 (Ty.int .i64) (qa1 (Ty.list (Ty.int .i64)) [r] (0:Nat)) (Int.toNat (↑j:Int))) (qa1 (Ty.int .i64) b (Int.toNat (↑j:Int))))-qa1 (Ty.int .i64) b (Int.toNat (↑(Prod.fst v2):Int))*Int.tdiv (qa1 (Ty.int .i64) (qa1 (Ty.list (Ty.int .i64)) [r] (0:Nat)) (Int.toNat (↑j:Int))) (gcdI (qa1 (Ty.int .i64) (qa1 (Ty.list (Ty.int .i64)) [r] (0:Nat)) (Int.toNat (↑j:Int))) (qa1 (Ty.int .i64) b (Int.toNat (↑j:Int))))))=[Prod.snd v5]/\True/\T=T)/\True/\True/\True/\True/\True/\True/\True/\True/\True/\True/\True)/\(decide ((↑(Prod.fst v2):Int)<(↑(List.length (qa1 (Ty.list (Ty.int .i64)) [r] (0:Nat))):Int))=false->q3l (qa1 (Ty.list (Ty.int .i64)) [qa1 (Ty.list Q0) [Prod.snd v2] (0:Nat)] (0:Nat))/\List.set [Prod.snd v2] (0:Nat) (qa1 (Ty.list Q0) [qd9 (qa1 (Ty.list (Ty.int .i64)) [qa1 (Ty.list Q0) [Prod.snd v2] (0:Nat)] (0:Nat))] (0:Nat))=[qv7 (nL [r] (0:Nat)) b (Int.toNat (↑j:Int))]/\T=T/\True/\True)) (by kernel_rfl) ?_
 try simp only[z0,z1,z2,z3,z4,z5,z6,z7,z8,z9,z10,Int.reduceEq,z11,z12,z13,z14,z15,z16,z17,z18,z19,z20,z21,z22,z23,z24,z25,z26,z27,z28,z29,z30,Int.reduceLE,Int.reduceLT,z31,z32,z33,z34,qa4]
 try simp only[qb3,qb4,qb9,List.set_cons_zero,List.cons.injEq,and_true,true_and]
 obtain⟨_,h⟩:=h
 rw[Int.toNat_natCast] at h
 have hB:BIG=4000000000000000000:=rfl
 have hB2:xr0=2000000000000000000:=rfl
 have hl:=h.len
 have hj:=h.at_
 have hmx:=h.max
 refine⟨hj,hj,by omega,⟨by rw[<- hB]; exact h.bdr,by rw[<- hB]; exact h.bdb⟩,(),(0,r),⟨Nat.zero_le _,(qy1 (.int .i64) _ r).symm⟩,⟨rfl,rfl⟩,?_⟩
 rintro⟨k,l⟩ ⟨h1,h2⟩
 dsimp only at h1 h2 ⊢
 subst h2
 have hkl:=xh9 r b j k
 refine⟨λhlt=>?_,λhge=>?_⟩
 ·have hg:=qp9 (a:=nI r j) (b:=nI b j) (.inr h.ne)
  have k1:=qk4 (g:=gcdI (nI r j) (nI b j)) h.bdr
  have k2:=qk4 (g:=gcdI (nI r j) (nI b j)) h.bdb
  have k3:=h.one k hlt
  have k4:=h.two k hlt
  rw[xr1 r b j k hlt]
  unfold q1 at k3
  unfold q2 at k4
  exact⟨by omega,by omega,by omega,qa7 (by omega) (by omega),qa7 (by omega) (by omega),by omega,by omega,qa7 (by omega) (by omega),qa7 (by omega) (by omega),qa7 (by omega) (by omega),by omega,by omega,qa7 (by omega) (by omega),(k+1,clK r b j (k+1)),⟨by dsimp only; omega,rfl⟩,by dsimp only; omega,by dsimp only; omega,w8s r b j k⟩
 ·obtain rfl:k=r.length:=by omega
  rw[xi0]
  exact⟨w1h h,rfl⟩
def ixT (t:Ty) (f:t.den->Bool) (l:List t.den):Int:=if l.any f then(l.findIdx f:Int) else -1
theorem ww9 (t:Ty) (f:t.den->Bool) (l:List t.den) (k:Nat) (hk:k<l.length) (h:∀i,i<k->f (qa1 t l i)=false) (hf:f (qa1 t l k)=true):ixT t f l=k:=by
 have hk':f l[k]=true:=by rw[<- qu7 l k hk]; exact hf
 unfold ixT
 rw[if_pos (List.any_eq_true.2 ⟨_,List.getElem_mem hk,hk'⟩)]
 have:l.findIdx f=k:=by
  rw[List.findIdx_eq hk]
  refine⟨hk',λj hj=>?_⟩
  have:=h j hj
  rw[qu7 l j (by omega)] at this
  exact this
 rw[this]
theorem q9o (t:Ty) (f:t.den->Bool) (l:List t.den) (h:∀i,i<l.length->f (qa1 t l i)=false):ixT t f l=-1:=by
 unfold ixT
 rw[if_neg]
 intro he
 obtain⟨x,hx,hf⟩:=List.any_eq_true.1 he
 obtain⟨i,hi,rfl⟩:=List.getElem_of_mem hx
 have:=h i hi
 rw[qu7 l i hi,hf] at this
 cases this
theorem q3m (t:Ty) (f:t.den->Bool) (l:List t.den):decide (0<=ixT t f l)=l.any f:=by
 unfold ixT
 split
 ·rename_i h; rw[h]; simp
 ·rename_i h; simp at h ⊢; exact h
theorem xb7 (t:Ty) (f:t.den->Bool) (l:List t.den):ixT t f l<l.length/\-1<=ixT t f l:=by
 unfold ixT
 split
 ·rename_i h
  have:l.findIdx f<l.length:=List.findIdx_lt_length.2 (List.any_eq_true.1 h)
  omega
 ·omega
def x0f (t:Ty) (l:List t.den) (f:t.den->Bool):Nat->Option Inv
 | 0=>some (Inv.of [8] 0 (λk:Nat=>[(8,.lit (.int .i64 k))]) (λ_=>[]) (λk=>k<=l.length/\∀i,i<k->f (qa1 t l i)=false) (λk=>l.length-k))
 | _=>none
abbrev x4a (fs:List (Nat × qc0)):qc0:=hspec fs true none [.d (.list (.list (.int .i64))),.fn [.list (.int .i64)] .bool] [qd6] (λx=>x.1.length<=1000000/\∀i,i<x.1.length->x.2.1.1 (qa1 (.list (.int .i64)) x.1 i,())) (λx=>(ixT (.list (.int .i64)) (λe=>x.2.1.2 (e,())) x.1,()))
theorem wh2 {fs:List (Nat × qc0)} (hfs:SpecsOk Tryz.prog fs):qd7 Tryz.prog 78 (x4a fs):=by
 refine qu0 hfs (snd (SpecsOk.nil _)) Tryz.func78 rfl rfl (λx=>x0f (.list (.int .i64)) x.1 (λe=>x.2.1.2 (e,()))) (λ_=>by kernel_rfl) (by decide) ?_
 rintro⟨l,⟨p,f⟩,⟨⟩⟩ h
 revert l p f
 intro(l:List (Ty.den (.list (.int .i64)))) (p:qa6 [.list (.int .i64)]->Prop) (f:qa6 [.list (.int .i64)]->Bool) (h:l.length<=1000000/\∀i,i<l.length->p (qa1 (.list (.int .i64)) l i,()))
 refine @qe1 _ (let Q0:=List.length l; ∃(v0:Unit),∃(v1:Nat),(v1<=List.length l/\∀(v2:Nat),Nat.le (Nat.succ v2) v1->f (qa1 (Ty.list (Ty.int .i64)) l v2,())=false)/\(((0:Int)=(↑v1:Int)/\True)/\True)/\∀(v2:Nat),(v2<=List.length l/\∀(v4:Nat),Nat.le (Nat.succ v4) v2->f (qa1 (Ty.list (Ty.int .i64)) l v4,())=false)->(decide ((↑v2:Int)<(↑Q0:Int))=true->((0:Int)<=(↑v2:Int)/\(↑v2:Int)<(↑Q0:Int))/\p (qa1 (Ty.list (Ty.int .i64)) l (Int.toNat (↑v2:Int)),())/\(f (qa1 (Ty.list (Ty.int .i64)) l (Int.toNat (↑v2:Int)),())=true->(↑v2:Int)=ixT (Ty.list (Ty.int .i64)) (λ(v6:List Int)=>f (v6,())) l)/\(f (qa1 (Ty.list (Ty.int .i64)) l (Int.toNat (↑v2:Int)),())=false->fits .i64 ((↑v2:Int)+(1:Int))/\∃(v6:Nat),(v6<=List.length l/\∀(v7:Nat),Nat.le (Nat.succ v7) v6->f (qa1 (Ty.list (Ty.int .i64)) l v7,())=false)/\List.length l-v6<List.length l-v2/\((↑v2:Int)+(1:Int)=(↑v6:Int)/\True)/\True))/\(decide ((↑v2:Int)<(↑Q0:Int))=false->(-1:Int)=ixT (Ty.list (Ty.int .i64)) (λ(v5:List Int)=>f (v5,())) l)) (by kernel_rfl) ?_
 try simp only[z0,z1,z2,z3,z4,z5,z6,z7,z8,z9,z10,Int.reduceEq,z11,z12,z13,z14,z15,z16,z17,z18,z19,z20,z21,z22,z23,z24,z25,z26,z27,z28,z29,z30,Int.reduceLE,Int.reduceLT,z31,z32,z33,z34,qa4]
 try simp only[qb3,qb4,qb9,List.set_cons_zero,List.cons.injEq,and_true,true_and]
 obtain⟨hl,hp⟩:=h
 refine⟨(),0,⟨Nat.zero_le _,λi hi=>absurd hi (by omega)⟩,rfl,λk ⟨hk,hall⟩=>?_⟩
 refine⟨λhlt=>⟨hlt,hp k hlt,λhf=>(ww9 (.list (.int .i64)) (λe=>f (e,())) l k hlt hall hf).symm,λhf=>⟨qa7 (by omega) (by omega),k+1,⟨by omega,λi hi=>?_⟩,by omega,by omega⟩⟩,λhge=>(q9o (.list (.int .i64)) (λe=>f (e,())) l λi hi=>hall i (by omega)).symm⟩
 by_cases e:i=k
 ·subst e; exact hf
 ·exact hall i (by omega)
abbrev x4b (fs:List (Nat × qc0)):qc0:=hspec fs true none [.d (.list (.int .i64)),.fn [.int .i64] .bool] [qd6] (λx=>x.1.length<=1000000/\∀i,i<x.1.length->x.2.1.1 (qa1 (.int .i64) x.1 i,())) (λx=>(ixT (.int .i64) (λe=>x.2.1.2 (e,())) x.1,()))
theorem wh3 {fs:List (Nat × qc0)} (hfs:SpecsOk Tryz.prog fs):qd7 Tryz.prog 98 (x4b fs):=by
 refine qu0 hfs (snd (SpecsOk.nil _)) Tryz.func98 rfl rfl (λx=>x0f (.int .i64) x.1 (λe=>x.2.1.2 (e,()))) (λ_=>by kernel_rfl) (by decide) ?_
 rintro⟨l,⟨p,f⟩,⟨⟩⟩ h
 revert l p f
 intro(l:List (Ty.den (.int .i64))) (p:qa6 [.int .i64]->Prop) (f:qa6 [.int .i64]->Bool) (h:l.length<=1000000/\∀i,i<l.length->p (qa1 (.int .i64) l i,()))
 refine @qe1 _ (let Q0:=List.length l; ∃(v0:Unit),∃(v1:Nat),(v1<=List.length l/\∀(v2:Nat),Nat.le (Nat.succ v2) v1->f (qa1 (Ty.int .i64) l v2,())=false)/\(((0:Int)=(↑v1:Int)/\True)/\True)/\∀(v2:Nat),(v2<=List.length l/\∀(v4:Nat),Nat.le (Nat.succ v4) v2->f (qa1 (Ty.int .i64) l v4,())=false)->(decide ((↑v2:Int)<(↑Q0:Int))=true->((0:Int)<=(↑v2:Int)/\(↑v2:Int)<(↑Q0:Int))/\p (qa1 (Ty.int .i64) l (Int.toNat (↑v2:Int)),())/\(f (qa1 (Ty.int .i64) l (Int.toNat (↑v2:Int)),())=true->(↑v2:Int)=ixT (Ty.int .i64) (λ(v6:Int)=>f (v6,())) l)/\(f (qa1 (Ty.int .i64) l (Int.toNat (↑v2:Int)),())=false->fits .i64 ((↑v2:Int)+(1:Int))/\∃(v6:Nat),(v6<=List.length l/\∀(v7:Nat),Nat.le (Nat.succ v7) v6->f (qa1 (Ty.int .i64) l v7,())=false)/\List.length l-v6<List.length l-v2/\((↑v2:Int)+(1:Int)=(↑v6:Int)/\True)/\True))/\(decide ((↑v2:Int)<(↑Q0:Int))=false->(-1:Int)=ixT (Ty.int .i64) (λ(v5:Int)=>f (v5,())) l)) (by kernel_rfl) ?_
 try simp only[z0,z1,z2,z3,z4,z5,z6,z7,z8,z9,z10,Int.reduceEq,z11,z12,z13,z14,z15,z16,z17,z18,z19,z20,z21,z22,z23,z24,z25,z26,z27,z28,z29,z30,Int.reduceLE,Int.reduceLT,z31,z32,z33,z34,qa4]
 try simp only[qb3,qb4,qb9,List.set_cons_zero,List.cons.injEq,and_true,true_and]
 obtain⟨hl,hp⟩:=h
 refine⟨(),0,⟨Nat.zero_le _,λi hi=>absurd hi (by omega)⟩,rfl,λk ⟨hk,hall⟩=>?_⟩
 refine⟨λhlt=>⟨hlt,hp k hlt,λhf=>(ww9 (.int .i64) (λe=>f (e,())) l k hlt hall hf).symm,λhf=>⟨qa7 (by omega) (by omega),k+1,⟨by omega,λi hi=>?_⟩,by omega,by omega⟩⟩,λhge=>(q9o (.int .i64) (λe=>f (e,())) l λi hi=>hall i (by omega)).symm⟩
 by_cases e:i=k
 ·subst e; exact hf
 ·exact hall i (by omega)
abbrev x4c (fs:List (Nat × qc0)):qc0:=hspec fs true none [.d (.list (.list (.int .i64))),.fn [.list (.int .i64)] .bool] [.bool] (λx=>x.1.length<=1000000/\∀i,i<x.1.length->x.2.1.1 (qa1 (.list (.int .i64)) x.1 i,())) (λx=>(x.1.any λe=>x.2.1.2 (e,()),()))
theorem w4w {fs:List (Nat × qc0)} (hfs:SpecsOk Tryz.prog fs):qd7 Tryz.prog 83 (x4c fs):=by
 refine qu0 hfs (snd (SpecsOk.cons (wh2 (fs:=fs) hfs) (SpecsOk.nil _))) Tryz.func83 rfl rfl (λx=>λ_=>none) (λ_=>by kernel_rfl) (by decide) ?_
 rintro⟨l,⟨p,f⟩,⟨⟩⟩ h
 revert l p f
 intro(l:List (Ty.den (.list (.int .i64)))) (p:qa6 [.list (.int .i64)]->Prop) (f:qa6 [.list (.int .i64)]->Bool) (h:l.length<=1000000/\∀i,i<l.length->p (qa1 (.list (.int .i64)) l i,()))
 refine @qe1 _ (∃(v0:qa6 [Ty.list (Ty.int .i64)]->Prop),∃(v1:qa6 [Ty.list (Ty.int .i64)]->Bool),([Ty.list (Ty.int .i64)]=[Ty.list (Ty.int .i64)]/\Ty.bool=Ty.bool/\p ≍ v0/\f ≍ v1)/\(List.length l<=(1000000:Nat)/\∀(v2:Nat),v2<List.length l->v0 (qa1 (Ty.list (Ty.int .i64)) l v2,()))/\decide ((0:Int)<=ixT (Ty.list (Ty.int .i64)) (λ(v2:List Int)=>v1 (v2,())) l)=List.any l λ(v2:List Int)=>f (v2,())) (by kernel_rfl) ?_
 try simp only[z0,z1,z2,z3,z4,z5,z6,z7,z8,z9,z10,Int.reduceEq,z11,z12,z13,z14,z15,z16,z17,z18,z19,z20,z21,z22,z23,z24,z25,z26,z27,z28,z29,z30,Int.reduceLE,Int.reduceLT,z31,z32,z33,z34,qa4]
 try simp only[qb3,qb4,qb9,List.set_cons_zero,List.cons.injEq,and_true,true_and]
 exact⟨p,f,⟨HEq.rfl,HEq.rfl⟩,h,q3m (.list (.int .i64)) (λe=>f (e,())) l⟩
abbrev x4d (fs:List (Nat × qc0)):qc0:=hspec fs true none [.d (.list (.int .i64)),.fn [.int .i64] .bool] [.bool] (λx=>x.1.length<=1000000/\∀i,i<x.1.length->x.2.1.1 (qa1 (.int .i64) x.1 i,())) (λx=>(x.1.any λe=>x.2.1.2 (e,()),()))
theorem q51 {fs:List (Nat × qc0)} (hfs:SpecsOk Tryz.prog fs):qd7 Tryz.prog 55 (x4d fs):=by
 refine qu0 hfs (snd (SpecsOk.cons (wh3 (fs:=fs) hfs) (SpecsOk.nil _))) Tryz.func55 rfl rfl (λx=>λ_=>none) (λ_=>by kernel_rfl) (by decide) ?_
 rintro⟨l,⟨p,f⟩,⟨⟩⟩ h
 revert l p f
 intro(l:List (Ty.den (.int .i64))) (p:qa6 [.int .i64]->Prop) (f:qa6 [.int .i64]->Bool) (h:l.length<=1000000/\∀i,i<l.length->p (qa1 (.int .i64) l i,()))
 refine @qe1 _ (∃(v0:qa6 [Ty.int .i64]->Prop),∃(v1:qa6 [Ty.int .i64]->Bool),([Ty.int .i64]=[Ty.int .i64]/\Ty.bool=Ty.bool/\p ≍ v0/\f ≍ v1)/\(List.length l<=(1000000:Nat)/\∀(v2:Nat),v2<List.length l->v0 (qa1 (Ty.int .i64) l v2,()))/\decide ((0:Int)<=ixT (Ty.int .i64) (λ(v2:Int)=>v1 (v2,())) l)=List.any l λ(v2:Int)=>f (v2,())) (by kernel_rfl) ?_
 try simp only[z0,z1,z2,z3,z4,z5,z6,z7,z8,z9,z10,Int.reduceEq,z11,z12,z13,z14,z15,z16,z17,z18,z19,z20,z21,z22,z23,z24,z25,z26,z27,z28,z29,z30,Int.reduceLE,Int.reduceLT,z31,z32,z33,z34,qa4]
 try simp only[qb3,qb4,qb9,List.set_cons_zero,List.cons.injEq,and_true,true_and]
 exact⟨p,f,⟨HEq.rfl,HEq.rfl⟩,h,q3m (.int .i64) (λe=>f (e,())) l⟩
end Go.Proofs.YtempacilejhbgaaGreat
