/- The greatest shares are the greatest; a further row makes none greater. Plain mathematics. No condition. -/
import Derived.Test.YtempacilejhbgaaQ9
import Derived.Test.YtempacilejhbgaaR3
set_option linter.unusedVariables false
set_option linter.unusedSimpArgs false
namespace Go.Proofs.Ytempacilejhbgaa
open Go Go.RowKit Eng
structure w5k (m:List (List Int)):Prop where
 len:m.length<=1000
 row:∀i,i<m.length->0<(nL m i).length/\(nL m i).length<=1000
abbrev x01:qc7:=wa9 (q3j [ql8]) true (some 24) (some 3) (λx=>w5k x.1) (λx=>.dat (.list (.int .i64)) x.1)
def xs9 (m:List (List Int)):Nat->Option Inv
 | 0=>some (Inv.of [3,8] 1 (λk:Nat=>[(3,.msl 0 .none),(8,.lit (.int .i64 k))]) (λk=>[.mat 24 3 (.int .i64) (m.take k) .none .none]) (λk=>k<=m.length) (λk=>m.length-k))
 | _=>none
theorem w5l:qe6 Try.prog 23 x01:=by
 refine wb1 (xy7 [16] (SpecsOk.nil _)) Try.func23 rfl rfl (qr6 _) (λx=>xs9 x.1) (λ_=>by kernel_rfl) (by decide) ?_
 rintro⟨m,⟨⟩⟩ h
 revert m
 intro(m:List (List Int)) (h:w5k m)
 refine @qe9 _ (let Q0:=List.length m; ∃(v0:Unit),∃(v1:Nat),Nat.le v1 Q0/\((True/\(0:Int)=(↑v1:Int)/\True)/\List.take v1 m=[]/\True)/\∀(v2:Nat),Nat.le v2 Q0->(decide ((↑v2:Int)<(↑Q0:Int))=true->((0:Int)<=(↑v2:Int)/\(↑v2:Int)<(↑Q0:Int))/\((0:Nat)<List.length (qa3 (Ty.list (Ty.int .i64)) m (Int.toNat (↑v2:Int)))/\Nat.le ((0:Nat)+List.length (qa3 (Ty.list (Ty.int .i64)) m (Int.toNat (↑v2:Int)))) (1000000:Nat))/\((0:Nat)<List.length [[]++qa3 (Ty.list (Ty.int .i64)) m (Int.toNat (↑v2:Int))]/\List.length (List.take v2 m)+List.length [[]++qa3 (Ty.list (Ty.int .i64)) m (Int.toNat (↑v2:Int))]<=(1000000:Nat))/\fits .i64 ((↑v2:Int)+(1:Int))/\∃(v5:Nat),Nat.le v5 Q0/\List.length m-v5<List.length m-v2/\(True/\(↑v2:Int)+(1:Int)=(↑v5:Int)/\True)/\(List.take v2 m++[[]++qa3 (Ty.list (Ty.int .i64)) m (Int.toNat (↑v2:Int))]=List.take v5 m/\True/\True)/\True)/\(decide ((↑v2:Int)<(↑Q0:Int))=false->List.take v2 m=m)) (by kernel_rfl) ?_
 try simp only[z0,z1,z2,z3,z4,z5,z6,z7,z8,z9,z10,Int.reduceEq,z11,z12,z13,z14,z15,z16,z17,z18,z19,z20,z21,z22,z23,z24,z25,z26,z27,z28,z29,z30,Int.reduceLE,Int.reduceLT,z31,z32,z33,z34,qa6]
 try simp only[qb5,qb6,qd0,List.set_cons_zero,List.cons.injEq,and_true,true_and]
 have hl:=h.len
 refine⟨(),0,Nat.zero_le _,⟨rfl,rfl⟩,λk hk=>⟨λhlt=>?_,λhge=>List.take_of_length_le (by omega)⟩⟩
 have hr:=h.row k hlt
 exact⟨hlt,⟨hr.1,by omega⟩,by rw[List.length_take]; omega,qb9 (by omega) (by omega),k+1,hlt,by omega,by push_cast; rfl,(takeL_snoc m k hlt).symm⟩
theorem xl9 {m:List (List Int)} (hM:Mk m):w5k m:=by
 have m6:=hM.rows6
 have m1:=hM.pix1
 have m10:=hM.pix10
 exact⟨by omega,λi hi=>by have:=hM.each i hi; omega⟩
def q9f (a b:List (List Int)):Int:=if qb8 a=false then 1 else if qb8 b=false then 1 else if ¬(nL a 0).length=(nL b 0).length then 9 else if 6<a.length+b.length then 4 else 0
def q6o (a b:List (List Int)):List (List Int):=if q9f a b=0 then a++b else[]
abbrev x02:qc7:=qh6 true none [ql8,ql8] [ql8,qe3] (λx=>wz6 x.1/\wz6 x.2.1) (λx=>(q6o x.1 x.2.1,q9f x.1 x.2.1,()))
theorem w5m:qe6 Try.prog 11 x02:=by
 refine meets (snd (SpecsOk.cons w69 (SpecsOk.cons w5l (SpecsOk.nil _)))) Try.func11 rfl rfl (λ_ _=>none) (λ_=>by kernel_rfl) (by decide) ?_
 rintro⟨a,b,⟨⟩⟩ h
 revert a b
 intro(a:List (List Int)) (b:List (List Int)) (h:wz6 a/\wz6 b)
 refine @qe9 _ (let Q0:=List.length b; let Q1:=List.length a; wz6 a/\((!qb8 a)=true->q6o a b=[]/\(1:Int)=q9f a b/\True)/\((!qb8 a)=false->wz6 b/\((!qb8 b)=true->q6o a b=[]/\(1:Int)=q9f a b/\True)/\((!qb8 b)=false->((0:Int)<=(0:Int)/\(0:Int)<(↑Q1:Int))/\((0:Int)<=(0:Int)/\(0:Int)<(↑Q0:Int))/\(((↑(List.length (qa3 (Ty.list (Ty.int .i64)) a (0:Nat))):Int) != (↑(List.length (qa3 (Ty.list (Ty.int .i64)) b (0:Nat))):Int))=true->q6o a b=[]/\(9:Int)=q9f a b/\True)/\(((↑(List.length (qa3 (Ty.list (Ty.int .i64)) a (0:Nat))):Int) != (↑(List.length (qa3 (Ty.list (Ty.int .i64)) b (0:Nat))):Int))=false->fits .i64 ((↑Q1:Int)+(↑Q0:Int))/\(decide ((6:Int)<(↑Q1:Int)+(↑Q0:Int))=true->q6o a b=[]/\(4:Int)=q9f a b/\True)/\(decide ((6:Int)<(↑Q1:Int)+(↑Q0:Int))=false->w5k a/\w5k b/\((0:Nat)<List.length b/\List.length a+List.length b<=(1000000:Nat))/\q2e (Ty.int .i64) (a++b) none=q6o a b/\(0:Int)=q9f a b/\True))))) (by kernel_rfl) ?_
 try simp only[z0,z1,z2,z3,z4,z5,z6,z7,z8,z9,z10,Int.reduceEq,z11,z12,z13,z14,z15,z16,z17,z18,z19,z20,z21,z22,z23,z24,z25,z26,z27,z28,z29,z30,Int.reduceLE,Int.reduceLT,z31,z32,z33,z34,qa6]
 try simp only[qb5,qb6,qd0,List.set_cons_zero,List.cons.injEq,and_true,true_and]
 have bad:∀e:Int,e≠0->q9f a b=e->q6o a b=[]/\e=q9f a b:=λe he hs=>⟨by unfold q6o; rw[if_neg (by rw[hs]; exact he)],hs.symm⟩
 refine⟨h.1,λhv=>bad 1 (by decide) (if_pos hv),λhv=>⟨h.2,λhw=>bad 1 (by decide) ?_,λhw=>?_⟩⟩
 ·unfold q9f; rw[if_neg (by rw[hv]; decide),if_pos hw]
 have ha:=Mk.of hv
 have hb:=Mk.of hw
 have a1:=ha.rows1
 have b1:=hb.rows1
 have a6:=ha.rows6
 have b6:=hb.rows6
 have e0:q9f a b=if ¬(nL a 0).length=(nL b 0).length then 9 else if 6<a.length+b.length then 4 else 0:=by
  unfold q9f; rw[if_neg (by rw[hv]; decide),if_neg (by rw[hw]; decide)]
 refine⟨by omega,by omega,λhn=>bad 9 (by decide) (by rw[e0,if_pos (by omega)]),λhn=>⟨qb9 (by omega) (by omega),λh6=>bad 4 (by decide) (by rw[e0,if_neg (by omega),if_pos (by omega)]),λh6=>⟨xl9 ha,xl9 hb,⟨by omega,by omega⟩,?_⟩⟩⟩
 have e1:q9f a b=0:=by rw[e0,if_neg (by omega),if_neg (by omega)]
 unfold q6o
 rw[if_pos e1]
 exact⟨rfl,e1.symm⟩
def xd9 (a b:Int × Int):Bool:=decide (a.1*b.2<b.1*a.2)
abbrev xt0:qc7:=qh6 true none [q0h,q0h] [.bool] (λx=>qt7 x.1/\qt7 x.2.1) (λx=>(xd9 x.1 x.2.1,()))
theorem w0z:qe6 Try.prog 13 xt0:=by
 refine meets (snd (SpecsOk.nil _)) Try.func13 rfl rfl (λ_ _=>none) (λ_=>by kernel_rfl) (by decide) ?_
 rintro⟨⟨a,b⟩,⟨c,d⟩,⟨⟩⟩ h
 revert a b c d
 intro(a:Int) (b:Int) (c:Int) (d:Int) (h:qt7 (a,b)/\qt7 (c,d))
 refine @qe9 _ (fits .i64 (a*d)/\fits .i64 (c*b)/\decide (a*d<c*b)=xd9 (a,b) (c,d)) (by kernel_rfl) ?_
 try simp only[z0,z1,z2,z3,z4,z5,z6,z7,z8,z9,z10,Int.reduceEq,z11,z12,z13,z14,z15,z16,z17,z18,z19,z20,z21,z22,z23,z24,z25,z26,z27,z28,z29,z30,Int.reduceLE,Int.reduceLT,z31,z32,z33,z34,qa6]
 try simp only[qb5,qb6,qd0,List.set_cons_zero,List.cons.injEq,and_true,true_and]
 have h1:0<=a*d/\a*d<=4000000000000000000:=wk1 h.1.n h.2.d
 have h2:0<=c*b/\c*b<=4000000000000000000:=wk1 h.2.n h.1.d
 exact⟨qb9 (by omega) (by omega),qb9 (by omega) (by omega),rfl⟩
theorem q4c {m:List (List Int)} (hv:qb8 m=true):(qk7 m).1.length<=1000000:=by
 have hM:=Mk.of hv
 have h10:=hM.pix10
 have e1:qk7 m=(q06 m (nL m 0).length (q2f m),0):=by simp[qk7,hv]
 have hc:q2f m<=(nL m 0).length:=by unfold q2f; omega
 have:=q8x m (nL m 0).length h10 (q2f m) (by omega)
 rw[e1]
 show(q06 m (nL m 0).length (q2f m)).length<=_
 omega
theorem q2b {m:List (List Int)} (hv:qb8 m=true) (h7:(nL m 0).length<=7) {i:Nat} (hi:i<(qk7 m).1.length):∃s,w48 m s (nL (qk7 m).1 i):=xl6 hv h7 (qr9 _ _ hi)
theorem w00 {m:List (List Int)} (hv:qb8 m=true) {s h p:List Int} (hc:w48 m s h) (hp:Named (nL m 0).length p):w33 h p:=by
 have h10:=(Mk.of hv).pix10
 have hl:=hp.len
 exact⟨wt9 hv hc,by omega,λj hj=>by rw[hc.len]; exact hp.at_ j hj,by have:=xd6 hc; omega⟩
theorem wu8 {m:List (List Int)} {s h:List Int} (hc:w48 m s h) (k:Nat):Named (nL m 0).length (q0i h k):=by
 have:=w0y (h:=h) (k:=k)
 rwa [hc.len] at this
theorem xe0 {m:List (List Int)} (h7:qb8 m=true->(nL m 0).length<=7):w0q m:=by
 refine⟨λhv=>xl4 hv,λhv k hk=>⟨q4c hv,λi hi=>?_,λi hi=>?_⟩⟩
 ·obtain⟨s,hc⟩:=q2b hv (h7 hv) hi
  have hM:=Mk.of hv
  have m1:=hM.pix1
  have m10:=hM.pix10
  exact⟨wt9 hv hc,by rw[hc.len]; omega,by rw[hc.len]; omega,Int.natCast_nonneg _,by rw[hc.len]; omega⟩
 ·obtain⟨s,hc⟩:=q2b hv (h7 hv) hi
  rw[Int.toNat_natCast]
  exact w00 hv hc (wu8 hc k)
def leQ (a b:Int × Int):Prop:=a.1*b.2<=b.1*a.2
theorem wu9 (a:Int × Int):leQ a a:=Int.le_refl _
theorem q2c {a b c:Int × Int} (ha:1<=a.2) (hb:1<=b.2) (hc:1<=c.2) (h1:leQ a b) (h2:leQ b c):leQ a c:=by
 unfold leQ at *
 have k1:a.1*b.2*c.2<=b.1*a.2*c.2:=Int.mul_le_mul_of_nonneg_right h1 (by omega)
 have k2:b.1*c.2*a.2<=c.1*b.2*a.2:=Int.mul_le_mul_of_nonneg_right h2 (by omega)
 refine Int.le_of_mul_le_mul_left (a:=b.2) ?_ (by omega)
 have e1:b.2*(a.1*c.2)=a.1*b.2*c.2:=by grind
 have e2:b.2*(c.1*a.2)=c.1*b.2*a.2:=by grind
 have e3:b.1*a.2*c.2=b.1*c.2*a.2:=by grind
 omega
theorem wv0 {a:Int × Int} (h:qt7 a):leQ (0,1) a:=by
 have:=h.n.1
 unfold leQ
 show 0*a.2<=a.1*1
 omega
theorem wv3 {a b:Int × Int}:0<q9k a b↔b.1*a.2<a.1*b.2:=by
 unfold q9k
 split
 ·rename_i h; constructor <;> intro q <;> omega
 ·split
  ·constructor <;> intro q <;> omega
  ·constructor <;> intro q <;> omega
theorem top_le {a b:Int × Int}:leQ a (q6l a b)/\leQ b (q6l a b):=by
 unfold q6l
 split
 ·rename_i h
  exact⟨Int.le_of_lt (wv3.1 h),wu9 b⟩
 ·rename_i h
  refine⟨wu9 a,Int.not_lt.1 λq=>h (wv3.2 q)⟩
theorem xm0 {h1 h2 p1 p2:List Int} (k1:w33 h1 p1) (k2:w33 h2 p2) (h:inL h1 p1*szL h2<=inL h2 p2*szL h1):leQ (shR h1 p1) (shR h2 p2):=by
 have l1:=w34 k1
 have l2:=w34 k2
 have s1:=q80 k1.ok k1.ne
 have s2:=q80 k2.ok k2.ne
 unfold leQ
 have q1:=l1.eq
 have q2:=l2.eq
 have b1:=l1.pos
 have b2:=l2.pos
 generalize shR h1 p1=a at *
 generalize shR h2 p2=b at *
 generalize inL h1 p1=x at *
 generalize inL h2 p2=y at *
 generalize szL h1=u at *
 generalize szL h2=v at *
 have hb:x*v*(a.2*b.2)<=y*u*(a.2*b.2):=Int.mul_le_mul_of_nonneg_right h (by have:=Int.mul_pos (a:=a.2) (b:=b.2) (by omega) (by omega); omega)
 refine Int.le_of_mul_le_mul_left (a:=u*v) ?_ (Int.mul_pos s1 s2)
 have e1:u*v*(a.1*b.2)=x*v*(a.2*b.2):=by
  have:u*v*(a.1*b.2)=a.1*u*(v*b.2):=by grind
  rw[this,q1]; grind
 have e2:u*v*(b.1*a.2)=y*u*(a.2*b.2):=by
  have:u*v*(b.1*a.2)=b.1*v*(u*a.2):=by grind
  rw[this,q2]; grind
 omega
theorem q9g {l:List (List Int)} {p:List Int} (h:w8v l p):∀k,k<=l.length->(∀i,i<k->leQ (shR (nL l i) p) (q08 l p k))/\(q08 l p k=(0,1)\/∃i,i<k/\q08 l p k=shR (nL l i) p)
 | 0,_=>⟨λi hi=>by omega,.inl rfl⟩
 | k+1,hk=>by
  obtain⟨h1,h2⟩:=q9g h k (by omega)
  have t:=top_le (a:=q08 l p k) (b:=shR (nL l k) p)
  refine⟨λi hi=>?_,?_⟩
  ·rcases Nat.lt_succ_iff_lt_or_eq.1 hi with e | e
   ·exact q2c (q0l (h.ok i (by omega))).pos (qs0 h k (by omega)).pos (qs0 h (k+1) hk).pos (h1 i e) t.1
   ·subst e; exact t.2
  ·show q6l (q08 l p k) (shR (nL l k) p)=(0,1)\/∃i,i<k+1/\q6l (q08 l p k) (shR (nL l k) p)=shR (nL l i) p
   unfold q6l
   split
   ·exact .inr ⟨k,by omega,rfl⟩
   ·rcases h2 with h2 | ⟨i,hi,h2⟩
    ·exact .inl h2
    ·exact .inr ⟨i,by omega,h2⟩
theorem q6c {l:List (List Int)} {n:Nat} (h:q6m l n):∀k,k<=l.length->(∀i,i<k->leQ (shR (nL l i) (q0i (nL l i) n)) (qi3 l n k))/\(qi3 l n k=(0,1)\/∃i,i<k/\qi3 l n k=shR (nL l i) (q0i (nL l i) n))
 | 0,_=>⟨λi hi=>by omega,.inl rfl⟩
 | k+1,hk=>by
  obtain⟨h1,h2⟩:=q6c h k (by omega)
  have t:=top_le (a:=qi3 l n k) (b:=shR (nL l k) (q0i (nL l k) n))
  have hs:=λi hi=>h.shr i hi
  have hl:=λj (hj:j<=l.length)=>qo5 h j hj
  simp only[Int.toNat_natCast] at hs hl
  refine⟨λi hi=>?_,?_⟩
  ·rcases Nat.lt_succ_iff_lt_or_eq.1 hi with e | e
   ·exact q2c (q0l (hs i (by omega))).pos (hl k (by omega)).pos (hl (k+1) hk).pos (h1 i e) t.1
   ·subst e; exact t.2
  ·show q6l (qi3 l n k) (shR (nL l k) (q0i (nL l k) n))=(0,1)\/∃i,i<k+1/\q6l (qi3 l n k) (shR (nL l k) (q0i (nL l k) n))=shR (nL l i) (q0i (nL l i) n)
   unfold q6l
   split
   ·exact .inr ⟨k,by omega,rfl⟩
   ·rcases h2 with h2 | ⟨i,hi,h2⟩
    ·exact .inl h2
    ·exact .inr ⟨i,by omega,h2⟩
theorem xm1 {h:List Int} {n:Nat} (hl:h.length=n):sA n (nI h)=szL h:=by
 unfold szL sA
 rw[q9d,hl]
theorem xm2 (h p:List Int):sB p (nI h)=inL h p:=by
 have:∀k,qq8 h p k=sm k λj=>qf9 (nI h (nI p j).toNat):=λk=>by
  induction k with
  | zero=>rfl
  | succ k ih=>rw[qq8,ih]; rfl
 exact(this p.length).symm
theorem q6d {m:List (List Int)} (hv:qb8 m=true) (h7:(nL m 0).length<=7) {p h:List Int} (hp:Named (nL m 0).length p) (hl:h.length=(nL m 0).length) (hs:Sol m.length (nL m 0).length (rowOf m) (nI h)) (hne:szL h≠0):∃i,i<(qk7 m).1.length/\inL h p*szL (nL (qk7 m).1 i)<=inL (nL (qk7 m).1 i) p*szL h:=by
 have h0:∃c,c<(nL m 0).length/\nI h c≠0:=Classical.byContradiction λq=>hne (by
  unfold szL
  rw[q9d]
  refine sm_zero λi hi=>?_
  have:nI h i=0:=Classical.byContradiction λq2=>q ⟨i,by omega,q2⟩
  show qf9 (nI h i)=0
  rw[this]; rfl)
 obtain⟨c,hc,hle⟩:=wu7 hv h7 hp _ (nI h) (Nat.le_refl _) hs h0
 obtain⟨i,hi,rfl⟩:=List.mem_iff_getElem.1 hc
 obtain⟨s,hq⟩:=q2b hv h7 hi
 refine⟨i,hi,?_⟩
 rw[<- ql9 _ _ hi,xm1 hq.len,xm1 hl,xm2,xm2] at hle
 exact hle
structure Sub (a m:List (List Int)):Prop where
 va:qb8 a=true
 vm:qb8 m=true
 n7:(nL m 0).length<=7
 same:(nL a 0).length=(nL m 0).length
 sol:∀s h,w48 a s h->Sol m.length (nL m 0).length (rowOf m) (nI h)
theorem of_sub {a m:List (List Int)} (h:Sub a m) {p:List Int} (hp:Named (nL m 0).length p):leQ (q08 (qk7 a).1 p (qk7 a).1.length) (q08 (qk7 m).1 p (qk7 m).1.length):=by
 have a7:(nL a 0).length<=7:=by rw[h.same]; exact h.n7
 have oa:w8v (qk7 a).1 p:=⟨q4c h.va,λi hi=>by
  obtain⟨s,hc⟩:=q2b h.va a7 hi
  exact w00 h.va hc (by rw[h.same]; exact hp)⟩
 have om:w8v (qk7 m).1 p:=⟨q4c h.vm,λi hi=>by
  obtain⟨s,hc⟩:=q2b h.vm h.n7 hi
  exact w00 h.vm hc hp⟩
 have la:=qs0 oa _ (Nat.le_refl _)
 have lm:=qs0 om _ (Nat.le_refl _)
 rcases(q9g oa _ (Nat.le_refl _)).2 with e | ⟨i,hi,e⟩
 ·rw[e]; exact wv0 lm
 ·rw[e]
  obtain⟨s,hc⟩:=q2b h.va a7 hi
  have hso:=oa.ok i hi
  obtain⟨j,hj,hle⟩:=q6d h.vm h.n7 (p:=p) (h:=nL (qk7 a).1 i) hp (by rw[hc.len,h.same]) (h.sol s _ hc) hso.ne
  exact q2c (q0l hso).pos (q0l (om.ok j hj)).pos lm.pos (xm0 hso (om.ok j hj) hle) ((q9g om _ (Nat.le_refl _)).1 j hj)
theorem xe1 {a m:List (List Int)} (h:Sub a m) {k:Nat} (hk:k<=(nL m 0).length):leQ (qi3 (qk7 a).1 k (qk7 a).1.length) (qi3 (qk7 m).1 k (qk7 m).1.length):=by
 have a7:(nL a 0).length<=7:=by rw[h.same]; exact h.n7
 have oa:=(xe0 (m:=a) λ_=>a7).shs h.va k (by rw[h.same]; exact hk)
 have om:=(xe0 (m:=m) λ_=>h.n7).shs h.vm k hk
 have la:=qo5 oa _ (Nat.le_refl _)
 have lm:=qo5 om _ (Nat.le_refl _)
 rw[Int.toNat_natCast] at la lm
 rcases(q6c oa _ (Nat.le_refl _)).2 with e | ⟨i,hi,e⟩
 ·rw[e]; exact wv0 lm
 ·rw[e]
  obtain⟨s,hc⟩:=q2b h.va a7 hi
  have hp:Named (nL m 0).length (q0i (nL (qk7 a).1 i) k):=by have:=wu8 hc k; rwa [h.same] at this
  have hso:=w00 h.va hc (wu8 hc k)
  obtain⟨j,hj,hle⟩:=q6d h.vm h.n7 (h:=nL (qk7 a).1 i) hp (by rw[hc.len,h.same]) (h.sol s _ hc) hso.ne
  obtain⟨t,hd⟩:=q2b h.vm h.n7 hj
  have hlen:(q0i (nL (qk7 a).1 i) k).length=k:=wr9 (by rw[hc.len,h.same]; exact hk)
  have hmost:=w8b (h:=nL (qk7 m).1 j) (p:=q0i (nL (qk7 a).1 i) k) (by rw[hd.len]; exact hp)
  rw[hlen] at hmost
  have hsm:=w00 h.vm hd (wu8 hd k)
  refine q2c (q0l hso).pos (q0l hsm).pos lm.pos (xm0 hso hsm (Int.le_trans hle (Int.mul_le_mul_of_nonneg_right hmost ?_))) ((q6c om _ (Nat.le_refl _)).1 j hj)
  have:=q80 hso.ok hso.ne
  omega
theorem xe2 {x y:Int × Int} (hx:1<=x.2) (hy:1<=y.2) (h:leQ x y) (hf:hlf y=false):hlf x=false:=by
 unfold hlf at *
 rw[decide_eq_false_iff_not,Int.not_le] at *
 unfold leQ at h
 have h1:2*y.1*x.2<y.2*x.2:=Int.mul_lt_mul_of_pos_right hf (by omega)
 have h2:2*x.1*y.2<x.2*y.2:=by
  have e1:2*x.1*y.2=2*(x.1*y.2):=by grind
  have e2:2*y.1*x.2=2*(y.1*x.2):=by grind
  have e3:y.2*x.2=x.2*y.2:=Int.mul_comm _ _
  omega
 exact Int.lt_of_mul_lt_mul_right h2 (by omega)
theorem wv4 {l l':List (List Int)} {n:Nat} (h:∀k,k<=n->hlf (qi3 l k l.length)=false->hlf (qi3 l' k l'.length)=false):∀f k,k+f<=n->ordF l f k<=ordF l' f k
 | 0,k,_=>Nat.le_refl _
 | f+1,k,hk=>by
  have ge:∀(l:List (List Int)) (f k:Nat),k<=ordF l f k:=λl f=>by
   induction f with
   | zero=>exact λk=>Nat.le_refl _
   | succ f ih=>
    intro k
    rw[ordF]
    split
    ·have:=ih (k+1); omega
    ·exact Nat.le_refl _
  rw[ordF,ordF]
  split
  ·rename_i q
   rw[if_pos (h (k+1) (by omega) q)]
   exact wv4 h f (k+1) (by omega)
  ·split
   ·have:=ge l' f (k+1); omega
   ·exact Nat.le_refl _
theorem w5n {a m:List (List Int)} (h:Sub a m):ordL m<=ordL a:=by
 unfold ordL
 rw[h.same]
 refine wv4 (n:=(nL m 0).length) (λk hk hf=>?_) _ _ (by omega)
 have a7:(nL a 0).length<=7:=by rw[h.same]; exact h.n7
 have oa:=(xe0 (m:=a) λ_=>a7).shs h.va k (by rw[h.same]; exact hk)
 have om:=(xe0 (m:=m) λ_=>h.n7).shs h.vm k hk
 have la:=qo5 oa _ (Nat.le_refl _)
 have lm:=qo5 om _ (Nat.le_refl _)
 rw[Int.toNat_natCast] at la lm
 exact xe2 la.pos lm.pos (xe1 h hk) hf
theorem xe3 {m r:List (List Int)} (he:q9f m r=0) (h7:(nL m 0).length<=7):Sub (q6o m r) m/\q6o m r=m++r:=by
 have hM:q6o m r=m++r:=if_pos he
 unfold q9f at he
 split at he
 ·cases he
 rename_i v1
 split at he
 ·cases he
 rename_i v2
 split at he
 ·cases he
 rename_i hlen
 split at he
 ·cases he
 rename_i h6
 have v1:qb8 m=true:=by cases e:qb8 m with | true=>rfl | false=>exact absurd e v1
 have v2:qb8 r=true:=by cases e:qb8 r with | true=>rfl | false=>exact absurd e v2
 have hlen:(nL m 0).length=(nL r 0).length:=Classical.not_not.1 hlen
 have k1:=Mk.of v1
 have k2:=Mk.of v2
 have m1:=k1.rows1
 have hat:∀i,i<m.length->nL (m++r) i=nL m i:=λi hi=>by
  rw[ql9 _ i (by rw[List.length_append]; omega),ql9 m i hi,List.getElem_append_left hi]
 have hat2:∀i,nL (m++r) (m.length+i)=nL r i:=λi=>by
  rcases Nat.lt_or_ge i r.length with q | q
  ·rw[ql9 _ _ (by rw[List.length_append]; omega),ql9 r i q,List.getElem_append_right (by omega)]
   congr 1; omega
  ·show(m++r).getD (m.length+i) []=r.getD i []
   rw[List.getD_eq_getElem?_getD,List.getD_eq_getElem?_getD,List.getElem?_eq_none (by rw[List.length_append]; omega),List.getElem?_eq_none q]
 have h0:nL (m++r) 0=nL m 0:=hat 0 (by omega)
 have hva:qb8 (m++r)=true:=by
  unfold qb8 at v1 v2 ⊢
  rw[Bool.and_eq_true,qs6,List.all_eq_true] at v1 v2 ⊢
  refine⟨⟨by rw[List.length_append]; omega,by rw[List.length_append]; omega⟩,λx hx=>?_⟩
  rw[h0]
  rcases List.mem_append.1 hx with hx | hx
  ·exact v1.2 x hx
  ·have:=v2.2 x hx
   rwa [<- hlen] at this
 rw[hM]
 refine⟨⟨hva,v1,h7,by rw[h0],λs h hc a ha=>?_⟩,rfl⟩
 have:=hc.sol a (by rw[List.length_append]; omega)
 rw[h0] at this
 rw[<- this]
 refine qe2 λc _=>?_
 unfold rowOf
 rw[hat a ha]
end Go.Proofs.Ytempacilejhbgaa
