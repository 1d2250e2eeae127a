/- The greatest shares are the greatest; a further row makes none greater. Plain mathematics. No condition. -/
import Derived.Test.YtempacilejhbgaaQ9
import Derived.Test.YtempacilejhbgaaR3
set_option linter.unusedVariables false
set_option linter.unusedSimpArgs false
namespace Go.Proofs.Ytempacilejhbgaa
open Go Go.RowKit Eng
structure w8t (m:List (List Int)):Prop where
 len:m.length<=1000
 row:∀i,i<m.length->0<(nL m i).length/\(nL m i).length<=1000
abbrev x1y:qc7:=q8z (q2y [ql9]) true (some 24) (some 3) (λx=>w8t x.1) (λx=>.dat (.list (.int .i64)) x.1)
def xv7 (m:List (List Int)):Nat->Option Inv
 | 0=>some (Inv.of [3,8] 1 (λk:Nat=>[(3,.msl 0 .none),(8,.lit (.int .i64 k))]) (λk=>[.mat 24 3 (.int .i64) (m.take k) .none .none]) (λk=>k<=m.length) (λk=>m.length-k))
 | _=>none
theorem w5r:qe7 Try.prog 23 x1y:=by
 refine q7f (xx4 [16] (SpecsOk.nil _)) Try.func23 rfl rfl (qp8 _) (λx=>xv7 x.1) (λ_=>by kernel_rfl) (by decide) ?_
 rintro⟨m,⟨⟩⟩ h
 revert m
 intro(m:List (List Int)) (h:w8t m)
 refine @qf1 _ (let Q0:=List.length m; ∃(v0:Unit),∃(v1:Nat),Nat.le v1 Q0/\((True/\(0:Int)=(↑v1:Int)/\True)/\List.take v1 m=[]/\True)/\∀(v2:Nat),Nat.le v2 Q0->(decide ((↑v2:Int)<(↑Q0:Int))=true->((0:Int)<=(↑v2:Int)/\(↑v2:Int)<(↑Q0:Int))/\((0:Nat)<List.length (qa3 (Ty.list (Ty.int .i64)) m (Int.toNat (↑v2:Int)))/\Nat.le ((0:Nat)+List.length (qa3 (Ty.list (Ty.int .i64)) m (Int.toNat (↑v2:Int)))) (1000000:Nat))/\((0:Nat)<List.length [[]++qa3 (Ty.list (Ty.int .i64)) m (Int.toNat (↑v2:Int))]/\List.length (List.take v2 m)+List.length [[]++qa3 (Ty.list (Ty.int .i64)) m (Int.toNat (↑v2:Int))]<=(1000000:Nat))/\fits .i64 ((↑v2:Int)+(1:Int))/\∃(v5:Nat),Nat.le v5 Q0/\List.length m-v5<List.length m-v2/\(True/\(↑v2:Int)+(1:Int)=(↑v5:Int)/\True)/\(List.take v2 m++[[]++qa3 (Ty.list (Ty.int .i64)) m (Int.toNat (↑v2:Int))]=List.take v5 m/\True/\True)/\True)/\(decide ((↑v2:Int)<(↑Q0:Int))=false->List.take v2 m=m)) (by kernel_rfl) ?_
 try simp only[z0,z1,z2,z3,z4,z5,z6,z7,z8,z9,z10,Int.reduceEq,z11,z12,z13,z14,z15,z16,z17,z18,z19,z20,z21,z22,z23,z24,z25,z26,z27,z28,z29,z30,Int.reduceLE,Int.reduceLT,z31,z32,z33,z34,qa6]
 try simp only[qb6,qb7,qd0,List.set_cons_zero,List.cons.injEq,and_true,true_and]
 have hl:=h.len
 refine⟨(),0,Nat.zero_le _,⟨rfl,rfl⟩,λk hk=>⟨λhlt=>?_,λhge=>List.take_of_length_le (by omega)⟩⟩
 have hr:=h.row k hlt
 exact⟨hlt,⟨hr.1,by omega⟩,by rw[List.length_take]; omega,qb8 (by omega) (by omega),k+1,hlt,by omega,by push_cast; rfl,(takeL_snoc m k hlt).symm⟩
theorem xv8 {m:List (List Int)} (hM:Mk m):w8t m:=by
 have m6:=hM.rows6
 have m1:=hM.pix1
 have m10:=hM.pix10
 exact⟨by omega,λi hi=>by have:=hM.each i hi; omega⟩
theorem w8u {m:List (List Int)} (hv:qb9 m=true):(qp1 m).1.length<=1000000:=by
 have hM:=Mk.of hv
 have h10:=hM.pix10
 have e1:qp1 m=(q1f m (nL m 0).length (q2m m),0):=by simp[qp1,hv]
 have hc:q2m m<=(nL m 0).length:=by unfold q2m; omega
 have:=q9b m (nL m 0).length h10 (q2m m) (by omega)
 rw[e1]
 show(q1f m (nL m 0).length (q2m m)).length<=_
 omega
theorem wv9 {m:List (List Int)} (hv:qb9 m=true) (h7:(nL m 0).length<=7) {i:Nat} (hi:i<(qp1 m).1.length):∃s,w5g m s (nL (qp1 m).1 i):=xn8 hv h7 (qs7 _ _ hi)
theorem xg7 {m:List (List Int)} (hv:qb9 m=true) {s h p:List Int} (hc:w5g m s h) (hp:Named (nL m 0).length p):w6a h p:=by
 have h10:=(Mk.of hv).pix10
 have hl:=hp.len
 exact⟨wv3 hv hc,by omega,λj hj=>by rw[hc.len]; exact hp.at_ j hj,by have:=xg4 hc; omega⟩
theorem ww0 {m:List (List Int)} {s h:List Int} (hc:w5g m s h) (k:Nat):Named (nL m 0).length (q0u h k):=by
 have:=w1a (h:=h) (k:=k)
 rwa [hc.len] at this
theorem w9x {m:List (List Int)} (h7:qb9 m=true->(nL m 0).length<=7):q7t m:=by
 refine⟨λhv=>xv6 hv,λhv k hk=>⟨w8u hv,λi hi=>?_,λi hi=>?_⟩⟩
 ·obtain⟨s,hc⟩:=wv9 hv (h7 hv) hi
  have hM:=Mk.of hv
  have m1:=hM.pix1
  have m10:=hM.pix10
  exact⟨wv3 hv hc,by rw[hc.len]; omega,by rw[hc.len]; omega,Int.natCast_nonneg _,by rw[hc.len]; omega⟩
 ·obtain⟨s,hc⟩:=wv9 hv (h7 hv) hi
  rw[Int.toNat_natCast]
  exact xg7 hv hc (ww0 hc k)
def leQ (a b:Int × Int):Prop:=a.1*b.2<=b.1*a.2
theorem ww1 (a:Int × Int):leQ a a:=Int.le_refl _
theorem wi6 {a b c:Int × Int} (ha:1<=a.2) (hb:1<=b.2) (hc:1<=c.2) (h1:leQ a b) (h2:leQ b c):leQ a c:=by
 unfold leQ at *
 have k1:a.1*b.2*c.2<=b.1*a.2*c.2:=Int.mul_le_mul_of_nonneg_right h1 (by omega)
 have k2:b.1*c.2*a.2<=c.1*b.2*a.2:=Int.mul_le_mul_of_nonneg_right h2 (by omega)
 refine Int.le_of_mul_le_mul_left (a:=b.2) ?_ (by omega)
 have e1:b.2*(a.1*c.2)=a.1*b.2*c.2:=by grind
 have e2:b.2*(c.1*a.2)=c.1*b.2*a.2:=by grind
 have e3:b.1*a.2*c.2=b.1*c.2*a.2:=by grind
 omega
theorem w8v {a:Int × Int} (h:q0t a):leQ (0,1) a:=by
 have:=h.n.1
 unfold leQ
 show 0*a.2<=a.1*1
 omega
theorem ww2 {a b:Int × Int}:0<q9w a b↔b.1*a.2<a.1*b.2:=by
 unfold q9w
 split
 ·rename_i h; constructor <;> intro q <;> omega
 ·split
  ·constructor <;> intro q <;> omega
  ·constructor <;> intro q <;> omega
theorem top_le {a b:Int × Int}:leQ a (wl8 a b)/\leQ b (wl8 a b):=by
 unfold wl8
 split
 ·rename_i h
  exact⟨Int.le_of_lt (ww2.1 h),ww1 b⟩
 ·rename_i h
  refine⟨ww1 a,Int.not_lt.1 λq=>h (ww2.2 q)⟩
theorem xv9 {h1 h2 p1 p2:List Int} (k1:w6a h1 p1) (k2:w6a h2 p2) (h:inL h1 p1*szL h2<=inL h2 p2*szL h1):leQ (shR h1 p1) (shR h2 p2):=by
 have l1:=wt0 k1
 have l2:=wt0 k2
 have s1:=q9e k1.ok k1.ne
 have s2:=q9e k2.ok k2.ne
 unfold leQ
 have q1:=l1.eq
 have q2:=l2.eq
 have b1:=l1.pos
 have b2:=l2.pos
 generalize shR h1 p1=a at *
 generalize shR h2 p2=b at *
 generalize inL h1 p1=x at *
 generalize inL h2 p2=y at *
 generalize szL h1=u at *
 generalize szL h2=v at *
 have hb:x*v*(a.2*b.2)<=y*u*(a.2*b.2):=Int.mul_le_mul_of_nonneg_right h (by have:=Int.mul_pos (a:=a.2) (b:=b.2) (by omega) (by omega); omega)
 refine Int.le_of_mul_le_mul_left (a:=u*v) ?_ (Int.mul_pos s1 s2)
 have e1:u*v*(a.1*b.2)=x*v*(a.2*b.2):=by
  have:u*v*(a.1*b.2)=a.1*u*(v*b.2):=by grind
  rw[this,q1]; grind
 have e2:u*v*(b.1*a.2)=y*u*(a.2*b.2):=by
  have:u*v*(b.1*a.2)=b.1*v*(u*a.2):=by grind
  rw[this,q2]; grind
 omega
theorem q2l {l:List (List Int)} {n:Nat} (h:q6u l n):∀k,k<=l.length->(∀i,i<k->leQ (shR (nL l i) (q0u (nL l i) n)) (qh7 l n k))/\(qh7 l n k=(0,1)\/∃i,i<k/\qh7 l n k=shR (nL l i) (q0u (nL l i) n))
 | 0,_=>⟨λi hi=>by omega,.inl rfl⟩
 | k+1,hk=>by
  obtain⟨h1,h2⟩:=q2l h k (by omega)
  have t:=top_le (a:=qh7 l n k) (b:=shR (nL l k) (q0u (nL l k) n))
  have hs:=λi hi=>h.shr i hi
  have hl:=λj (hj:j<=l.length)=>qu6 h j hj
  simp only[Int.toNat_natCast] at hs hl
  refine⟨λi hi=>?_,?_⟩
  ·rcases Nat.lt_succ_iff_lt_or_eq.1 hi with e | e
   ·exact wi6 (wf7 (hs i (by omega))).pos (hl k (by omega)).pos (hl (k+1) hk).pos (h1 i e) t.1
   ·subst e; exact t.2
  ·show wl8 (qh7 l n k) (shR (nL l k) (q0u (nL l k) n))=(0,1)\/∃i,i<k+1/\wl8 (qh7 l n k) (shR (nL l k) (q0u (nL l k) n))=shR (nL l i) (q0u (nL l i) n)
   unfold wl8
   split
   ·exact .inr ⟨k,by omega,rfl⟩
   ·rcases h2 with h2 | ⟨i,hi,h2⟩
    ·exact .inl h2
    ·exact .inr ⟨i,by omega,h2⟩
theorem xo1 {h:List Int} {n:Nat} (hl:h.length=n):sA n (nI h)=szL h:=by
 unfold szL sA
 rw[wm7,hl]
theorem xw0 (h p:List Int):sB p (nI h)=inL h p:=by
 have:∀k,qr6 h p k=sm k λj=>qf8 (nI h (nI p j).toNat):=λk=>by
  induction k with
  | zero=>rfl
  | succ k ih=>rw[qr6,ih]; rfl
 exact(this p.length).symm
end Go.Proofs.Ytempacilejhbgaa
