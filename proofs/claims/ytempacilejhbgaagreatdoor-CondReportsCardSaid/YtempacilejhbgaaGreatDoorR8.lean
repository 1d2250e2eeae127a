/- The greatest share over all circuits and sets is that of the greatest sizes. Plain mathematics. No condition. -/
import Derived.Test.YtempacilejhbgaaGreatDoorQ15
set_option linter.unusedVariables false
set_option linter.unusedSimpArgs false
namespace Go.Proofs.YtempacilejhbgaaGreatDoor
open Go Go.RowKit Eng
def q4p (s:List Int) (b:Int) (j:Nat):List (List Int):=(List.range j).map λi:Nat=>s++[b+(i:Int)]
def qy5 (s:List Int):Int:=if 0<s.length then nI s (s.length-1)+1 else 0
def w7b (n:Int) (s:List Int):List (List Int):=q4p s (qy5 s) (n-qy5 s).toNat
def qp2 (n:Int) (L:List (List Int)):Nat->List (List Int)
 | 0=>[]
 | c+1=>qp2 n L c++w7b n (nL L c)
theorem wl7 (a:Int) (s:List Int) (b:Int) (j:Nat):q4p (a :: s) b j=(q4p s b j).map (a :: ·):=by
 unfold q4p
 rw[List.map_map]
 rfl
theorem wl8 (s:List Int) (b:Int) (j:Nat):q4p s b (j+1)=q4p s b j++[s++[b+(j:Int)]]:=by
 unfold q4p
 rw[List.range_succ,List.map_append]
 rfl
theorem q49 (s:List Int) (b:Int) (j:Nat):(q4p s b j).length=j:=by simp[q4p]
theorem w22 (s:List Int) (b:Int) (j:Nat):q4p s b (j+1)=(s++[b]) :: q4p s (b+1) j:=by
 unfold q4p
 rw[List.range_succ_eq_map,List.map_cons,List.map_map]
 congr 1
 ·simp
 ·apply List.map_congr_left
  intro i _
  show s++[b+((i+1:Nat):Int)]=s++[b+1+(i:Int)]
  congr 2
  push_cast; omega
theorem q7e:∀(m:Nat) (a:Int),qk0 m 1 a=q4p [] a m
 | 0,a=>rfl
 | m+1,a=>by
  rw[qk0,qv8,q7e m (a+1),w22]
  rfl
theorem w23 {a:Int} {t:List Int} (h:0<t.length):qy5 (a :: t)=qy5 t:=by
 unfold qy5
 rw[if_pos h,if_pos (by simp),List.length_cons,Nat.add_sub_cancel]
 obtain⟨k,hk⟩:∃k,t.length=k+1:=⟨t.length-1,by omega⟩
 rw[hk,qp1,Nat.add_sub_cancel]
theorem w7c {α β:Type} {l:List α} {f g:α->List β} (h:∀x∈l,f x=g x):l.flatMap f=l.flatMap g:=by
 induction l with
 | nil=>rfl
 | cons a l ih=>rw[List.flatMap_cons,List.flatMap_cons,h a (by simp),ih λx hx=>h x (by simp[hx])]
theorem q4b:∀(m k:Nat) (a:Int),qk0 m (k+2) a=(qk0 m (k+1) a).flatMap λs=>w7b (a+m) s
 | 0,k,a=>rfl
 | m+1,k,a=>by
  have e:a+((m+1:Nat):Int)=a+1+(m:Int):=by push_cast; omega
  rw[qk0,qk0,List.flatMap_append,q4b m k (a+1),e]
  congr 1
  cases k with
  | zero=>
   rw[qv8,q7e]
   show(q4p [] (a+1) m).map (a :: ·)=w7b (a+1+m) [a]++[]
   rw[List.append_nil,<- wl7]
   unfold w7b
   have:qy5 [a]=a+1:=rfl
   rw[this,show(a+1+(m:Int)-(a+1)).toNat=m by omega]
  | succ k=>
   rw[q4b m k (a+1),List.map_flatMap,List.flatMap_map]
   refine w7c λt ht=>?_
   have hl:=q6b ht
   unfold w7b
   rw[w23 (by omega),wl7]
theorem q80 (n:Int) (L:List (List Int)):∀c,c<=L.length->qp2 n L c=(L.take c).flatMap λs=>w7b n s
 | 0,_=>rfl
 | c+1,hc=>by
  rw[qp2,q80 n L c (by omega),takeL_snoc L c (by omega),List.flatMap_append]
  simp
theorem xb4 {n k:Nat} (hn:n<=10) (hk:k<=10):qp2 (n:Nat) (qa6 (n:Nat) (k:Nat)) (qa6 (n:Nat) (k:Nat)).length=qa6 (n:Nat) ((k+1:Nat):Int):=by
 rw[q80 _ _ _ (Nat.le_refl _),List.take_length]
 unfold qa6
 simp only[Int.toNat_natCast]
 by_cases h:(k:Int)<=n
 ·rw[if_pos h]
  have e:(if((k+1:Nat):Int)<=(n:Int) then qk0 n (k+1) 0 else[])=qk0 n (k+1) 0:=by
   split
   ·rfl
   ·rw[q8j (by omega)]
  rw[e]
  cases k with
  | zero=>
   rw[qv8,q7e]
   show w7b n []++[]=_
   rw[List.append_nil]
   unfold w7b
   have:qy5 []=0:=rfl
   rw[this,show((n:Int)-0).toNat=n by omega]
  | succ k=>
   rw[q4b n k 0,Int.zero_add]
 ·rw[if_neg h,if_neg (by omega)]
  rfl
structure q7f (K:Nat) (n k:Int):Prop where
 n0:0<=n
 n10:n<=10
 k0:0<=k
 k10:k<=10
 lt:k<K
abbrev xw2 (K:Nat):qb9:=qg6 false none [tInt,tInt] [tMask] (λx=>q7f K x.1 x.2.1) (λx=>(qa6 x.1 x.2.1,()))
def w7d (n:Int) (L:List (List Int)):Nat->Option Inv
 | 0=>some (Inv.of [5,18] 1 (λc:Nat=>[(5,.own 0),(18,.lit (.int .i64 c))]) (λc=>[.vec 27 (.list (.int .i64)) (qp2 n L c)]) (λc=>c<=L.length) (λc=>L.length-c))
 | 1=>some (Eng.Inv.mk (Nat × List Int × Int) Nat [5,9] 1 (λq j=>[(5,.own 0),(9,.lit (.int .i64 (q.2.2+j)))]) (λq j=>[.vec 27 (.list (.int .i64)) (qp2 n L q.1++q4p q.2.1 q.2.2 j)]) (λq j=>j<=(n-q.2.2).toNat) (λq j=>(n-q.2.2).toNat-j))
 | _=>none
theorem wl9 {n k:Nat} (hn:n<=10):∀c,c<=(qa6 (n:Nat) (k:Nat)).length->(qp2 (n:Nat) (qa6 (n:Nat) (k:Nat)) c).length<=10*c
 | 0,_=>Nat.le_refl _
 | c+1,hc=>by
  have h1:=wl9 (k:=k) hn c (by omega)
  have h2:=wp5 (qk1 (qa6 (n:Nat) (k:Nat)) c (by omega))
  have h3:0<=qy5 (nL (qa6 (n:Nat) (k:Nat)) c):=by
   unfold qy5
   split
   ·rename_i q
    have:=h2.len
    have:=h2.lo ((nL (qa6 (n:Nat) (k:Nat)) c).length-1) (by omega)
    omega
   ·exact Int.le_refl _
  rw[qp2,List.length_append]
  unfold w7b
  rw[q49]
  omega
theorem q7g:∀K,Meets Tryz.prog 33 (xw2 K)
 | 0=>by
  refine meets (w80 [] [41] (SpecsOk.nil _)) Tryz.func33 rfl rfl (λx=>w7d x.1 []) (λ_=>by kernel_rfl) (by decide) ?_
  rintro⟨n,k,⟨⟩⟩ h
  have h1:=h.lt
  have h2:=h.k0
  dsimp only at h1 h2
  exact absurd h1 (Int.not_lt.2 h2)
 | K+1=>by
  refine meets (w80 [] [41] (SpecsOk.cons (q7g K) (SpecsOk.nil _))) Tryz.func33 rfl rfl (λx=>w7d x.1 (qa6 x.1 (x.2.1-1))) (λ_=>by kernel_rfl) (by decide) ?_
  rintro⟨n,k,⟨⟩⟩ h
  revert n k
  intro(n:Int) (k:Int) (h:q7f (K+1) n k)
  refine @qe7 _ (((k==(0:Int))=true->Value.slice none (0:Nat) (0:Nat)=Value.slice none (0:Nat) (0:Nat)/\[[]]=qa6 n k)/\((k==(0:Int))=false->fits .i64 (k-(1:Int))/\q7f K n (k-(1:Int))/\∃(v1:Unit),∃(v2:Nat),Nat.le v2 (qa6 n (k-(1:Int))).length/\((True/\(0:Int)=(↑v2:Int)/\True)/\qp2 n (qa6 n (k-(1:Int))) v2=[]/\True)/\∀(v3:Nat),Nat.le v3 (qa6 n (k-(1:Int))).length->(decide ((↑v3:Int)<(↑(qa6 n (k-(1:Int))).length:Int))=true->((0:Int)<=(↑v3:Int)/\(↑v3:Int)<(↑(qa6 n (k-(1:Int))).length:Int))/\(decide ((0:Int)<(↑(nL (qa6 n (k-(1:Int))) v3).length:Int))=true->fits .i64 ((↑(nL (qa6 n (k-(1:Int))) v3).length:Int)-(1:Int))/\((0:Int)<=(↑(nL (qa6 n (k-(1:Int))) v3).length:Int)-(1:Int)/\(↑(nL (qa6 n (k-(1:Int))) v3).length:Int)-(1:Int)<(↑(nL (qa6 n (k-(1:Int))) v3).length:Int))/\fits .i64 (nI (nL (qa6 n (k-(1:Int))) v3) ((↑(nL (qa6 n (k-(1:Int))) v3).length:Int)-(1:Int)).toNat+(1:Int))/\∃(v7:Nat × List Int × Int),∃(v8:Nat),Nat.le v8 (n-v7.2.2).toNat/\((True/\nI (nL (qa6 n (k-(1:Int))) v3) ((↑(nL (qa6 n (k-(1:Int))) v3).length:Int)-(1:Int)).toNat+(1:Int)=v7.2.2+(↑v8:Int)/\True)/\qp2 n (qa6 n (k-(1:Int))) v3=qp2 n (qa6 n (k-(1:Int))) v7.1++q4p v7.2.1 v7.2.2 v8/\True)/\∀(v9:Nat),Nat.le v9 (n-v7.2.2).toNat->(decide (v7.2.2+(↑v9:Int)<n)=true->Nat.le ((0:Nat)+(nL (qa6 n (k-(1:Int))) v3).length) (1000000:Nat)/\((0:Nat)<List.length [v7.2.2+(↑v9:Int)]/\Nat.le (([]++nL (qa6 n (k-(1:Int))) v3).length+List.length [v7.2.2+(↑v9:Int)]) (1000000:Nat))/\((0:Nat)<List.length [[]++nL (qa6 n (k-(1:Int))) v3++[v7.2.2+(↑v9:Int)]]/\Nat.le ((qp2 n (qa6 n (k-(1:Int))) v7.1++q4p v7.2.1 v7.2.2 v9).length+List.length [[]++nL (qa6 n (k-(1:Int))) v3++[v7.2.2+(↑v9:Int)]]) (1000000:Nat))/\fits .i64 (v7.2.2+(↑v9:Int)+(1:Int))/\∃(v12:Nat),Nat.le v12 (n-v7.2.2).toNat/\(n-v7.2.2).toNat-v12<(n-v7.2.2).toNat-v9/\(True/\v7.2.2+(↑v9:Int)+(1:Int)=v7.2.2+(↑v12:Int)/\True)/\qp2 n (qa6 n (k-(1:Int))) v7.1++q4p v7.2.1 v7.2.2 v9++[[]++nL (qa6 n (k-(1:Int))) v3++[v7.2.2+(↑v9:Int)]]=qp2 n (qa6 n (k-(1:Int))) v7.1++q4p v7.2.1 v7.2.2 v12/\True)/\(decide (v7.2.2+(↑v9:Int)<n)=false->fits .i64 ((↑v3:Int)+(1:Int))/\∃(v12:Nat),Nat.le v12 (qa6 n (k-(1:Int))).length/\(qa6 n (k-(1:Int))).length-v12<(qa6 n (k-(1:Int))).length-v3/\(True/\(↑v3:Int)+(1:Int)=(↑v12:Int)/\True)/\qp2 n (qa6 n (k-(1:Int))) v7.1++q4p v7.2.1 v7.2.2 v9=qp2 n (qa6 n (k-(1:Int))) v12/\True))/\(decide ((0:Int)<(↑(nL (qa6 n (k-(1:Int))) v3).length:Int))=false->∃(v7:Nat × List Int × Int),∃(v8:Nat),Nat.le v8 (n-v7.2.2).toNat/\((True/\(0:Int)=v7.2.2+(↑v8:Int)/\True)/\qp2 n (qa6 n (k-(1:Int))) v3=qp2 n (qa6 n (k-(1:Int))) v7.1++q4p v7.2.1 v7.2.2 v8/\True)/\∀(v9:Nat),Nat.le v9 (n-v7.2.2).toNat->(decide (v7.2.2+(↑v9:Int)<n)=true->Nat.le ((0:Nat)+(nL (qa6 n (k-(1:Int))) v3).length) (1000000:Nat)/\((0:Nat)<List.length [v7.2.2+(↑v9:Int)]/\Nat.le (([]++nL (qa6 n (k-(1:Int))) v3).length+List.length [v7.2.2+(↑v9:Int)]) (1000000:Nat))/\((0:Nat)<List.length [[]++nL (qa6 n (k-(1:Int))) v3++[v7.2.2+(↑v9:Int)]]/\Nat.le ((qp2 n (qa6 n (k-(1:Int))) v7.1++q4p v7.2.1 v7.2.2 v9).length+List.length [[]++nL (qa6 n (k-(1:Int))) v3++[v7.2.2+(↑v9:Int)]]) (1000000:Nat))/\fits .i64 (v7.2.2+(↑v9:Int)+(1:Int))/\∃(v12:Nat),Nat.le v12 (n-v7.2.2).toNat/\(n-v7.2.2).toNat-v12<(n-v7.2.2).toNat-v9/\(True/\v7.2.2+(↑v9:Int)+(1:Int)=v7.2.2+(↑v12:Int)/\True)/\qp2 n (qa6 n (k-(1:Int))) v7.1++q4p v7.2.1 v7.2.2 v9++[[]++nL (qa6 n (k-(1:Int))) v3++[v7.2.2+(↑v9:Int)]]=qp2 n (qa6 n (k-(1:Int))) v7.1++q4p v7.2.1 v7.2.2 v12/\True)/\(decide (v7.2.2+(↑v9:Int)<n)=false->fits .i64 ((↑v3:Int)+(1:Int))/\∃(v12:Nat),Nat.le v12 (qa6 n (k-(1:Int))).length/\(qa6 n (k-(1:Int))).length-v12<(qa6 n (k-(1:Int))).length-v3/\(True/\(↑v3:Int)+(1:Int)=(↑v12:Int)/\True)/\qp2 n (qa6 n (k-(1:Int))) v7.1++q4p v7.2.1 v7.2.2 v9=qp2 n (qa6 n (k-(1:Int))) v12/\True)))/\(decide ((↑v3:Int)<(↑(qa6 n (k-(1:Int))).length:Int))=false->qp2 n (qa6 n (k-(1:Int))) v3=qa6 n k))) (by kernel_rfl) ?_
  try simp only[z0,z1,z2,z3,z4,z5,z6,z7,z8,z9,z10,Int.reduceEq,z11,z12,z13,z14,z15,z16,z17,z18,z19,z20,z21,z22,z23,z24,z25,z26,z27,z28,z29,z30,Int.reduceLE,Int.reduceLT,z31,z32,z33,z34,qa3]
  try simp only[qb6,qb7,qc7,z31,z32,z2,z1]
  obtain⟨h1,h2,h3,h4,h5⟩:=h
  obtain⟨n,rfl⟩:∃q:Nat,n=q:=⟨n.toNat,by omega⟩
  refine⟨λhk=>?_,λhk=>?_⟩
  ·subst hk
   unfold qa6
   rw[if_pos h1]
   exact(qv8 _ _).symm
  obtain⟨k,rfl⟩:∃q:Nat,k=((q+1:Nat):Int):=⟨(k-1).toNat,by omega⟩
  have ek:((k+1:Nat):Int)-1=(k:Int):=by push_cast; omega
  rw[ek]
  have hn:n<=10:=by omega
  have hL:=q3c n k hn (by omega)
  have hin:=λc (hc:c<(qa6 (n:Nat) (k:Nat)).length)=>wp5 (qk1 (qa6 (n:Nat) (k:Nat)) c hc)
  have hext:=wl9 (k:=k) hn
  have hfin:=xb4 (k:=k) hn (by omega)
  have hS:∀c,qp2 (n:Nat) (qa6 (n:Nat) (k:Nat)) (c+1)=qp2 (n:Nat) (qa6 (n:Nat) (k:Nat)) c++w7b n (nL (qa6 (n:Nat) (k:Nat)) c):=λc=>rfl
  have h0:qp2 (n:Nat) (qa6 (n:Nat) (k:Nat)) 0=[]:=rfl
  rw[<- hfin]
  generalize qa6 (n:Nat) (k:Nat)=L at *
  simp only[Int.toNat_natCast] at hin
  refine⟨qa7 (by omega) (by omega),⟨h1,h2,by omega,by omega,by omega⟩,(),0,Nat.zero_le _,⟨rfl,h0⟩,λc hc=>⟨λhlt=>?_,λhge=>?_⟩⟩
  ·have hI:=hin c hlt
   have hl:=hext c hc
   have hl2:=hext (c+1) hlt
   rw[hS,List.length_append] at hl2
   have hSc:=hS c
   generalize nL L c=s at *
   have hlen:=hI.len
   unfold w7b at hl2 hSc
   rw[q49] at hl2
   refine⟨hlt,λhp=>?_,λhp=>?_⟩
   ·have e:((s.length:Int)-1).toNat=s.length-1:=by omega
    have hlo:=hI.lo (s.length-1) (by omega)
    have hhi:=hI.hi (s.length-1) (by omega)
    have hf:qy5 s=nI s (s.length-1)+1:=if_pos (by omega)
    rw[e]
    refine⟨qa7 (by omega) (by omega),⟨by omega,by omega⟩,qa7 (by omega) (by omega),(c,s,qy5 s),0,Nat.zero_le _,⟨?_,?_⟩,?_⟩
    ·rw[hf]; exact(Int.add_zero _).symm
    ·exact(List.append_nil _).symm
    ·have hf0:0<=qy5 s:=by omega
     have hf1:qy5 s<=n:=by omega
     generalize qy5 s=b at *
     intro j hj
     dsimp only at hj ⊢
     refine⟨λhlt2=>⟨by omega,by omega,by rw[List.length_append,q49]; omega,qa7 (by omega) (by omega),j+1,by omega,by omega,by push_cast; omega,by rw[wl8,List.append_assoc]⟩,λhge=>⟨qa7 (by omega) (by omega),c+1,hlt,by omega,by push_cast; rfl,?_⟩⟩
     rw[hSc,show(↑n-b).toNat=j by omega]
   ·have hf:qy5 s=0:=if_neg (by omega)
    refine⟨(c,s,qy5 s),0,Nat.zero_le _,⟨?_,?_⟩,?_⟩
    ·dsimp only; rw[hf]; rfl
    ·exact(List.append_nil _).symm
    ·have hf0:0<=qy5 s:=by omega
     have hf1:qy5 s<=n:=by omega
     generalize qy5 s=b at *
     intro j hj
     dsimp only at hj ⊢
     refine⟨λhlt2=>⟨by omega,by omega,by rw[List.length_append,q49]; omega,qa7 (by omega) (by omega),j+1,by omega,by omega,by push_cast; omega,by rw[wl8,List.append_assoc]⟩,λhge=>⟨qa7 (by omega) (by omega),c+1,hlt,by omega,by push_cast; rfl,?_⟩⟩
     rw[hSc,show(↑n-b).toNat=j by omega]
  ·obtain rfl:c=L.length:=by omega
   rfl
structure xx5 (a:Int × Int):Prop where
 pos:1<=a.2
 n0:0<=a.1
 one:gcdI a.1 a.2=1
theorem LowIs.low {n d:Int} {r:Int × Int} (h:LowIs n d r):xx5 r:=⟨h.pos,h.n0,h.one⟩
theorem xm8:xx5 (0,1):=⟨by decide,by decide,by decide⟩
theorem xm9 {a b:Int × Int} (ha:xx5 a) (hb:xx5 b) (h1:leQ a b) (h2:leQ b a):a=b:=by
 have e:a.1*b.2=b.1*a.2:=Int.le_antisymm h1 h2
 have ga:Nat.gcd a.1.natAbs a.2.natAbs=1:=by have:=ha.one; unfold gcdI at this; exact Int.ofNat.inj this
 have gb:Nat.gcd b.1.natAbs b.2.natAbs=1:=by have:=hb.one; unfold gcdI at this; exact Int.ofNat.inj this
 have en:a.1.natAbs*b.2.natAbs=b.1.natAbs*a.2.natAbs:=by rw[<- Int.natAbs_mul,<- Int.natAbs_mul,e]
 have d1:a.2.natAbs∣b.2.natAbs:=Nat.Coprime.dvd_of_dvd_mul_left (m:=a.1.natAbs) (by rw[Nat.Coprime,Nat.gcd_comm]; exact ga) ⟨b.1.natAbs,by rw[Nat.mul_comm a.2.natAbs]; exact en⟩
 have d2:b.2.natAbs∣a.2.natAbs:=Nat.Coprime.dvd_of_dvd_mul_left (m:=b.1.natAbs) (by rw[Nat.Coprime,Nat.gcd_comm]; exact gb) ⟨a.1.natAbs,by rw[Nat.mul_comm b.2.natAbs]; exact en.symm⟩
 have p1:=ha.pos
 have p2:=hb.pos
 have e2:a.2=b.2:=by have:=Nat.dvd_antisymm d1 d2; omega
 refine Prod.ext ?_ e2
 rw[e2] at e
 exact Int.eq_of_mul_eq_mul_right (by omega) e
def qz0 (h:List Int) (w:(Int × Int) × List Int × List Int) (s:List Int):(Int × Int) × List Int × List Int:=if w.2.1.isEmpty=true then(shR h s,h,s) else if wj9 w.1 (shR h s)=true then(shR h s,h,s) else w
def whS (h:List Int) (S:List (List Int)) (w:(Int × Int) × List Int × List Int):Nat->(Int × Int) × List Int × List Int
 | 0=>w
 | j+1=>qz0 h (whS h S w j) (nL S j)
def qk6 (l S:List (List Int)):Nat->(Int × Int) × List Int × List Int
 | 0=>((0,1),[],[])
 | i+1=>whS (nL l i) S (qk6 l S i) S.length
def Bef (i j i' j':Nat) (J:Nat):Prop:=(i' < i/\j' < J)\/(i'=i/\j' < j)
structure WhIs (l S:List (List Int)) (i j:Nat) (w:(Int × Int) × List Int × List Int):Prop where
 none:(∀i' j',¬Bef i j i' j' S.length)->w=((0,1),[],[])
 some:(∃i' j',Bef i j i' j' S.length)->∃p q,Bef i j p q S.length/\w=(shR (nL l p) (nL S q),nL l p,nL S q)/\(∀i' j',Bef i j i' j' S.length->leQ (shR (nL l i') (nL S j')) w.1)/\∀i' j',Bef p q i' j' S.length->shR (nL l i') (nL S j')≠w.1
structure WhOk (l S:List (List Int)):Prop where
 sh:∀i,i<l.length->∀j,j<S.length->wq1 (nL l i) (nL S j)
theorem WhOk.ne {l S:List (List Int)} (h:WhOk l S) {i j:Nat} (hi:i<l.length) (hj:j<S.length):(nL l i).isEmpty=false:=by
 have:=(h.sh i hi j hj).ne
 cases e:nL l i with
 | nil=>rw[e] at this; exact absurd rfl this
 | cons a r=>rfl
theorem WhIs.step {l S:List (List Int)} {i j:Nat} {w:(Int × Int) × List Int × List Int} (hO:WhOk l S) (hi:i<l.length) (hj:j<S.length) (h:WhIs l S i j w):WhIs l S i (j+1) (qz0 (nL l i) w (nL S j)):=by
 have bef:∀i' j',Bef i (j+1) i' j' S.length↔Bef i j i' j' S.length\/(i'=i/\j'=j):=λi' j'=>by
  unfold Bef
  constructor <;> intro q <;> omega
 have here:Bef i (j+1) i j S.length:=(bef i j).2 (.inr ⟨rfl,rfl⟩)
 refine⟨λhn=>absurd here (hn i j),λ_=>?_⟩
 by_cases hx:∃i' j',Bef i j i' j' S.length
 ·obtain⟨p,q,h1,h2,h3,h4⟩:=h.some hx
  have hp:p<l.length/\q<S.length:=by unfold Bef at h1; omega
  have hne:=hO.ne hp.1 hp.2
  have lx:=q1k (hO.sh i hi j hj)
  have lw:=q1k (hO.sh p hp.1 q hp.2)
  have hw1:w.1=shR (nL l p) (nL S q):=by rw[h2]
  have hstep:qz0 (nL l i) w (nL S j)=if wj9 w.1 (shR (nL l i) (nL S j))=true then(shR (nL l i) (nL S j),nL l i,nL S j) else w:=by
   unfold qz0
   rw[if_neg]
   rw[h2]
   show ¬(nL l p).isEmpty=true
   rw[hne]; decide
  rw[hstep]
  by_cases hl:wj9 w.1 (shR (nL l i) (nL S j))=true
  ·rw[if_pos hl]
   have hl':w.1.1*(shR (nL l i) (nL S j)).2<(shR (nL l i) (nL S j)).1*w.1.2:=of_decide_eq_true hl
   refine⟨i,j,here,rfl,λi' j' hb=>?_,λi' j' hb=>?_⟩
   ·rcases(bef i' j').1 hb with hb | ⟨rfl,rfl⟩
    ·have hb':i' < l.length/\j' < S.length:=by unfold Bef at hb; omega
     refine q7d (q1k (hO.sh i' hb'.1 j' hb'.2)).pos (by rw[hw1]; exact lw.pos) lx.pos (h3 i' j' hb) (Int.le_of_lt hl')
    ·exact q48 _
   ·intro e
    have:=h3 i' j' hb
    rw[e] at this
    exact Int.not_lt.2 this hl'
  ·rw[if_neg hl]
   have hl':leQ (shR (nL l i) (nL S j)) w.1:=Int.not_lt.1 λq=>hl (decide_eq_true q)
   refine⟨p,q,(bef p q).2 (.inl h1),h2,λi' j' hb=>?_,h4⟩
   rcases(bef i' j').1 hb with hb | ⟨rfl,rfl⟩
   ·exact h3 i' j' hb
   ·exact hl'
 ·have hw:=h.none λi' j' q=>hx ⟨i',j',q⟩
  have hstep:qz0 (nL l i) w (nL S j)=(shR (nL l i) (nL S j),nL l i,nL S j):=by
   unfold qz0
   rw[hw]; rfl
  rw[hstep]
  refine⟨i,j,here,rfl,λi' j' hb=>?_,λi' j' hb=>absurd ⟨i',j',hb⟩ hx⟩
  rcases(bef i' j').1 hb with hb | ⟨rfl,rfl⟩
  ·exact absurd ⟨i',j',hb⟩ hx
  ·exact q48 _
theorem w7e {l S:List (List Int)} {i:Nat} {w:(Int × Int) × List Int × List Int} (hO:WhOk l S) (hi:i<l.length) (h:WhIs l S i 0 w):∀j,j<=S.length->WhIs l S i j (whS (nL l i) S w j)
 | 0,_=>h
 | j+1,hj=>(w7e hO hi h j (by omega)).step hO hi (by omega)
theorem WhIs.next {l S:List (List Int)} {i:Nat} {w:(Int × Int) × List Int × List Int} (h:WhIs l S i S.length w):WhIs l S (i+1) 0 w:=by
 have bef:∀i' j',Bef (i+1) 0 i' j' S.length↔Bef i S.length i' j' S.length:=λi' j'=>by
  unfold Bef
  constructor <;> intro q <;> omega
 refine⟨λhn=>h.none λi' j' q=>hn i' j' ((bef i' j').2 q),λ⟨i',j',q⟩=>?_⟩
 obtain⟨p,q,h1,h2,h3,h4⟩:=h.some ⟨i',j',(bef i' j').1 q⟩
 exact⟨p,q,(bef p q).2 h1,h2,λi' j' hb=>h3 i' j' ((bef i' j').1 hb),h4⟩
theorem ws3 {l S:List (List Int)} (hO:WhOk l S):∀i,i<=l.length->WhIs l S i 0 (qk6 l S i)
 | 0,_=>⟨λ_=>rfl,λ⟨i',j',q⟩=>by unfold Bef at q; omega⟩
 | i+1,hi=>(w7e hO (by omega) (ws3 hO i (by omega)) S.length (Nat.le_refl _)).next
theorem WhIs.lil {l S:List (List Int)} {i j:Nat} {w:(Int × Int) × List Int × List Int} (hO:WhOk l S) (hi:i<=l.length) (hij:i<l.length\/j=0) (hj:j<=S.length) (h:WhIs l S i j w):qt4 w.1:=by
 by_cases hx:∃i' j',Bef i j i' j' S.length
 ·obtain⟨p,q,h1,h2,_,_⟩:=h.some hx
  rw[h2]
  exact q6p (hO.sh p (by unfold Bef at h1; omega) q (by unfold Bef at h1; omega))
 ·rw[h.none λi' j' q=>hx ⟨i',j',q⟩]
  exact w5z
def whR (m:List (List Int)) (k:Int):(Int × Int) × List Int × List Int:=qk6 (qc9 m).1 (qa6 (nL m 0).length k) (qc9 m).1.length
theorem x2z {m:List (List Int)} (hv:validB m=true) (h7:(nL m 0).length<=7) (k:Nat):WhOk (qc9 m).1 (qa6 (nL m 0).length k):=⟨λi hi j hj=>by
 obtain⟨s,hc⟩:=q7c hv h7 hi
 exact w7a hv hc (qu6 (qk1 _ j hj)).1⟩
theorem xb5 {n k:Nat} (hk:k<=n):0<(qa6 (n:Nat) (k:Nat)).length:=by
 unfold qa6
 rw[if_pos (by omega)]
 exact(List.getElem?_eq_some_iff.1 (q3v (m:=n) (k:=k) (a:=0) hk)).1
theorem xe8 {m:List (List Int)} (hv:validB m=true) (h7:(nL m 0).length<=7) {k:Nat} (hk:k<=(nL m 0).length):(whR m k).1=qg5 (qc9 m).1 k (qc9 m).1.length:=by
 have hO:=x2z hv h7 k
 have hS:=xb5 hk
 have hT:=(xw0 (m:=m) λ_=>h7).shs hv k hk
 have hmx:=wl6 hT _ (Nat.le_refl _)
 have htl:=qt0 hT _ (Nat.le_refl _)
 rw[Int.toNat_natCast] at htl
 have hI:=ws3 hO _ (Nat.le_refl _)
 unfold whR
 rcases Nat.eq_zero_or_pos (qc9 m).1.length with e | e
 ·rw[e]; rfl
 ·obtain⟨p,q,h1,h2,h3,h4⟩:=hI.some ⟨0,0,.inl ⟨e,hS⟩⟩
  have hp:p<(qc9 m).1.length/\q<(qa6 (nL m 0).length (k:Nat)).length:=by unfold Bef at h1; omega
  have hsh:=hO.sh p hp.1 q hp.2
  obtain⟨s,hc⟩:=q7c hv h7 hp.1
  have hlar:∀i,i<(qc9 m).1.length->∃j,j<(qa6 (nL m 0).length (k:Nat)).length/\nL (qa6 (nL m 0).length (k:Nat)) j=q1g (nL (qc9 m).1 i) k:=λi hi=>by
   obtain⟨t,hd⟩:=q7c hv h7 hi
   have hn:=w0t hd k
   have hl:(q1g (nL (qc9 m).1 i) k).length=k:=wy8 (by rw[hd.len]; exact hk)
   have:=w60 hn
   rw[hl] at this
   obtain⟨j,hj,e⟩:=List.mem_iff_getElem.1 this
   exact⟨j,hj,by rw[ql4 _ j hj,e]⟩
  have hsp:wq1 (nL (qc9 m).1 p) (q1g (nL (qc9 m).1 p) k):=w7a hv hc (w0t hc k)
  have hset:=qu6 (qk1 _ q hp.2)
  have hmost:=xb1 (h:=nL (qc9 m).1 p) (p:=nL (qa6 (nL m 0).length (k:Nat)) q) (by rw[hc.len]; exact hset.1)
  rw[hset.2] at hmost
  have hw:(qk6 (qc9 m).1 (qa6 (nL m 0).length (k:Nat)) (qc9 m).1.length).1=shR (nL (qc9 m).1 p) (nL (qa6 (nL m 0).length (k:Nat)) q):=by rw[h2]
  have hpos:=q6o hsh.ok hsh.ne
  have l1:leQ (qk6 (qc9 m).1 (qa6 (nL m 0).length (k:Nat)) (qc9 m).1.length).1 (qg5 (qc9 m).1 k (qc9 m).1.length):=by
   rw[hw]
   exact q7d (q1k hsh).pos (q1k hsp).pos htl.pos (x1x hsh hsp (Int.mul_le_mul_of_nonneg_right hmost (by omega))) (hmx.1 p hp.1)
  have l2:leQ (qg5 (qc9 m).1 k (qc9 m).1.length) (qk6 (qc9 m).1 (qa6 (nL m 0).length (k:Nat)) (qc9 m).1.length).1:=by
   rcases hmx.2 with e2 | ⟨i,hi,e2⟩
   ·rw[e2,hw]; exact xb3 (q6p hsh)
   ·obtain⟨j,hj,e3⟩:=hlar i hi
    rw[e2,<- e3]
    exact h3 i j (.inl ⟨hi,hj⟩)
  refine xm9 (by rw[hw]; exact(q1k hsh).low) ?_ l1 l2
  rcases hmx.2 with e2 | ⟨i,hi,e2⟩
  ·rw[e2]; exact xm8
  ·rw[e2]
   obtain⟨t,hd⟩:=q7c hv h7 hi
   exact(q1k (w7a hv hd (w0t hd k))).low
end Go.Proofs.YtempacilejhbgaaGreatDoor
