/- Lengths of a slice of slices. No condition. -/
import Derived.Test.YtempacilejhbgaaGreatKM7
import Derived.Test.YtempacilejhbgaaGreatKT2
import Derived.Test.YtempacilejhbgaaGreatRows
import Derived.Test.YtempacilejhbgaaGreatCore
import Derived.ProofKit
import Derived.OpenShut
import Derived.ShutString
import Derived.ChangeOld
import Derived.Below
import Derived.Deep.Matrix
import Derived.Test.YtempacilejhbgaaGreatV7
set_option linter.unusedVariables false
set_option linter.unusedSimpArgs false
namespace Go.Proofs.YtempacilejhbgaaGreat
open Go Go.RowKit Eng Ls
theorem xv4 {w:World} {B:Nat} {A:Option Addr} {n c:Nat} {l:List (List Int)} (h:K.SMF w B A n c l):Rd (View.from w B) tMask l [.slice A n c]:=by
 obtain⟨h1,h2,h3,h4⟩:=h
 refine⟨A,c,by rw[h1],by rw[h1]; exact h2,h3,λhl=>?_⟩
 obtain⟨ad,e,hB,h5⟩:=h4 (by rw[<- h1]; exact hl)
 refine⟨ad,e,λi hi=>?_⟩
 obtain⟨A',c',k1,k2,k3⟩:=h5 i (by rw[<- h1]; exact hi)
 refine⟨[.slice A' (nthL l i).length c'],xq5 k2 k3,λj v hj=>?_⟩
 cases j with
 | succ j=>simp at hj
 | zero=>
  simp only[List.getElem?_cons_zero,Option.some.injEq] at hj
  subst hj
  simp only[Ty.size,Nat.mul_one,Nat.add_zero]
  have h7:(View.from w B).cell (ad.add i)=View.cell (λb=>w.heap[b]?) (ad.add i):=by
   unfold View.cell View.from
   rw[Ls.block_add,if_pos hB]
  rw[h7]
  exact k1
def qs3 (m:List (List Int)) (i:Nat):List (List Int):=m.take i++m.drop (i+1)
def xv5 (m:List (List Int)) (i:Int):Int:=if validB m=true then if inB i 0 ((m.length:Int)-1)=true then if m.length=1 then 8 else 0 else 5 else 1
def xv6 (m:List (List Int)) (i:Int):List (List Int):=if xv5 m i=0 then qs3 m i.toNat else[]
abbrev x9l:qb9:=qg1 true none [tMask,tInt] [tMask,tInt] (λ_=>True) (λx=>(xv6 x.1 x.2.1,xv5 x.1 x.2.1,()))
theorem w84:qd6 Tryz.prog 87 x9l:=xb1 ⟨_,_,Tryz.func87,rfl,rfl⟩ λw m x vs hm _ hx=>by
 obtain⟨x,i,⟨⟩⟩:=x
 obtain⟨u,us,rfl,h1,u',us',rfl,h2,h3⟩:=hx
 obtain rfl:us'=[]:=h3
 obtain rfl:u'=.int .i64 i:=h2
 obtain⟨A,c,rfl,hs⟩:=K.mask_of hm h1
 exact(K.without_any A _ c i x w hs).mono λe w' ⟨A',c',h1,h2,h3⟩=>⟨_,h1,h3,[_,_],rfl,_,_,rfl,xv4 h2,_,_,rfl,rfl,rfl⟩
def q1w (m:List (List Int)):Nat->List Int
 | 0=>[]
 | i+1=>if validB (qs3 m i)=true/\ordL (qs3 m i)=ordL m then q1w m i++[(i:Int)] else q1w m i
def rwR (m:List (List Int)):List Int × Int:=if validB m=true then(q1w m m.length,0) else([],1)
theorem q5t (m:List (List Int)):∀j,(q1w m j).length<=j
 | 0=>Nat.le_refl _
 | j+1=>by
  have:=q5t m j
  rw[q1w]
  split
  ·simp; omega
  ·omega
theorem q3w {m:List (List Int)} {i:Nat} (h:i<m.length):(qs3 m i).length=m.length-1:=by
 unfold qs3; rw[List.length_append,List.length_take,List.length_drop]; omega
theorem q75 {m:List (List Int)} {i:Nat} {x:List Int} (h:x∈qs3 m i):x∈m:=by
 rcases List.mem_append.1 h with q | q
 ·exact List.mem_of_mem_take q
 ·exact List.mem_of_mem_drop q
theorem q90 {m:List (List Int)} {i:Nat} (hv:validB m=true) (hi:i<m.length) (h2:2<=m.length):validB (qs3 m i)=true/\(nL (qs3 m i) 0).length=(nL m 0).length:=by
 have hM:=Mk.of hv
 have m6:=hM.rows6
 have hl:=q3w hi
 have e:(nL (qs3 m i) 0).length=(nL m 0).length:=by
  have hm:=q75 (qi9 (qs3 m i) 0 (by omega))
  obtain⟨k,hk,ek⟩:=List.getElem_of_mem hm
  rw[<- ek,<- qk2 m k hk]
  exact hM.each k hk
 refine⟨?_,e⟩
 unfold validB at hv ⊢
 rw[Bool.and_eq_true,List.all_eq_true] at hv
 rw[Bool.and_eq_true,List.all_eq_true,e]
 exact⟨inB_iff.2 ⟨by omega,by omega⟩,λx hx=>hv.2 x (q75 hx)⟩
theorem xv7 {m:List (List Int)} {i:Nat} (hv:validB m=true) (h:xv5 m i=0) (hi:i<m.length):2<=m.length:=by
 unfold xv5 at h
 rw[if_pos hv,if_pos (inB_iff.2 ⟨by omega,by omega⟩)] at h
 split at h
 ·cases h
 ·omega
theorem xm7 {m:List (List Int)} {i:Nat} (h:validB (qs3 m i)=true/\ordL (qs3 m i)=ordL m):q1w m i++[(i:Int)]=q1w m (i+1):=by rw[q1w,if_pos h]
theorem w15 {m:List (List Int)} {i:Nat} (h:¬(validB (qs3 m i)=true/\ordL (qs3 m i)=ordL m)):q1w m i=q1w m (i+1):=by rw[q1w,if_neg h]
theorem x5q {m:List (List Int)} (h:validB m=false):rwR m=([],1):=if_neg (by rw[h]; decide)
theorem x5r {m:List (List Int)} (h:validB m=true):rwR m=(q1w m m.length,0):=if_pos h
def x6k (m:List (List Int)) (s0 s1:Nat):Nat->Option Inv
 | 0=>some (Inv.of [s0,s1] 1 (λk:Nat=>[(s0,.own 0),(s1,.lit (.int .i64 k))]) (λk=>[.vec 3 (.int .i64) (q1w m k)]) (λk=>k<=m.length) (λk=>m.length-k))
 | _=>none
abbrev sRw:qb9:=qg1 false none [tMask] [tInts,tInt] (λx=>q1q x.1) (λx=>((rwR x.1).1,(rwR x.1).2,()))
theorem xj2:qd6 Tryz.prog 38 sRw:=by
 refine meets (snd (SpecsOk.cons qy9 (SpecsOk.cons w84 (SpecsOk.cons qz4 (SpecsOk.nil _))))) Tryz.func38 rfl rfl (λx=>x6k x.1 4 13) (λ_=>by kernel_rfl) (by decide) ?_
 rintro⟨m,⟨⟩⟩ h
 revert m
 intro(m:List (List Int)) (h:q1q m)
 refine @qd9 _ (True/\((!validB m)=true->(rwR m).1=[]/\(1:Int)=(rwR m).2/\True)/\((!validB m)=false->∃(v1:Unit),∃(v2:Nat),Nat.le v2 m.length/\((True/\(0:Int)=(↑v2:Int)/\True)/\q1w m v2=[]/\True)/\∀(v3:Nat),Nat.le v3 m.length->(decide ((↑v3:Int)<(↑m.length:Int))=true->True/\((xv5 m (↑v3:Int)==(0:Int))=true->(validB (xv6 m (↑v3:Int))=true/\wv7 (xv6 m (↑v3:Int)))/\(validB m=true/\wv7 m)/\(((↑(ordL (xv6 m (↑v3:Int))):Int)==(↑(ordL m):Int))=true->((0:Nat)<List.length [(↑v3:Int)]/\Nat.le ((q1w m v3).length+List.length [(↑v3:Int)]) (1000000:Nat))/\fits .i64 ((↑v3:Int)+(1:Int))/\∃(v8:Nat),Nat.le v8 m.length/\m.length-v8<m.length-v3/\(True/\(↑v3:Int)+(1:Int)=(↑v8:Int)/\True)/\q1w m v3++[(↑v3:Int)]=q1w m v8/\True)/\(((↑(ordL (xv6 m (↑v3:Int))):Int)==(↑(ordL m):Int))=false->fits .i64 ((↑v3:Int)+(1:Int))/\∃(v8:Nat),Nat.le v8 m.length/\m.length-v8<m.length-v3/\(True/\(↑v3:Int)+(1:Int)=(↑v8:Int)/\True)/\q1w m v3=q1w m v8/\True))/\((xv5 m (↑v3:Int)==(0:Int))=false->fits .i64 ((↑v3:Int)+(1:Int))/\∃(v7:Nat),Nat.le v7 m.length/\m.length-v7<m.length-v3/\(True/\(↑v3:Int)+(1:Int)=(↑v7:Int)/\True)/\q1w m v3=q1w m v7/\True))/\(decide ((↑v3:Int)<(↑m.length:Int))=false->q1w m v3=(rwR m).1/\(0:Int)=(rwR m).2/\True))) (by kernel_rfl) ?_
 try simp only[z0,z1,z2,z3,z4,z5,z6,z7,z8,z9,z10,Int.reduceEq,z11,z12,z13,z14,z15,z16,z17,z18,z19,z20,z21,z22,z23,z24,z25,z26,z27,z28,z29,z30,Int.reduceLE,Int.reduceLT,z31,z32,z33,z34,qa3]
 try simp only[qb4,qb5,qc0,z31,z32,z2,z1]
 refine⟨λhv=>by rw[x5q hv]; exact⟨rfl,rfl⟩,λhv=>?_⟩
 have hM:=Mk.of hv
 have m6:=hM.rows6
 refine⟨(),0,Nat.zero_le _,⟨rfl,rfl⟩,λi hi=>⟨λhlt=>?_,λhge=>?_⟩⟩
 ·have hle:=q5t m i
  refine⟨λhe=>?_,λhe=>⟨qa6 (by omega) (by omega),i+1,hlt,by omega,by push_cast; rfl,w15 λq=>?_⟩⟩
  ·have hD:=q90 hv hlt (xv7 hv he hlt)
   have e:xv6 m i=qs3 m i:=by unfold xv6; rw[if_pos he,Int.toNat_natCast]
   rw[e]
   refine⟨⟨hD.1,xw7 λ_=>by rw[hD.2]; exact h.n7 hv⟩,⟨hv,xw7 h.n7⟩,λhf=>⟨by omega,qa6 (by omega) (by omega),i+1,hlt,by omega,by push_cast; rfl,xm7 ⟨hD.1,by omega⟩⟩,λhf=>⟨qa6 (by omega) (by omega),i+1,hlt,by omega,by push_cast; rfl,w15 λq=>?_⟩⟩
   omega
  ·refine he ?_
   have:=Mk.of q.1
   have:=this.rows1
   have hl:=q3w (m:=m) hlt
   unfold xv5
   rw[if_pos hv,if_pos (inB_iff.2 ⟨by omega,by omega⟩),if_neg (by omega)]
 ·obtain rfl:i=m.length:=by omega
  rw[x5r hv]; exact⟨rfl,rfl⟩
theorem w85:qd6 Tryz.prog 39 sRw:=by
 refine meets (w6g [] [28,33] (SpecsOk.cons q9y (SpecsOk.nil _))) Tryz.func39 rfl rfl (λx=>x6k x.1 6 21) (λ_=>by kernel_rfl) (by decide) ?_
 rintro⟨m,⟨⟩⟩ h
 revert m
 intro(m:List (List Int)) (h:q1q m)
 refine @qd9 _ (q1q m/\(((qu8 m).2 != (0:Int))=true->(rwR m).1=[]/\(qu8 m).2=(rwR m).2/\True)/\(((qu8 m).2 != (0:Int))=false->∃(v1:Unit),∃(v2:Nat),Nat.le v2 m.length/\((True/\(0:Int)=(↑v2:Int)/\True)/\q1w m v2=[]/\True)/\∀(v3:Nat),Nat.le v3 m.length->(decide ((↑v3:Int)<(↑m.length:Int))=true->((0:Int)<=(0:Int)/\(0:Int)<=(↑v3:Int)/\(↑v3:Int)<=(↑m.length:Int))/\Nat.le ((0:Nat)+(List.drop (0:Nat) (List.take v3 m)).length) (1000000:Nat)/\fits .i64 ((↑v3:Int)+(1:Int))/\((0:Int)<=(↑v3:Int)+(1:Int)/\(↑v3:Int)+(1:Int)<=(↑m.length:Int)/\(↑m.length:Int)<=(↑m.length:Int))/\Nat.le (([]++List.drop (0:Nat) (List.take v3 m)).length+(List.drop ((↑v3:Int)+(1:Int)).toNat (List.take (↑m.length:Int).toNat m)).length) (1000000:Nat)/\q1q ([]++List.drop (0:Nat) (List.take v3 m)++List.drop ((↑v3:Int)+(1:Int)).toNat (List.take (↑m.length:Int).toNat m))/\(((qu8 ([]++List.drop (0:Nat) (List.take v3 m)++List.drop ((↑v3:Int)+(1:Int)).toNat (List.take (↑m.length:Int).toNat m))).2==(0:Int))=true->(((qu8 ([]++List.drop (0:Nat) (List.take v3 m)++List.drop ((↑v3:Int)+(1:Int)).toNat (List.take (↑m.length:Int).toNat m))).1==(qu8 m).1)=true->((0:Nat)<List.length [(↑v3:Int)]/\Nat.le ((q1w m v3).length+List.length [(↑v3:Int)]) (1000000:Nat))/\fits .i64 ((↑v3:Int)+(1:Int))/\∃(v8:Nat),Nat.le v8 m.length/\m.length-v8<m.length-v3/\(True/\(↑v3:Int)+(1:Int)=(↑v8:Int)/\True)/\q1w m v3++[(↑v3:Int)]=q1w m v8/\True)/\(((qu8 ([]++List.drop (0:Nat) (List.take v3 m)++List.drop ((↑v3:Int)+(1:Int)).toNat (List.take (↑m.length:Int).toNat m))).1==(qu8 m).1)=false->fits .i64 ((↑v3:Int)+(1:Int))/\∃(v8:Nat),Nat.le v8 m.length/\m.length-v8<m.length-v3/\(True/\(↑v3:Int)+(1:Int)=(↑v8:Int)/\True)/\q1w m v3=q1w m v8/\True))/\(((qu8 ([]++List.drop (0:Nat) (List.take v3 m)++List.drop ((↑v3:Int)+(1:Int)).toNat (List.take (↑m.length:Int).toNat m))).2==(0:Int))=false->fits .i64 ((↑v3:Int)+(1:Int))/\∃(v7:Nat),Nat.le v7 m.length/\m.length-v7<m.length-v3/\(True/\(↑v3:Int)+(1:Int)=(↑v7:Int)/\True)/\q1w m v3=q1w m v7/\True))/\(decide ((↑v3:Int)<(↑m.length:Int))=false->q1w m v3=(rwR m).1/\(0:Int)=(rwR m).2/\True))) (by kernel_rfl) ?_
 try simp only[z0,z1,z2,z3,z4,z5,z6,z7,z8,z9,z10,Int.reduceEq,z11,z12,z13,z14,z15,z16,z17,z18,z19,z20,z21,z22,z23,z24,z25,z26,z27,z28,z29,z30,Int.reduceLE,Int.reduceLT,z31,z32,z33,z34,qa3]
 try simp only[qb4,qb5,qc0,z31,z32,z2,z1]
 refine⟨h,λhe=>?_,λhe=>?_⟩
 ·cases hv:validB m with
  | true=>exact absurd (by rw[show qu8 m=(((ordL m:Nat):Int),0) from if_pos hv]) he
  | false=>rw[x5q hv,show qu8 m=(0,1) from if_neg (by rw[hv]; decide)]; exact⟨rfl,rfl⟩
 have hv:validB m=true:=by
  cases hv:validB m with
  | true=>rfl
  | false=>rw[show qu8 m=(0,1) from if_neg (by rw[hv]; decide)] at he; cases he
 have hM:=Mk.of hv
 have m6:=hM.rows6
 refine⟨(),0,Nat.zero_le _,⟨rfl,rfl⟩,λi hi=>⟨λhlt=>?_,λhge=>?_⟩⟩
 ·have hle:=q5t m i
  have e1:((i:Int)+1).toNat=i+1:=by omega
  have e2:List.drop 0 (List.take i m)++List.drop ((i:Int)+1).toNat (List.take m.length m)=qs3 m i:=by rw[e1,List.take_length,List.drop_zero]; rfl
  have l1:(List.drop 0 (List.take i m)).length=i:=by rw[List.drop_zero,List.length_take]; omega
  have l2:(List.drop ((i:Int)+1).toNat (List.take m.length m)).length=m.length-(i+1):=by rw[e1,List.take_length,List.length_drop]
  rw[e2,l1,l2]
  have hF:q1q (qs3 m i):=⟨⟨by rw[q3w hlt]; omega,λj hj=>by
   obtain⟨k,hk,ek⟩:=List.getElem_of_mem (q75 (qi9 _ _ hj))
   rw[<- ek,<- qk2 m k hk]
   exact h.fit.each k hk⟩,λq=>by
   have q1:=(Mk.of q).rows1
   have hl:=q3w (m:=m) hlt
   rw[(q90 hv hlt (by omega)).2]; exact h.n7 hv⟩
  have f1:fits IntKind.i64 ((i:Int)+1):=qa6 (by omega) (by omega)
  refine⟨by omega,by omega,f1,⟨by omega,by omega,Nat.le_refl _⟩,by omega,hF,λh0=>?_,λh0=>⟨f1,i+1,hlt,by omega,by push_cast; rfl,w15 λq=>h0 (by rw[show qu8 (qs3 m i)=(((ordL (qs3 m i):Nat):Int),0) from if_pos q.1])⟩⟩
  have hd:validB (qs3 m i)=true:=by
   cases q:validB (qs3 m i) with
   | true=>rfl
   | false=>rw[show qu8 (qs3 m i)=(0,1) from if_neg (by rw[q]; decide)] at h0; cases h0
  rw[show qu8 (qs3 m i)=(((ordL (qs3 m i):Nat):Int),0) from if_pos hd,show qu8 m=(((ordL m:Nat):Int),0) from if_pos hv]
  exact⟨λhf=>⟨by omega,f1,i+1,hlt,by omega,by push_cast; rfl,xm7 ⟨hd,Int.ofNat.inj hf⟩⟩,λhf=>⟨f1,i+1,hlt,by omega,by push_cast; rfl,w15 λq=>hf (by rw[q.2])⟩⟩
 ·obtain rfl:i=m.length:=by omega
  rw[x5r hv]; exact⟨rfl,rfl⟩
open Go Go.RowKit Eng
structure qv2 (b:List (List Int)) (k:Nat):Prop where
 le:k<=b.length
 ok:∀i,i<k->(nL b i).length<=20
def xv8 (b:List (List Int)):Nat->Option Inv
 | 0=>some (Inv.of [40] 0 (λk:Nat=>[(40,.lit (.int .i64 k))]) (λ_=>[]) (λk=>qv2 b k) (λk=>b.length-k))
 | _=>none
abbrev x1v:qb9:=qg1 true none [tMask,tMask] [.bool] (λx=>wm4 x.1/\wm4 x.2.1) (λ_=>(true,()))
theorem q8i:qd6 Tryz.prog 7 x1v:=by
 refine meets (snd (SpecsOk.cons w3t (SpecsOk.cons w8s (SpecsOk.cons w8w (SpecsOk.cons w38 (SpecsOk.cons xi1 (SpecsOk.cons w8x (SpecsOk.cons xj2 (SpecsOk.cons w85 (SpecsOk.cons w39 (SpecsOk.nil _))))))))))) Tryz.func7 rfl rfl (λx=>xv8 x.2.1) (λ_=>by kernel_rfl) (by decide) ?_
 rintro⟨m,b,⟨⟩⟩ hh
 revert m b
 intro(m:List (List Int)) (b:List (List Int)) (hh:wm4 m/\wm4 b)
 refine @qd9 _ (let Q0:=w9b m b; m.length<=(9223372036854775807:Nat)/\((!w4h m)=true->True/\true=true)/\((!w4h m)=false->(decide ((5:Int)<(↑b.length:Int))=true->(decide ((↑b.length:Int)<=(20:Int))=true->True/\true=true)/\(decide ((↑b.length:Int)<=(20:Int))=false->(decide ((25:Int)<(↑b.length:Int))=true->True/\true=true)/\(decide ((25:Int)<(↑b.length:Int))=false->∃(v4:Unit),∃(v5:Nat),qv2 b v5/\(((0:Int)=(↑v5:Int)/\True)/\True)/\∀(v6:Nat),qv2 b v6->(decide ((↑v6:Int)<(↑b.length:Int))=true->((0:Int)<=(↑v6:Int)/\(↑v6:Int)<(↑b.length:Int))/\(decide ((20:Int)<(↑(nL b v6).length:Int))=true->True/\true=true)/\(decide ((20:Int)<(↑(nL b v6).length:Int))=false->fits .i64 ((↑v6:Int)+(1:Int))/\∃(v10:Nat),qv2 b v10/\b.length-v10<b.length-v6/\((↑v6:Int)+(1:Int)=(↑v10:Int)/\True)/\True))/\(decide ((↑v6:Int)<(↑b.length:Int))=false->BetPre m b/\BetPre m b/\q1q m/\q1q m/\q1q m/\q1q m/\((Q0.1==Q0.1)=true->((Q0.2==Q0.2)=true->(blR m).1.length<=(1000000:Nat)/\(decide ((blR m).1=(blR m).1)=true->(((blR m).2==(blR m).2)=true->(rwR m).1.length<=(1000000:Nat)/\(decide ((rwR m).1=(rwR m).1)=true->(((rwR m).2==(rwR m).2)=true->True/\true=true)/\(((rwR m).2==(rwR m).2)=false->false=true))/\(decide ((rwR m).1=(rwR m).1)=false->false=true))/\(((blR m).2==(blR m).2)=false->false=true))/\(decide ((blR m).1=(blR m).1)=false->false=true))/\((Q0.2==Q0.2)=false->false=true))/\((Q0.1==Q0.1)=false->false=true)))))/\(decide ((5:Int)<(↑b.length:Int))=false->(decide ((25:Int)<(↑b.length:Int))=true->True/\true=true)/\(decide ((25:Int)<(↑b.length:Int))=false->∃(v3:Unit),∃(v4:Nat),qv2 b v4/\(((0:Int)=(↑v4:Int)/\True)/\True)/\∀(v5:Nat),qv2 b v5->(decide ((↑v5:Int)<(↑b.length:Int))=true->((0:Int)<=(↑v5:Int)/\(↑v5:Int)<(↑b.length:Int))/\(decide ((20:Int)<(↑(nL b v5).length:Int))=true->True/\true=true)/\(decide ((20:Int)<(↑(nL b v5).length:Int))=false->fits .i64 ((↑v5:Int)+(1:Int))/\∃(v9:Nat),qv2 b v9/\b.length-v9<b.length-v5/\((↑v5:Int)+(1:Int)=(↑v9:Int)/\True)/\True))/\(decide ((↑v5:Int)<(↑b.length:Int))=false->BetPre m b/\BetPre m b/\q1q m/\q1q m/\q1q m/\q1q m/\((Q0.1==Q0.1)=true->((Q0.2==Q0.2)=true->(blR m).1.length<=(1000000:Nat)/\(decide ((blR m).1=(blR m).1)=true->(((blR m).2==(blR m).2)=true->(rwR m).1.length<=(1000000:Nat)/\(decide ((rwR m).1=(rwR m).1)=true->(((rwR m).2==(rwR m).2)=true->True/\true=true)/\(((rwR m).2==(rwR m).2)=false->false=true))/\(decide ((rwR m).1=(rwR m).1)=false->false=true))/\(((blR m).2==(blR m).2)=false->false=true))/\(decide ((blR m).1=(blR m).1)=false->false=true))/\((Q0.2==Q0.2)=false->false=true))/\((Q0.1==Q0.1)=false->false=true)))))) (by kernel_rfl) ?_
 try simp only[z0,z1,z2,z3,z4,z5,z6,z7,z8,z9,z10,Int.reduceEq,z11,z12,z13,z14,z15,z16,z17,z18,z19,z20,z21,z22,z23,z24,z25,z26,z27,z28,z29,z30,Int.reduceLE,Int.reduceLT,z31,z32,z33,z34,qa3]
 try simp only[qb4,qb5,qc0,z31,z32,z2,z1]
 refine⟨hh.1.rows,λh6=>?_⟩
 have hF:q1q m:=⟨hh.1,λhv=>xu4 h6 hv⟩
 have tr:(¬True->false=true):=λq=>absurd trivial q
 have hbl:(blR m).1.length<=1000000:=by
  cases hv:validB m with
  | true=>
   rw[x5o hv]
   have:=q5s m (nL m 0).length
   have:=hF.n7 hv
   show(q3y m (nL m 0).length).length<=_
   omega
  | false=>rw[x5n hv]; exact Nat.zero_le _
 have hrw:(rwR m).1.length<=1000000:=by
  cases hv:validB m with
  | true=>
   rw[x5r hv]
   have:=q5t m m.length
   have:=(Mk.of hv).rows6
   show(q1w m m.length).length<=_
   omega
  | false=>rw[x5q hv]; exact Nat.zero_le _
 have hB:b.length<=25->qv2 b b.length->BetPre m b:=λh1 h2=>⟨hF,by omega,λi hi=>by have:=h2.ok i hi; omega⟩
 have st:∀k,qv2 b k->k<b.length->((nL b k).length:Int)<=20->qv2 b (k+1):=λk hk hlt h=>⟨hlt,λi hi=>by
  by_cases e:i=k
  ·subst e; omega
  ·exact hk.ok i (by omega)⟩
 have z:qv2 b 0:=⟨Nat.zero_le _,λi hi=>absurd hi (Nat.not_lt_zero _)⟩
 have go:(b.length:Int)<=25->∀k,qv2 b k->(k<b.length->k<b.length/\(((nL b k).length:Int)<=20->fits IntKind.i64 ((k:Int)+1)/\∃j,qv2 b j/\b.length-j<b.length-k/\(k:Int)+1=(j:Int))):=λh25 k hk hlt=>⟨hlt,λh=>⟨qa6 (by omega) (by omega),k+1,st k hk hlt h,by omega,by push_cast; rfl⟩⟩
 have fin:(b.length:Int)<=25->∀k,qv2 b k->¬k<b.length->BetPre m b:=λh25 k hk hge=>by
  obtain rfl:k=b.length:=by have:=hk.le; omega
  exact hB (by omega) hk
 exact⟨λ_ _ h25=>⟨(),0,z,rfl,λk hk=>⟨go h25 k hk,λhge=>⟨fin h25 k hk hge,fin h25 k hk hge,hF,hF,hF,hF,⟨⟨hbl,⟨⟨hrw,tr,tr⟩,tr⟩,tr⟩,tr⟩,tr⟩⟩⟩,λ_ h25=>⟨(),0,z,rfl,λk hk=>⟨go h25 k hk,λhge=>⟨fin h25 k hk hge,fin h25 k hk hge,hF,hF,hF,hF,⟨⟨hbl,⟨⟨hrw,tr,tr⟩,tr⟩,tr⟩,tr⟩,tr⟩⟩⟩⟩
open Go.ChangeShapes Go.WideShapes Go.ChangeAt Go.RowKit Go.Deep Ls
theorem own:ownKnob Tryz.prog.godebug=none:=by kernel_rfl
theorem laidOut:laidOutB Tryz.prog=true:=by kernel_rfl
theorem x1w {H:Type} {enc:TypeId × Value->H} {W:World} {t e q:TypeId} {v:Value} {d:DataW H} {p:List MemPlace} (ht:Tryz.prog.underlying t=some (.slice e)) (he:Tryz.prog.underlying e=some (.slice q)) (hq:Tryz.prog.underlying q=some (.int .i64))
  (ce:Tryz.prog.cellsOf e=1) (cq:Tryz.prog.cellsOf q=1)
  (hv:∃a l c,v=.slice a l c) (h:DataW.Trod enc Tryz.prog W 0 (λ_=>true) true t v d p):∃a l c m,v=.slice a l c/\SM W a l c m:=by
 obtain⟨a,l,c,rfl⟩:=hv
 obtain⟨fuel,hf⟩:=h
 rcases open_int_rows ht he hq ce cq hf with⟨hcs,_⟩ | ⟨x,l',c',A,L,C,Z,hcs,_,hl,hm,_,hr⟩
 ·simp[Value.cells] at hcs
  obtain⟨rfl,rfl,rfl⟩:=hcs
  exact⟨_,_,_,[],rfl,SM.nil W⟩
 ·simp[Value.cells] at hcs
  obtain⟨rfl,rfl,rfl⟩:=hcs
  refine⟨_,_,_,(List.range l).map (λr=>(Z r).take (L r)),rfl,by simp,hl,hm,λ_=>⟨x,rfl,λk hk=>?_⟩⟩
  obtain⟨h1,h2,h3,h4,_,h6,h7⟩:=hr k (by omega)
  have e0:nthL ((List.range l).map (λr=>(Z r).take (L r))) k=(Z k).take (L k):=by simp[nthL,hk]
  have e1:((Z k).take (L k)).length=L k:=by simp; omega
  rw[e0,e1]
  refine⟨A k,C k,h1,e1,h2,h3,λhp=>?_⟩
  cases hA:A k with
  | none=>have:=h6 hA; omega
  | some a'=>
   refine⟨a',rfl,λj hj=>?_⟩
   rw[(h7 a' hA).2 j (by omega)]
   simp[nth,hj]
end Go.Proofs.YtempacilejhbgaaGreat
set_option linter.unusedVariables false
namespace Go.Proofs.YtempacilejhbgaaGreat
open Go Go.RowKit Eng Ls
theorem w86 {w:World} {A:Option Addr} {n c:Nat} {m:List (List Int)} (s:SM w A n c m):wm4 m:=by
 have hl:=s.len
 have hn:=s.nmax
 refine⟨by omega,λi hi=>?_⟩
 obtain⟨ad,_,h⟩:=s.at_ (by omega)
 obtain⟨A',c',_,h2⟩:=h i (by omega)
 have e:nL m i=nthL m i:=by
  rw[qk2 m i hi]
  unfold nthL
  rw[List.getD_eq_getElem?_getD,List.getElem?_eq_getElem hi]
  rfl
 rw[e]
 exact h2.nmax
end Go.Proofs.YtempacilejhbgaaGreat
