/- Rank and solutions: contracts by the engine. No condition. -/
import Derived.Test.YtmijnbjlhnpokaaGreatV11
set_option linter.unusedVariables false
set_option linter.unusedSimpArgs false
namespace Go.Proofs.YtmijnbjlhnpokaaGreat
open Go Go.RowKit Eng
structure Named (n:Nat) (pix:List Int):Prop where
 at_:∀j,j<pix.length->0<=nI pix j/\nI pix j<n
 asc:∀i j,i<j->j<pix.length->nI pix i<nI pix j
theorem Named.of {n:Nat} {pix:List Int} (h:w4b n pix=0):Named n pix:=by
 unfold w4b at h
 split at h
 ·cases h
 ·rename_i ha
  split at h
  ·cases h
  ·rename_i hb
   have ha:=wc8.1 (by cases e:xz0 pix with | true=>rfl | false=>exact absurd e ha)
   refine⟨λj hj=>?_,λi j hij hj=>?_⟩
   ·rw[Bool.not_eq_true,List.any_eq_false] at hb
    have:=hb (nI pix j) (by rw[qh0 pix j hj]; exact List.getElem_mem hj)
    have:=qh6.1 (by simpa using this)
    exact⟨this.1,by have:=this.2; omega⟩
   ·induction j with
    | zero=>omega
    | succ j ih=>
     have h1:=ha (j+1) (by omega) hj
     simp only[Nat.add_sub_cancel] at h1
     rcases Nat.lt_or_ge i j with h | h
     ·exact Int.lt_trans (ih h (by omega)) h1
     ·rw[show i=j by omega]; exact h1
theorem Named.gap {n:Nat} {pix:List Int} (h:Named n pix):∀j,j<pix.length->(j:Int)<=nI pix j
 | 0,hj=>by have:=(h.at_ 0 hj).1; omega
 | j+1,hj=>by have:=h.gap j (by omega); have:=h.asc j (j+1) (by omega) hj; omega
theorem Named.len {n:Nat} {pix:List Int} (h:Named n pix):pix.length<=n:=by
 rcases Nat.eq_zero_or_pos pix.length with e | e
 ·omega
 ·have h1:=h.gap (pix.length-1) (by omega)
  have h2:=(h.at_ (pix.length-1) (by omega)).2
  omega
theorem Named.idx (n:Nat):Named n (qp1 n):=by
 refine⟨λj hj=>?_,λi j hij hj=>?_⟩
 ·rw[qf1] at hj; rw[q0y _ _ hj]; omega
 ·rw[qf1] at hj; rw[q0y _ _ hj,q0y _ _ (by omega)]; omega
structure Asked (m:List (List Int)) (y pix:List Int):Prop where
 msk:Mk m
 val:qb9 m=true
 len:y.length=m.length
 out:xr6 y=false
 nam:Named (nL m 0).length pix
theorem Asked.of {m:List (List Int)} {y pix:List Int} (h:q17 m y pix=0):Asked m y pix:=by
 unfold q17 at h
 split at h
 ·cases h
 ·rename_i hv
  have hv:qb9 m=true:=by cases e:qb9 m with | true=>rfl | false=>exact absurd e hv
  split at h
  ·cases h
  ·rename_i hl
   split at h
   ·cases h
   ·rename_i ho
    unfold w77 at h
    rw[if_neg (by rw[hv]; decide)] at h
    exact⟨Mk.of hv,hv,Decidable.not_not.1 hl,by simpa using ho,Named.of h⟩
theorem Asked.at_ {m:List (List Int)} {y pix:List Int} (h:Asked m y pix) (i:Nat) (hi:i<m.length):qf0 1000000 (nI y i):=by
 have h1:=h.out
 unfold xr6 at h1
 rw[List.any_eq_false] at h1
 have:=h1 (nI y i) (by rw[qh0 y i (by rw[h.len]; exact hi)]; exact List.getElem_mem _)
 have:=qh6.1 (by simpa using this)
 exact⟨by have:=this.1; omega,this.2⟩
theorem ChoOk.of {m:List (List Int)} {pix:List Int} (hM:Mk m) (hn:Named (nL m 0).length pix) {p:qa4 [.int .i64]->Prop} {f:qa4 [.int .i64]->List Int} (hf:∀i:Nat,i<m.length->p ((i:Int),())/\(f ((i:Int),())).length<=10000):ChoOk m pix p f:=by
 have h1:=hM.rows6
 have h2:=hn.len
 have h3:=hM.pix10
 refine⟨by omega,by omega,λi hi j hj=>?_,hf⟩
 have:=hn.at_ j hj
 rw[hM.each i hi]
 exact this
structure w1s (m:List (List Int)):Prop where
 red:q4h (q2p m (qp1 (nL m 0).length)) (nL m 0).length (nL m 0).length
def qw8 (m:List (List Int)):Int × Int:=if qb9 m=false then(0,1) else((qj2 m (qp1 (nL m 0).length)).2.length,0)
abbrev x8e:qb4:=qf2 true none [qf3] [qd0,qd0] (λx=>qb9 x.1=true->w1s x.1) (λx=>((qw8 x.1).1,(qw8 x.1).2,()))
theorem w4m:Meets Tryz.prog 21 x8e:=by
 refine meets (xz6 [] [] (SpecsOk.cons qq1 (SpecsOk.cons q63 (SpecsOk.cons (q64 (fs:=[(73,xz1)]) (SpecsOk.cons q9k (SpecsOk.nil _))) (SpecsOk.nil _)))) (MutsOk.cons q68 MutsOk.nil)) Tryz.func21 rfl rfl (λ_ _=>none) (λ_=>by kernel_rfl) (by decide) ?_
 rintro⟨m,⟨⟩⟩ h
 revert m
 intro(m:List (List Int)) (h:qb9 m=true->w1s m)
 refine @qd1 _ (True/\((!qb9 m)=true->(0:Int)=(qw8 m).1/\(1:Int)=(qw8 m).2/\True)/\((!qb9 m)=false->((0:Int)<=(0:Int)/\(0:Int)<(↑m.length:Int))/\(↑(nL m (0:Nat)).length:Int)<=(100000:Ty.den qd0)/\∃(v1:qa4 [qd0]->Prop),∃(v2:qa4 [qd0]->List Int),(∀(v3:Int × qa4._f [] PUnit.unit),v1 v3->True/\[]=v2 v3)/\ChoOk m (qp1 (↑(nL m (0:Nat)).length:Int).toNat) v1 v2/\((0:Int)<=(0:Int)/\(0:Int)<(↑m.length:Int))/\((0:Ty.den qd0)<=(↑(nL m (0:Nat)).length:Int)/\∃(v3:Nat),q4h (qb3 m (qp1 (↑(nL m (0:Nat)).length:Int).toNat) λ(v4:Int)=>v2 (v4,())) (↑(nL m (0:Nat)).length:Int).toNat v3)/\(↑(qc7 (qb3 m (qp1 (↑(nL m (0:Nat)).length:Int).toNat) λ(v3:Int)=>v2 (v3,())) (↑(nL m (0:Nat)).length:Int).toNat).2.length:Int)=(qw8 m).1/\(0:Int)=(qw8 m).2/\True)) (by kernel_rfl) ?_
 try simp only[z0,z1,z2,z3,z4,z5,z6,z7,z8,z9,z10,Int.reduceEq,z11,z12,z13,z14,z15,z16,z17,z18,z19,z20,z21,z22,z23,z24,z25,z26,z27,z28,z29,z30,Int.reduceLE,Int.reduceLT,z31,z32,z33,z34,qa1]
 try simp only[qa7,qa8,qb5,z31,z32,z2,z1]
 refine⟨λhv=>by simp[qw8,hv],λhv=>?_⟩
 have hM:=Mk.of hv
 have h1:=hM.rows1
 have h2:=hM.pix10
 have hr:=(h hv).red
 have e:qw8 m=(((qj2 m (qp1 (nL m 0).length)).2.length:Int),0):=by simp[qw8,hv]
 rw[e]
 refine⟨by omega,by omega,λ_=>True,λ_=>[],λ_ _=>rfl,ChoOk.of hM (Named.idx _) λ_ _=>⟨trivial,Nat.zero_le _⟩,by omega,⟨_,hr⟩,?_,rfl⟩
 unfold qj2
 rw[qf1]
 rfl
def qf8 (m:List (List Int)) (pix y:List Int):List (List Int):=qb3 m pix λi=>[nI y i.toNat]
def ww7 (m:List (List Int)) (pix y:List Int):List (List Int) × List Int:=qc7 (qf8 m pix y) pix.length
def q8k (R:List (List Int)) (P:List Int) (n:Nat):Bool:=(List.range R.length).any λk=>decide (P.length<=k) && nI (nL R k) n != 0
def x5w (R:List (List Int)) (P:List Int) (n k:Nat):Int × Int:=ofR (nI (nL R k) n) (nI (nL R k) (nI P k).toNat)
def w8n (R:List (List Int)) (P:List Int) (n:Nat):List (Int × Int) × Int:=if q8k R P n then([],8) else if P.length<n then([],11) else((List.range P.length).map (x5w R P n),0)
def q8f (m:List (List Int)) (pix y:List Int):List (Int × Int) × Int:=if q17 m y pix=0 then w8n (ww7 m pix y).1 (ww7 m pix y).2 pix.length else([],q17 m y pix)
structure x8g (R:List (List Int)) (P:List Int) (n:Nat):Prop where
 nz:∀k,k<P.length->nI (nL R k) (nI P k).toNat≠0
 bigD:∀k,k<P.length->qf0 BIG (nI (nL R k) (nI P k).toNat)
 bigN:∀k,k<P.length->qf0 BIG (nI (nL R k) n)
structure x8h (m:List (List Int)) (pix y:List Int):Prop where
 red:q4h (qf8 m pix y) pix.length (pix.length+1)
 ar:x8g (ww7 m pix y).1 (ww7 m pix y).2 pix.length
structure q3q (m:List (List Int)) (pix y:List Int):Prop where
 len:pix.length<=1000000
 ok:q17 m y pix=0->x8h m pix y
abbrev yk2:qb4:=qf2 true (some 60) [qf3,qe8,qe8] [x7w,qd0] (λx=>q3q x.1 x.2.1 x.2.2.1) (λx=>((q8f x.1 x.2.1 x.2.2.1).1,(q8f x.1 x.2.1 x.2.2.1).2,()))
structure w8o (R:List (List Int)) (P:List Int) (n k:Nat) (l:List (Int × Int)):Prop where
 le:k<=R.length
 eq:l=(List.range (min k P.length)).map (x5w R P n)
 no:∀i,P.length<=i->i<k->nI (nL R i) n=0
def x8i (m:List (List Int)) (pix y:List Int):Nat->Option Inv
 | 0=>some (Inv.of [10,12,31,33] 3 (λs:Nat × List (Int × Int)=>[(10,.msl 1 .none),(12,.own 2),(31,.msl 1 .none),(33,.lit (.int .i64 s.1))]) (λs=>[.box 34 (.cons (.dat (.int .i64) y) .nil),.mat 34 3 (.int .i64) (ww7 m pix y).1 .none .none,.vec 60 (.prod (.int .i64) (.int .i64)) s.2]) (λs=>w8o (ww7 m pix y).1 (ww7 m pix y).2 pix.length s.1 s.2) (λs=>(ww7 m pix y).1.length-s.1))
 | _=>none
theorem w8p:Meets Tryz.prog 238 yk2:=by
 refine meets (xz6 [] [] (SpecsOk.cons wm3 (SpecsOk.cons (q64 (fs:=[(249,x3r)]) (SpecsOk.cons w4c (SpecsOk.nil _))) (SpecsOk.cons w1o (SpecsOk.nil _)))) (MutsOk.cons q68 MutsOk.nil)) Tryz.func238 rfl rfl (λx=>x8i x.1 x.2.1 x.2.2.1) (λ_=>by kernel_rfl) (by decide) ?_
 rintro⟨m,pix,y,⟨⟩⟩ h
 revert m pix y
 intro(m:List (List Int)) (pix:List Int) (y:List Int) (h:q3q m pix y)
 refine @qd1 _ (let Q0:=ww7 m pix y; let Q1:=q8f m pix y; let Q2:=Int × Int; pix.length<=(1000000:Nat)/\((q17 m y pix != (0:Int))=true->Q1.1=[]/\q17 m y pix=Q1.2/\True)/\((q17 m y pix != (0:Int))=false->∃(v1:qa4 [qd0]->Prop),∃(v2:qa4 [qd0]->List Int),(∀(v3:Int × qa4._f [] PUnit.unit),v1 v3->((0:PTy.den (PTy.d qd0))<=v3.1/\v3.1<(↑y.length:PTy.den (PTy.d qd0)))/\[nI y v3.1.toNat]=v2 v3)/\ChoOk m pix v1 v2/\((0:Ty.den qd0)<=(↑pix.length:Int)/\∃(v3:Nat),q4h (qb3 m pix λ(v4:Int)=>v2 (v4,())) (↑pix.length:Int).toNat v3)/\∃(v3:Unit),∃(v4:Nat × List Q2),w8o Q0.1 Q0.2 pix.length v4.1 v4.2/\((True/\True/\True/\(0:Int)=(↑v4.1:Int)/\True)/\(y=y/\True)/\((qc7 (qb3 m pix λ(v5:Int)=>v2 (v5,())) (↑pix.length:Int).toNat).1=Q0.1/\True/\True)/\v4.2=[]/\True)/\∀(v5:Nat × List Q2),w8o Q0.1 Q0.2 pix.length v5.1 v5.2->(decide ((↑v5.1:Int)<(↑(qe2 (qc7 (qb3 m pix λ(v8:Int)=>v2 (v8,())) (↑pix.length:Int).toNat).1.length none):Int))=true->((0:Int)<=(↑v5.1:Int)/\(↑v5.1:Int)<(↑(qe2 Q0.1.length none):Int))/\(↑v5.1:Int).toNat<qe2 Q0.1.length none/\(decide ((↑v5.1:Int)<(↑(qc7 (qb3 m pix λ(v9:Int)=>v2 (v9,())) (↑pix.length:Int).toNat).2.length:Int))=true->((0:Int)<=(↑pix.length:Int)/\(↑pix.length:Int)<(↑(nL Q0.1 (qe7 none (↑v5.1:Int).toNat)).length:Int))/\(↑pix.length:Int).toNat<(nL Q0.1 (qe7 none (↑v5.1:Int).toNat)).length/\((0:Int)<=(↑v5.1:Int)/\(↑v5.1:Int)<(↑(qc7 (qb3 m pix λ(v9:Int)=>v2 (v9,())) (↑pix.length:Int).toNat).2.length:Int))/\((0:Int)<=nI (qc7 (qb3 m pix λ(v9:Int)=>v2 (v9,())) (↑pix.length:Int).toNat).2 (↑v5.1:Int).toNat/\nI (qc7 (qb3 m pix λ(v9:Int)=>v2 (v9,())) (↑pix.length:Int).toNat).2 (↑v5.1:Int).toNat<(↑(nL Q0.1 (qe7 none (↑v5.1:Int).toNat)).length:Int))/\(nI (qc7 (qb3 m pix λ(v9:Int)=>v2 (v9,())) (↑pix.length:Int).toNat).2 (↑v5.1:Int).toNat).toNat<(nL Q0.1 (qe7 none (↑v5.1:Int).toNat)).length/\(((-4000000000000000000:Int)<=nI (nL Q0.1 (qe7 none (↑v5.1:Int).toNat)) (↑pix.length:Int).toNat/\nI (nL Q0.1 (qe7 none (↑v5.1:Int).toNat)) (↑pix.length:Int).toNat<=BIG)/\((-4000000000000000000:Int)<=nI (nL Q0.1 (qe7 none (↑v5.1:Int).toNat)) (nI (qc7 (qb3 m pix λ(v9:Int)=>v2 (v9,())) (↑pix.length:Int).toNat).2 (↑v5.1:Int).toNat).toNat/\nI (nL Q0.1 (qe7 none (↑v5.1:Int).toNat)) (nI (qc7 (qb3 m pix λ(v9:Int)=>v2 (v9,())) (↑pix.length:Int).toNat).2 (↑v5.1:Int).toNat).toNat<=BIG)/\nI (nL Q0.1 (qe7 none (↑v5.1:Int).toNat)) (nI (qc7 (qb3 m pix λ(v9:Int)=>v2 (v9,())) (↑pix.length:Int).toNat).2 (↑v5.1:Int).toNat).toNat≠(0:Ty.den qd0))/\((0:Nat)<List.length [((ofR (nI (nL Q0.1 (qe7 none (↑v5.1:Int).toNat)) (↑pix.length:Int).toNat) (nI (nL Q0.1 (qe7 none (↑v5.1:Int).toNat)) (nI (qc7 (qb3 m pix λ(v9:Int)=>v2 (v9,())) (↑pix.length:Int).toNat).2 (↑v5.1:Int).toNat).toNat)).1,(ofR (nI (nL Q0.1 (qe7 none (↑v5.1:Int).toNat)) (↑pix.length:Int).toNat) (nI (nL Q0.1 (qe7 none (↑v5.1:Int).toNat)) (nI (qc7 (qb3 m pix λ(v9:Int)=>v2 (v9,())) (↑pix.length:Int).toNat).2 (↑v5.1:Int).toNat).toNat)).2)]/\Nat.le (v5.2.length+List.length [((ofR (nI (nL Q0.1 (qe7 none (↑v5.1:Int).toNat)) (↑pix.length:Int).toNat) (nI (nL Q0.1 (qe7 none (↑v5.1:Int).toNat)) (nI (qc7 (qb3 m pix λ(v9:Int)=>v2 (v9,())) (↑pix.length:Int).toNat).2 (↑v5.1:Int).toNat).toNat)).1,(ofR (nI (nL Q0.1 (qe7 none (↑v5.1:Int).toNat)) (↑pix.length:Int).toNat) (nI (nL Q0.1 (qe7 none (↑v5.1:Int).toNat)) (nI (qc7 (qb3 m pix λ(v9:Int)=>v2 (v9,())) (↑pix.length:Int).toNat).2 (↑v5.1:Int).toNat).toNat)).2)]) (1000000:Nat))/\fits .i64 ((↑v5.1:Int)+(1:Int))/\∃(v9:Nat × List Q2),w8o Q0.1 Q0.2 pix.length v9.1 v9.2/\Q0.1.length-v9.1<Q0.1.length-v5.1/\(True/\True/\True/\(↑v5.1:Int)+(1:Int)=(↑v9.1:Int)/\True)/\(y=y/\True)/\(Q0.1=Q0.1/\True/\True)/\v5.2++[((ofR (nI (nL Q0.1 (qe7 none (↑v5.1:Int).toNat)) (↑pix.length:Int).toNat) (nI (nL Q0.1 (qe7 none (↑v5.1:Int).toNat)) (nI (qc7 (qb3 m pix λ(v10:Int)=>v2 (v10,())) (↑pix.length:Int).toNat).2 (↑v5.1:Int).toNat).toNat)).1,(ofR (nI (nL Q0.1 (qe7 none (↑v5.1:Int).toNat)) (↑pix.length:Int).toNat) (nI (nL Q0.1 (qe7 none (↑v5.1:Int).toNat)) (nI (qc7 (qb3 m pix λ(v10:Int)=>v2 (v10,())) (↑pix.length:Int).toNat).2 (↑v5.1:Int).toNat).toNat)).2)]=v9.2/\True)/\(decide ((↑v5.1:Int)<(↑(qc7 (qb3 m pix λ(v9:Int)=>v2 (v9,())) (↑pix.length:Int).toNat).2.length:Int))=false->((0:Int)<=(↑pix.length:Int)/\(↑pix.length:Int)<(↑(nL Q0.1 (qe7 none (↑v5.1:Int).toNat)).length:Int))/\(↑pix.length:Int).toNat<(nL Q0.1 (qe7 none (↑v5.1:Int).toNat)).length/\((nI (nL Q0.1 (qe7 none (↑v5.1:Int).toNat)) (↑pix.length:Int).toNat != (0:Int))=true->Q1.1=[]/\(8:Int)=Q1.2/\True)/\((nI (nL Q0.1 (qe7 none (↑v5.1:Int).toNat)) (↑pix.length:Int).toNat != (0:Int))=false->fits .i64 ((↑v5.1:Int)+(1:Int))/\∃(v10:Nat × List Q2),w8o Q0.1 Q0.2 pix.length v10.1 v10.2/\Q0.1.length-v10.1<Q0.1.length-v5.1/\(True/\True/\True/\(↑v5.1:Int)+(1:Int)=(↑v10.1:Int)/\True)/\(y=y/\True)/\(Q0.1=Q0.1/\True/\True)/\v5.2=v10.2/\True)))/\(decide ((↑v5.1:Int)<(↑(qe2 (qc7 (qb3 m pix λ(v8:Int)=>v2 (v8,())) (↑pix.length:Int).toNat).1.length none):Int))=false->(decide ((↑(qc7 (qb3 m pix λ(v9:Int)=>v2 (v9,())) (↑pix.length:Int).toNat).2.length:Int)<(↑pix.length:Int))=true->Q1.1=[]/\(11:Int)=Q1.2/\True)/\(decide ((↑(qc7 (qb3 m pix λ(v9:Int)=>v2 (v9,())) (↑pix.length:Int).toNat).2.length:Int)<(↑pix.length:Int))=false->v5.2=Q1.1/\(0:Int)=Q1.2/\True)))) (by kernel_rfl) ?_
 try simp only[z0,z1,z2,z3,z4,z5,z6,z7,z8,z9,z10,Int.reduceEq,z11,z12,z13,z14,z15,z16,z17,z18,z19,z20,z21,z22,z23,z24,z25,z26,z27,z28,z29,z30,Int.reduceLE,Int.reduceLT,z31,z32,z33,z34,qa1]
 try simp only[qa7,qa8,qb5,z31,z32,z2,z1]
 refine⟨h.len,λhe=>by simp[q8f,he],λhe=>?_⟩
 have hA:=Asked.of he
 have hO:=h.ok he
 have e:q8f m pix y=w8n (ww7 m pix y).1 (ww7 m pix y).2 pix.length:=by rw[q8f,if_pos he]
 rw[e]
 refine⟨λx=>0<=x.1/\x.1<y.length,λx=>[nI y x.1.toNat],λx hx=>⟨hx,rfl⟩,ChoOk.of hA.msk hA.nam λi hi=>⟨⟨Int.natCast_nonneg _,Int.ofNat_lt.2 (by have:=hA.len; omega)⟩,by simp⟩,?_⟩
 dsimp only
 have hkr:qc7 (qb3 m pix λv4=>[nI y v4.toNat]) pix.length=ww7 m pix y:=rfl
 have hred:q4h (qb3 m pix λv4=>[nI y v4.toNat]) pix.length (pix.length+1):=hO.red
 have hsh:=q1o hred pix.length
 have hpv:=q3p (qb3 m pix λv4=>[nI y v4.toNat]) pix.length
 have har:=hO.ar
 have hcl:(qb3 m pix λv4=>[nI y v4.toNat]).length=m.length:=qp5 _ _ _
 have hm6:=hA.msk.rows6
 have hn10:=hA.msk.pix10
 have hpn:=hA.nam.len
 rw[hkr] at hsh hpv ⊢
 rw[hcl] at hsh
 refine⟨⟨_,hred⟩,?_⟩
 clear hkr hred hcl e
 generalize ww7 m pix y=K at *
 obtain⟨R,P⟩:=K
 dsimp only at hpv har ⊢
 have hRn:=hsh.cnt
 have hRe:=hsh.each
 have hPn:=hsh.piv
 have hPj:=hsh.pivj
 dsimp only at hRn hRe hPn hPj
 simp only[q4i,q66]
 have hPk:∀k,k<P.length->0<=nI P k/\nI P k<pix.length:=λk hk=>hpv _ (by rw[qh0 P k hk]; exact List.getElem_mem hk)
 refine⟨(),(0,[]),⟨Nat.zero_le _,by simp,λi h1 h2=>absurd h2 (Nat.not_lt_zero _)⟩,⟨rfl,by first | rfl | trivial,rfl⟩,?_⟩
 rintro⟨k,l⟩ ⟨k1,k2,k3⟩
 dsimp only at k1 k2 k3 ⊢
 refine⟨λhlt=>⟨hlt,hlt,λhp=>?_,λhp=>?_⟩,λhge=>?_⟩
 ·have hr:=hRe k (by omega)
  have hq:=hPk k hp
  have hp':0<=nI P k/\nI P k<((nL R k).length:Int):=⟨hq.1,by omega⟩
  have hll:l.length=k:=by rw[k2]; simp; omega
  refine⟨by omega,by omega,by omega,hp',by omega,⟨har.bigN k hp,har.bigD k hp,har.nz k hp⟩,by omega,qb8 (by omega) (by omega),(k+1,l++[x5w R P pix.length k]),⟨by dsimp only; omega,?_,λi h1 h2=>by dsimp only at h2; omega⟩,by dsimp only; omega,by dsimp only; omega,rfl⟩
  dsimp only
  rw[k2,show min (k+1) P.length=min k P.length+1 by omega,List.range_succ,List.map_append,show min k P.length=k by omega]
  rfl
 ·have hr:=hRe k (by omega)
  refine⟨by omega,by omega,λhz=>?_,λhz=>?_⟩
  ·have:q8k R P pix.length=true:=by
    unfold q8k
    rw[List.any_eq_true]
    refine⟨k,List.mem_range.2 hlt,?_⟩
    rw[Bool.and_eq_true,decide_eq_true_eq]
    exact⟨by omega,bne_iff_ne.2 hz⟩
   simp[w8n,this]
  ·refine⟨qb8 (by omega) (by omega),(k+1,l),⟨by dsimp only; omega,?_,λi h1 h2=>?_⟩,by dsimp only; omega,by dsimp only; omega,rfl⟩
   ·dsimp only
    rw[k2,show min (k+1) P.length=min k P.length by omega]
   ·dsimp only at h2
    by_cases e:i=k
    ·subst e; exact hz
    ·exact k3 i h1 (by omega)
 ·obtain rfl:k=R.length:=by omega
  have hno:q8k R P pix.length=false:=by
   unfold q8k
   rw[List.any_eq_false]
   intro i hi
   have hi:=List.mem_range.1 hi
   rw[Bool.and_eq_true,decide_eq_true_eq]
   rintro⟨h1,h2⟩
   exact(bne_iff_ne.1 h2) (k3 i h1 hi)
  refine⟨λh1=>by simp[w8n,hno,h1],λh1=>?_⟩
  rw[w8n,hno,if_neg (by decide),if_neg h1]
  refine⟨?_,rfl⟩
  rw[k2,show min R.length P.length=P.length by omega]
end Go.Proofs.YtmijnbjlhnpokaaGreat
