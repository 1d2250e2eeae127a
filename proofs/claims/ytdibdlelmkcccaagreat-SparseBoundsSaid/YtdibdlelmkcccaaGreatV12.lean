/- Rank and solutions: contracts by the engine. No condition. -/
import Derived.Test.YtdibdlelmkcccaaGreatV11
set_option linter.unusedVariables false
set_option linter.unusedSimpArgs false
namespace Go.Proofs.YtdibdlelmkcccaaGreat
open Go Go.RowKit Eng
structure Named (n:Nat) (pix:List Int):Prop where
 at_:∀j,j<pix.length->0<=nI pix j/\nI pix j<n
 asc:∀i j,i<j->j<pix.length->nI pix i<nI pix j
theorem Named.of {n:Nat} {pix:List Int} (h:q42 n pix=0):Named n pix:=by
 unfold q42 at h
 split at h
 ·cases h
 ·rename_i ha
  split at h
  ·cases h
  ·rename_i hb
   have ha:=wc3.1 (by cases e:wh4 pix with | true=>rfl | false=>exact absurd e ha)
   refine⟨λj hj=>?_,λi j hij hj=>?_⟩
   ·rw[Bool.not_eq_true,List.any_eq_false] at hb
    have:=hb (nI pix j) (by rw[qh7 pix j hj]; exact List.getElem_mem hj)
    have:=inB_iff.1 (by simpa using this)
    exact⟨this.1,by have:=this.2; omega⟩
   ·induction j with
    | zero=>omega
    | succ j ih=>
     have h1:=ha (j+1) (by omega) hj
     simp only[Nat.add_sub_cancel] at h1
     rcases Nat.lt_or_ge i j with h | h
     ·exact Int.lt_trans (ih h (by omega)) h1
     ·rw[show i=j by omega]; exact h1
theorem Named.gap {n:Nat} {pix:List Int} (h:Named n pix):∀j,j<pix.length->(j:Int)<=nI pix j
 | 0,hj=>by have:=(h.at_ 0 hj).1; omega
 | j+1,hj=>by have:=h.gap j (by omega); have:=h.asc j (j+1) (by omega) hj; omega
theorem Named.len {n:Nat} {pix:List Int} (h:Named n pix):pix.length<=n:=by
 rcases Nat.eq_zero_or_pos pix.length with e | e
 ·omega
 ·have h1:=h.gap (pix.length-1) (by omega)
  have h2:=(h.at_ (pix.length-1) (by omega)).2
  omega
theorem Named.idx (n:Nat):Named n (q0l n):=by
 refine⟨λj hj=>?_,λi j hij hj=>?_⟩
 ·rw[qk0] at hj; rw[q6o _ _ hj]; omega
 ·rw[qk0] at hj; rw[q6o _ _ hj,q6o _ _ (by omega)]; omega
structure Asked (m:List (List Int)) (y pix:List Int):Prop where
 msk:Mk m
 val:validB m=true
 len:y.length=m.length
 out:xl6 y=false
 nam:Named (nL m 0).length pix
theorem Asked.of {m:List (List Int)} {y pix:List Int} (h:q1i m y pix=0):Asked m y pix:=by
 unfold q1i at h
 split at h
 ·cases h
 ·rename_i hv
  have hv:validB m=true:=by cases e:validB m with | true=>rfl | false=>exact absurd e hv
  split at h
  ·cases h
  ·rename_i hl
   split at h
   ·cases h
   ·rename_i ho
    unfold wh5 at h
    rw[if_neg (by rw[hv]; decide)] at h
    exact⟨Mk.of hv,hv,Decidable.not_not.1 hl,by simpa using ho,Named.of h⟩
theorem Asked.at_ {m:List (List Int)} {y pix:List Int} (h:Asked m y pix) (i:Nat) (hi:i<m.length):qg3 1000000 (nI y i):=by
 have h1:=h.out
 unfold xl6 at h1
 rw[List.any_eq_false] at h1
 have:=h1 (nI y i) (by rw[qh7 y i (by rw[h.len]; exact hi)]; exact List.getElem_mem _)
 have:=inB_iff.1 (by simpa using this)
 exact⟨by have:=this.1; omega,this.2⟩
theorem ChoOk.of {m:List (List Int)} {pix:List Int} (hM:Mk m) (hn:Named (nL m 0).length pix) {p:qa5 [.int .i64]->Prop} {f:qa5 [.int .i64]->List Int} (hf:∀i:Nat,i<m.length->p ((i:Int),())/\(f ((i:Int),())).length<=10000):ChoOk m pix p f:=by
 have h1:=hM.rows6
 have h2:=hn.len
 have h3:=hM.pix10
 refine⟨by omega,by omega,λi hi j hj=>?_,hf⟩
 have:=hn.at_ j hj
 rw[hM.each i hi]
 exact this
structure wn0 (m:List (List Int)):Prop where
 red:q43 (qu1 m (q0l (nL m 0).length)) (nL m 0).length (nL m 0).length
def qw5 (m:List (List Int)):Int × Int:=if validB m=false then(0,1) else((qi6 m (q0l (nL m 0).length)).2.length,0)
abbrev x45:qc0:=qf8 true none [tMask] [tInt,tInt] (λx=>validB x.1=true->wn0 x.1) (λx=>((qw5 x.1).1,(qw5 x.1).2,()))
theorem w3z:qd3 Tryz.prog 169 x45:=by
 refine meets (xr9 [] [] (SpecsOk.cons q26 (SpecsOk.cons wm3 (SpecsOk.cons (q6p (fs:=[(145,xr4)]) (SpecsOk.cons q8w (SpecsOk.nil _))) (SpecsOk.nil _)))) (MutsOk.cons q6t MutsOk.nil)) Tryz.func169 rfl rfl (λ_ _=>none) (λ_=>by kernel_rfl) (by decide) ?_
 rintro⟨m,⟨⟩⟩ h
 revert m
 intro(m:List (List Int)) (h:validB m=true->wn0 m)
 refine @qd8 _ (True/\((!validB m)=true->(0:Int)=Prod.fst (qw5 m)/\(1:Int)=Prod.snd (qw5 m)/\True)/\((!validB m)=false->((0:Int)<=(0:Int)/\(0:Int)<(↑(List.length m):Int))/\(↑(List.length (qa1 (Ty.list (Ty.int .i64)) m (0:Nat))):Int)<=(100000:Ty.den tInt)/\∃(v1:qa5 [tInt]->Prop),∃(v2:qa5 [tInt]->List Int),(∀(v3:Int × qa5._f [] PUnit.unit),v1 v3->True/\[]=v2 v3)/\ChoOk m (q0l (Int.toNat (↑(List.length (qa1 (Ty.list (Ty.int .i64)) m (0:Nat))):Int))) v1 v2/\((0:Int)<=(0:Int)/\(0:Int)<(↑(List.length m):Int))/\((0:Ty.den tInt)<=(↑(List.length (qa1 (Ty.list (Ty.int .i64)) m (0:Nat))):Int)/\∃(v3:Nat),q43 (qb3 m (q0l (Int.toNat (↑(List.length (qa1 (Ty.list (Ty.int .i64)) m (0:Nat))):Int))) λ(v4:Int)=>v2 (v4,())) (Int.toNat (↑(List.length (qa1 (Ty.list (Ty.int .i64)) m (0:Nat))):Int)) v3)/\(↑(List.length (Prod.snd (qc7 (qb3 m (q0l (Int.toNat (↑(List.length (qa1 (Ty.list (Ty.int .i64)) m (0:Nat))):Int))) λ(v3:Int)=>v2 (v3,())) (Int.toNat (↑(List.length (qa1 (Ty.list (Ty.int .i64)) m (0:Nat))):Int))))):Int)=Prod.fst (qw5 m)/\(0:Int)=Prod.snd (qw5 m)/\True)) (by kernel_rfl) ?_
 try simp only[z0,z1,z2,z3,z4,z5,z6,z7,z8,z9,z10,Int.reduceEq,z11,z12,z13,z14,z15,z16,z17,z18,z19,z20,z21,z22,z23,z24,z25,z26,z27,z28,z29,z30,Int.reduceLE,Int.reduceLT,z31,z32,z33,z34,qa4]
 try simp only[qb6,qb7,qc8,List.set_cons_zero,List.cons.injEq,and_true,true_and]
 refine⟨λhv=>by simp[qw5,hv],λhv=>?_⟩
 have hM:=Mk.of hv
 have h1:=hM.rows1
 have h2:=hM.pix10
 have hr:=(h hv).red
 have e:qw5 m=(((qi6 m (q0l (nL m 0).length)).2.length:Int),0):=by simp[qw5,hv]
 rw[e]
 refine⟨by omega,by omega,λ_=>True,λ_=>[],λ_ _=>rfl,ChoOk.of hM (Named.idx _) λ_ _=>⟨trivial,Nat.zero_le _⟩,by omega,⟨_,hr⟩,?_,rfl⟩
 unfold qi6
 rw[qk0]
 rfl
def qg2 (m:List (List Int)) (pix y:List Int):List (List Int):=qb3 m pix λi=>[nI y i.toNat]
def wq8 (m:List (List Int)) (pix y:List Int):List (List Int) × List Int:=qc7 (qg2 m pix y) pix.length
def q78 (R:List (List Int)) (P:List Int) (n:Nat):Bool:=(List.range R.length).any λk=>decide (P.length<=k) && nI (nL R k) n != 0
def x2w (R:List (List Int)) (P:List Int) (n k:Nat):Int × Int:=ofR (nI (nL R k) n) (nI (nL R k) (nI P k).toNat)
def w7j (R:List (List Int)) (P:List Int) (n:Nat):List (Int × Int) × Int:=if q78 R P n then([],8) else if P.length<n then([],11) else((List.range P.length).map (x2w R P n),0)
def q70 (m:List (List Int)) (pix y:List Int):List (Int × Int) × Int:=if q1i m y pix=0 then w7j (wq8 m pix y).1 (wq8 m pix y).2 pix.length else([],q1i m y pix)
structure x46 (R:List (List Int)) (P:List Int) (n:Nat):Prop where
 nz:∀k,k<P.length->nI (nL R k) (nI P k).toNat≠0
 bigD:∀k,k<P.length->qg3 BIG (nI (nL R k) (nI P k).toNat)
 bigN:∀k,k<P.length->qg3 BIG (nI (nL R k) n)
structure x47 (m:List (List Int)) (pix y:List Int):Prop where
 red:q43 (qg2 m pix y) pix.length (pix.length+1)
 ar:x46 (wq8 m pix y).1 (wq8 m pix y).2 pix.length
structure q3b (m:List (List Int)) (pix y:List Int):Prop where
 len:pix.length<=1000000
 ok:q1i m y pix=0->x47 m pix y
abbrev x9r:qc0:=qf8 true (some 42) [tMask,tInts,tInts] [wt3,tInt] (λx=>q3b x.1 x.2.1 x.2.2.1) (λx=>((q70 x.1 x.2.1 x.2.2.1).1,(q70 x.1 x.2.1 x.2.2.1).2,()))
structure w7k (R:List (List Int)) (P:List Int) (n k:Nat) (l:List (Int × Int)):Prop where
 le:k<=R.length
 eq:l=(List.range (min k P.length)).map (x2w R P n)
 no:∀i,P.length<=i->i<k->nI (nL R i) n=0
def x48 (m:List (List Int)) (pix y:List Int):Nat->Option Inv
 | 0=>some (Inv.of [10,12,31,33] 3 (λs:Nat × List (Int × Int)=>[(10,.msl 1 .none),(12,.own 2),(31,.msl 1 .none),(33,.lit (.int .i64 s.1))]) (λs=>[.box 24 (.cons (.dat (.int .i64) y) .nil),.mat 24 3 (.int .i64) (wq8 m pix y).1 .none .none,.vec 42 (.prod (.int .i64) (.int .i64)) s.2]) (λs=>w7k (wq8 m pix y).1 (wq8 m pix y).2 pix.length s.1 s.2) (λs=>(wq8 m pix y).1.length-s.1))
 | _=>none
theorem w7l:qd3 Tryz.prog 185 x9r:=by
 refine meets (xr9 [] [] (SpecsOk.cons wm0 (SpecsOk.cons (q6p (fs:=[(192,x0x)]) (SpecsOk.cons w3p (SpecsOk.nil _))) (SpecsOk.cons xd2 (SpecsOk.nil _)))) (MutsOk.cons q6t MutsOk.nil)) Tryz.func185 rfl rfl (λx=>x48 x.1 x.2.1 x.2.2.1) (λ_=>by kernel_rfl) (by decide) ?_
 rintro⟨m,pix,y,⟨⟩⟩ h
 revert m pix y
 intro(m:List (List Int)) (pix:List Int) (y:List Int) (h:q3b m pix y)
 refine @qd8 _ (let Q0:=Prod.fst (wq8 m pix y); let Q1:=List.length pix; let Q2:=wq8 m pix y; let Q3:=q70 m pix y; let Q4:=Prod.snd Q2; let Q5:=Int × Int; List.length pix<=(1000000:Nat)/\((q1i m y pix != (0:Int))=true->Prod.fst Q3=[]/\q1i m y pix=Prod.snd Q3/\True)/\((q1i m y pix != (0:Int))=false->∃(v1:qa5 [tInt]->Prop),∃(v2:qa5 [tInt]->List Int),(∀(v3:Int × qa5._f [] PUnit.unit),v1 v3->((0:PTy.den (PTy.d tInt))<=Prod.fst v3/\Prod.fst v3<(↑(List.length y):PTy.den (PTy.d tInt)))/\[nI y (Int.toNat (Prod.fst v3))]=v2 v3)/\ChoOk m pix v1 v2/\((0:Ty.den tInt)<=(↑Q1:Int)/\∃(v3:Nat),q43 (qb3 m pix λ(v4:Int)=>v2 (v4,())) (Int.toNat (↑Q1:Int)) v3)/\∃(v3:Unit),∃(v4:Nat × List Q5),w7k Q0 Q4 Q1 (Prod.fst v4) (Prod.snd v4)/\((True/\True/\True/\(0:Int)=(↑(Prod.fst v4):Int)/\True)/\(y=y/\True)/\(Prod.fst (qc7 (qb3 m pix λ(v5:Int)=>v2 (v5,())) (Int.toNat (↑Q1:Int)))=Prod.fst Q2/\True/\True)/\Prod.snd v4=[]/\True)/\∀(v5:Nat × List Q5),w7k Q0 Q4 Q1 (Prod.fst v5) (Prod.snd v5)->(decide ((↑(Prod.fst v5):Int)<(↑(qe9 (List.length (Prod.fst (qc7 (qb3 m pix λ(v8:Int)=>v2 (v8,())) (Int.toNat (↑Q1:Int))))) none):Int))=true->((0:Int)<=(↑(Prod.fst v5):Int)/\(↑(Prod.fst v5):Int)<(↑(qe9 (List.length Q0) none):Int))/\Int.toNat (↑(Prod.fst v5):Int)<qe9 (List.length Q0) none/\(decide ((↑(Prod.fst v5):Int)<(↑(List.length (Prod.snd (qc7 (qb3 m pix λ(v9:Int)=>v2 (v9,())) (Int.toNat (↑Q1:Int))))):Int))=true->((0:Int)<=(↑Q1:Int)/\(↑Q1:Int)<(↑(List.length (qa1 (Ty.list (Ty.int .i64)) Q0 (qf0 none (Int.toNat (↑(Prod.fst v5):Int))))):Int))/\Int.toNat (↑Q1:Int)<List.length (qa1 (Ty.list (Ty.int .i64)) Q0 (qf0 none (Int.toNat (↑(Prod.fst v5):Int))))/\((0:Int)<=(↑(Prod.fst v5):Int)/\(↑(Prod.fst v5):Int)<(↑(List.length (Prod.snd (qc7 (qb3 m pix λ(v9:Int)=>v2 (v9,())) (Int.toNat (↑Q1:Int))))):Int))/\((0:Int)<=qa1 (Ty.int .i64) (Prod.snd (qc7 (qb3 m pix λ(v9:Int)=>v2 (v9,())) (Int.toNat (↑Q1:Int)))) (Int.toNat (↑(Prod.fst v5):Int))/\qa1 (Ty.int .i64) (Prod.snd (qc7 (qb3 m pix λ(v9:Int)=>v2 (v9,())) (Int.toNat (↑Q1:Int)))) (Int.toNat (↑(Prod.fst v5):Int))<(↑(List.length (qa1 (Ty.list (Ty.int .i64)) Q0 (qf0 none (Int.toNat (↑(Prod.fst v5):Int))))):Int))/\Int.toNat (qa1 (Ty.int .i64) (Prod.snd (qc7 (qb3 m pix λ(v9:Int)=>v2 (v9,())) (Int.toNat (↑Q1:Int)))) (Int.toNat (↑(Prod.fst v5):Int)))<List.length (qa1 (Ty.list (Ty.int .i64)) Q0 (qf0 none (Int.toNat (↑(Prod.fst v5):Int))))/\(((-4000000000000000000:Int)<=qa1 (Ty.int .i64) (qa1 (Ty.list (Ty.int .i64)) Q0 (qf0 none (Int.toNat (↑(Prod.fst v5):Int)))) (Int.toNat (↑Q1:Int))/\qa1 (Ty.int .i64) (qa1 (Ty.list (Ty.int .i64)) Q0 (qf0 none (Int.toNat (↑(Prod.fst v5):Int)))) (Int.toNat (↑Q1:Int))<=BIG)/\((-4000000000000000000:Int)<=qa1 (Ty.int .i64) (qa1 (Ty.list (Ty.int .i64)) Q0 (qf0 none (Int.toNat (↑(Prod.fst v5):Int)))) (Int.toNat (qa1 (Ty.int .i64) (Prod.snd (qc7 (qb3 m pix λ(v9:Int)=>v2 (v9,())) (Int.toNat (↑Q1:Int)))) (Int.toNat (↑(Prod.fst v5):Int))))/\qa1 (Ty.int .i64) (qa1 (Ty.list (Ty.int .i64)) Q0 (qf0 none (Int.toNat (↑(Prod.fst v5):Int)))) (Int.toNat (qa1 (Ty.int .i64) (Prod.snd (qc7 (qb3 m pix λ(v9:Int)=>v2 (v9,())) (Int.toNat (↑Q1:Int)))) (Int.toNat (↑(Prod.fst v5):Int))))<=BIG)/\qa1 (Ty.int .i64) (qa1 (Ty.list (Ty.int .i64)) Q0 (qf0 none (Int.toNat (↑(Prod.fst v5):Int)))) (Int.toNat (qa1 (Ty.int .i64) (Prod.snd (qc7 (qb3 m pix λ(v9:Int)=>v2 (v9,())) (Int.toNat (↑Q1:Int)))) (Int.toNat (↑(Prod.fst v5):Int))))≠(0:Ty.den tInt))/\((0:Nat)<List.length [(Prod.fst (ofR (qa1 (Ty.int .i64) (qa1 (Ty.list (Ty.int .i64)) Q0 (qf0 none (Int.toNat (↑(Prod.fst v5):Int)))) (Int.toNat (↑Q1:Int))) (qa1 (Ty.int .i64) (qa1 (Ty.list (Ty.int .i64)) Q0 (qf0 none (Int.toNat (↑(Prod.fst v5):Int)))) (Int.toNat (qa1 (Ty.int .i64) (Prod.snd (qc7 (qb3 m pix λ(v9:Int)=>v2 (v9,())) (Int.toNat (↑Q1:Int)))) (Int.toNat (↑(Prod.fst v5):Int)))))),Prod.snd (ofR (qa1 (Ty.int .i64) (qa1 (Ty.list (Ty.int .i64)) Q0 (qf0 none (Int.toNat (↑(Prod.fst v5):Int)))) (Int.toNat (↑Q1:Int))) (qa1 (Ty.int .i64) (qa1 (Ty.list (Ty.int .i64)) Q0 (qf0 none (Int.toNat (↑(Prod.fst v5):Int)))) (Int.toNat (qa1 (Ty.int .i64) (Prod.snd (qc7 (qb3 m pix λ(v9:Int)=>v2 (v9,())) (Int.toNat (↑Q1:Int)))) (Int.toNat (↑(Prod.fst v5):Int)))))))]/\Nat.le (List.length (Prod.snd v5)+List.length [(Prod.fst (ofR (qa1 (Ty.int .i64) (qa1 (Ty.list (Ty.int .i64)) Q0 (qf0 none (Int.toNat (↑(Prod.fst v5):Int)))) (Int.toNat (↑Q1:Int))) (qa1 (Ty.int .i64) (qa1 (Ty.list (Ty.int .i64)) Q0 (qf0 none (Int.toNat (↑(Prod.fst v5):Int)))) (Int.toNat (qa1 (Ty.int .i64) (Prod.snd (qc7 (qb3 m pix λ(v9:Int)=>v2 (v9,())) (Int.toNat (↑Q1:Int)))) (Int.toNat (↑(Prod.fst v5):Int)))))),Prod.snd (ofR (qa1 (Ty.int .i64) (qa1 (Ty.list (Ty.int .i64)) Q0 (qf0 none (Int.toNat (↑(Prod.fst v5):Int)))) (Int.toNat (↑Q1:Int))) (qa1 (Ty.int .i64) (qa1 (Ty.list (Ty.int .i64)) Q0 (qf0 none (Int.toNat (↑(Prod.fst v5):Int)))) (Int.toNat (qa1 (Ty.int .i64) (Prod.snd (qc7 (qb3 m pix λ(v9:Int)=>v2 (v9,())) (Int.toNat (↑Q1:Int)))) (Int.toNat (↑(Prod.fst v5):Int)))))))]) (1000000:Nat))/\fits .i64 ((↑(Prod.fst v5):Int)+(1:Int))/\∃(v9:Nat × List Q5),w7k Q0 Q4 Q1 (Prod.fst v9) (Prod.snd v9)/\List.length Q0-Prod.fst v9<List.length Q0-Prod.fst v5/\(True/\True/\True/\(↑(Prod.fst v5):Int)+(1:Int)=(↑(Prod.fst v9):Int)/\True)/\(y=y/\True)/\(Prod.fst Q2=Prod.fst Q2/\True/\True)/\Prod.snd v5++[(Prod.fst (ofR (qa1 (Ty.int .i64) (qa1 (Ty.list (Ty.int .i64)) Q0 (qf0 none (Int.toNat (↑(Prod.fst v5):Int)))) (Int.toNat (↑Q1:Int))) (qa1 (Ty.int .i64) (qa1 (Ty.list (Ty.int .i64)) Q0 (qf0 none (Int.toNat (↑(Prod.fst v5):Int)))) (Int.toNat (qa1 (Ty.int .i64) (Prod.snd (qc7 (qb3 m pix λ(v10:Int)=>v2 (v10,())) (Int.toNat (↑Q1:Int)))) (Int.toNat (↑(Prod.fst v5):Int)))))),Prod.snd (ofR (qa1 (Ty.int .i64) (qa1 (Ty.list (Ty.int .i64)) Q0 (qf0 none (Int.toNat (↑(Prod.fst v5):Int)))) (Int.toNat (↑Q1:Int))) (qa1 (Ty.int .i64) (qa1 (Ty.list (Ty.int .i64)) Q0 (qf0 none (Int.toNat (↑(Prod.fst v5):Int)))) (Int.toNat (qa1 (Ty.int .i64) (Prod.snd (qc7 (qb3 m pix λ(v10:Int)=>v2 (v10,())) (Int.toNat (↑Q1:Int)))) (Int.toNat (↑(Prod.fst v5):Int)))))))]=Prod.snd v9/\True)/\(decide ((↑(Prod.fst v5):Int)<(↑(List.length (Prod.snd (qc7 (qb3 m pix λ(v9:Int)=>v2 (v9,())) (Int.toNat (↑Q1:Int))))):Int))=false->((0:Int)<=(↑Q1:Int)/\(↑Q1:Int)<(↑(List.length (qa1 (Ty.list (Ty.int .i64)) Q0 (qf0 none (Int.toNat (↑(Prod.fst v5):Int))))):Int))/\Int.toNat (↑Q1:Int)<List.length (qa1 (Ty.list (Ty.int .i64)) Q0 (qf0 none (Int.toNat (↑(Prod.fst v5):Int))))/\((qa1 (Ty.int .i64) (qa1 (Ty.list (Ty.int .i64)) Q0 (qf0 none (Int.toNat (↑(Prod.fst v5):Int)))) (Int.toNat (↑Q1:Int)) != (0:Int))=true->Prod.fst Q3=[]/\(8:Int)=Prod.snd Q3/\True)/\((qa1 (Ty.int .i64) (qa1 (Ty.list (Ty.int .i64)) Q0 (qf0 none (Int.toNat (↑(Prod.fst v5):Int)))) (Int.toNat (↑Q1:Int)) != (0:Int))=false->fits .i64 ((↑(Prod.fst v5):Int)+(1:Int))/\∃(v10:Nat × List Q5),w7k Q0 Q4 Q1 (Prod.fst v10) (Prod.snd v10)/\List.length Q0-Prod.fst v10<List.length Q0-Prod.fst v5/\(True/\True/\True/\(↑(Prod.fst v5):Int)+(1:Int)=(↑(Prod.fst v10):Int)/\True)/\(y=y/\True)/\(Prod.fst Q2=Prod.fst Q2/\True/\True)/\Prod.snd v5=Prod.snd v10/\True)))/\(decide ((↑(Prod.fst v5):Int)<(↑(qe9 (List.length (Prod.fst (qc7 (qb3 m pix λ(v8:Int)=>v2 (v8,())) (Int.toNat (↑Q1:Int))))) none):Int))=false->(decide ((↑(List.length (Prod.snd (qc7 (qb3 m pix λ(v9:Int)=>v2 (v9,())) (Int.toNat (↑Q1:Int))))):Int)<(↑Q1:Int))=true->Prod.fst Q3=[]/\(11:Int)=Prod.snd Q3/\True)/\(decide ((↑(List.length (Prod.snd (qc7 (qb3 m pix λ(v9:Int)=>v2 (v9,())) (Int.toNat (↑Q1:Int))))):Int)<(↑Q1:Int))=false->Prod.snd v5=Prod.fst Q3/\(0:Int)=Prod.snd Q3/\True)))) (by kernel_rfl) ?_
 try simp only[z0,z1,z2,z3,z4,z5,z6,z7,z8,z9,z10,Int.reduceEq,z11,z12,z13,z14,z15,z16,z17,z18,z19,z20,z21,z22,z23,z24,z25,z26,z27,z28,z29,z30,Int.reduceLE,Int.reduceLT,z31,z32,z33,z34,qa4]
 try simp only[qb6,qb7,qc8,List.set_cons_zero,List.cons.injEq,and_true,true_and]
 refine⟨h.len,λhe=>by simp[q70,he],λhe=>?_⟩
 have hA:=Asked.of he
 have hO:=h.ok he
 have e:q70 m pix y=w7j (wq8 m pix y).1 (wq8 m pix y).2 pix.length:=by rw[q70,if_pos he]
 rw[e]
 refine⟨λx=>0<=x.1/\x.1<y.length,λx=>[nI y x.1.toNat],λx hx=>⟨hx,rfl⟩,ChoOk.of hA.msk hA.nam λi hi=>⟨⟨Int.natCast_nonneg _,Int.ofNat_lt.2 (by have:=hA.len; omega)⟩,by simp⟩,?_⟩
 dsimp only
 have hkr:qc7 (qb3 m pix λv4=>[nI y v4.toNat]) pix.length=wq8 m pix y:=rfl
 have hred:q43 (qb3 m pix λv4=>[nI y v4.toNat]) pix.length (pix.length+1):=hO.red
 have hsh:=q1d hred pix.length
 have hpv:=q3a (qb3 m pix λv4=>[nI y v4.toNat]) pix.length
 have har:=hO.ar
 have hcl:(qb3 m pix λv4=>[nI y v4.toNat]).length=m.length:=qn5 _ _ _
 have hm6:=hA.msk.rows6
 have hn10:=hA.msk.pix10
 have hpn:=hA.nam.len
 rw[hkr] at hsh hpv ⊢
 rw[hcl] at hsh
 refine⟨⟨_,hred⟩,?_⟩
 clear hkr hred hcl e
 generalize wq8 m pix y=K at *
 obtain⟨R,P⟩:=K
 dsimp only at hpv har ⊢
 have hRn:=hsh.cnt
 have hRe:=hsh.each
 have hPn:=hsh.piv
 have hPj:=hsh.pivj
 dsimp only at hRn hRe hPn hPj
 simp only[q38,q6r]
 have hPk:∀k,k<P.length->0<=nI P k/\nI P k<pix.length:=λk hk=>hpv _ (by rw[qh7 P k hk]; exact List.getElem_mem hk)
 refine⟨(),(0,[]),⟨Nat.zero_le _,by simp,λi h1 h2=>absurd h2 (Nat.not_lt_zero _)⟩,⟨rfl,by first | rfl | trivial,rfl⟩,?_⟩
 rintro⟨k,l⟩ ⟨k1,k2,k3⟩
 dsimp only at k1 k2 k3 ⊢
 refine⟨λhlt=>⟨hlt,hlt,λhp=>?_,λhp=>?_⟩,λhge=>?_⟩
 ·have hr:=hRe k (by omega)
  have hq:=hPk k hp
  have hp':0<=nI P k/\nI P k<((nL R k).length:Int):=⟨hq.1,by omega⟩
  have hll:l.length=k:=by rw[k2]; simp; omega
  refine⟨by omega,by omega,by omega,hp',by omega,⟨har.bigN k hp,har.bigD k hp,har.nz k hp⟩,by omega,qa7 (by omega) (by omega),(k+1,l++[x2w R P pix.length k]),⟨by dsimp only; omega,?_,λi h1 h2=>by dsimp only at h2; omega⟩,by dsimp only; omega,by dsimp only; omega,rfl⟩
  dsimp only
  rw[k2,show min (k+1) P.length=min k P.length+1 by omega,List.range_succ,List.map_append,show min k P.length=k by omega]
  rfl
 ·have hr:=hRe k (by omega)
  refine⟨by omega,by omega,λhz=>?_,λhz=>?_⟩
  ·have:q78 R P pix.length=true:=by
    unfold q78
    rw[List.any_eq_true]
    refine⟨k,List.mem_range.2 hlt,?_⟩
    rw[Bool.and_eq_true,decide_eq_true_eq]
    exact⟨by omega,bne_iff_ne.2 hz⟩
   simp[w7j,this]
  ·refine⟨qa7 (by omega) (by omega),(k+1,l),⟨by dsimp only; omega,?_,λi h1 h2=>?_⟩,by dsimp only; omega,by dsimp only; omega,rfl⟩
   ·dsimp only
    rw[k2,show min (k+1) P.length=min k P.length by omega]
   ·dsimp only at h2
    by_cases e:i=k
    ·subst e; exact hz
    ·exact k3 i h1 (by omega)
 ·obtain rfl:k=R.length:=by omega
  have hno:q78 R P pix.length=false:=by
   unfold q78
   rw[List.any_eq_false]
   intro i hi
   have hi:=List.mem_range.1 hi
   rw[Bool.and_eq_true,decide_eq_true_eq]
   rintro⟨h1,h2⟩
   exact(bne_iff_ne.1 h2) (k3 i h1 hi)
  refine⟨λh1=>by simp[w7j,hno,h1],λh1=>?_⟩
  rw[w7j,hno,if_neg (by decide),if_neg h1]
  refine⟨?_,rfl⟩
  rw[k2,show min R.length P.length=P.length by omega]
end Go.Proofs.YtdibdlelmkcccaaGreat
