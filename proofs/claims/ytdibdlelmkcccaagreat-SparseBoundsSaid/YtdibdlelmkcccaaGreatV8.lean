/- Rows reduced: contract by the engine. No condition. -/
import Derived.Test.YtdibdlelmkcccaaGreatV7
set_option linter.unusedVariables false
set_option linter.unusedSimpArgs false
namespace Go.Proofs.YtdibdlelmkcccaaGreat
open Go Go.RowKit Eng
abbrev x0y:qc0:=hspec [] true none [.d tInts,.cap tInt] [.bool] (λx=>0<=x.2.1/\x.2.1<x.1.length) (λx=>(nI x.1 x.2.1.toNat != 0,()))
theorem w3q:qd3 Tryz.prog 121 x0y:=by
 refine qt9 (SpecsOk.nil _) (snd (SpecsOk.nil _)) Tryz.func121 rfl rfl (λ_ _=>none) (λ_=>by kernel_rfl) (by decide) ?_
 rintro⟨l,j,⟨⟩⟩ h
 revert l j
 intro(l:List Int) (j:Int) (h:0<=j/\j<l.length)
 refine @qd8 _ (((0:Int)<=j/\j<(↑(List.length l):Int))/\(qa1 (Ty.int .i64) l (Int.toNat j) != (0:Int))=(nI l (Int.toNat j) != (0:Int))) (by kernel_rfl) ?_
 try simp only[z0,z1,z2,z3,z4,z5,z6,z7,z8,z9,z10,Int.reduceEq,z11,z12,z13,z14,z15,z16,z17,z18,z19,z20,z21,z22,z23,z24,z25,z26,z27,z28,z29,z30,Int.reduceLE,Int.reduceLT,z31,z32,z33,z34,qa4]
 try simp only[qb6,qb7,qc8,List.set_cons_zero,List.cons.injEq,and_true,true_and]
 exact h
def qs7 (rows:List (List Int)) (k j:Nat):Int:=ixT (.list (.int .i64)) (λr=>nI r j != 0) (rows.drop k)
def wm4 (rows:List (List Int)) (a b:Nat):List (List Int):=(rows.set a (nL rows b)).set b (nL rows a)
def xd6 (r:List Int):List Int:=(List.range r.length).map λi=>0-nI r i
def q1a (rows:List (List Int)) (k j:Nat):List (List Int):=wm4 rows k (k+(qs7 rows k j).toNat)
def qi7 (rows:List (List Int)) (k j:Nat):List (List Int):=if nI (nL (q1a rows k j) k) j<0 then(q1a rows k j).set k (xd6 (nL (q1a rows k j) k)) else q1a rows k j
def wh6 (rows:List (List Int)) (k j i:Nat):List Int:=if i≠k/\nI (nL rows i) j≠0 then qw4 (nL rows i) (nL rows k) j else nL rows i
def w9u (rows:List (List Int)) (k j:Nat):List (List Int):=(List.range rows.length).map (wh6 rows k j)
def qv7 (s:List (List Int) × List Int) (j:Nat):List (List Int) × List Int:=if qs7 s.1 s.2.length j<0 then s else(w9u (qi7 s.1 s.2.length j) s.2.length j,s.2++[(j:Int)])
def qc7 (rows:List (List Int)):Nat->List (List Int) × List Int
 | 0=>(rows,[])
 | j+1=>qv7 (qc7 rows j) j
structure xl7 (rows:List (List Int)) (k j:Nat):Prop where
 neg:∀x∈nL (q1a rows k j) k,qg3 BIG x
 clr:∀i,i<rows.length->i≠k->nI (nL (qi7 rows k j) i) j≠0->wl4 (nL (qi7 rows k j) i) (nL (qi7 rows k j) k) j
structure q43 (rows:List (List Int)) (cols W:Nat):Prop where
 n:rows.length<=1000
 w:W<=1000
 cw:cols<=W
 each:∀i,i<rows.length->(nL rows i).length=W
 step:∀j,j<cols->0<=qs7 (qc7 rows j).1 (qc7 rows j).2.length j->xl7 (qc7 rows j).1 (qc7 rows j).2.length j
abbrev x9m:qr6:=w6o (wb7 [tInt]) true false 24 3 (.int .i64) (λrows x=>0<=x.1/\∃W,q43 rows x.1.toNat W) (λrows x=>.dat (.int .i64) (qc7 rows x.1.toNat).2) (λrows x=>(qc7 rows x.1.toNat).1)
def xl8:List AObj:=[.dead,.dead,.dead,.dead,.dead,.dead,.dead,.dead,.dead,.dead,.dead,.dead,.dead,.dead,.dead,.dead,.dead,.dead,.dead,.dead,.dead,.dead,.dead,.dead,.dead,.dead,.dead,.dead]
structure xd7 (rows:List (List Int)) (k i:Nat) (r:List (List Int)):Prop where
 le:i<=(nL rows k).length
 eq:r=rows.set k (ovr (.int .i64) (λq=>0-nI (nL rows k) q) (nL rows k) i)
structure q6q (rows:List (List Int)) (k j i:Nat) (r:List (List Int)):Prop where
 le:i<=rows.length
 eq:r=ovr (.list (.int .i64)) (wh6 rows k j) rows i
structure w3r (R:List (List Int)) (c j:Nat) (r:List (List Int)) (p:List Int):Prop where
 le:j<=c
 eq:qc7 R j=(r,p)
def x4w (T:q7y) (R:List (List Int)) (c:Nat):Nat->Option Inv
 | 0=>some (Inv.of [0,5,13] 2 (λs:Nat × List (List Int) × List Int=>[(0,.msl 0 .none),(5,.own 1),(13,.lit (.int .i64 s.1))]) (λs=>[.mat 24 3 (.int .i64) s.2.1 .none (some T),.vec 3 (.int .i64) s.2.2]) (λs=>w3r R c s.1 s.2.1 s.2.2) (λs=>c-s.1))
 | 1=>some (Eng.Inv.mk (Nat × Nat × List (List Int) × List Int) (Nat × List (List Int)) [0,5,56] 31 (λ_ s=>[(0,.msl 0 .none),(5,.own 1),(56,.lit (.int .i64 s.1))]) (λq s=>.mat 24 3 (.int .i64) s.2 .none (some T) :: .vec 3 (.int .i64) q.2.2.2 :: .box 3 (.cons (.lit (.int .i64 q.1)) .nil) :: xl8) (λq s=>xd7 q.2.2.1 q.2.1 s.1 s.2) (λq s=>(nL q.2.2.1 q.2.1).length-s.1))
 | 2=>some (Eng.Inv.mk (Nat × Nat × List (List Int) × List Int) (Nat × List (List Int)) [0,5,74,76] 31 (λ_ s=>[(0,.msl 0 .none),(5,.own 1),(74,.msl 0 .none),(76,.lit (.int .i64 s.1))]) (λq s=>.mat 24 3 (.int .i64) s.2 .none (some T) :: .vec 3 (.int .i64) q.2.2.2 :: .box 3 (.cons (.lit (.int .i64 q.1)) .nil) :: xl8) (λq s=>q6q q.2.2.1 q.2.1 q.1 s.1 s.2) (λq s=>q.2.2.1.length-s.1))
 | _=>none
theorem q38 (n:Nat):qe9 n none=n:=rfl
theorem w3s (n:Nat) (l:List Nat):qe9 n (some l)=l.length:=rfl
theorem xd8 (n:Nat):ixL n none=List.range n:=rfl
theorem xd9 (n:Nat) (l:List Nat):ixL n (some l)=l:=rfl
theorem q6r (i:Nat):qf0 none i=i:=rfl
theorem w66 (l:List Nat) (i:Nat):qf0 (some l) i=l.getD i 0:=rfl
theorem wm5 (r:List (List Int)):q3p (.int .i64) r none=r:=rfl
theorem w67 (r:List (List Int)) (l:List Nat):q3p (.int .i64) r (some l)=l.map λp=>nL r p:=rfl
theorem xe0 (n k b:Nat) (hk:k<n) (hb:b<n):(((List.range n).set k b).set b k).getD k 0=b:=by
 rw[List.getD_eq_getElem?_getD]
 by_cases e:b=k
 ·subst e
  rw[List.getElem?_set_self (by simpa using hb)]; rfl
 ·rw[List.getElem?_set_ne e,List.getElem?_set_self (by simpa using hk)]; rfl
theorem w68 (n k b:Nat) (hk:k<n) (hb:b<n):(((List.range n).set k b).set b k).Nodup:=by
 rw[List.nodup_iff_pairwise_ne,List.pairwise_iff_getElem]
 intro i j hi hj hij
 simp only[List.length_set,List.length_range] at hi hj
 simp only[List.getElem_set,List.getElem_range]
 split <;> split <;> (try split) <;> (try split) <;> omega
theorem xr5 (r:List (List Int)) (k b:Nat) (hk:k<r.length) (hb:b<r.length):((((List.range r.length).set k b).set b k).map λp=>nL r p)=wm4 r k b:=by
 apply List.ext_getElem (by simp[wm4])
 intro i h1 h2
 have hi:i<r.length:=by simpa using h1
 simp only[List.getElem_map,List.getElem_set,List.getElem_range,wm4]
 split
 ·rfl
 ·split
  ·rfl
  ·exact ql9 r i hi
theorem wm6 (r:List (List Int)) (k b:Nat):(wm4 r k b).length=r.length:=by simp[wm4]
theorem q27 (r:List (List Int)) (k b:Nat) (hk:k<r.length) (hb:b<r.length) (i:Nat) (hi:i<r.length):nL (wm4 r k b) i=if i=b then nL r k else if i=k then nL r b else nL r i:=by
 rw[ql9 _ i (by rw[wm6]; exact hi)]
 simp only[wm4,List.getElem_set]
 by_cases e:b=i
 ·rw[if_pos e,if_pos e.symm]
 ·rw[if_neg e,if_neg (Ne.symm e)]
  by_cases e2:k=i
  ·rw[if_pos e2,if_pos e2.symm]
  ·rw[if_neg e2,if_neg (Ne.symm e2),ql9 r i hi]
theorem q8y (l:List Int):(qd9 l).length=l.length:=by unfold qd9; split <;> simp
theorem q8z (r b:List Int) (c:Nat):(qw4 r b c).length=r.length:=by unfold qw4; rw[q8y,q08]
theorem q5e (r:List Int):(xd6 r).length=r.length:=by simp[xd6]
theorem q5f (r:List (List Int)) (k j:Nat):(q1a r k j).length=r.length:=wm6 _ _ _
theorem qi4 (r:List (List Int)) (k j:Nat):(qi7 r k j).length=r.length:=by
 unfold qi7; split
 ·rw[List.length_set,q5f]
 ·rw[q5f]
theorem wc5 (r:List (List Int)) (k:Nat) (x:List Int) (i:Nat) (hi:i<r.length):nL (r.set k x) i=if i=k then x else nL r i:=by
 rw[ql9 _ i (by rw[List.length_set]; exact hi),List.getElem_set]
 by_cases e:k=i
 ·rw[if_pos e,if_pos e.symm]
 ·rw[if_neg e,if_neg (Ne.symm e),ql9 r i hi]
theorem q1b (r:List (List Int)) (k j:Nat) (hk:k<=r.length) (h:0<=qs7 r k j):k+(qs7 r k j).toNat<r.length:=by
 have:=(xl3 (.list (.int .i64)) (λr=>nI r j != 0) (r.drop k)).1
 unfold qs7 at h ⊢
 rw[List.length_drop] at this
 omega
theorem q28 (r:List (List Int)) (k j i:Nat) (hi:i<r.length):nL (qi7 r k j) i=if i=k/\nI (nL (q1a r k j) k) j<0 then xd6 (nL (q1a r k j) k) else nL (q1a r k j) i:=by
 unfold qi7
 split
 ·rename_i h
  rw[wc5 _ _ _ _ (by rw[q5f]; exact hi)]
  by_cases e:i=k
  ·rw[if_pos e,if_pos ⟨e,h⟩]
  ·rw[if_neg e,if_neg λq=>e q.1]
 ·rename_i h
  rw[if_neg λq=>h q.2]
theorem wc6 (r:List (List Int)) (k j:Nat):(w9u r k j).length=r.length:=by simp[w9u]
theorem w69 (r:List (List Int)) (k j i:Nat) (hi:i<r.length):nL (w9u r k j) i=wh6 r k j i:=by
 rw[ql9 _ i (by rw[wc6]; exact hi)]; simp[w9u]
structure RedSh (n W:Nat) (s:List (List Int) × List Int) (j:Nat):Prop where
 cnt:s.1.length=n
 each:∀i,i<n->(nL s.1 i).length=W
 piv:s.2.length<=n
 pivj:s.2.length<=j
theorem q6s {r:List (List Int)} {k j W:Nat} (hk:k<=r.length) (h:0<=qs7 r k j) (he:∀i,i<r.length->(nL r i).length=W):∀i,i<r.length->(nL (q1a r k j) i).length=W:=λi hi=>by
 have hb:=q1b r k j hk h
 unfold q1a
 rw[q27 _ _ _ (by omega) hb i hi]
 split
 ·exact he _ (by omega)
 ·split
  ·exact he _ hb
  ·exact he _ hi
theorem q1c {r:List (List Int)} {k j W:Nat} (hk:k<=r.length) (h:0<=qs7 r k j) (he:∀i,i<r.length->(nL r i).length=W):∀i,i<r.length->(nL (qi7 r k j) i).length=W:=λi hi=>by
 have hb:=q1b r k j hk h
 have h1:=q6s hk h he
 rw[q28 _ _ _ _ hi]
 split
 ·rw[q5e]; exact h1 _ (by omega)
 ·exact h1 _ hi
theorem RedSh.step {n W j:Nat} {s:List (List Int) × List Int} (h:RedSh n W s j):RedSh n W (qv7 s j) (j+1):=by
 unfold qv7
 split
 ·exact⟨h.cnt,h.each,h.piv,by have:=h.pivj; omega⟩
 ·rename_i hp
  have hp:0<=qs7 s.1 s.2.length j:=by omega
  have hn:=h.cnt
  have hb:=q1b s.1 s.2.length j (by rw[hn]; exact h.piv) hp
  have he:=q1c (W:=W) (by rw[hn]; exact h.piv) hp (λi hi=>h.each i (by omega))
  refine⟨by rw[wc6,qi4]; exact hn,λi hi=>?_,?_,?_⟩
  ·rw[w69 _ _ _ _ (by rw[qi4]; omega)]
   unfold wh6
   split
   ·rw[q8z]; exact he i (by omega)
   ·exact he i (by omega)
  ·rw[List.length_append]; simp; omega
  ·rw[List.length_append]; have:=h.pivj; simp; omega
theorem q1d {R:List (List Int)} {c W:Nat} (h:q43 R c W):∀j,RedSh R.length W (qc7 R j) j
 | 0=>⟨rfl,h.each,Nat.zero_le _,Nat.le_refl _⟩
 | j+1=>(q1d h j).step
theorem q29 (r:List (List Int)) (k j:Nat):wh6 r k j k=nL r k:=by unfold wh6; rw[if_neg]; exact λh=>h.1 rfl
theorem q5g (t:Ty) (g:Nat->t.den) (l:List t.den) (k:Nat) (h:k<l.length->g k=qa1 t l k):ovr t g l k=ovr t g l (k+1):=by
 unfold ovr
 apply List.map_congr_left
 intro i hi
 have hi:=List.mem_range.1 hi
 by_cases e:i=k
 ·subst e; rw[if_neg (Nat.lt_irrefl _),if_pos (by omega),h hi]
 ·by_cases h2:i<k
  ·rw[if_pos h2,if_pos (by omega)]
  ·rw[if_neg h2,if_neg (by omega)]
theorem q6t:q0d Tryz.prog 76 x9m:=by
 refine w07 (x4l [17,22] (SpecsOk.cons (wl6 (fs:=[(121,x0y)]) (SpecsOk.cons w3q (SpecsOk.nil _))) (SpecsOk.nil _)) (MutsOk.cons wt6 MutsOk.nil)) Tryz.func76 rfl rfl (q07 [tInt]) (λT rows x=>x4w T rows x.1.toNat) (λ_ _ _=>by kernel_rfl) (by decide) ?_ rfl
 rintro T rows ⟨c,⟨⟩⟩ h -
 revert rows c
 intro(rows:List (List Int)) (c:Int) (h:0<=c/\∃W,q43 rows c.toNat W)
 refine @qd8 _ (let Q0:=List Int; let Q1:=qr6.t xl2; let Q2:=Int.toNat c; ∃(v0:Unit),∃(v1:Nat × List Q0 × List Int),w3r rows Q2 (Prod.fst v1) (Prod.fst (Prod.snd v1)) (Prod.snd (Prod.snd v1))/\((True/\True/\(0:Int)=(↑(Prod.fst v1):Int)/\True)/\(rows=Prod.fst (Prod.snd v1)/\True/\T=T)/\Prod.snd (Prod.snd v1)=[]/\True)/\∀(v2:Nat × List Q0 × List Int),w3r rows Q2 (Prod.fst v2) (Prod.fst (Prod.snd v2)) (Prod.snd (Prod.snd v2))->(decide ((↑(Prod.fst v2):Int)<c)=true->∀(v5:Int),v5=(↑(List.length (Prod.snd (Prod.snd v2))):Int)->((0:Int)<=v5/\v5<=(↑(qe9 (List.length (Prod.fst (Prod.snd v2))) none):Int)/\(↑(qe9 (List.length (Prod.fst (Prod.snd v2))) none):Int)<=(↑(qe9 (List.length (Prod.fst (Prod.snd v2))) none):Int))/\∃(v7:qa5 [Ty.list (Ty.int .i64)]->Prop),∃(v8:qa5 [Ty.list (Ty.int .i64)]->Bool),(∀(v9:List Int × qa5._f [] PUnit.unit),v7 v9->((0:PTy.den (PTy.cap tInt))<=(↑(Prod.fst v2):Int)/\(↑(Prod.fst v2):Int)<(↑(List.length (Prod.fst v9)):PTy.den (PTy.cap tInt)))/\(nI (Prod.fst v9) (Int.toNat (↑(Prod.fst v2):Int)) != (0:Int))=v8 v9)/\(List.length (List.drop (Int.toNat v5) (List.take (Int.toNat (↑(qe9 (List.length (Prod.fst (Prod.snd v2))) none):Int)) (q3p (Ty.int .i64) (Prod.fst (Prod.snd v2)) none)))<=(1000000:Nat)/\∀(v9:Nat),v9<List.length (List.drop (Int.toNat v5) (List.take (Int.toNat (↑(qe9 (List.length (Prod.fst (Prod.snd v2))) none):Int)) (q3p (Ty.int .i64) (Prod.fst (Prod.snd v2)) none)))->v7 (qa1 (Ty.list (Ty.int .i64)) (List.drop (Int.toNat v5) (List.take (Int.toNat (↑(qe9 (List.length (Prod.fst (Prod.snd v2))) none):Int)) (q3p (Ty.int .i64) (Prod.fst (Prod.snd v2)) none))) v9,()))/\∀(v9:Int),v9=ixT (Ty.list (Ty.int .i64)) (λ(v11:List Int)=>v8 (v11,())) (List.drop (Int.toNat v5) (List.take (Int.toNat (↑(qe9 (List.length (Prod.fst (Prod.snd v2))) none):Int)) (q3p (Ty.int .i64) (Prod.fst (Prod.snd v2)) none)))->(decide (v9<(0:Int))=true->fits .i64 ((↑(Prod.fst v2):Int)+(1:Int))/\∃(v12:Nat × List Q0 × List Int),w3r rows Q2 (Prod.fst v12) (Prod.fst (Prod.snd v12)) (Prod.snd (Prod.snd v12))/\Int.toNat c-Prod.fst v12<Int.toNat c-Prod.fst v2/\(True/\True/\(↑(Prod.fst v2):Int)+(1:Int)=(↑(Prod.fst v12):Int)/\True)/\(Prod.fst (Prod.snd v2)=Prod.fst (Prod.snd v12)/\True/\T=T)/\Prod.snd (Prod.snd v2)=Prod.snd (Prod.snd v12)/\True)/\(decide (v9<(0:Int))=false->fits .i64 (v5+v9)/\fits .i64 (v5+v9)/\((0:Int)<=v5+v9/\v5+v9<(↑(qe9 (List.length (Prod.fst (Prod.snd v2))) none):Int))/\Int.toNat (v5+v9)<qe9 (List.length (Prod.fst (Prod.snd v2))) none/\((0:Int)<=v5/\v5<(↑(qe9 (List.length (Prod.fst (Prod.snd v2))) none):Int))/\Int.toNat v5<qe9 (List.length (Prod.fst (Prod.snd v2))) none/\((0:Int)<=v5/\v5<(↑(qe9 (List.length (Prod.fst (Prod.snd v2))) none):Int))/\Int.toNat v5<qe9 (List.length (Prod.fst (Prod.snd v2))) none/\((0:Int)<=v5+v9/\v5+v9<(↑(qe9 (List.length (Prod.fst (Prod.snd v2))) (some (List.set (ixL (List.length (Prod.fst (Prod.snd v2))) none) (Int.toNat v5) (qf0 none (Int.toNat (v5+v9)))))):Int))/\Int.toNat (v5+v9)<qe9 (List.length (Prod.fst (Prod.snd v2))) (some (List.set (ixL (List.length (Prod.fst (Prod.snd v2))) none) (Int.toNat v5) (qf0 none (Int.toNat (v5+v9)))))/\((0:Int)<=v5/\v5<(↑(qe9 (List.length (Prod.fst (Prod.snd v2))) (some (List.set (ixL (List.length (Prod.fst (Prod.snd v2))) (some (List.set (ixL (List.length (Prod.fst (Prod.snd v2))) none) (Int.toNat v5) (qf0 none (Int.toNat (v5+v9)))))) (Int.toNat (v5+v9)) (qf0 none (Int.toNat v5))))):Int))/\Int.toNat v5<qe9 (List.length (Prod.fst (Prod.snd v2))) (some (List.set (ixL (List.length (Prod.fst (Prod.snd v2))) (some (List.set (ixL (List.length (Prod.fst (Prod.snd v2))) none) (Int.toNat v5) (qf0 none (Int.toNat (v5+v9)))))) (Int.toNat (v5+v9)) (qf0 none (Int.toNat v5))))/\((0:Int)<=(↑(Prod.fst v2):Int)/\(↑(Prod.fst v2):Int)<(↑(List.length (qa1 (Ty.list (Ty.int .i64)) (Prod.fst (Prod.snd v2)) (qf0 (some (List.set (ixL (List.length (Prod.fst (Prod.snd v2))) (some (List.set (ixL (List.length (Prod.fst (Prod.snd v2))) none) (Int.toNat v5) (qf0 none (Int.toNat (v5+v9)))))) (Int.toNat (v5+v9)) (qf0 none (Int.toNat v5)))) (Int.toNat v5)))):Int))/\Int.toNat (↑(Prod.fst v2):Int)<List.length (qa1 (Ty.list (Ty.int .i64)) (Prod.fst (Prod.snd v2)) (qf0 (some (List.set (ixL (List.length (Prod.fst (Prod.snd v2))) (some (List.set (ixL (List.length (Prod.fst (Prod.snd v2))) none) (Int.toNat v5) (qf0 none (Int.toNat (v5+v9)))))) (Int.toNat (v5+v9)) (qf0 none (Int.toNat v5)))) (Int.toNat v5)))/\(decide (qa1 (Ty.int .i64) (qa1 (Ty.list (Ty.int .i64)) (Prod.fst (Prod.snd v2)) (qf0 (some (List.set (ixL (List.length (Prod.fst (Prod.snd v2))) (some (List.set (ixL (List.length (Prod.fst (Prod.snd v2))) none) (Int.toNat v5) (qf0 none (Int.toNat (v5+v9)))))) (Int.toNat (v5+v9)) (qf0 none (Int.toNat v5)))) (Int.toNat v5))) (Int.toNat (↑(Prod.fst v2):Int))<(0:Int))=true->((0:Int)<=v5/\v5<(↑(qe9 (List.length (Prod.fst (Prod.snd v2))) (some (List.set (ixL (List.length (Prod.fst (Prod.snd v2))) (some (List.set (ixL (List.length (Prod.fst (Prod.snd v2))) none) (Int.toNat v5) (qf0 none (Int.toNat (v5+v9)))))) (Int.toNat (v5+v9)) (qf0 none (Int.toNat v5))))):Int))/\Int.toNat v5<qe9 (List.length (Prod.fst (Prod.snd v2))) (some (List.set (ixL (List.length (Prod.fst (Prod.snd v2))) (some (List.set (ixL (List.length (Prod.fst (Prod.snd v2))) none) (Int.toNat v5) (qf0 none (Int.toNat (v5+v9)))))) (Int.toNat (v5+v9)) (qf0 none (Int.toNat v5))))/\∃(v13:Nat × Nat × List Q0 × List Int),∃(v14:Nat × List Q0),xd7 (Prod.fst (Prod.snd (Prod.snd v13))) (Prod.fst (Prod.snd v13)) (Prod.fst v14) (Prod.snd v14)/\(List.Nodup (List.set (ixL (List.length (Prod.fst (Prod.snd v2))) (some (List.set (ixL (List.length (Prod.fst (Prod.snd v2))) none) (Int.toNat v5) (qf0 none (Int.toNat (v5+v9)))))) (Int.toNat (v5+v9)) (qf0 none (Int.toNat v5)))/\List.length (List.set (ixL (List.length (Prod.fst (Prod.snd v2))) (some (List.set (ixL (List.length (Prod.fst (Prod.snd v2))) none) (Int.toNat v5) (qf0 none (Int.toNat (v5+v9)))))) (Int.toNat (v5+v9)) (qf0 none (Int.toNat v5)))=List.length (Prod.fst (Prod.snd v2)))/\((True/\True/\(0:Int)=(↑(Prod.fst v14):Int)/\True)/\(q3p (Ty.int .i64) (Prod.fst (Prod.snd v2)) (some (List.set (ixL (List.length (Prod.fst (Prod.snd v2))) (some (List.set (ixL (List.length (Prod.fst (Prod.snd v2))) none) (Int.toNat v5) (qf0 none (Int.toNat (v5+v9)))))) (Int.toNat (v5+v9)) (qf0 none (Int.toNat v5))))=Prod.snd v14/\True/\T=T)/\Prod.snd (Prod.snd v2)=Prod.snd (Prod.snd (Prod.snd v13))/\((↑(Prod.fst v2):Int)=(↑(Prod.fst v13):Int)/\True)/\True/\True/\True/\True/\True/\True/\True/\True/\True/\True/\True/\True/\True/\True/\True/\True/\True/\True/\True/\True/\True/\True/\True/\True/\True/\True/\True/\True/\True)/\∀(v15:Nat × List Q0),xd7 (Prod.fst (Prod.snd (Prod.snd v13))) (Prod.fst (Prod.snd v13)) (Prod.fst v15) (Prod.snd v15)->(decide ((↑(Prod.fst v15):Int)<(↑(List.length (qa1 (Ty.list (Ty.int .i64)) (Prod.fst (Prod.snd v2)) (qf0 (some (List.set (ixL (List.length (Prod.fst (Prod.snd v2))) (some (List.set (ixL (List.length (Prod.fst (Prod.snd v2))) none) (Int.toNat v5) (qf0 none (Int.toNat (v5+v9)))))) (Int.toNat (v5+v9)) (qf0 none (Int.toNat v5)))) (Int.toNat v5)))):Int))=true->((0:Int)<=v5/\v5<(↑(qe9 (List.length (Prod.snd v15)) none):Int))/\Int.toNat v5<qe9 (List.length (Prod.snd v15)) none/\((0:Int)<=v5/\v5<(↑(qe9 (List.length (Prod.snd v15)) none):Int))/\Int.toNat v5<qe9 (List.length (Prod.snd v15)) none/\((0:Int)<=(↑(Prod.fst v15):Int)/\(↑(Prod.fst v15):Int)<(↑(List.length (qa1 (Ty.list (Ty.int .i64)) (Prod.snd v15) (qf0 none (Int.toNat v5)))):Int))/\Int.toNat (↑(Prod.fst v15):Int)<List.length (qa1 (Ty.list (Ty.int .i64)) (Prod.snd v15) (qf0 none (Int.toNat v5)))/\fits .i64 ((0:Int)-qa1 (Ty.int .i64) (qa1 (Ty.list (Ty.int .i64)) (Prod.snd v15) (qf0 none (Int.toNat v5))) (Int.toNat (↑(Prod.fst v15):Int)))/\((0:Int)<=(↑(Prod.fst v15):Int)/\(↑(Prod.fst v15):Int)<(↑(List.length (qa1 (Ty.list (Ty.int .i64)) (Prod.snd v15) (qf0 none (Int.toNat v5)))):Int))/\Int.toNat (↑(Prod.fst v15):Int)<List.length (qa1 (Ty.list (Ty.int .i64)) (Prod.snd v15) (qf0 none (Int.toNat v5)))/\fits .i64 ((↑(Prod.fst v15):Int)+(1:Int))/\∃(v18:Nat × List Q0),xd7 (Prod.fst (Prod.snd (Prod.snd v13))) (Prod.fst (Prod.snd v13)) (Prod.fst v18) (Prod.snd v18)/\List.length (nL (Prod.fst (Prod.snd (Prod.snd v13))) (Prod.fst (Prod.snd v13)))-Prod.fst v18<List.length (nL (Prod.fst (Prod.snd (Prod.snd v13))) (Prod.fst (Prod.snd v13)))-Prod.fst v15/\(True/\True/\(↑(Prod.fst v15):Int)+(1:Int)=(↑(Prod.fst v18):Int)/\True)/\(List.set (Prod.snd v15) (qf0 none (Int.toNat v5)) (List.set (qa1 (Ty.list (Ty.int .i64)) (Prod.snd v15) (qf0 none (Int.toNat v5))) (Int.toNat (↑(Prod.fst v15):Int)) ((0:Int)-qa1 (Ty.int .i64) (qa1 (Ty.list (Ty.int .i64)) (Prod.snd v15) (qf0 none (Int.toNat v5))) (Int.toNat (↑(Prod.fst v15):Int))))=Prod.snd v18/\True/\T=T)/\Prod.snd (Prod.snd (Prod.snd v13))=Prod.snd (Prod.snd (Prod.snd v13))/\((↑(Prod.fst v13):Int)=(↑(Prod.fst v13):Int)/\True)/\True/\True/\True/\True/\True/\True/\True/\True/\True/\True/\True/\True/\True/\True/\True/\True/\True/\True/\True/\True/\True/\True/\True/\True/\True/\True/\True/\True/\True)/\(decide ((↑(Prod.fst v15):Int)<(↑(List.length (qa1 (Ty.list (Ty.int .i64)) (Prod.fst (Prod.snd v2)) (qf0 (some (List.set (ixL (List.length (Prod.fst (Prod.snd v2))) (some (List.set (ixL (List.length (Prod.fst (Prod.snd v2))) none) (Int.toNat v5) (qf0 none (Int.toNat (v5+v9)))))) (Int.toNat (v5+v9)) (qf0 none (Int.toNat v5)))) (Int.toNat v5)))):Int))=false->∃(v18:Nat × Nat × List Q0 × List Int),∃(v19:Nat × List Q0),q6q (Prod.fst (Prod.snd (Prod.snd v18))) (Prod.fst (Prod.snd v18)) (Prod.fst v18) (Prod.fst v19) (Prod.snd v19)/\((True/\True/\True/\(0:Int)=(↑(Prod.fst v19):Int)/\True)/\(Prod.snd v15=Prod.snd v19/\True/\T=T)/\Prod.snd (Prod.snd (Prod.snd v13))=Prod.snd (Prod.snd (Prod.snd v18))/\((↑(Prod.fst v13):Int)=(↑(Prod.fst v18):Int)/\True)/\True/\True/\True/\True/\True/\True/\True/\True/\True/\True/\True/\True/\True/\True/\True/\True/\True/\True/\True/\True/\True/\True/\True/\True/\True/\True/\True/\True/\True)/\∀(v20:Nat × List Q0),q6q (Prod.fst (Prod.snd (Prod.snd v18))) (Prod.fst (Prod.snd v18)) (Prod.fst v18) (Prod.fst v20) (Prod.snd v20)->(decide ((↑(Prod.fst v20):Int)<(↑(qe9 (List.length (Prod.snd v15)) none):Int))=true->((0:Int)<=(↑(Prod.fst v20):Int)/\(↑(Prod.fst v20):Int)<(↑(qe9 (List.length (Prod.snd v20)) none):Int))/\Int.toNat (↑(Prod.fst v20):Int)<qe9 (List.length (Prod.snd v20)) none/\(((↑(Prod.fst v20):Int) != v5)=true->((0:Int)<=(↑(Prod.fst v18):Int)/\(↑(Prod.fst v18):Int)<(↑(List.length (qa1 (Ty.list (Ty.int .i64)) (Prod.snd v20) (qf0 none (Int.toNat (↑(Prod.fst v20):Int))))):Int))/\Int.toNat (↑(Prod.fst v18):Int)<List.length (qa1 (Ty.list (Ty.int .i64)) (Prod.snd v20) (qf0 none (Int.toNat (↑(Prod.fst v20):Int))))/\((qa1 (Ty.int .i64) (qa1 (Ty.list (Ty.int .i64)) (Prod.snd v20) (qf0 none (Int.toNat (↑(Prod.fst v20):Int)))) (Int.toNat (↑(Prod.fst v18):Int)) != (0:Int))=true->((0:Int)<=v5/\v5<(↑(qe9 (List.length (Prod.snd v20)) none):Int))/\Int.toNat v5<qe9 (List.length (Prod.snd v20)) none/\qf0 none (Int.toNat v5)≠qf0 none (Int.toNat (↑(Prod.fst v20):Int))/\((0:Ty.den tInt)<=(↑(Prod.fst v18):Int)/\wl4 (nL [qa1 (Ty.list Q1) (Prod.snd v20) (qf0 none (Int.toNat (↑(Prod.fst v20):Int)))] (0:Nat)) (qa1 (Ty.list (Ty.int .i64)) (Prod.snd v20) (qf0 none (Int.toNat v5))) (Int.toNat (↑(Prod.fst v18):Int)))/\fits .i64 ((↑(Prod.fst v20):Int)+(1:Int))/\∃(v25:Nat × List Q0),q6q (Prod.fst (Prod.snd (Prod.snd v18))) (Prod.fst (Prod.snd v18)) (Prod.fst v18) (Prod.fst v25) (Prod.snd v25)/\List.length (Prod.fst (Prod.snd (Prod.snd v18)))-Prod.fst v25<List.length (Prod.fst (Prod.snd (Prod.snd v18)))-Prod.fst v20/\(True/\True/\True/\(↑(Prod.fst v20):Int)+(1:Int)=(↑(Prod.fst v25):Int)/\True)/\(List.set (Prod.snd v20) (qf0 none (Int.toNat (↑(Prod.fst v20):Int))) (qa1 (Ty.list Q1) [qw4 (nL [qa1 (Ty.list Q1) (Prod.snd v20) (qf0 none (Int.toNat (↑(Prod.fst v20):Int)))] (0:Nat)) (qa1 (Ty.list (Ty.int .i64)) (Prod.snd v20) (qf0 none (Int.toNat v5))) (Int.toNat (↑(Prod.fst v18):Int))] (0:Nat))=Prod.snd v25/\True/\T=T)/\Prod.snd (Prod.snd (Prod.snd v18))=Prod.snd (Prod.snd (Prod.snd v18))/\((↑(Prod.fst v18):Int)=(↑(Prod.fst v18):Int)/\True)/\True/\True/\True/\True/\True/\True/\True/\True/\True/\True/\True/\True/\True/\True/\True/\True/\True/\True/\True/\True/\True/\True/\True/\True/\True/\True/\True/\True/\True)/\((qa1 (Ty.int .i64) (qa1 (Ty.list (Ty.int .i64)) (Prod.snd v20) (qf0 none (Int.toNat (↑(Prod.fst v20):Int)))) (Int.toNat (↑(Prod.fst v18):Int)) != (0:Int))=false->fits .i64 ((↑(Prod.fst v20):Int)+(1:Int))/\∃(v25:Nat × List Q0),q6q (Prod.fst (Prod.snd (Prod.snd v18))) (Prod.fst (Prod.snd v18)) (Prod.fst v18) (Prod.fst v25) (Prod.snd v25)/\List.length (Prod.fst (Prod.snd (Prod.snd v18)))-Prod.fst v25<List.length (Prod.fst (Prod.snd (Prod.snd v18)))-Prod.fst v20/\(True/\True/\True/\(↑(Prod.fst v20):Int)+(1:Int)=(↑(Prod.fst v25):Int)/\True)/\(Prod.snd v20=Prod.snd v25/\True/\T=T)/\Prod.snd (Prod.snd (Prod.snd v18))=Prod.snd (Prod.snd (Prod.snd v18))/\((↑(Prod.fst v18):Int)=(↑(Prod.fst v18):Int)/\True)/\True/\True/\True/\True/\True/\True/\True/\True/\True/\True/\True/\True/\True/\True/\True/\True/\True/\True/\True/\True/\True/\True/\True/\True/\True/\True/\True/\True/\True))/\(((↑(Prod.fst v20):Int) != v5)=false->fits .i64 ((↑(Prod.fst v20):Int)+(1:Int))/\∃(v24:Nat × List Q0),q6q (Prod.fst (Prod.snd (Prod.snd v18))) (Prod.fst (Prod.snd v18)) (Prod.fst v18) (Prod.fst v24) (Prod.snd v24)/\List.length (Prod.fst (Prod.snd (Prod.snd v18)))-Prod.fst v24<List.length (Prod.fst (Prod.snd (Prod.snd v18)))-Prod.fst v20/\(True/\True/\True/\(↑(Prod.fst v20):Int)+(1:Int)=(↑(Prod.fst v24):Int)/\True)/\(Prod.snd v20=Prod.snd v24/\True/\T=T)/\Prod.snd (Prod.snd (Prod.snd v18))=Prod.snd (Prod.snd (Prod.snd v18))/\((↑(Prod.fst v18):Int)=(↑(Prod.fst v18):Int)/\True)/\True/\True/\True/\True/\True/\True/\True/\True/\True/\True/\True/\True/\True/\True/\True/\True/\True/\True/\True/\True/\True/\True/\True/\True/\True/\True/\True/\True/\True))/\(decide ((↑(Prod.fst v20):Int)<(↑(qe9 (List.length (Prod.snd v15)) none):Int))=false->((0:Nat)<List.length [(↑(Prod.fst v18):Int)]/\Nat.le (List.length (Prod.snd (Prod.snd (Prod.snd v18)))+List.length [(↑(Prod.fst v18):Int)]) (1000000:Nat))/\fits .i64 ((↑(Prod.fst v2):Int)+(1:Int))/\∃(v23:Nat × List Q0 × List Int),w3r rows Q2 (Prod.fst v23) (Prod.fst (Prod.snd v23)) (Prod.snd (Prod.snd v23))/\Int.toNat c-Prod.fst v23<Int.toNat c-Prod.fst v2/\(True/\True/\(↑(Prod.fst v2):Int)+(1:Int)=(↑(Prod.fst v23):Int)/\True)/\(Prod.snd v20=Prod.fst (Prod.snd v23)/\True/\T=T)/\Prod.snd (Prod.snd (Prod.snd v18))++[(↑(Prod.fst v18):Int)]=Prod.snd (Prod.snd v23)/\True)))/\(decide (qa1 (Ty.int .i64) (qa1 (Ty.list (Ty.int .i64)) (Prod.fst (Prod.snd v2)) (qf0 (some (List.set (ixL (List.length (Prod.fst (Prod.snd v2))) (some (List.set (ixL (List.length (Prod.fst (Prod.snd v2))) none) (Int.toNat v5) (qf0 none (Int.toNat (v5+v9)))))) (Int.toNat (v5+v9)) (qf0 none (Int.toNat v5)))) (Int.toNat v5))) (Int.toNat (↑(Prod.fst v2):Int))<(0:Int))=false->∃(v13:Nat × Nat × List Q0 × List Int),∃(v14:Nat × List Q0),q6q (Prod.fst (Prod.snd (Prod.snd v13))) (Prod.fst (Prod.snd v13)) (Prod.fst v13) (Prod.fst v14) (Prod.snd v14)/\(List.Nodup (List.set (ixL (List.length (Prod.fst (Prod.snd v2))) (some (List.set (ixL (List.length (Prod.fst (Prod.snd v2))) none) (Int.toNat v5) (qf0 none (Int.toNat (v5+v9)))))) (Int.toNat (v5+v9)) (qf0 none (Int.toNat v5)))/\List.length (List.set (ixL (List.length (Prod.fst (Prod.snd v2))) (some (List.set (ixL (List.length (Prod.fst (Prod.snd v2))) none) (Int.toNat v5) (qf0 none (Int.toNat (v5+v9)))))) (Int.toNat (v5+v9)) (qf0 none (Int.toNat v5)))=List.length (Prod.fst (Prod.snd v2)))/\((True/\True/\True/\(0:Int)=(↑(Prod.fst v14):Int)/\True)/\(q3p (Ty.int .i64) (Prod.fst (Prod.snd v2)) (some (List.set (ixL (List.length (Prod.fst (Prod.snd v2))) (some (List.set (ixL (List.length (Prod.fst (Prod.snd v2))) none) (Int.toNat v5) (qf0 none (Int.toNat (v5+v9)))))) (Int.toNat (v5+v9)) (qf0 none (Int.toNat v5))))=Prod.snd v14/\True/\T=T)/\Prod.snd (Prod.snd v2)=Prod.snd (Prod.snd (Prod.snd v13))/\((↑(Prod.fst v2):Int)=(↑(Prod.fst v13):Int)/\True)/\True/\True/\True/\True/\True/\True/\True/\True/\True/\True/\True/\True/\True/\True/\True/\True/\True/\True/\True/\True/\True/\True/\True/\True/\True/\True/\True/\True/\True)/\∀(v15:Nat × List Q0),q6q (Prod.fst (Prod.snd (Prod.snd v13))) (Prod.fst (Prod.snd v13)) (Prod.fst v13) (Prod.fst v15) (Prod.snd v15)->(decide ((↑(Prod.fst v15):Int)<(↑(qe9 (List.length (Prod.fst (Prod.snd v2))) (some (List.set (ixL (List.length (Prod.fst (Prod.snd v2))) (some (List.set (ixL (List.length (Prod.fst (Prod.snd v2))) none) (Int.toNat v5) (qf0 none (Int.toNat (v5+v9)))))) (Int.toNat (v5+v9)) (qf0 none (Int.toNat v5))))):Int))=true->((0:Int)<=(↑(Prod.fst v15):Int)/\(↑(Prod.fst v15):Int)<(↑(qe9 (List.length (Prod.snd v15)) none):Int))/\Int.toNat (↑(Prod.fst v15):Int)<qe9 (List.length (Prod.snd v15)) none/\(((↑(Prod.fst v15):Int) != v5)=true->((0:Int)<=(↑(Prod.fst v13):Int)/\(↑(Prod.fst v13):Int)<(↑(List.length (qa1 (Ty.list (Ty.int .i64)) (Prod.snd v15) (qf0 none (Int.toNat (↑(Prod.fst v15):Int))))):Int))/\Int.toNat (↑(Prod.fst v13):Int)<List.length (qa1 (Ty.list (Ty.int .i64)) (Prod.snd v15) (qf0 none (Int.toNat (↑(Prod.fst v15):Int))))/\((qa1 (Ty.int .i64) (qa1 (Ty.list (Ty.int .i64)) (Prod.snd v15) (qf0 none (Int.toNat (↑(Prod.fst v15):Int)))) (Int.toNat (↑(Prod.fst v13):Int)) != (0:Int))=true->((0:Int)<=v5/\v5<(↑(qe9 (List.length (Prod.snd v15)) none):Int))/\Int.toNat v5<qe9 (List.length (Prod.snd v15)) none/\qf0 none (Int.toNat v5)≠qf0 none (Int.toNat (↑(Prod.fst v15):Int))/\((0:Ty.den tInt)<=(↑(Prod.fst v13):Int)/\wl4 (nL [qa1 (Ty.list Q1) (Prod.snd v15) (qf0 none (Int.toNat (↑(Prod.fst v15):Int)))] (0:Nat)) (qa1 (Ty.list (Ty.int .i64)) (Prod.snd v15) (qf0 none (Int.toNat v5))) (Int.toNat (↑(Prod.fst v13):Int)))/\fits .i64 ((↑(Prod.fst v15):Int)+(1:Int))/\∃(v20:Nat × List Q0),q6q (Prod.fst (Prod.snd (Prod.snd v13))) (Prod.fst (Prod.snd v13)) (Prod.fst v13) (Prod.fst v20) (Prod.snd v20)/\List.length (Prod.fst (Prod.snd (Prod.snd v13)))-Prod.fst v20<List.length (Prod.fst (Prod.snd (Prod.snd v13)))-Prod.fst v15/\(True/\True/\True/\(↑(Prod.fst v15):Int)+(1:Int)=(↑(Prod.fst v20):Int)/\True)/\(List.set (Prod.snd v15) (qf0 none (Int.toNat (↑(Prod.fst v15):Int))) (qa1 (Ty.list Q1) [qw4 (nL [qa1 (Ty.list Q1) (Prod.snd v15) (qf0 none (Int.toNat (↑(Prod.fst v15):Int)))] (0:Nat)) (qa1 (Ty.list (Ty.int .i64)) (Prod.snd v15) (qf0 none (Int.toNat v5))) (Int.toNat (↑(Prod.fst v13):Int))] (0:Nat))=Prod.snd v20/\True/\T=T)/\Prod.snd (Prod.snd (Prod.snd v13))=Prod.snd (Prod.snd (Prod.snd v13))/\((↑(Prod.fst v13):Int)=(↑(Prod.fst v13):Int)/\True)/\True/\True/\True/\True/\True/\True/\True/\True/\True/\True/\True/\True/\True/\True/\True/\True/\True/\True/\True/\True/\True/\True/\True/\True/\True/\True/\True/\True/\True)/\((qa1 (Ty.int .i64) (qa1 (Ty.list (Ty.int .i64)) (Prod.snd v15) (qf0 none (Int.toNat (↑(Prod.fst v15):Int)))) (Int.toNat (↑(Prod.fst v13):Int)) != (0:Int))=false->fits .i64 ((↑(Prod.fst v15):Int)+(1:Int))/\∃(v20:Nat × List Q0),q6q (Prod.fst (Prod.snd (Prod.snd v13))) (Prod.fst (Prod.snd v13)) (Prod.fst v13) (Prod.fst v20) (Prod.snd v20)/\List.length (Prod.fst (Prod.snd (Prod.snd v13)))-Prod.fst v20<List.length (Prod.fst (Prod.snd (Prod.snd v13)))-Prod.fst v15/\(True/\True/\True/\(↑(Prod.fst v15):Int)+(1:Int)=(↑(Prod.fst v20):Int)/\True)/\(Prod.snd v15=Prod.snd v20/\True/\T=T)/\Prod.snd (Prod.snd (Prod.snd v13))=Prod.snd (Prod.snd (Prod.snd v13))/\((↑(Prod.fst v13):Int)=(↑(Prod.fst v13):Int)/\True)/\True/\True/\True/\True/\True/\True/\True/\True/\True/\True/\True/\True/\True/\True/\True/\True/\True/\True/\True/\True/\True/\True/\True/\True/\True/\True/\True/\True/\True))/\(((↑(Prod.fst v15):Int) != v5)=false->fits .i64 ((↑(Prod.fst v15):Int)+(1:Int))/\∃(v19:Nat × List Q0),q6q (Prod.fst (Prod.snd (Prod.snd v13))) (Prod.fst (Prod.snd v13)) (Prod.fst v13) (Prod.fst v19) (Prod.snd v19)/\List.length (Prod.fst (Prod.snd (Prod.snd v13)))-Prod.fst v19<List.length (Prod.fst (Prod.snd (Prod.snd v13)))-Prod.fst v15/\(True/\True/\True/\(↑(Prod.fst v15):Int)+(1:Int)=(↑(Prod.fst v19):Int)/\True)/\(Prod.snd v15=Prod.snd v19/\True/\T=T)/\Prod.snd (Prod.snd (Prod.snd v13))=Prod.snd (Prod.snd (Prod.snd v13))/\((↑(Prod.fst v13):Int)=(↑(Prod.fst v13):Int)/\True)/\True/\True/\True/\True/\True/\True/\True/\True/\True/\True/\True/\True/\True/\True/\True/\True/\True/\True/\True/\True/\True/\True/\True/\True/\True/\True/\True/\True/\True))/\(decide ((↑(Prod.fst v15):Int)<(↑(qe9 (List.length (Prod.fst (Prod.snd v2))) (some (List.set (ixL (List.length (Prod.fst (Prod.snd v2))) (some (List.set (ixL (List.length (Prod.fst (Prod.snd v2))) none) (Int.toNat v5) (qf0 none (Int.toNat (v5+v9)))))) (Int.toNat (v5+v9)) (qf0 none (Int.toNat v5))))):Int))=false->((0:Nat)<List.length [(↑(Prod.fst v13):Int)]/\Nat.le (List.length (Prod.snd (Prod.snd (Prod.snd v13)))+List.length [(↑(Prod.fst v13):Int)]) (1000000:Nat))/\fits .i64 ((↑(Prod.fst v2):Int)+(1:Int))/\∃(v18:Nat × List Q0 × List Int),w3r rows Q2 (Prod.fst v18) (Prod.fst (Prod.snd v18)) (Prod.snd (Prod.snd v18))/\Int.toNat c-Prod.fst v18<Int.toNat c-Prod.fst v2/\(True/\True/\(↑(Prod.fst v2):Int)+(1:Int)=(↑(Prod.fst v18):Int)/\True)/\(Prod.snd v15=Prod.fst (Prod.snd v18)/\True/\T=T)/\Prod.snd (Prod.snd (Prod.snd v13))++[(↑(Prod.fst v13):Int)]=Prod.snd (Prod.snd v18)/\True))))/\(decide ((↑(Prod.fst v2):Int)<c)=false->Prod.fst (Prod.snd v2)=Prod.fst (qc7 rows Q2)/\T=T/\True/\Prod.snd (Prod.snd v2)=Prod.snd (qc7 rows Q2))) (by kernel_rfl) ?_
 try simp only[z0,z1,z2,z3,z4,z5,z6,z7,z8,z9,z10,Int.reduceEq,z11,z12,z13,z14,z15,z16,z17,z18,z19,z20,z21,z22,z23,z24,z25,z26,z27,z28,z29,z30,Int.reduceLE,Int.reduceLT,z31,z32,z33,z34,qa4]
 try simp only[qb6,qb7,qc8,List.set_cons_zero,List.cons.injEq,and_true,true_and]
 simp only[q38,w3s,xd8,xd9,q6r,w66,wm5,w67,List.length_set,List.length_range,List.take_length]
 obtain⟨hc0,W,hR⟩:=h
 have hRn:=hR.n
 have hRw:=hR.w
 refine⟨(),(0,rows,[]),⟨Nat.zero_le _,rfl⟩,⟨rfl,rfl,rfl⟩,?_⟩
 rintro⟨j,r0,piv⟩ ⟨hjc,hj⟩
 dsimp only at hjc hj ⊢
 have hsh:=q1d hR j
 rw[hj] at hsh
 have hn:=hsh.cnt
 have hpn:=hsh.piv
 have hpj:=hsh.pivj
 dsimp only at hn hpn hpj
 refine⟨λhlt=>?_,λhge=>?_⟩
 ·have hjl:j<c.toNat:=by omega
  have hjW:j<W:=by have:=hR.cw; omega
  rintro k rfl
  have he:=hsh.each
  dsimp only at he
  have hdrop:∀q,q<(r0.drop piv.length).length->j<(nL (r0.drop piv.length) q).length:=λq hq=>by
   rw[List.length_drop] at hq
   have e:nL (r0.drop piv.length) q=nL r0 (piv.length+q):=by
    rw[ql9 _ _ (by rw[List.length_drop]; exact hq),ql9 _ _ (by omega)]; simp
   rw[e,he _ (by omega)]; exact hjW
  simp only[Int.toNat_natCast]
  refine⟨⟨by omega,by omega,Nat.le_refl _⟩,λx=>j<x.1.length,λx=>nI x.1 j != 0,λx hx=>⟨hx,rfl⟩,⟨by rw[List.length_drop]; omega,hdrop⟩,?_⟩
  rintro a ha
  have ha:a=qs7 r0 piv.length j:=ha
  subst ha
  refine⟨λhneg=>?_,λhpos=>?_⟩
  ·refine⟨qa7 (by omega) (by omega),(j+1,r0,piv),⟨by dsimp only; omega,?_⟩,by dsimp only; omega,by dsimp only; omega,rfl,rfl⟩
   rw[qc7,hj,qv7,if_pos hneg]
  have hb:=q1b r0 piv.length j (by omega) hpos
  have hso:xl7 r0 piv.length j:=by have:=hR.step j hjl; rw[hj] at this; exact this hpos
  have hse:=q6s (W:=W) (by omega) hpos (λi hi=>he i (by omega))
  have hpe:=q1c (W:=W) (by omega) hpos (λi hi=>he i (by omega))
  have hab:((piv.length:Int)+qs7 r0 piv.length j).toNat=piv.length+(qs7 r0 piv.length j).toNat:=by omega
  simp only[hab]
  have hgd:=xe0 r0.length piv.length (piv.length+(qs7 r0 piv.length j).toNat) (by omega) hb
  have hmap:=xr5 r0 piv.length (piv.length+(qs7 r0 piv.length j).toNat) (by omega) hb
  have hnd:=w68 r0.length piv.length (piv.length+(qs7 r0 piv.length j).toNat) (by omega) hb
  have hk1:nL (q1a r0 piv.length j) piv.length=nL r0 (piv.length+(qs7 r0 piv.length j).toNat):=by
   unfold q1a
   rw[q27 _ _ _ (by omega) hb _ (by omega)]
   split
   ·rename_i e; rw[<- e]
   ·rw[if_pos rfl]
  simp only[hgd,hmap]
  rw[<- hk1]
  have hsl:=q5f r0 piv.length j
  have hkW:=hse piv.length (by omega)
  refine⟨qa7 (by omega) (by omega),qa7 (by omega) (by omega),by omega,by omega,by omega,by omega,by omega,by omega,by omega,by omega,by omega,by omega,by omega,by omega,λhng=>?_,λhng=>?_⟩
  ·refine⟨by omega,by omega,(j,piv.length,q1a r0 piv.length j,piv),(0,q1a r0 piv.length j),⟨Nat.zero_le _,?_⟩,⟨hnd,trivial⟩,⟨rfl,rfl,rfl,rfl⟩,?_⟩
   ·dsimp only
    have e:ovr (.int .i64) (λq=>0-nI (nL (q1a r0 piv.length j) piv.length) q) (nL (q1a r0 piv.length j) piv.length) 0=nL (q1a r0 piv.length j) piv.length:=qv1 (.int .i64) _ _
    rw[e,ql9 _ _ (by omega),List.set_getElem_self]
   rintro⟨i,r⟩ ⟨hi1,hi2⟩
   dsimp only at hi1 hi2 ⊢
   have hrl:r.length=r0.length:=by rw[hi2,List.length_set,hsl]
   have hrk:nL r piv.length=ovr (.int .i64) (λq=>0-nI (nL (q1a r0 piv.length j) piv.length) q) (nL (q1a r0 piv.length j) piv.length) i:=by
    rw[hi2,wc5 _ _ _ _ (by omega),if_pos rfl]
   have hrkl:(nL r piv.length).length=W:=by rw[hrk,qp9]; exact hkW
   refine⟨λhlt=>?_,λhge=>?_⟩
   ·have hv:nI (nL r piv.length) i=nI (nL (q1a r0 piv.length j) piv.length) i:=by
     rw[hrk]
     exact(q4u (.int .i64) _ _ _ _ hlt).trans (if_neg (Nat.lt_irrefl _))
    have hbd:qg3 BIG (nI (nL (q1a r0 piv.length j) piv.length) i):=hso.neg _ (by rw[qh7 _ i hlt]; exact List.getElem_mem hlt)
    unfold qg3 BIG at hbd
    rw[hv]
    refine⟨by omega,by omega,by omega,by omega,by omega,by omega,qa7 (by omega) (by omega),by omega,by omega,qa7 (by omega) (by omega),(i+1,r.set piv.length ((nL r piv.length).set i (0-nI (nL (q1a r0 piv.length j) piv.length) i))),⟨by dsimp only; omega,?_⟩,by dsimp only; omega,by dsimp only; omega,rfl⟩
    dsimp only
    have e:=qs6 (.int .i64) (λq=>0-nI (nL (q1a r0 piv.length j) piv.length) q) (nL (q1a r0 piv.length j) piv.length) i
    rw[hrk]
    refine(congrArg (r.set piv.length) e).trans ?_
    rw[hi2,List.set_set]
   ·have hprep:r=qi7 r0 piv.length j:=by
     unfold qi7
     rw[if_pos hng,hi2]
     refine congrArg _ ?_
     exact q0j (.int .i64) _ _ _ (by omega)
    refine⟨(j,piv.length,qi7 r0 piv.length j,piv),(0,qi7 r0 piv.length j),⟨Nat.zero_le _,(qv1 (.list (.int .i64)) _ _).symm⟩,⟨rfl,hprep,rfl,rfl⟩,?_⟩
    rw[hprep,qi4]
    rintro⟨i,r⟩ ⟨hi1,hi2⟩
    dsimp only at hi1 hi2 ⊢
    have hpl:=qi4 r0 piv.length j
    have hrl:r.length=r0.length:=by rw[hi2,qp9,qi4]
    have hi1:i<=r0.length:=by rw[qi4] at hi1; exact hi1
    have hat:∀q,q<r0.length->nL r q=if q<i then wh6 (qi7 r0 piv.length j) piv.length j q else nL (qi7 r0 piv.length j) q:=λq hq=>by
     rw[hi2]; exact q4u (.list (.int .i64)) _ _ _ _ (by rw[qi4]; exact hq)
    have hk2:nL r piv.length=nL (qi7 r0 piv.length j) piv.length:=by
     rw[hat _ (by omega)]
     split
     ·exact q29 _ _ _
     ·rfl
    refine⟨λhlt=>?_,λhge=>?_⟩
    ·have hlt:i<r0.length:=by omega
     have hri:nL r i=nL (qi7 r0 piv.length j) i:=by rw[hat i hlt,if_neg (Nat.lt_irrefl _)]
     have hw:=hpe i hlt
     refine⟨by omega,by omega,λhne=>⟨by rw[hri]; omega,by rw[hri]; omega,λhnz=>?_,λhz=>?_⟩,λheq=>?_⟩
     ·rw[hri] at hnz
      have hne:i≠piv.length:=by omega
      have hcl:=hso.clr i hlt hne hnz
      have hcr:wh6 (qi7 r0 piv.length j) piv.length j i=qw4 (nL r i) (nL r piv.length) j:=by
       unfold wh6; rw[if_pos ⟨hne,hnz⟩,hri,hk2]
      refine⟨by omega,by omega,by omega,?_,qa7 (by omega) (by omega),(i+1,r.set i (qw4 (nL r i) (nL r piv.length) j)),⟨by dsimp only; omega,?_⟩,by dsimp only; omega,by dsimp only; omega,rfl⟩
      ·show wl4 (nL r i) (nL r piv.length) j
       rw[hri,hk2]; exact hcl
      ·dsimp only
       rw[<- hcr,hi2]
       exact qs6 (.list (.int .i64)) _ _ _
     ·refine⟨qa7 (by omega) (by omega),(i+1,r),⟨by dsimp only; omega,?_⟩,by dsimp only; omega,by dsimp only; omega,rfl⟩
      dsimp only
      rw[hi2]
      refine q5g (.list (.int .i64)) _ _ _ λ_=>?_
      unfold wh6
      rw[if_neg]
      ·rfl
      ·intro h2
       rw[hri] at hz
       exact h2.2 hz
     ·refine⟨qa7 (by omega) (by omega),(i+1,r),⟨by dsimp only; omega,?_⟩,by dsimp only; omega,by dsimp only; omega,rfl⟩
      dsimp only
      rw[hi2]
      refine q5g (.list (.int .i64)) _ _ _ λ_=>?_
      have e:i=piv.length:=by omega
      rw[e]
      exact q29 _ _ _
    ·obtain rfl:i=r0.length:=by omega
     refine⟨by omega,qa7 (by omega) (by omega),(j+1,r,piv++[(j:Int)]),⟨by omega,?_⟩,by dsimp only; omega,by dsimp only; omega,rfl,rfl⟩
     rw[qc7,hj,qv7,if_neg (by dsimp only; omega),hi2]
     refine congrArg (·,_) ?_
     rw[<- qi4 r0 piv.length j]
     exact(q0j (.list (.int .i64)) _ _ _ (Nat.le_refl _)).symm
  ·have hprep:q1a r0 piv.length j=qi7 r0 piv.length j:=by unfold qi7; rw[if_neg (by omega)]
   refine⟨(j,piv.length,qi7 r0 piv.length j,piv),(0,qi7 r0 piv.length j),⟨Nat.zero_le _,(qv1 (.list (.int .i64)) _ _).symm⟩,⟨hnd,trivial⟩,⟨rfl,hprep,rfl,rfl⟩,?_⟩
   rintro⟨i,r⟩ ⟨hi1,hi2⟩
   dsimp only at hi1 hi2 ⊢
   have hpl:=qi4 r0 piv.length j
   have hrl:r.length=r0.length:=by rw[hi2,qp9,qi4]
   have hi1:i<=r0.length:=by rw[qi4] at hi1; exact hi1
   have hat:∀q,q<r0.length->nL r q=if q<i then wh6 (qi7 r0 piv.length j) piv.length j q else nL (qi7 r0 piv.length j) q:=λq hq=>by
    rw[hi2]; exact q4u (.list (.int .i64)) _ _ _ _ (by rw[qi4]; exact hq)
   have hk2:nL r piv.length=nL (qi7 r0 piv.length j) piv.length:=by
    rw[hat _ (by omega)]
    split
    ·exact q29 _ _ _
    ·rfl
   refine⟨λhlt=>?_,λhge=>?_⟩
   ·have hlt:i<r0.length:=by omega
    have hri:nL r i=nL (qi7 r0 piv.length j) i:=by rw[hat i hlt,if_neg (Nat.lt_irrefl _)]
    have hw:=hpe i hlt
    refine⟨by omega,by omega,λhne=>⟨by rw[hri]; omega,by rw[hri]; omega,λhnz=>?_,λhz=>?_⟩,λheq=>?_⟩
    ·rw[hri] at hnz
     have hne:i≠piv.length:=by omega
     have hcl:=hso.clr i hlt hne hnz
     have hcr:wh6 (qi7 r0 piv.length j) piv.length j i=qw4 (nL r i) (nL r piv.length) j:=by
      unfold wh6; rw[if_pos ⟨hne,hnz⟩,hri,hk2]
     refine⟨by omega,by omega,by omega,?_,qa7 (by omega) (by omega),(i+1,r.set i (qw4 (nL r i) (nL r piv.length) j)),⟨by dsimp only; omega,?_⟩,by dsimp only; omega,by dsimp only; omega,rfl⟩
     ·show wl4 (nL r i) (nL r piv.length) j
      rw[hri,hk2]; exact hcl
     ·dsimp only
      rw[<- hcr,hi2]
      exact qs6 (.list (.int .i64)) _ _ _
    ·refine⟨qa7 (by omega) (by omega),(i+1,r),⟨by dsimp only; omega,?_⟩,by dsimp only; omega,by dsimp only; omega,rfl⟩
     dsimp only
     rw[hi2]
     refine q5g (.list (.int .i64)) _ _ _ λ_=>?_
     unfold wh6
     rw[if_neg]
     ·rfl
     ·intro h2
      rw[hri] at hz
      exact h2.2 hz
    ·refine⟨qa7 (by omega) (by omega),(i+1,r),⟨by dsimp only; omega,?_⟩,by dsimp only; omega,by dsimp only; omega,rfl⟩
     dsimp only
     rw[hi2]
     refine q5g (.list (.int .i64)) _ _ _ λ_=>?_
     have e:i=piv.length:=by omega
     rw[e]
     exact q29 _ _ _
   ·obtain rfl:i=r0.length:=by omega
    refine⟨by omega,qa7 (by omega) (by omega),(j+1,r,piv++[(j:Int)]),⟨by omega,?_⟩,by dsimp only; omega,by dsimp only; omega,rfl,rfl⟩
    rw[qc7,hj,qv7,if_neg (by dsimp only; omega),hi2]
    refine congrArg (·,_) ?_
    rw[<- qi4 r0 piv.length j]
    exact(q0j (.list (.int .i64)) _ _ _ (Nat.le_refl _)).symm
 ·obtain rfl:j=c.toNat:=by omega
  rw[hj]
  exact⟨rfl,rfl⟩
end Go.Proofs.YtdibdlelmkcccaaGreat
