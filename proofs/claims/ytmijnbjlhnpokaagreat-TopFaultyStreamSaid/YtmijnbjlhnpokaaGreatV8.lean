/- Rows reduced: contract by the engine. No condition. -/
import Derived.Test.YtmijnbjlhnpokaaGreatV7
set_option linter.unusedVariables false
set_option linter.unusedSimpArgs false
namespace Go.Proofs.YtmijnbjlhnpokaaGreat
open Go Go.RowKit Eng
abbrev x3s:qb4:=hspec [] true none [.d qe8,.cap qd0] [.bool] (λx=>0<=x.2.1/\x.2.1<x.1.length) (λx=>(nI x.1 x.2.1.toNat != 0,()))
theorem w4e:Meets Tryz.prog 130 x3s:=by
 refine qk0 (SpecsOk.nil _) (snd (SpecsOk.nil _)) Tryz.func130 rfl rfl (λ_ _=>none) (λ_=>by kernel_rfl) (by decide) ?_
 rintro⟨l,j,⟨⟩⟩ h
 revert l j
 intro(l:List Int) (j:Int) (h:0<=j/\j<l.length)
 refine @qd1 _ (((0:Int)<=j/\j<(↑l.length:Int))/\(nI l j.toNat != (0:Int))=(nI l j.toNat != (0:Int))) (by kernel_rfl) ?_
 try simp only[z0,z1,z2,z3,z4,z5,z6,z7,z8,z9,z10,Int.reduceEq,z11,z12,z13,z14,z15,z16,z17,z18,z19,z20,z21,z22,z23,z24,z25,z26,z27,z28,z29,z30,Int.reduceLE,Int.reduceLT,z31,z32,z33,z34,qa1]
 try simp only[qa7,qa8,qb5,z31,z32,z2,z1]
 exact h
def qs3 (rows:List (List Int)) (k j:Nat):Int:=ixT (.list (.int .i64)) (λr=>nI r j != 0) (rows.drop k)
def wm4 (rows:List (List Int)) (a b:Nat):List (List Int):=(rows.set a (nL rows b)).set b (nL rows a)
def xi6 (r:List Int):List Int:=(List.range r.length).map λi=>0-nI r i
def q1k (rows:List (List Int)) (k j:Nat):List (List Int):=wm4 rows k (k+(qs3 rows k j).toNat)
def qi7 (rows:List (List Int)) (k j:Nat):List (List Int):=if nI (nL (q1k rows k j) k) j<0 then(q1k rows k j).set k (xi6 (nL (q1k rows k j) k)) else q1k rows k j
def wh2 (rows:List (List Int)) (k j i:Nat):List Int:=if i≠k/\nI (nL rows i) j≠0 then qw6 (nL rows i) (nL rows k) j else nL rows i
def xc3 (rows:List (List Int)) (k j:Nat):List (List Int):=(List.range rows.length).map (wh2 rows k j)
def qv3 (s:List (List Int) × List Int) (j:Nat):List (List Int) × List Int:=if qs3 s.1 s.2.length j<0 then s else(xc3 (qi7 s.1 s.2.length j) s.2.length j,s.2++[(j:Int)])
def qc7 (rows:List (List Int)):Nat->List (List Int) × List Int
 | 0=>(rows,[])
 | j+1=>qv3 (qc7 rows j) j
structure xr7 (rows:List (List Int)) (k j:Nat):Prop where
 neg:∀x∈nL (q1k rows k j) k,qf0 BIG x
 clr:∀i,i<rows.length->i≠k->nI (nL (qi7 rows k j) i) j≠0->wl8 (nL (qi7 rows k j) i) (nL (qi7 rows k j) k) j
structure q4h (rows:List (List Int)) (cols W:Nat):Prop where
 n:rows.length<=1000
 w:W<=1000
 cw:cols<=W
 each:∀i,i<rows.length->(nL rows i).length=W
 step:∀j,j<cols->0<=qs3 (qc7 rows j).1 (qc7 rows j).2.length j->xr7 (qc7 rows j).1 (qc7 rows j).2.length j
abbrev yj8:ql6:=q5h (q0u [qd0]) true false 34 3 (.int .i64) (λrows x=>0<=x.1/\∃W,q4h rows x.1.toNat W) (λrows x=>.dat (.int .i64) (qc7 rows x.1.toNat).2) (λrows x=>(qc7 rows x.1.toNat).1)
def xr8:List AObj:=[.dead,.dead,.dead,.dead,.dead,.dead,.dead,.dead,.dead,.dead,.dead,.dead,.dead,.dead,.dead,.dead,.dead,.dead,.dead,.dead,.dead,.dead,.dead,.dead,.dead,.dead,.dead,.dead]
structure xi7 (rows:List (List Int)) (k i:Nat) (r:List (List Int)):Prop where
 le:i<=(nL rows k).length
 eq:r=rows.set k (ovr (.int .i64) (λq=>0-nI (nL rows k) q) (nL rows k) i)
structure q65 (rows:List (List Int)) (k j i:Nat) (r:List (List Int)):Prop where
 le:i<=rows.length
 eq:r=ovr (.list (.int .i64)) (wh2 rows k j) rows i
structure w4f (R:List (List Int)) (c j:Nat) (r:List (List Int)) (p:List Int):Prop where
 le:j<=c
 eq:qc7 R j=(r,p)
def x77 (T:q5b) (R:List (List Int)) (c:Nat):Nat->Option Inv
 | 0=>some (Inv.of [0,5,13] 2 (λs:Nat × List (List Int) × List Int=>[(0,.msl 0 .none),(5,.own 1),(13,.lit (.int .i64 s.1))]) (λs=>[.mat 34 3 (.int .i64) s.2.1 .none (some T),.vec 3 (.int .i64) s.2.2]) (λs=>w4f R c s.1 s.2.1 s.2.2) (λs=>c-s.1))
 | 1=>some (Eng.Inv.mk (Nat × Nat × List (List Int) × List Int) (Nat × List (List Int)) [0,5,56] 31 (λ_ s=>[(0,.msl 0 .none),(5,.own 1),(56,.lit (.int .i64 s.1))]) (λq s=>.mat 34 3 (.int .i64) s.2 .none (some T) :: .vec 3 (.int .i64) q.2.2.2 :: .box 3 (.cons (.lit (.int .i64 q.1)) .nil) :: xr8) (λq s=>xi7 q.2.2.1 q.2.1 s.1 s.2) (λq s=>(nL q.2.2.1 q.2.1).length-s.1))
 | 2=>some (Eng.Inv.mk (Nat × Nat × List (List Int) × List Int) (Nat × List (List Int)) [0,5,74,76] 31 (λ_ s=>[(0,.msl 0 .none),(5,.own 1),(74,.msl 0 .none),(76,.lit (.int .i64 s.1))]) (λq s=>.mat 34 3 (.int .i64) s.2 .none (some T) :: .vec 3 (.int .i64) q.2.2.2 :: .box 3 (.cons (.lit (.int .i64 q.1)) .nil) :: xr8) (λq s=>q65 q.2.2.1 q.2.1 q.1 s.1 s.2) (λq s=>q.2.2.1.length-s.1))
 | _=>none
theorem q4i (n:Nat):qe2 n none=n:=rfl
theorem w4g (n:Nat) (l:List Nat):qe2 n (some l)=l.length:=rfl
theorem xi8 (n:Nat):ixL n none=List.range n:=rfl
theorem xi9 (n:Nat) (l:List Nat):ixL n (some l)=l:=rfl
theorem q66 (i:Nat):qe7 none i=i:=rfl
theorem w8b (l:List Nat) (i:Nat):qe7 (some l) i=l.getD i 0:=rfl
theorem wm5 (r:List (List Int)):q1t (.int .i64) r none=r:=rfl
theorem w8c (r:List (List Int)) (l:List Nat):q1t (.int .i64) r (some l)=l.map λp=>nL r p:=rfl
theorem xj0 (n k b:Nat) (hk:k<n) (hb:b<n):(((List.range n).set k b).set b k).getD k 0=b:=by
 rw[List.getD_eq_getElem?_getD]
 by_cases e:b=k
 ·subst e
  rw[List.getElem?_set_self (by simpa using hb)]; rfl
 ·rw[List.getElem?_set_ne e,List.getElem?_set_self (by simpa using hk)]; rfl
theorem w8d (n k b:Nat) (hk:k<n) (hb:b<n):(((List.range n).set k b).set b k).Nodup:=by
 rw[List.nodup_iff_pairwise_ne,List.pairwise_iff_getElem]
 intro i j hi hj hij
 simp only[List.length_set,List.length_range] at hi hj
 simp only[List.getElem_set,List.getElem_range]
 split <;> split <;> (try split) <;> (try split) <;> omega
theorem xz2 (r:List (List Int)) (k b:Nat) (hk:k<r.length) (hb:b<r.length):((((List.range r.length).set k b).set b k).map λp=>nL r p)=wm4 r k b:=by
 apply List.ext_getElem (by simp[wm4])
 intro i h1 h2
 have hi:i<r.length:=by simpa using h1
 simp only[List.getElem_map,List.getElem_set,List.getElem_range,wm4]
 split
 ·rfl
 ·split
  ·rfl
  ·exact qm1 r i hi
theorem wm6 (r:List (List Int)) (k b:Nat):(wm4 r k b).length=r.length:=by simp[wm4]
theorem q3m (r:List (List Int)) (k b:Nat) (hk:k<r.length) (hb:b<r.length) (i:Nat) (hi:i<r.length):nL (wm4 r k b) i=if i=b then nL r k else if i=k then nL r b else nL r i:=by
 rw[qm1 _ i (by rw[wm6]; exact hi)]
 simp only[wm4,List.getElem_set]
 by_cases e:b=i
 ·rw[if_pos e,if_pos e.symm]
 ·rw[if_neg e,if_neg (Ne.symm e)]
  by_cases e2:k=i
  ·rw[if_pos e2,if_pos e2.symm]
  ·rw[if_neg e2,if_neg (Ne.symm e2),qm1 r i hi]
theorem q9l (l:List Int):(qe3 l).length=l.length:=by unfold qe3; split <;> simp
theorem q9m (r b:List Int) (c:Nat):(qw6 r b c).length=r.length:=by unfold qw6; rw[q9l,q1i]
theorem q5v (r:List Int):(xi6 r).length=r.length:=by simp[xi6]
theorem q5w (r:List (List Int)) (k j:Nat):(q1k r k j).length=r.length:=wm6 _ _ _
theorem qi5 (r:List (List Int)) (k j:Nat):(qi7 r k j).length=r.length:=by
 unfold qi7; split
 ·rw[List.length_set,q5w]
 ·rw[q5w]
theorem wd0 (r:List (List Int)) (k:Nat) (x:List Int) (i:Nat) (hi:i<r.length):nL (r.set k x) i=if i=k then x else nL r i:=by
 rw[qm1 _ i (by rw[List.length_set]; exact hi),List.getElem_set]
 by_cases e:k=i
 ·rw[if_pos e,if_pos e.symm]
 ·rw[if_neg e,if_neg (Ne.symm e),qm1 r i hi]
theorem q1l (r:List (List Int)) (k j:Nat) (hk:k<=r.length) (h:0<=qs3 r k j):k+(qs3 r k j).toNat<r.length:=by
 have:=(xr3 (.list (.int .i64)) (λr=>nI r j != 0) (r.drop k)).1
 unfold qs3 at h ⊢
 rw[List.length_drop] at this
 omega
theorem q3n (r:List (List Int)) (k j i:Nat) (hi:i<r.length):nL (qi7 r k j) i=if i=k/\nI (nL (q1k r k j) k) j<0 then xi6 (nL (q1k r k j) k) else nL (q1k r k j) i:=by
 unfold qi7
 split
 ·rename_i h
  rw[wd0 _ _ _ _ (by rw[q5w]; exact hi)]
  by_cases e:i=k
  ·rw[if_pos e,if_pos ⟨e,h⟩]
  ·rw[if_neg e,if_neg λq=>e q.1]
 ·rename_i h
  rw[if_neg λq=>h q.2]
theorem wd1 (r:List (List Int)) (k j:Nat):(xc3 r k j).length=r.length:=by simp[xc3]
theorem w8e (r:List (List Int)) (k j i:Nat) (hi:i<r.length):nL (xc3 r k j) i=wh2 r k j i:=by
 rw[qm1 _ i (by rw[wd1]; exact hi)]; simp[xc3]
structure RedSh (n W:Nat) (s:List (List Int) × List Int) (j:Nat):Prop where
 cnt:s.1.length=n
 each:∀i,i<n->(nL s.1 i).length=W
 piv:s.2.length<=n
 pivj:s.2.length<=j
theorem q67 {r:List (List Int)} {k j W:Nat} (hk:k<=r.length) (h:0<=qs3 r k j) (he:∀i,i<r.length->(nL r i).length=W):∀i,i<r.length->(nL (q1k r k j) i).length=W:=λi hi=>by
 have hb:=q1l r k j hk h
 unfold q1k
 rw[q3m _ _ _ (by omega) hb i hi]
 split
 ·exact he _ (by omega)
 ·split
  ·exact he _ hb
  ·exact he _ hi
theorem q1m {r:List (List Int)} {k j W:Nat} (hk:k<=r.length) (h:0<=qs3 r k j) (he:∀i,i<r.length->(nL r i).length=W):∀i,i<r.length->(nL (qi7 r k j) i).length=W:=λi hi=>by
 have hb:=q1l r k j hk h
 have h1:=q67 hk h he
 rw[q3n _ _ _ _ hi]
 split
 ·rw[q5v]; exact h1 _ (by omega)
 ·exact h1 _ hi
theorem RedSh.step {n W j:Nat} {s:List (List Int) × List Int} (h:RedSh n W s j):RedSh n W (qv3 s j) (j+1):=by
 unfold qv3
 split
 ·exact⟨h.cnt,h.each,h.piv,by have:=h.pivj; omega⟩
 ·rename_i hp
  have hp:0<=qs3 s.1 s.2.length j:=by omega
  have hn:=h.cnt
  have hb:=q1l s.1 s.2.length j (by rw[hn]; exact h.piv) hp
  have he:=q1m (W:=W) (by rw[hn]; exact h.piv) hp (λi hi=>h.each i (by omega))
  refine⟨by rw[wd1,qi5]; exact hn,λi hi=>?_,?_,?_⟩
  ·rw[w8e _ _ _ _ (by rw[qi5]; omega)]
   unfold wh2
   split
   ·rw[q9m]; exact he i (by omega)
   ·exact he i (by omega)
  ·rw[List.length_append]; simp; omega
  ·rw[List.length_append]; have:=h.pivj; simp; omega
theorem q1o {R:List (List Int)} {c W:Nat} (h:q4h R c W):∀j,RedSh R.length W (qc7 R j) j
 | 0=>⟨rfl,h.each,Nat.zero_le _,Nat.le_refl _⟩
 | j+1=>(q1o h j).step
theorem q3o (r:List (List Int)) (k j:Nat):wh2 r k j k=nL r k:=by unfold wh2; rw[if_neg]; exact λh=>h.1 rfl
theorem q5x (t:Ty) (g:Nat->t.den) (l:List t.den) (k:Nat) (h:k<l.length->g k=qe6 t l k):ovr t g l k=ovr t g l (k+1):=by
 unfold ovr
 apply List.map_congr_left
 intro i hi
 have hi:=List.mem_range.1 hi
 by_cases e:i=k
 ·subst e; rw[if_neg (Nat.lt_irrefl _),if_pos (by omega),h hi]
 ·by_cases h2:i<k
  ·rw[if_pos h2,if_pos (by omega)]
  ·rw[if_neg h2,if_neg (by omega)]
theorem q68:qn4 Tryz.prog 70 yj8:=by
 refine q0w (x7z [17,22] (SpecsOk.cons (wl9 (fs:=[(130,x3s)]) (SpecsOk.cons w4e (SpecsOk.nil _))) (SpecsOk.nil _)) (MutsOk.cons ww3 MutsOk.nil)) Tryz.func70 rfl rfl (qm0 [qd0]) (λT rows x=>x77 T rows x.1.toNat) (λ_ _ _=>by kernel_rfl) (by decide) ?_ rfl
 rintro T rows ⟨c,⟨⟩⟩ h -
 revert rows c
 intro(rows:List (List Int)) (c:Int) (h:0<=c/\∃W,q4h rows c.toNat W)
 refine @qd1 _ (let Q0:=List Int; let Q1:=ql6.t xr2; ∃(v0:Unit),∃(v1:Nat × List Q0 × List Int),w4f rows c.toNat v1.1 v1.2.1 v1.2.2/\((True/\True/\(0:Int)=(↑v1.1:Int)/\True)/\(rows=v1.2.1/\True/\T=T)/\v1.2.2=[]/\True)/\∀(v2:Nat × List Q0 × List Int),w4f rows c.toNat v2.1 v2.2.1 v2.2.2->(decide ((↑v2.1:Int)<c)=true->∀(v5:Int),v5=(↑v2.2.2.length:Int)->((0:Int)<=v5/\v5<=(↑(qe2 v2.2.1.length none):Int)/\(↑(qe2 v2.2.1.length none):Int)<=(↑(qe2 v2.2.1.length none):Int))/\∃(v7:qa4 [Ty.list (Ty.int .i64)]->Prop),∃(v8:qa4 [Ty.list (Ty.int .i64)]->Bool),(∀(v9:List Int × qa4._f [] PUnit.unit),v7 v9->((0:PTy.den (PTy.cap qd0))<=(↑v2.1:Int)/\(↑v2.1:Int)<(↑v9.1.length:PTy.den (PTy.cap qd0)))/\(nI v9.1 (↑v2.1:Int).toNat != (0:Int))=v8 v9)/\((List.drop v5.toNat (List.take (↑(qe2 v2.2.1.length none):Int).toNat (q1t (Ty.int .i64) v2.2.1 none))).length<=(1000000:Nat)/\∀(v9:Nat),v9<(List.drop v5.toNat (List.take (↑(qe2 v2.2.1.length none):Int).toNat (q1t (Ty.int .i64) v2.2.1 none))).length->v7 (nL (List.drop v5.toNat (List.take (↑(qe2 v2.2.1.length none):Int).toNat (q1t (Ty.int .i64) v2.2.1 none))) v9,()))/\∀(v9:Int),v9=ixT (Ty.list (Ty.int .i64)) (λ(v11:List Int)=>v8 (v11,())) (List.drop v5.toNat (List.take (↑(qe2 v2.2.1.length none):Int).toNat (q1t (Ty.int .i64) v2.2.1 none)))->(decide (v9<(0:Int))=true->fits .i64 ((↑v2.1:Int)+(1:Int))/\∃(v12:Nat × List Q0 × List Int),w4f rows c.toNat v12.1 v12.2.1 v12.2.2/\c.toNat-v12.1<c.toNat-v2.1/\(True/\True/\(↑v2.1:Int)+(1:Int)=(↑v12.1:Int)/\True)/\(v2.2.1=v12.2.1/\True/\T=T)/\v2.2.2=v12.2.2/\True)/\(decide (v9<(0:Int))=false->fits .i64 (v5+v9)/\fits .i64 (v5+v9)/\((0:Int)<=v5+v9/\v5+v9<(↑(qe2 v2.2.1.length none):Int))/\(v5+v9).toNat<qe2 v2.2.1.length none/\((0:Int)<=v5/\v5<(↑(qe2 v2.2.1.length none):Int))/\v5.toNat<qe2 v2.2.1.length none/\((0:Int)<=v5/\v5<(↑(qe2 v2.2.1.length none):Int))/\v5.toNat<qe2 v2.2.1.length none/\((0:Int)<=v5+v9/\v5+v9<(↑(qe2 v2.2.1.length (some (List.set (ixL v2.2.1.length none) v5.toNat (qe7 none (v5+v9).toNat)))):Int))/\(v5+v9).toNat<qe2 v2.2.1.length (some (List.set (ixL v2.2.1.length none) v5.toNat (qe7 none (v5+v9).toNat)))/\((0:Int)<=v5/\v5<(↑(qe2 v2.2.1.length (some (List.set (ixL v2.2.1.length (some (List.set (ixL v2.2.1.length none) v5.toNat (qe7 none (v5+v9).toNat)))) (v5+v9).toNat (qe7 none v5.toNat)))):Int))/\v5.toNat<qe2 v2.2.1.length (some (List.set (ixL v2.2.1.length (some (List.set (ixL v2.2.1.length none) v5.toNat (qe7 none (v5+v9).toNat)))) (v5+v9).toNat (qe7 none v5.toNat)))/\((0:Int)<=(↑v2.1:Int)/\(↑v2.1:Int)<(↑(nL v2.2.1 (qe7 (some (List.set (ixL v2.2.1.length (some (List.set (ixL v2.2.1.length none) v5.toNat (qe7 none (v5+v9).toNat)))) (v5+v9).toNat (qe7 none v5.toNat))) v5.toNat)).length:Int))/\(↑v2.1:Int).toNat<(nL v2.2.1 (qe7 (some (List.set (ixL v2.2.1.length (some (List.set (ixL v2.2.1.length none) v5.toNat (qe7 none (v5+v9).toNat)))) (v5+v9).toNat (qe7 none v5.toNat))) v5.toNat)).length/\(decide (nI (nL v2.2.1 (qe7 (some (List.set (ixL v2.2.1.length (some (List.set (ixL v2.2.1.length none) v5.toNat (qe7 none (v5+v9).toNat)))) (v5+v9).toNat (qe7 none v5.toNat))) v5.toNat)) (↑v2.1:Int).toNat<(0:Int))=true->((0:Int)<=v5/\v5<(↑(qe2 v2.2.1.length (some (List.set (ixL v2.2.1.length (some (List.set (ixL v2.2.1.length none) v5.toNat (qe7 none (v5+v9).toNat)))) (v5+v9).toNat (qe7 none v5.toNat)))):Int))/\v5.toNat<qe2 v2.2.1.length (some (List.set (ixL v2.2.1.length (some (List.set (ixL v2.2.1.length none) v5.toNat (qe7 none (v5+v9).toNat)))) (v5+v9).toNat (qe7 none v5.toNat)))/\∃(v13:Nat × Nat × List Q0 × List Int),∃(v14:Nat × List Q0),xi7 v13.2.2.1 v13.2.1 v14.1 v14.2/\(List.Nodup (List.set (ixL v2.2.1.length (some (List.set (ixL v2.2.1.length none) v5.toNat (qe7 none (v5+v9).toNat)))) (v5+v9).toNat (qe7 none v5.toNat))/\(List.set (ixL v2.2.1.length (some (List.set (ixL v2.2.1.length none) v5.toNat (qe7 none (v5+v9).toNat)))) (v5+v9).toNat (qe7 none v5.toNat)).length=v2.2.1.length)/\((True/\True/\(0:Int)=(↑v14.1:Int)/\True)/\(q1t (Ty.int .i64) v2.2.1 (some (List.set (ixL v2.2.1.length (some (List.set (ixL v2.2.1.length none) v5.toNat (qe7 none (v5+v9).toNat)))) (v5+v9).toNat (qe7 none v5.toNat)))=v14.2/\True/\T=T)/\v2.2.2=v13.2.2.2/\((↑v2.1:Int)=(↑v13.1:Int)/\True)/\True/\True/\True/\True/\True/\True/\True/\True/\True/\True/\True/\True/\True/\True/\True/\True/\True/\True/\True/\True/\True/\True/\True/\True/\True/\True/\True/\True/\True)/\∀(v15:Nat × List Q0),xi7 v13.2.2.1 v13.2.1 v15.1 v15.2->(decide ((↑v15.1:Int)<(↑(nL v2.2.1 (qe7 (some (List.set (ixL v2.2.1.length (some (List.set (ixL v2.2.1.length none) v5.toNat (qe7 none (v5+v9).toNat)))) (v5+v9).toNat (qe7 none v5.toNat))) v5.toNat)).length:Int))=true->((0:Int)<=v5/\v5<(↑(qe2 v15.2.length none):Int))/\v5.toNat<qe2 v15.2.length none/\((0:Int)<=v5/\v5<(↑(qe2 v15.2.length none):Int))/\v5.toNat<qe2 v15.2.length none/\((0:Int)<=(↑v15.1:Int)/\(↑v15.1:Int)<(↑(nL v15.2 (qe7 none v5.toNat)).length:Int))/\(↑v15.1:Int).toNat<(nL v15.2 (qe7 none v5.toNat)).length/\fits .i64 ((0:Int)-nI (nL v15.2 (qe7 none v5.toNat)) (↑v15.1:Int).toNat)/\((0:Int)<=(↑v15.1:Int)/\(↑v15.1:Int)<(↑(nL v15.2 (qe7 none v5.toNat)).length:Int))/\(↑v15.1:Int).toNat<(nL v15.2 (qe7 none v5.toNat)).length/\fits .i64 ((↑v15.1:Int)+(1:Int))/\∃(v18:Nat × List Q0),xi7 v13.2.2.1 v13.2.1 v18.1 v18.2/\(nL v13.2.2.1 v13.2.1).length-v18.1<(nL v13.2.2.1 v13.2.1).length-v15.1/\(True/\True/\(↑v15.1:Int)+(1:Int)=(↑v18.1:Int)/\True)/\(List.set v15.2 (qe7 none v5.toNat) (List.set (nL v15.2 (qe7 none v5.toNat)) (↑v15.1:Int).toNat ((0:Int)-nI (nL v15.2 (qe7 none v5.toNat)) (↑v15.1:Int).toNat))=v18.2/\True/\T=T)/\v13.2.2.2=v13.2.2.2/\((↑v13.1:Int)=(↑v13.1:Int)/\True)/\True/\True/\True/\True/\True/\True/\True/\True/\True/\True/\True/\True/\True/\True/\True/\True/\True/\True/\True/\True/\True/\True/\True/\True/\True/\True/\True/\True/\True)/\(decide ((↑v15.1:Int)<(↑(nL v2.2.1 (qe7 (some (List.set (ixL v2.2.1.length (some (List.set (ixL v2.2.1.length none) v5.toNat (qe7 none (v5+v9).toNat)))) (v5+v9).toNat (qe7 none v5.toNat))) v5.toNat)).length:Int))=false->∃(v18:Nat × Nat × List Q0 × List Int),∃(v19:Nat × List Q0),q65 v18.2.2.1 v18.2.1 v18.1 v19.1 v19.2/\((True/\True/\True/\(0:Int)=(↑v19.1:Int)/\True)/\(v15.2=v19.2/\True/\T=T)/\v13.2.2.2=v18.2.2.2/\((↑v13.1:Int)=(↑v18.1:Int)/\True)/\True/\True/\True/\True/\True/\True/\True/\True/\True/\True/\True/\True/\True/\True/\True/\True/\True/\True/\True/\True/\True/\True/\True/\True/\True/\True/\True/\True/\True)/\∀(v20:Nat × List Q0),q65 v18.2.2.1 v18.2.1 v18.1 v20.1 v20.2->(decide ((↑v20.1:Int)<(↑(qe2 v15.2.length none):Int))=true->((0:Int)<=(↑v20.1:Int)/\(↑v20.1:Int)<(↑(qe2 v20.2.length none):Int))/\(↑v20.1:Int).toNat<qe2 v20.2.length none/\(((↑v20.1:Int) != v5)=true->((0:Int)<=(↑v18.1:Int)/\(↑v18.1:Int)<(↑(nL v20.2 (qe7 none (↑v20.1:Int).toNat)).length:Int))/\(↑v18.1:Int).toNat<(nL v20.2 (qe7 none (↑v20.1:Int).toNat)).length/\((nI (nL v20.2 (qe7 none (↑v20.1:Int).toNat)) (↑v18.1:Int).toNat != (0:Int))=true->((0:Int)<=v5/\v5<(↑(qe2 v20.2.length none):Int))/\v5.toNat<qe2 v20.2.length none/\qe7 none v5.toNat≠qe7 none (↑v20.1:Int).toNat/\((0:Ty.den qd0)<=(↑v18.1:Int)/\wl8 (nL [qe6 (Ty.list Q1) v20.2 (qe7 none (↑v20.1:Int).toNat)] (0:Nat)) (nL v20.2 (qe7 none v5.toNat)) (↑v18.1:Int).toNat)/\fits .i64 ((↑v20.1:Int)+(1:Int))/\∃(v25:Nat × List Q0),q65 v18.2.2.1 v18.2.1 v18.1 v25.1 v25.2/\v18.2.2.1.length-v25.1<v18.2.2.1.length-v20.1/\(True/\True/\True/\(↑v20.1:Int)+(1:Int)=(↑v25.1:Int)/\True)/\(List.set v20.2 (qe7 none (↑v20.1:Int).toNat) (qe6 (Ty.list Q1) [qw6 (nL [qe6 (Ty.list Q1) v20.2 (qe7 none (↑v20.1:Int).toNat)] (0:Nat)) (nL v20.2 (qe7 none v5.toNat)) (↑v18.1:Int).toNat] (0:Nat))=v25.2/\True/\T=T)/\v18.2.2.2=v18.2.2.2/\((↑v18.1:Int)=(↑v18.1:Int)/\True)/\True/\True/\True/\True/\True/\True/\True/\True/\True/\True/\True/\True/\True/\True/\True/\True/\True/\True/\True/\True/\True/\True/\True/\True/\True/\True/\True/\True/\True)/\((nI (nL v20.2 (qe7 none (↑v20.1:Int).toNat)) (↑v18.1:Int).toNat != (0:Int))=false->fits .i64 ((↑v20.1:Int)+(1:Int))/\∃(v25:Nat × List Q0),q65 v18.2.2.1 v18.2.1 v18.1 v25.1 v25.2/\v18.2.2.1.length-v25.1<v18.2.2.1.length-v20.1/\(True/\True/\True/\(↑v20.1:Int)+(1:Int)=(↑v25.1:Int)/\True)/\(v20.2=v25.2/\True/\T=T)/\v18.2.2.2=v18.2.2.2/\((↑v18.1:Int)=(↑v18.1:Int)/\True)/\True/\True/\True/\True/\True/\True/\True/\True/\True/\True/\True/\True/\True/\True/\True/\True/\True/\True/\True/\True/\True/\True/\True/\True/\True/\True/\True/\True/\True))/\(((↑v20.1:Int) != v5)=false->fits .i64 ((↑v20.1:Int)+(1:Int))/\∃(v24:Nat × List Q0),q65 v18.2.2.1 v18.2.1 v18.1 v24.1 v24.2/\v18.2.2.1.length-v24.1<v18.2.2.1.length-v20.1/\(True/\True/\True/\(↑v20.1:Int)+(1:Int)=(↑v24.1:Int)/\True)/\(v20.2=v24.2/\True/\T=T)/\v18.2.2.2=v18.2.2.2/\((↑v18.1:Int)=(↑v18.1:Int)/\True)/\True/\True/\True/\True/\True/\True/\True/\True/\True/\True/\True/\True/\True/\True/\True/\True/\True/\True/\True/\True/\True/\True/\True/\True/\True/\True/\True/\True/\True))/\(decide ((↑v20.1:Int)<(↑(qe2 v15.2.length none):Int))=false->((0:Nat)<List.length [(↑v18.1:Int)]/\Nat.le (v18.2.2.2.length+List.length [(↑v18.1:Int)]) (1000000:Nat))/\fits .i64 ((↑v2.1:Int)+(1:Int))/\∃(v23:Nat × List Q0 × List Int),w4f rows c.toNat v23.1 v23.2.1 v23.2.2/\c.toNat-v23.1<c.toNat-v2.1/\(True/\True/\(↑v2.1:Int)+(1:Int)=(↑v23.1:Int)/\True)/\(v20.2=v23.2.1/\True/\T=T)/\v18.2.2.2++[(↑v18.1:Int)]=v23.2.2/\True)))/\(decide (nI (nL v2.2.1 (qe7 (some (List.set (ixL v2.2.1.length (some (List.set (ixL v2.2.1.length none) v5.toNat (qe7 none (v5+v9).toNat)))) (v5+v9).toNat (qe7 none v5.toNat))) v5.toNat)) (↑v2.1:Int).toNat<(0:Int))=false->∃(v13:Nat × Nat × List Q0 × List Int),∃(v14:Nat × List Q0),q65 v13.2.2.1 v13.2.1 v13.1 v14.1 v14.2/\(List.Nodup (List.set (ixL v2.2.1.length (some (List.set (ixL v2.2.1.length none) v5.toNat (qe7 none (v5+v9).toNat)))) (v5+v9).toNat (qe7 none v5.toNat))/\(List.set (ixL v2.2.1.length (some (List.set (ixL v2.2.1.length none) v5.toNat (qe7 none (v5+v9).toNat)))) (v5+v9).toNat (qe7 none v5.toNat)).length=v2.2.1.length)/\((True/\True/\True/\(0:Int)=(↑v14.1:Int)/\True)/\(q1t (Ty.int .i64) v2.2.1 (some (List.set (ixL v2.2.1.length (some (List.set (ixL v2.2.1.length none) v5.toNat (qe7 none (v5+v9).toNat)))) (v5+v9).toNat (qe7 none v5.toNat)))=v14.2/\True/\T=T)/\v2.2.2=v13.2.2.2/\((↑v2.1:Int)=(↑v13.1:Int)/\True)/\True/\True/\True/\True/\True/\True/\True/\True/\True/\True/\True/\True/\True/\True/\True/\True/\True/\True/\True/\True/\True/\True/\True/\True/\True/\True/\True/\True/\True)/\∀(v15:Nat × List Q0),q65 v13.2.2.1 v13.2.1 v13.1 v15.1 v15.2->(decide ((↑v15.1:Int)<(↑(qe2 v2.2.1.length (some (List.set (ixL v2.2.1.length (some (List.set (ixL v2.2.1.length none) v5.toNat (qe7 none (v5+v9).toNat)))) (v5+v9).toNat (qe7 none v5.toNat)))):Int))=true->((0:Int)<=(↑v15.1:Int)/\(↑v15.1:Int)<(↑(qe2 v15.2.length none):Int))/\(↑v15.1:Int).toNat<qe2 v15.2.length none/\(((↑v15.1:Int) != v5)=true->((0:Int)<=(↑v13.1:Int)/\(↑v13.1:Int)<(↑(nL v15.2 (qe7 none (↑v15.1:Int).toNat)).length:Int))/\(↑v13.1:Int).toNat<(nL v15.2 (qe7 none (↑v15.1:Int).toNat)).length/\((nI (nL v15.2 (qe7 none (↑v15.1:Int).toNat)) (↑v13.1:Int).toNat != (0:Int))=true->((0:Int)<=v5/\v5<(↑(qe2 v15.2.length none):Int))/\v5.toNat<qe2 v15.2.length none/\qe7 none v5.toNat≠qe7 none (↑v15.1:Int).toNat/\((0:Ty.den qd0)<=(↑v13.1:Int)/\wl8 (nL [qe6 (Ty.list Q1) v15.2 (qe7 none (↑v15.1:Int).toNat)] (0:Nat)) (nL v15.2 (qe7 none v5.toNat)) (↑v13.1:Int).toNat)/\fits .i64 ((↑v15.1:Int)+(1:Int))/\∃(v20:Nat × List Q0),q65 v13.2.2.1 v13.2.1 v13.1 v20.1 v20.2/\v13.2.2.1.length-v20.1<v13.2.2.1.length-v15.1/\(True/\True/\True/\(↑v15.1:Int)+(1:Int)=(↑v20.1:Int)/\True)/\(List.set v15.2 (qe7 none (↑v15.1:Int).toNat) (qe6 (Ty.list Q1) [qw6 (nL [qe6 (Ty.list Q1) v15.2 (qe7 none (↑v15.1:Int).toNat)] (0:Nat)) (nL v15.2 (qe7 none v5.toNat)) (↑v13.1:Int).toNat] (0:Nat))=v20.2/\True/\T=T)/\v13.2.2.2=v13.2.2.2/\((↑v13.1:Int)=(↑v13.1:Int)/\True)/\True/\True/\True/\True/\True/\True/\True/\True/\True/\True/\True/\True/\True/\True/\True/\True/\True/\True/\True/\True/\True/\True/\True/\True/\True/\True/\True/\True/\True)/\((nI (nL v15.2 (qe7 none (↑v15.1:Int).toNat)) (↑v13.1:Int).toNat != (0:Int))=false->fits .i64 ((↑v15.1:Int)+(1:Int))/\∃(v20:Nat × List Q0),q65 v13.2.2.1 v13.2.1 v13.1 v20.1 v20.2/\v13.2.2.1.length-v20.1<v13.2.2.1.length-v15.1/\(True/\True/\True/\(↑v15.1:Int)+(1:Int)=(↑v20.1:Int)/\True)/\(v15.2=v20.2/\True/\T=T)/\v13.2.2.2=v13.2.2.2/\((↑v13.1:Int)=(↑v13.1:Int)/\True)/\True/\True/\True/\True/\True/\True/\True/\True/\True/\True/\True/\True/\True/\True/\True/\True/\True/\True/\True/\True/\True/\True/\True/\True/\True/\True/\True/\True/\True))/\(((↑v15.1:Int) != v5)=false->fits .i64 ((↑v15.1:Int)+(1:Int))/\∃(v19:Nat × List Q0),q65 v13.2.2.1 v13.2.1 v13.1 v19.1 v19.2/\v13.2.2.1.length-v19.1<v13.2.2.1.length-v15.1/\(True/\True/\True/\(↑v15.1:Int)+(1:Int)=(↑v19.1:Int)/\True)/\(v15.2=v19.2/\True/\T=T)/\v13.2.2.2=v13.2.2.2/\((↑v13.1:Int)=(↑v13.1:Int)/\True)/\True/\True/\True/\True/\True/\True/\True/\True/\True/\True/\True/\True/\True/\True/\True/\True/\True/\True/\True/\True/\True/\True/\True/\True/\True/\True/\True/\True/\True))/\(decide ((↑v15.1:Int)<(↑(qe2 v2.2.1.length (some (List.set (ixL v2.2.1.length (some (List.set (ixL v2.2.1.length none) v5.toNat (qe7 none (v5+v9).toNat)))) (v5+v9).toNat (qe7 none v5.toNat)))):Int))=false->((0:Nat)<List.length [(↑v13.1:Int)]/\Nat.le (v13.2.2.2.length+List.length [(↑v13.1:Int)]) (1000000:Nat))/\fits .i64 ((↑v2.1:Int)+(1:Int))/\∃(v18:Nat × List Q0 × List Int),w4f rows c.toNat v18.1 v18.2.1 v18.2.2/\c.toNat-v18.1<c.toNat-v2.1/\(True/\True/\(↑v2.1:Int)+(1:Int)=(↑v18.1:Int)/\True)/\(v15.2=v18.2.1/\True/\T=T)/\v13.2.2.2++[(↑v13.1:Int)]=v18.2.2/\True))))/\(decide ((↑v2.1:Int)<c)=false->v2.2.1=(qc7 rows c.toNat).1/\T=T/\True/\v2.2.2=(qc7 rows c.toNat).2)) (by kernel_rfl) ?_
 try simp only[z0,z1,z2,z3,z4,z5,z6,z7,z8,z9,z10,Int.reduceEq,z11,z12,z13,z14,z15,z16,z17,z18,z19,z20,z21,z22,z23,z24,z25,z26,z27,z28,z29,z30,Int.reduceLE,Int.reduceLT,z31,z32,z33,z34,qa1]
 try simp only[qa7,qa8,qb5,z31,z32,z2,z1]
 simp only[q4i,w4g,xi8,xi9,q66,w8b,wm5,w8c,List.length_set,List.length_range,List.take_length]
 obtain⟨hc0,W,hR⟩:=h
 have hRn:=hR.n
 have hRw:=hR.w
 refine⟨(),(0,rows,[]),⟨Nat.zero_le _,rfl⟩,⟨rfl,rfl,rfl⟩,?_⟩
 rintro⟨j,r0,piv⟩ ⟨hjc,hj⟩
 dsimp only at hjc hj ⊢
 have hsh:=q1o hR j
 rw[hj] at hsh
 have hn:=hsh.cnt
 have hpn:=hsh.piv
 have hpj:=hsh.pivj
 dsimp only at hn hpn hpj
 refine⟨λhlt=>?_,λhge=>?_⟩
 ·have hjl:j<c.toNat:=by omega
  have hjW:j<W:=by have:=hR.cw; omega
  rintro k rfl
  have he:=hsh.each
  dsimp only at he
  have hdrop:∀q,q<(r0.drop piv.length).length->j<(nL (r0.drop piv.length) q).length:=λq hq=>by
   rw[List.length_drop] at hq
   have e:nL (r0.drop piv.length) q=nL r0 (piv.length+q):=by
    rw[qm1 _ _ (by rw[List.length_drop]; exact hq),qm1 _ _ (by omega)]; simp
   rw[e,he _ (by omega)]; exact hjW
  simp only[Int.toNat_natCast]
  refine⟨⟨by omega,by omega,Nat.le_refl _⟩,λx=>j<x.1.length,λx=>nI x.1 j != 0,λx hx=>⟨hx,rfl⟩,⟨by rw[List.length_drop]; omega,hdrop⟩,?_⟩
  rintro a ha
  have ha:a=qs3 r0 piv.length j:=ha
  subst ha
  refine⟨λhneg=>?_,λhpos=>?_⟩
  ·refine⟨qb8 (by omega) (by omega),(j+1,r0,piv),⟨by dsimp only; omega,?_⟩,by dsimp only; omega,by dsimp only; omega,rfl,rfl⟩
   rw[qc7,hj,qv3,if_pos hneg]
  have hb:=q1l r0 piv.length j (by omega) hpos
  have hso:xr7 r0 piv.length j:=by have:=hR.step j hjl; rw[hj] at this; exact this hpos
  have hse:=q67 (W:=W) (by omega) hpos (λi hi=>he i (by omega))
  have hpe:=q1m (W:=W) (by omega) hpos (λi hi=>he i (by omega))
  have hab:((piv.length:Int)+qs3 r0 piv.length j).toNat=piv.length+(qs3 r0 piv.length j).toNat:=by omega
  simp only[hab]
  have hgd:=xj0 r0.length piv.length (piv.length+(qs3 r0 piv.length j).toNat) (by omega) hb
  have hmap:=xz2 r0 piv.length (piv.length+(qs3 r0 piv.length j).toNat) (by omega) hb
  have hnd:=w8d r0.length piv.length (piv.length+(qs3 r0 piv.length j).toNat) (by omega) hb
  have hk1:nL (q1k r0 piv.length j) piv.length=nL r0 (piv.length+(qs3 r0 piv.length j).toNat):=by
   unfold q1k
   rw[q3m _ _ _ (by omega) hb _ (by omega)]
   split
   ·rename_i e; rw[<- e]
   ·rw[if_pos rfl]
  simp only[hgd,hmap]
  rw[<- hk1]
  have hsl:=q5w r0 piv.length j
  have hkW:=hse piv.length (by omega)
  refine⟨qb8 (by omega) (by omega),qb8 (by omega) (by omega),by omega,by omega,by omega,by omega,by omega,by omega,by omega,by omega,by omega,by omega,by omega,by omega,λhng=>?_,λhng=>?_⟩
  ·refine⟨by omega,by omega,(j,piv.length,q1k r0 piv.length j,piv),(0,q1k r0 piv.length j),⟨Nat.zero_le _,?_⟩,⟨hnd,trivial⟩,⟨rfl,rfl,rfl,rfl⟩,?_⟩
   ·dsimp only
    have e:ovr (.int .i64) (λq=>0-nI (nL (q1k r0 piv.length j) piv.length) q) (nL (q1k r0 piv.length j) piv.length) 0=nL (q1k r0 piv.length j) piv.length:=q3j (.int .i64) _ _
    rw[e,qm1 _ _ (by omega),List.set_getElem_self]
   rintro⟨i,r⟩ ⟨hi1,hi2⟩
   dsimp only at hi1 hi2 ⊢
   have hrl:r.length=r0.length:=by rw[hi2,List.length_set,hsl]
   have hrk:nL r piv.length=ovr (.int .i64) (λq=>0-nI (nL (q1k r0 piv.length j) piv.length) q) (nL (q1k r0 piv.length j) piv.length) i:=by
    rw[hi2,wd0 _ _ _ _ (by omega),if_pos rfl]
   have hrkl:(nL r piv.length).length=W:=by rw[hrk,qv2]; exact hkW
   refine⟨λhlt=>?_,λhge=>?_⟩
   ·have hv:nI (nL r piv.length) i=nI (nL (q1k r0 piv.length j) piv.length) i:=by
     rw[hrk]
     exact(q9g (.int .i64) _ _ _ _ hlt).trans (if_neg (Nat.lt_irrefl _))
    have hbd:qf0 BIG (nI (nL (q1k r0 piv.length j) piv.length) i):=hso.neg _ (by rw[qh0 _ i hlt]; exact List.getElem_mem hlt)
    unfold qf0 BIG at hbd
    rw[hv]
    refine⟨by omega,by omega,by omega,by omega,by omega,by omega,qb8 (by omega) (by omega),by omega,by omega,qb8 (by omega) (by omega),(i+1,r.set piv.length ((nL r piv.length).set i (0-nI (nL (q1k r0 piv.length j) piv.length) i))),⟨by dsimp only; omega,?_⟩,by dsimp only; omega,by dsimp only; omega,rfl⟩
    dsimp only
    have e:=q1h (.int .i64) (λq=>0-nI (nL (q1k r0 piv.length j) piv.length) q) (nL (q1k r0 piv.length j) piv.length) i
    rw[hrk]
    refine(congrArg (r.set piv.length) e).trans ?_
    rw[hi2,List.set_set]
   ·have hprep:r=qi7 r0 piv.length j:=by
     unfold qi7
     rw[if_pos hng,hi2]
     refine congrArg _ ?_
     exact q6y (.int .i64) _ _ _ (by omega)
    refine⟨(j,piv.length,qi7 r0 piv.length j,piv),(0,qi7 r0 piv.length j),⟨Nat.zero_le _,(q3j (.list (.int .i64)) _ _).symm⟩,⟨rfl,hprep,rfl,rfl⟩,?_⟩
    rw[hprep,qi5]
    rintro⟨i,r⟩ ⟨hi1,hi2⟩
    dsimp only at hi1 hi2 ⊢
    have hpl:=qi5 r0 piv.length j
    have hrl:r.length=r0.length:=by rw[hi2,qv2,qi5]
    have hi1:i<=r0.length:=by rw[qi5] at hi1; exact hi1
    have hat:∀q,q<r0.length->nL r q=if q<i then wh2 (qi7 r0 piv.length j) piv.length j q else nL (qi7 r0 piv.length j) q:=λq hq=>by
     rw[hi2]; exact q9g (.list (.int .i64)) _ _ _ _ (by rw[qi5]; exact hq)
    have hk2:nL r piv.length=nL (qi7 r0 piv.length j) piv.length:=by
     rw[hat _ (by omega)]
     split
     ·exact q3o _ _ _
     ·rfl
    refine⟨λhlt=>?_,λhge=>?_⟩
    ·have hlt:i<r0.length:=by omega
     have hri:nL r i=nL (qi7 r0 piv.length j) i:=by rw[hat i hlt,if_neg (Nat.lt_irrefl _)]
     have hw:=hpe i hlt
     refine⟨by omega,by omega,λhne=>⟨by rw[hri]; omega,by rw[hri]; omega,λhnz=>?_,λhz=>?_⟩,λheq=>?_⟩
     ·rw[hri] at hnz
      have hne:i≠piv.length:=by omega
      have hcl:=hso.clr i hlt hne hnz
      have hcr:wh2 (qi7 r0 piv.length j) piv.length j i=qw6 (nL r i) (nL r piv.length) j:=by
       unfold wh2; rw[if_pos ⟨hne,hnz⟩,hri,hk2]
      refine⟨by omega,by omega,by omega,?_,qb8 (by omega) (by omega),(i+1,r.set i (qw6 (nL r i) (nL r piv.length) j)),⟨by dsimp only; omega,?_⟩,by dsimp only; omega,by dsimp only; omega,rfl⟩
      ·show wl8 (nL r i) (nL r piv.length) j
       rw[hri,hk2]; exact hcl
      ·dsimp only
       rw[<- hcr,hi2]
       exact q1h (.list (.int .i64)) _ _ _
     ·refine⟨qb8 (by omega) (by omega),(i+1,r),⟨by dsimp only; omega,?_⟩,by dsimp only; omega,by dsimp only; omega,rfl⟩
      dsimp only
      rw[hi2]
      refine q5x (.list (.int .i64)) _ _ _ λ_=>?_
      unfold wh2
      rw[if_neg]
      ·rfl
      ·intro h2
       rw[hri] at hz
       exact h2.2 hz
     ·refine⟨qb8 (by omega) (by omega),(i+1,r),⟨by dsimp only; omega,?_⟩,by dsimp only; omega,by dsimp only; omega,rfl⟩
      dsimp only
      rw[hi2]
      refine q5x (.list (.int .i64)) _ _ _ λ_=>?_
      have e:i=piv.length:=by omega
      rw[e]
      exact q3o _ _ _
    ·obtain rfl:i=r0.length:=by omega
     refine⟨by omega,qb8 (by omega) (by omega),(j+1,r,piv++[(j:Int)]),⟨by omega,?_⟩,by dsimp only; omega,by dsimp only; omega,rfl,rfl⟩
     rw[qc7,hj,qv3,if_neg (by dsimp only; omega),hi2]
     refine congrArg (·,_) ?_
     rw[<- qi5 r0 piv.length j]
     exact(q6y (.list (.int .i64)) _ _ _ (Nat.le_refl _)).symm
  ·have hprep:q1k r0 piv.length j=qi7 r0 piv.length j:=by unfold qi7; rw[if_neg (by omega)]
   refine⟨(j,piv.length,qi7 r0 piv.length j,piv),(0,qi7 r0 piv.length j),⟨Nat.zero_le _,(q3j (.list (.int .i64)) _ _).symm⟩,⟨hnd,trivial⟩,⟨rfl,hprep,rfl,rfl⟩,?_⟩
   rintro⟨i,r⟩ ⟨hi1,hi2⟩
   dsimp only at hi1 hi2 ⊢
   have hpl:=qi5 r0 piv.length j
   have hrl:r.length=r0.length:=by rw[hi2,qv2,qi5]
   have hi1:i<=r0.length:=by rw[qi5] at hi1; exact hi1
   have hat:∀q,q<r0.length->nL r q=if q<i then wh2 (qi7 r0 piv.length j) piv.length j q else nL (qi7 r0 piv.length j) q:=λq hq=>by
    rw[hi2]; exact q9g (.list (.int .i64)) _ _ _ _ (by rw[qi5]; exact hq)
   have hk2:nL r piv.length=nL (qi7 r0 piv.length j) piv.length:=by
    rw[hat _ (by omega)]
    split
    ·exact q3o _ _ _
    ·rfl
   refine⟨λhlt=>?_,λhge=>?_⟩
   ·have hlt:i<r0.length:=by omega
    have hri:nL r i=nL (qi7 r0 piv.length j) i:=by rw[hat i hlt,if_neg (Nat.lt_irrefl _)]
    have hw:=hpe i hlt
    refine⟨by omega,by omega,λhne=>⟨by rw[hri]; omega,by rw[hri]; omega,λhnz=>?_,λhz=>?_⟩,λheq=>?_⟩
    ·rw[hri] at hnz
     have hne:i≠piv.length:=by omega
     have hcl:=hso.clr i hlt hne hnz
     have hcr:wh2 (qi7 r0 piv.length j) piv.length j i=qw6 (nL r i) (nL r piv.length) j:=by
      unfold wh2; rw[if_pos ⟨hne,hnz⟩,hri,hk2]
     refine⟨by omega,by omega,by omega,?_,qb8 (by omega) (by omega),(i+1,r.set i (qw6 (nL r i) (nL r piv.length) j)),⟨by dsimp only; omega,?_⟩,by dsimp only; omega,by dsimp only; omega,rfl⟩
     ·show wl8 (nL r i) (nL r piv.length) j
      rw[hri,hk2]; exact hcl
     ·dsimp only
      rw[<- hcr,hi2]
      exact q1h (.list (.int .i64)) _ _ _
    ·refine⟨qb8 (by omega) (by omega),(i+1,r),⟨by dsimp only; omega,?_⟩,by dsimp only; omega,by dsimp only; omega,rfl⟩
     dsimp only
     rw[hi2]
     refine q5x (.list (.int .i64)) _ _ _ λ_=>?_
     unfold wh2
     rw[if_neg]
     ·rfl
     ·intro h2
      rw[hri] at hz
      exact h2.2 hz
    ·refine⟨qb8 (by omega) (by omega),(i+1,r),⟨by dsimp only; omega,?_⟩,by dsimp only; omega,by dsimp only; omega,rfl⟩
     dsimp only
     rw[hi2]
     refine q5x (.list (.int .i64)) _ _ _ λ_=>?_
     have e:i=piv.length:=by omega
     rw[e]
     exact q3o _ _ _
   ·obtain rfl:i=r0.length:=by omega
    refine⟨by omega,qb8 (by omega) (by omega),(j+1,r,piv++[(j:Int)]),⟨by omega,?_⟩,by dsimp only; omega,by dsimp only; omega,rfl,rfl⟩
    rw[qc7,hj,qv3,if_neg (by dsimp only; omega),hi2]
    refine congrArg (·,_) ?_
    rw[<- qi5 r0 piv.length j]
    exact(q6y (.list (.int .i64)) _ _ _ (Nat.le_refl _)).symm
 ·obtain rfl:j=c.toNat:=by omega
  rw[hj]
  exact⟨rfl,rfl⟩
end Go.Proofs.YtmijnbjlhnpokaaGreat
