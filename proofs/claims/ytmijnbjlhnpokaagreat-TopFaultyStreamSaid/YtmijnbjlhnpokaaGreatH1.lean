/- Faults of a mask: valid, and what they do; contracts by the engine. No condition. -/
import Derived.Test.YtmijnbjlhnpokaaGreatV4
import Derived.Test.YtmijnbjlhnpokaaGreatV7
import Derived.Test.YtmijnbjlhnpokaaGreatV22
set_option linter.unusedVariables false
set_option linter.unusedSimpArgs false
namespace Go.Proofs.YtmijnbjlhnpokaaGreat
open Go Go.RowKit Eng
def x8u (mats:List Nat) (specs:List (Nat × qb4)) (muts:List (Nat × ql6)):Ctx:={ specs:=specs,tys:=tys,wr:=[],mats:=mats,muts:=muts }
theorem x8v (mats:List Nat) {specs:List (Nat × qb4)} {muts:List (Nat × ql6)} (h:SpecsOk Tryz.prog specs) (hm:MutsOk muts):Sound Tryz.prog (x8u mats specs muts):=SpecsOk.sound h q0x (by kernel_rfl) (hmu:=hm)
abbrev qj4:Ty:=.prod (.int .i64) (.prod (.int .i64) (.int .i64))
abbrev Flt:=Int × Int × Int
theorem wd7:Meets Tryz.prog 166 wc7:=by
 refine meets (snd (SpecsOk.nil _)) Tryz.func166 rfl rfl (λ_ _=>none) (λ_=>by kernel_rfl) (by decide) ?_
 rintro⟨n,lo,hi,⟨⟩⟩ -
 revert n lo hi
 intro(n:Int) (lo:Int) (hi:Int)
 refine @qd1 _ ((decide (lo<=n)=true->decide (n<=hi)=inB n lo hi)/\(decide (lo<=n)=false->false=inB n lo hi)) (by kernel_rfl) ?_
 try simp only[z0,z1,z2,z3,z4,z5,z6,z7,z8,z9,z10,Int.reduceEq,z11,z12,z13,z14,z15,z16,z17,z18,z19,z20,z21,z22,z23,z24,z25,z26,z27,z28,z29,z30,Int.reduceLE,Int.reduceLT,z31,z32,z33,z34,qa1]
 try simp only[qa7,qa8,qb5,z31,z32,z2,z1]
 constructor
 ·intro h1
  simp[inB,h1]
 ·intro h1
  have:¬lo<=n:=by omega
  simp[inB,this]
def wx0 (m:List (List Int)) (f:Flt):Bool:=inB f.2.1 0 ((m.length:Int)-1)
def wx1 (m:List (List Int)) (f:Flt):Bool:=inB f.2.2 0 (((nL m 0).length:Int)-1)
def xk0 (m:List (List Int)) (i j:Int):Int:=nI (nL m i.toNat) j.toNat
def fvB (m:List (List Int)) (f:Flt):Bool:=
 if f.1=0 then decide (f.2.1=0) && decide (f.2.2=0) else if f.1=1 then wx0 m f && decide (f.2.2=0) else if f.1=2 then wx1 m f && decide (f.2.1=0)
 else if f.1=3 then wx0 m f && wx1 m f && decide (xk0 m f.2.1 f.2.2≠0) else false
abbrev sFv:qb4:=qf2 true none [qf3,qj4] [.bool] (λx=>qb9 x.1=true) (λx=>(fvB x.1 x.2.1,()))
theorem wd8 (a b:Int):(a==b)=decide (a=b):=rfl
theorem x0b (a:Int):(a != 0)=decide ¬a=0:=by by_cases h:a=0 <;> simp[h]
theorem w1u:Meets Tryz.prog 104 sFv:=by
 refine meets (snd (SpecsOk.cons wd7 (SpecsOk.nil _))) Tryz.func104 rfl rfl (λ_ _=>none) (λ_=>by kernel_rfl) (by decide) ?_
 rintro⟨m,⟨kd,r,p⟩,⟨⟩⟩ hv
 revert m kd r p
 intro(m:List (List Int)) (kd:Int) (r:Int) (p:Int) (hv:qb9 m=true)
 refine @qd1 _ (fits .i64 ((↑m.length:Int)-(1:Int))/\True/\((0:Int)<=(0:Int)/\(0:Int)<(↑m.length:Int))/\fits .i64 ((↑(nL m (0:Nat)).length:Int)-(1:Int))/\True/\((kd==(0:Int))=true->(kd==(0:Int) && (r==(0:Int) && p==(0:Int)))=fvB m (kd,r,p))/\((kd==(0:Int))=false->((kd==(1:Int))=true->(inB r (0:Int) ((↑m.length:Int)-(1:Int))=true->(p==(0:Int))=fvB m (kd,r,p))/\(inB r (0:Int) ((↑m.length:Int)-(1:Int))=false->false=fvB m (kd,r,p)))/\((kd==(1:Int))=false->((kd==(2:Int))=true->(inB p (0:Int) ((↑(nL m (0:Nat)).length:Int)-(1:Int))=true->(r==(0:Int))=fvB m (kd,r,p))/\(inB p (0:Int) ((↑(nL m (0:Nat)).length:Int)-(1:Int))=false->false=fvB m (kd,r,p)))/\((kd==(2:Int))=false->((kd==(3:Int))=true->(inB r (0:Int) ((↑m.length:Int)-(1:Int))=true->(inB p (0:Int) ((↑(nL m (0:Nat)).length:Int)-(1:Int))=true->((0:Int)<=r/\r<(↑m.length:Int))/\((0:Int)<=p/\p<(↑(nL m r.toNat).length:Int))/\(nI (nL m r.toNat) p.toNat != (0:Int))=fvB m (kd,r,p))/\(inB p (0:Int) ((↑(nL m (0:Nat)).length:Int)-(1:Int))=false->false=fvB m (kd,r,p)))/\(inB r (0:Int) ((↑m.length:Int)-(1:Int))=false->false=fvB m (kd,r,p)))/\((kd==(3:Int))=false->false=fvB m (kd,r,p)))))) (by kernel_rfl) ?_
 try simp only[z0,z1,z2,z3,z4,z5,z6,z7,z8,z9,z10,Int.reduceEq,z11,z12,z13,z14,z15,z16,z17,z18,z19,z20,z21,z22,z23,z24,z25,z26,z27,z28,z29,z30,Int.reduceLE,Int.reduceLT,z31,z32,z33,z34,qa1]
 try simp only[qa7,qa8,qb5,z31,z32,z2,z1]
 have hM:=Mk.of hv
 have m1:=hM.rows1
 have m6:=hM.rows6
 have p1:=hM.pix1
 have p10:=hM.pix10
 refine⟨qb8 (by omega) (by omega),by omega,qb8 (by omega) (by omega),λh0=>?_,λh0=>⟨λh1=>?_,λh1=>⟨λh2=>?_,λh2=>⟨λh3=>?_,λh3=>?_⟩⟩⟩⟩
 ·subst h0; simp[fvB,wd8]
 ·subst h1; exact⟨λc=>by simp[fvB,wx0,c,wd8],λc=>by simp[fvB,wx0,c]⟩
 ·subst h2; exact⟨λc=>by simp[fvB,wx1,c,wd8],λc=>by simp[fvB,wx1,c]⟩
 ·subst h3
  refine⟨λc=>⟨λd=>?_,λd=>by simp[fvB,wx1,d]⟩,λc=>by simp[fvB,wx0,c]⟩
  have c1:=qh6.1 c
  have d1:=qh6.1 d
  refine⟨by omega,⟨d1.1,by rw[hM.each _ (by omega)]; omega⟩,?_⟩
  simp[fvB,wx0,wx1,c,d,xk0,wd8]; exact x0b _
 ·simp[fvB,h0,h1,h2,h3]
abbrev sFV:qb4:=qf2 true none [qf3,qj4] [.bool] (λ_=>True) (λx=>(qb9 x.1 && fvB x.1 x.2.1,()))
theorem wd9:Meets Tryz.prog 54 sFV:=by
 refine meets (snd (SpecsOk.cons qq1 (SpecsOk.cons w1u (SpecsOk.nil _)))) Tryz.func54 rfl rfl (λ_ _=>none) (λ_=>by kernel_rfl) (by decide) ?_
 rintro⟨m,⟨kd,r,p⟩,⟨⟩⟩ -
 revert m kd r p
 intro(m:List (List Int)) (kd:Int) (r:Int) (p:Int)
 refine @qd1 _ (let Q0:=(qb9 m && fvB m (kd,r,p)); True/\(qb9 m=true->qb9 m=true/\fvB m (kd,r,p)=Q0)/\(qb9 m=false->false=Q0)) (by kernel_rfl) ?_
 try simp only[z0,z1,z2,z3,z4,z5,z6,z7,z8,z9,z10,Int.reduceEq,z11,z12,z13,z14,z15,z16,z17,z18,z19,z20,z21,z22,z23,z24,z25,z26,z27,z28,z29,z30,Int.reduceLE,Int.reduceLT,z31,z32,z33,z34,qa1]
 try simp only[qa7,qa8,qb5,z31,z32,z2,z1]
 exact⟨λh=>⟨h,by rw[h,Bool.true_and]⟩,λh=>by rw[h,Bool.false_and]⟩
def wx2 (l:List Int):List Int:=List.replicate l.length 0
def qm4 (rows:List (List Int)) (p:Nat) (k:Nat):List (List Int):=(List.range rows.length).map λi=>if i<k then(nL rows i).set p 0 else nL rows i
def qh1 (rows:List (List Int)) (f:Flt):List (List Int):=
 if f.1=1 then rows.set f.2.1.toNat (wx2 (nL rows f.2.1.toNat)) else if f.1=2 then qm4 rows f.2.2.toNat rows.length
 else if f.1=3 then rows.set f.2.1.toNat ((nL rows f.2.1.toNat).set f.2.2.toNat (-(xk0 rows f.2.1 f.2.2))) else rows
structure DeedPre (rows:List (List Int)) (f:Flt) (k:Int):Prop where
 kind:f.1=k
 valid:qb9 rows=true
 ok:fvB rows f=true
theorem DeedPre.row {rows:List (List Int)} {kd r p k:Int} (h:DeedPre rows (kd,r,p) k) (hk:kd=1\/kd=3):0<=r/\r<=(rows.length:Int)-1:=by
 have h1:=h.ok
 unfold fvB wx0 at h1
 rcases hk with rfl | rfl <;> simp at h1
 ·exact qh6.1 h1.1
 ·exact qh6.1 h1.1.1
theorem DeedPre.pix {rows:List (List Int)} {kd r p k:Int} (h:DeedPre rows (kd,r,p) k) (hk:kd=2\/kd=3):0<=p/\p<=((nL rows 0).length:Int)-1:=by
 have h1:=h.ok
 unfold fvB wx1 at h1
 rcases hk with rfl | rfl <;> simp at h1
 ·exact qh6.1 h1.1
 ·exact qh6.1 h1.1.2
abbrev x4a:ql6:=q5h (q0u [qj4]) true false 34 3 (.int .i64) (λrows x=>DeedPre rows x.1 0) (λ_ _=>.tup .nil) (λrows x=>qh1 rows x.1)
abbrev x4b:ql6:=q5h (q0u [qj4]) true false 34 3 (.int .i64) (λrows x=>DeedPre rows x.1 1) (λ_ _=>.tup .nil) (λrows x=>qh1 rows x.1)
abbrev x4c:ql6:=q5h (q0u [qj4]) true false 34 3 (.int .i64) (λrows x=>DeedPre rows x.1 2) (λ_ _=>.tup .nil) (λrows x=>qh1 rows x.1)
abbrev x4d:ql6:=q5h (q0u [qj4]) true false 34 3 (.int .i64) (λrows x=>DeedPre rows x.1 3) (λ_ _=>.tup .nil) (λrows x=>qh1 rows x.1)
theorem wx3:qn4 Tryz.prog 167 x4a:=by
 refine q0w (snd (SpecsOk.nil _)) Tryz.func167 rfl rfl (qm0 [qj4]) (λT rows x=>λ_=>none) (λ_ _ _=>by kernel_rfl) (by decide) ?_ rfl
 rintro T rows ⟨⟨kd,r,p⟩,⟨⟩⟩ h -
 revert rows kd r p
 intro(rows:List (List Int)) (kd:Int) (r:Int) (p:Int) (h:DeedPre rows (kd,r,p) 0)
 refine @qd1 _ (rows=qh1 rows (kd,r,p)/\T=T/\True/\True) (by kernel_rfl) ?_
 try simp only[z0,z1,z2,z3,z4,z5,z6,z7,z8,z9,z10,Int.reduceEq,z11,z12,z13,z14,z15,z16,z17,z18,z19,z20,z21,z22,z23,z24,z25,z26,z27,z28,z29,z30,Int.reduceLE,Int.reduceLT,z31,z32,z33,z34,qa1]
 try simp only[qa7,qa8,qb5,z31,z32,z2,z1]
 obtain rfl:kd=0:=h.kind
 simp[qh1]
theorem wx4:qn4 Tryz.prog 168 x4b:=by
 refine q0w (snd (SpecsOk.nil _)) Tryz.func168 rfl rfl (qm0 [qj4]) (λT rows x=>λ_=>none) (λ_ _ _=>by kernel_rfl) (by decide) ?_ rfl
 rintro T rows ⟨⟨kd,r,p⟩,⟨⟩⟩ h -
 revert rows kd r p
 intro(rows:List (List Int)) (kd:Int) (r:Int) (p:Int) (h:DeedPre rows (kd,r,p) 1)
 refine @qd1 _ (let Q0:=qe7 (qm6 true) r.toNat; ((0:Int)<=r/\r<(↑(qe2 rows.length (qm6 true)):Int))/\r.toNat<qe2 rows.length (qm6 true)/\List.set rows Q0 (List.replicate (nL rows Q0).length (0:Int))=qh1 rows (kd,r,p)/\T=T/\True/\True) (by kernel_rfl) ?_
 try simp only[z0,z1,z2,z3,z4,z5,z6,z7,z8,z9,z10,Int.reduceEq,z11,z12,z13,z14,z15,z16,z17,z18,z19,z20,z21,z22,z23,z24,z25,z26,z27,z28,z29,z30,Int.reduceLE,Int.reduceLT,z31,z32,z33,z34,qa1]
 try simp only[qa7,qa8,qb5,z31,z32,z2,z1]
 obtain rfl:kd=1:=h.kind
 have hr:0<=r/\r<=(rows.length:Int)-1:=h.row (.inl rfl)
 simp only[qm6,qe2,qe7]
 exact⟨⟨hr.1,by omega⟩,by omega,by simp[qh1,wx2]⟩
abbrev fltBox (f:Flt):AObj:=.box 25 (.cons (.lit (.int .i64 f.1)) (.cons (.lit (.int .i64 f.2.1)) (.cons (.lit (.int .i64 f.2.2)) .nil)))
def x4e (T:q5b) (rows:List (List Int)) (f:Flt):Nat->Option Inv
 | 0=>some (Inv.of [6,8] 2 (λk:Nat=>[(6,.msl 0 .none),(8,.lit (.int .i64 k))]) (λk=>[.mat 34 3 (.int .i64) (qm4 rows f.2.2.toNat k) .none (some T),fltBox f]) (λk=>k<=rows.length) (λk=>rows.length-k))
 | _=>none
theorem q1q (rows:List (List Int)) (p k:Nat):(qm4 rows p k).length=rows.length:=by simp[qm4]
theorem wx5 {rows:List (List Int)} {p k i:Nat} (h:i<rows.length):nL (qm4 rows p k) i=if i<k then(nL rows i).set p 0 else nL rows i:=by
 rw[qm1 _ i (by rw[q1q]; exact h)]; simp[qm4]
theorem w8w (rows:List (List Int)) (p:Nat):qm4 rows p 0=rows:=by
 apply List.ext_getElem (q1q rows p 0)
 intro i h1 h2
 simp[qm4,qm1 rows i h2]
theorem xk1 {rows:List (List Int)} {p k:Nat} (hk:k<rows.length):(qm4 rows p k).set k ((nL (qm4 rows p k) k).set p 0)=qm4 rows p (k+1):=by
 rw[wx5 hk,if_neg (Nat.lt_irrefl k)]
 apply List.ext_getElem (by rw[List.length_set,q1q,q1q])
 intro i h1 h2
 rw[List.getElem_set]
 simp only[qm4,List.getElem_map,List.getElem_range]
 split
 ·rename_i e; subst e; rw[if_pos (Nat.lt_succ_self _)]
 ·rename_i e
  by_cases h:i<k
  ·rw[if_pos h,if_pos (by omega)]
  ·rw[if_neg h,if_neg (by omega)]
theorem wx6:qn4 Tryz.prog 169 x4c:=by
 refine q0w (snd (SpecsOk.nil _)) Tryz.func169 rfl rfl (qm0 [qj4]) (λT rows x=>x4e T rows x.1) (λ_ _ _=>by kernel_rfl) (by decide) ?_ rfl
 rintro T rows ⟨⟨kd,r,p⟩,⟨⟩⟩ h -
 revert rows kd r p
 intro(rows:List (List Int)) (kd:Int) (r:Int) (p:Int) (h:DeedPre rows (kd,r,p) 2)
 refine @qd1 _ (let Q0:=qe2 rows.length (qm6 true); ∃(v0:Unit),∃(v1:Nat),Nat.le v1 rows.length/\((True/\(0:Int)=(↑v1:Int)/\True)/\(rows=qm4 rows p.toNat v1/\True/\T=T)/\(kd=kd/\r=r/\p=p/\True)/\True)/\∀(v2:Nat),Nat.le v2 rows.length->(decide ((↑v2:Int)<(↑Q0:Int))=true->((0:Int)<=(↑v2:Int)/\(↑v2:Int)<(↑(qe2 (qm4 rows p.toNat v2).length none):Int))/\v2<qe2 (qm4 rows p.toNat v2).length none/\((0:Int)<=p/\p<(↑(nL (qm4 rows p.toNat v2) (qe7 none v2)).length:Int))/\p.toNat<(nL (qm4 rows p.toNat v2) (qe7 none v2)).length/\fits .i64 ((↑v2:Int)+(1:Int))/\∃(v5:Nat),Nat.le v5 rows.length/\rows.length-v5<rows.length-v2/\(True/\(↑v2:Int)+(1:Int)=(↑v5:Int)/\True)/\(List.set (qm4 rows p.toNat v2) (qe7 none v2) (List.set (nL (qm4 rows p.toNat v2) (qe7 none v2)) p.toNat (0:Int))=qm4 rows p.toNat v5/\True/\T=T)/\(kd=kd/\r=r/\p=p/\True)/\True)/\(decide ((↑v2:Int)<(↑Q0:Int))=false->qm4 rows p.toNat v2=qh1 rows (kd,r,p)/\T=T/\True/\True)) (by kernel_rfl) ?_
 try simp only[z0,z1,z2,z3,z4,z5,z6,z7,z8,z9,z10,Int.reduceEq,z11,z12,z13,z14,z15,z16,z17,z18,z19,z20,z21,z22,z23,z24,z25,z26,z27,z28,z29,z30,Int.reduceLE,Int.reduceLT,z31,z32,z33,z34,qa1]
 try simp only[qa7,qa8,qb5,z31,z32,z2,z1]
 obtain rfl:kd=2:=h.kind
 have hM:=Mk.of h.valid
 have m6:=hM.rows6
 have hp:0<=p/\p<=((nL rows 0).length:Int)-1:=h.pix (.inl rfl)
 simp only[qm6,qe2,qe7,q1q]
 refine⟨(),0,Nat.zero_le _,⟨rfl,(w8w _ _).symm⟩,λk hk=>⟨λhlt=>?_,λhge=>?_⟩⟩
 ·have hl:=hM.each k hlt
  have e:nL (qm4 rows p.toNat k) k=nL rows k:=by rw[wx5 hlt,if_neg (Nat.lt_irrefl k)]
  exact⟨hlt,hlt,⟨hp.1,by rw[e]; omega⟩,by rw[e]; omega,qb8 (by omega) (by omega),k+1,hlt,by omega,by push_cast; rfl,xk1 hlt⟩
 ·obtain rfl:k=rows.length:=by omega
  simp[qh1]
theorem wx7:qn4 Tryz.prog 170 x4d:=by
 refine q0w (snd (SpecsOk.nil _)) Tryz.func170 rfl rfl (qm0 [qj4]) (λT rows x=>λ_=>none) (λ_ _ _=>by kernel_rfl) (by decide) ?_ rfl
 rintro T rows ⟨⟨kd,r,p⟩,⟨⟩⟩ h -
 revert rows kd r p
 intro(rows:List (List Int)) (kd:Int) (r:Int) (p:Int) (h:DeedPre rows (kd,r,p) 3)
 refine @qd1 _ (let Q0:=nL rows (qe7 (qm6 true) r.toNat); let Q1:=qm6 true; ((0:Int)<=r/\r<(↑(qe2 rows.length Q1):Int))/\r.toNat<qe2 rows.length Q1/\((0:Int)<=p/\p<(↑Q0.length:Int))/\p.toNat<Q0.length/\fits .i64 (nI Q0 p.toNat*(-1:Int))/\((0:Int)<=p/\p<(↑Q0.length:Int))/\p.toNat<Q0.length/\List.set rows (qe7 Q1 r.toNat) (List.set Q0 p.toNat (nI Q0 p.toNat*(-1:Int)))=qh1 rows (kd,r,p)/\T=T/\True/\True) (by kernel_rfl) ?_
 try simp only[z0,z1,z2,z3,z4,z5,z6,z7,z8,z9,z10,Int.reduceEq,z11,z12,z13,z14,z15,z16,z17,z18,z19,z20,z21,z22,z23,z24,z25,z26,z27,z28,z29,z30,Int.reduceLE,Int.reduceLT,z31,z32,z33,z34,qa1]
 try simp only[qa7,qa8,qb5,z31,z32,z2,z1]
 obtain rfl:kd=3:=h.kind
 have hM:=Mk.of h.valid
 have hr:0<=r/\r<=(rows.length:Int)-1:=h.row (.inr rfl)
 have hp:0<=p/\p<=((nL rows 0).length:Int)-1:=h.pix (.inr rfl)
 have hl:=hM.each r.toNat (by omega)
 have hs:=hM.small r.toNat (by omega) p.toNat (by omega)
 simp only[qm6,qe2,qe7]
 have hq:nI (nL rows r.toNat) p.toNat * -1=-(nI (nL rows r.toNat) p.toNat):=by omega
 refine⟨⟨hr.1,by omega⟩,by omega,⟨hp.1,by omega⟩,by omega,qb8 (by omega) (by omega),⟨hp.1,by omega⟩,by omega,by simp[qh1,xk0,hq]⟩
abbrev x4f:qb4:=wl1 false none [] (λ_=>True) (λ_=>.agg (.cons (.clo 167 .nil) (.cons (.clo 168 .nil) (.cons (.clo 169 .nil) (.cons (.clo 170 .nil) .nil)))))
theorem wx8:Meets Tryz.prog 106 x4f:=by
 refine q45 (snd (SpecsOk.nil _)) Tryz.func106 rfl rfl (λ_ _=>none) (λ_=>by kernel_rfl) (by decide) ?_
 rintro⟨⟩ -
 refine @qd1 _ (True/\True/\True/\True/\True) (by kernel_rfl) ?_
 try simp only[z0,z1,z2,z3,z4,z5,z6,z7,z8,z9,z10,Int.reduceEq,z11,z12,z13,z14,z15,z16,z17,z18,z19,z20,z21,z22,z23,z24,z25,z26,z27,z28,z29,z30,Int.reduceLE,Int.reduceLT,z31,z32,z33,z34,qa1]
 try simp only[qa7,qa8,qb5,z31,z32,z2,z1]
structure FltPre (m:List (List Int)) (f:Flt):Prop where
 valid:qb9 m=true
 ok:fvB m f=true
abbrev yk9:qb4:=q8i (q0u [qf3,qj4]) true (some 34) (some 3) (λx=>FltPre x.1 x.2.1) (λx=>.dat (.list (.int .i64)) (qh1 x.1 x.2.1))
def x8w (m:List (List Int)) (f:Flt):Nat->Option Inv
 | 0=>some (Inv.of [5,10] 2 (λk:Nat=>[(5,.msl 1 .none),(10,.lit (.int .i64 k))]) (λk=>[fltBox f,.mat 34 3 (.int .i64) (m.take k) .none .none]) (λk=>k<=m.length) (λk=>m.length-k))
 | _=>none
theorem kd3 {kd:Int} (h0:¬kd=↑0) (h1:¬kd=↑1) (h2:¬kd=↑2) (h:kd=0\/kd=1\/kd=2\/kd=3):kd=↑3:=by
 rcases h with e | e | e | e
 ·exact absurd e h0
 ·exact absurd e h1
 ·exact absurd e h2
 ·exact e
theorem q7i:Meets Tryz.prog 55 yk9:=by
 refine q9b (x8v [17] (SpecsOk.cons q62 (SpecsOk.cons wx8 (SpecsOk.nil _))) (MutsOk.cons wx3 (MutsOk.cons wx4 (MutsOk.cons wx6 (MutsOk.cons wx7 MutsOk.nil))))) Tryz.func55 rfl rfl (qm0 _) (λx=>x8w x.1 x.2.1) (λ_=>by kernel_rfl) (by decide) ?_
 rintro⟨m,⟨kd,r,p⟩,⟨⟩⟩ h
 revert m kd r p
 intro(m:List (List Int)) (kd:Int) (r:Int) (p:Int) (h:FltPre m (kd,r,p))
 refine @qd1 _ (∃(v0:Unit),∃(v1:Nat),Nat.le v1 m.length/\((True/\(0:Int)=(↑v1:Int)/\True)/\(kd=kd/\r=r/\p=p/\True)/\List.take v1 m=[]/\True)/\∀(v2:Nat),Nat.le v2 m.length->(decide ((↑v2:Int)<(↑m.length:Int))=true->((0:Int)<=(↑v2:Int)/\(↑v2:Int)<(↑m.length:Int))/\(nL m v2).length<=(100000:Nat)/\((0:Nat)<(0:Nat)+(1:Nat)/\(List.take v2 m).length+((0:Nat)+(1:Nat))<=(1000000:Nat))/\fits .i64 ((↑v2:Int)+(1:Int))/\∃(v5:Nat),Nat.le v5 m.length/\m.length-v5<m.length-v2/\(True/\(↑v2:Int)+(1:Int)=(↑v5:Int)/\True)/\(kd=kd/\r=r/\p=p/\True)/\(List.take v2 m++[nL m v2]=List.take v5 m/\True/\True)/\True)/\(decide ((↑v2:Int)<(↑m.length:Int))=false->True/\(decide (kd=(↑(0:Nat):Int))=true->DeedPre (List.take v2 m) (kd,r,p) (0:Int)/\qh1 (List.take v2 m) (kd,r,p)=qh1 m (kd,r,p))/\(decide (kd=(↑(0:Nat):Int))=false->(decide (kd=(↑(1:Nat):Int))=true->DeedPre (List.take v2 m) (kd,r,p) (1:Int)/\qh1 (List.take v2 m) (kd,r,p)=qh1 m (kd,r,p))/\(decide (kd=(↑(1:Nat):Int))=false->(decide (kd=(↑(2:Nat):Int))=true->DeedPre (List.take v2 m) (kd,r,p) (2:Int)/\qh1 (List.take v2 m) (kd,r,p)=qh1 m (kd,r,p))/\(decide (kd=(↑(2:Nat):Int))=false->kd=(↑(3:Nat):Int)/\DeedPre (List.take v2 m) (kd,r,p) (3:Int)/\qh1 (List.take v2 m) (kd,r,p)=qh1 m (kd,r,p)))))) (by kernel_rfl) ?_
 try simp only[z0,z1,z2,z3,z4,z5,z6,z7,z8,z9,z10,Int.reduceEq,z11,z12,z13,z14,z15,z16,z17,z18,z19,z20,z21,z22,z23,z24,z25,z26,z27,z28,z29,z30,Int.reduceLE,Int.reduceLT,z31,z32,z33,z34,qa1]
 try simp only[qa7,qa8,qb5,z31,z32,z2,z1]
 have hM:=Mk.of h.valid
 have m6:=hM.rows6
 have p10:=hM.pix10
 refine⟨(),0,Nat.zero_le _,⟨rfl,rfl⟩,λk hk=>⟨λhlt=>?_,λhge=>?_⟩⟩
 ·have hl:=hM.each k hlt
  exact⟨hlt,by omega,by rw[List.length_take]; omega,qb8 (by omega) (by omega),k+1,hlt,by omega,by push_cast; rfl,(takeL_snoc m k hlt).symm⟩
 ·rw[List.take_of_length_le (by omega)]
  have hkd:kd=0\/kd=1\/kd=2\/kd=3:=by
   have h1:=h.ok
   unfold fvB at h1
   simp only at h1
   split at h1; · exact .inl ‹_›
   split at h1; · exact .inr (.inl ‹_›)
   split at h1; · exact .inr (.inr (.inl ‹_›))
   split at h1; · exact .inr (.inr (.inr ‹_›))
   cases h1
  exact⟨λe=>⟨⟨e,h.valid,h.ok⟩,rfl⟩,λn0=>⟨λe=>⟨⟨e,h.valid,h.ok⟩,rfl⟩,λn1=>⟨λe=>⟨⟨e,h.valid,h.ok⟩,rfl⟩,λn2=>⟨kd3 n0 n1 n2 hkd,⟨kd3 n0 n1 n2 hkd,h.valid,h.ok⟩,rfl⟩⟩⟩⟩
end Go.Proofs.YtmijnbjlhnpokaaGreat
