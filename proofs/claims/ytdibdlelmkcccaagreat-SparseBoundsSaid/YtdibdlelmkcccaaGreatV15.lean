/- The reference's arithmetic of rows: contracts by the engine. No condition. -/
import Derived.Test.YtdibdlelmkcccaaGreatProg
import Derived.Test.YtdibdlelmkcccaaGreatApp
import Derived.Test.YtdibdlelmkcccaaGreatEng3
import Derived.Test.YtdibdlelmkcccaaGreatV12
set_option linter.unusedVariables false
namespace Go.Proofs.YtdibdlelmkcccaaGreat
open Go Go.RowKit Ls Eng
theorem x9t:Elt Tryz.prog 24 3 (.int .i64 0) 1 8:=⟨Tryz.underlying24,by kernel_rfl⟩
theorem w7m (w:World) (t:TypeId):(w.alloc (.cells #[] t)).ownsRow w.heap.size t 1 (.slice (some ⟨w.heap.size,0,none⟩) 0 0) 0 []:=
 ⟨rfl,.inr ⟨w.heap.size,0,#[],rfl,Nat.le_refl _,heap_alloc_new w _,Nat.le_refl _,by unfold maxLen; omega,rfl,rfl⟩⟩
set_option maxRecDepth 100000 in
set_option maxHeartbeats 400000 in
theorem clone_any (X:Option Addr) (k d:Nat) (l:List Int) (w:World) (hl:SI w X k d l) (hk:k<=100000) :
  Calls Tryz.prog 187 #[.slice X k d] w λe w'=>∃A' c',e=.returned (.slice A' k c')/\w'.ownsRow w.heap.size 3 1 (.slice A' k c') k (ints l)/\Below w.heap.size w w':=by
 have hll:=hidx hl.len
 cases X with
 | none=>
  have h0:k=0:=by
   rcases Nat.eq_zero_or_pos k with h | h
   ·exact h
   ·obtain⟨ad,e,_⟩:=hl.at_ h; cases e
  subst h0
  have hl0:l=[]:=List.eq_nil_of_length_eq_zero hll.out
  subst hl0
  have hq:=λw=>Lib.run_eql_slice_nil (P:=Tryz.prog) w 24 3 none 0 d 0 0 Tryz.underlying24
  go_enter Tryz.func187,Tryz.ntmps187
  go_wp2
  go_ret
  exact⟨none,0,rfl,World.ownsRow_nil _ _ _ _,Below.refl _ _⟩
 | some ad=>
  have sv:=hl.values
  have o1:=xe6 l
  have hq:=λw=>Lib.run_eql_slice_nil (P:=Tryz.prog) w 24 3 (some ad) k d 0 0 Tryz.underlying24
  go_enter Tryz.func187,Tryz.ntmps187
  go_wp2_with (at_builtin; refine x9s _ x9t rfl rfl _ _ rfl rfl rfl (w7m _ _) (below_alloc _ _) (Nat.le_refl _) (sv.below (below_alloc _ _)) o1 (by omega) (by omega) ?_; intro A2 c2 w2 hown2 hb2 _; rw[Nat.zero_add] at hown2)
  go_ret
  exact⟨A2,c2,rfl,by simpa using hown2,hb2⟩
abbrev x03:qc0:=qf8 true (some 3) [.list (.int .i64)] [.list (.int .i64)] (λx=>x.1.length<=100000) (λx=>(x.1,()))
theorem rdL_ints (m:View):∀l:List Int,RdL m (.int .i64) l (ints l)
 | []=>rfl
 | x :: l=>⟨[.int .i64 x],ints l,rfl,rfl,rdL_ints m l⟩
theorem wu0:qd3 Tryz.prog 187 x03:=by
 refine⟨⟨_,_,Tryz.func187,rfl,rfl⟩,λw m args vs k hm hargs hrun=>?_⟩
 obtain⟨⟨l,⟨⟩⟩,⟨hp,hk⟩,hx⟩:=qp4 hrun hargs
 have hp:l.length<=100000:=hp
 obtain⟨u,us,rfl,h1,h2⟩:=hx
 obtain rfl:us=[]:=h2
 obtain⟨A,c,rfl,hSI⟩:=xd0 hm (show Rd m (.list (.int .i64)) l [u] from h1)
 refine(clone_any A l.length c l w hSI hp).mono λe w' ⟨A',c',e1,e2,e3⟩=>?_
 exact⟨_,λ_=>none,e1,e3,(λb o h=>by cases h),(λb o h=>by cases h),.inl ⟨.int .i64,l,ints l,hk,e2,rdL_ints _ l,λ_ _=>rfl⟩⟩
end Go.Proofs.YtdibdlelmkcccaaGreat
set_option linter.unusedSimpArgs false
namespace Go.Proofs.YtdibdlelmkcccaaGreat
open Go Go.RowKit Eng
theorem w1d (t:Ty) (a b:List t.den) (hl:a.length=b.length) (h:∀i,i<a.length->qa1 t a i=qa1 t b i):a=b:=by
 apply List.ext_getElem hl
 intro i h1 h2
 have:=h i h1
 rwa [qn0 a i h1,qn0 b i h2] at this
def q86 (r:Int × Int):Bool:=decide (1<=r.2) && decide (r.2<=400) && decide (-10000000000<=r.1) && decide (r.1<=10000000000) && (qf2 r.1 r.2==1)
abbrev x49:qc0:=qf8 true none [q7z] [.bool] (λ_=>True) (λx=>(q86 x.1,()))
theorem w30:qd3 Tryz.prog 90 x49:=by
 refine meets (snd (SpecsOk.cons qo7 (SpecsOk.nil _))) Tryz.func90 rfl rfl (λ_ _=>none) (λ_=>by kernel_rfl) (by decide) ?_
 rintro⟨r,⟨⟩⟩ -
 revert r
 intro(r:Int × Int)
 refine @qd8 _ ((decide ((1:Int)<=Prod.snd r)=true->(decide (Prod.snd r<=(400:Int))=true->(decide ((-10000000000:Int)<=Prod.fst r)=true->(decide (Prod.fst r<=(10000000000:Int))=true->(((-4000000000000000000:Int)<=Prod.fst r/\Prod.fst r<=BIG)/\(-4000000000000000000:Int)<=Prod.snd r/\Prod.snd r<=BIG)/\(qf2 (Prod.fst r) (Prod.snd r)==(1:Int))=q86 r)/\(decide (Prod.fst r<=(10000000000:Int))=false->false=q86 r))/\(decide ((-10000000000:Int)<=Prod.fst r)=false->false=q86 r))/\(decide (Prod.snd r<=(400:Int))=false->false=q86 r))/\(decide ((1:Int)<=Prod.snd r)=false->false=q86 r)) (by kernel_rfl) ?_
 try simp only[z0,z1,z2,z3,z4,z5,z6,z7,z8,z9,z10,Int.reduceEq,z11,z12,z13,z14,z15,z16,z17,z18,z19,z20,z21,z22,z23,z24,z25,z26,z27,z28,z29,z30,Int.reduceLE,Int.reduceLT,z31,z32,z33,z34,qa4]
 try simp only[qb6,qb7,qc8,List.set_cons_zero,List.cons.injEq,and_true,true_and]
 have hB:BIG=4000000000000000000:=rfl
 have no:¬(1<=r.2/\r.2<=400/\-10000000000<=r.1/\r.1<=10000000000)->false=q86 r:=λh=>by
  symm
  rw[Bool.eq_false_iff]
  intro e
  unfold q86 at e
  rw[Bool.and_eq_true,Bool.and_eq_true,Bool.and_eq_true,Bool.and_eq_true,decide_eq_true_eq,decide_eq_true_eq,decide_eq_true_eq,decide_eq_true_eq] at e
  exact h ⟨e.1.1.1.1,e.1.1.1.2,e.1.1.2,e.1.2⟩
 refine⟨λh1=>⟨λh2=>⟨λh3=>⟨λh4=>⟨⟨⟨by omega,by omega⟩,by omega,by omega⟩,by simp[q86,h1,h2,h3,h4]⟩,λh4=>no (by omega)⟩,λh3=>no (by omega)⟩,λh2=>no (by omega)⟩,λh1=>no (by omega)⟩
abbrev x04:qc0:=qf8 true none [q7z] [.bool] (λ_=>True) (λx=>(!q86 x.1 || x.1.1==0,()))
theorem w31:qd3 Tryz.prog 89 x04:=by
 refine meets (snd (SpecsOk.cons w30 (SpecsOk.nil _))) Tryz.func89 rfl rfl (λ_ _=>none) (λ_=>by kernel_rfl) (by decide) ?_
 rintro⟨r,⟨⟩⟩ -
 revert r
 intro(r:Int × Int)
 refine @qd8 _ (let Q0:=(!q86 (Prod.fst r,Prod.snd r)); True/\(Q0=true->true=(!q86 r || Prod.fst r==(0:Ty.den (Ty.int .i64))))/\(Q0=false->(Prod.fst r==(0:Int))=(!q86 r || Prod.fst r==(0:Ty.den (Ty.int .i64))))) (by kernel_rfl) ?_
 try simp only[z0,z1,z2,z3,z4,z5,z6,z7,z8,z9,z10,Int.reduceEq,z11,z12,z13,z14,z15,z16,z17,z18,z19,z20,z21,z22,z23,z24,z25,z26,z27,z28,z29,z30,Int.reduceLE,Int.reduceLT,z31,z32,z33,z34,qa4]
 try simp only[qb6,qb7,qc8,List.set_cons_zero,List.cons.injEq,and_true,true_and]
 exact⟨λh=>by have h:q86 r=false:=h; rw[h]; rfl,λh=>by have h:q86 r=true:=h; rw[h]; rfl⟩
def wn3 (v:List (Int × Int)):Bool:=v.any λr=>!q86 r || r.1==0
def w1e (f:List Int × List (Int × Int)):Bool:=decide (f.1.length=f.2.length) && !wn3 f.2 && wh4 f.1
abbrev x9u:qc0:=qf8 true none [q5c] [.bool] (λx=>x.1.1.length<=1000000/\x.1.2.length<=1000000) (λx=>(w1e x.1,()))
def x5b (l:List Int) (v:List (Int × Int)):Nat->Option Inv
 | 0=>some (Inv.of [4] 1 (λk:Nat=>[(4,.lit (.int .i64 k))]) (λ_=>[.box 27 (.cons (.dat (.int .i64) l) (.cons (.dat (.prod (.int .i64) (.int .i64)) v) .nil))]) (λk=>1<=k/\(AscTo l k\/(k=1/\l=[]))) (λk=>l.length-k))
 | _=>none
theorem w7n:qd3 Tryz.prog 48 x9u:=by
 refine meets (snd (SpecsOk.cons (wl8 (fs:=[(89,x04)]) (SpecsOk.cons w31 (SpecsOk.nil _))) (SpecsOk.nil _))) Tryz.func48 rfl rfl (λx=>x5b x.1.1 x.1.2) (λ_=>by kernel_rfl) (by decide) ?_
 rintro⟨f,⟨⟩⟩ h
 revert f
 intro(f:List Int × List (Int × Int)) (h:f.1.length<=1000000/\f.2.length<=1000000)
 refine @qd8 _ (let Q0:=List.length (Prod.fst f); let Q1:=Prod.fst f; let Q2:=Prod.snd f; (((↑Q0:Int) != (↑(List.length Q2):Int))=true->false=w1e f)/\(((↑Q0:Int) != (↑(List.length Q2):Int))=false->∃(v1:qa5 [Ty.prod (Ty.int .i64) (Ty.int .i64)]->Prop),∃(v2:qa5 [Ty.prod (Ty.int .i64) (Ty.int .i64)]->Bool),(∀(v3:(Int × Int) × qa5._f [] PUnit.unit),v1 v3->True/\(!q86 (Prod.fst (Prod.fst v3),Prod.snd (Prod.fst v3)) || Prod.fst (Prod.fst v3)==(0:Ty.den (Ty.int .i64)))=v2 v3)/\(List.length Q2<=(1000000:Nat)/\∀(v3:Nat),v3<List.length Q2->v1 (qa1 (Ty.prod (Ty.int .i64) (Ty.int .i64)) Q2 v3,()))/\((List.any Q2 λ(v4:Int × Int)=>v2 (v4,()))=true->false=w1e f)/\((List.any Q2 λ(v4:Int × Int)=>v2 (v4,()))=false->∃(v4:Unit),∃(v5:Nat),((1:Nat)<=v5/\(AscTo Q1 v5\/v5=(1:Nat)/\Prod.fst f=[]))/\(((1:Int)=(↑v5:Int)/\True)/\(Prod.fst f=Prod.fst f/\Prod.snd f=Prod.snd f/\True)/\True)/\∀(v6:Nat),(1:Nat)<=v6/\(AscTo Q1 v6\/v6=(1:Nat)/\Prod.fst f=[])->(decide ((↑v6:Int)<(↑Q0:Int))=true->((0:Int)<=(↑v6:Int)/\(↑v6:Int)<(↑Q0:Int))/\fits .i64 ((↑v6:Int)-(1:Int))/\((0:Int)<=(↑v6:Int)-(1:Int)/\(↑v6:Int)-(1:Int)<(↑Q0:Int))/\(decide (qa1 (Ty.int .i64) Q1 (Int.toNat (↑v6:Int))<=qa1 (Ty.int .i64) Q1 (Int.toNat ((↑v6:Int)-(1:Int))))=true->false=w1e f)/\(decide (qa1 (Ty.int .i64) Q1 (Int.toNat (↑v6:Int))<=qa1 (Ty.int .i64) Q1 (Int.toNat ((↑v6:Int)-(1:Int))))=false->fits .i64 ((↑v6:Int)+(1:Int))/\∃(v10:Nat),((1:Nat)<=v10/\(AscTo Q1 v10\/v10=(1:Nat)/\Prod.fst f=[]))/\List.length Q1-v10<List.length Q1-v6/\((↑v6:Int)+(1:Int)=(↑v10:Int)/\True)/\(Prod.fst f=Prod.fst f/\Prod.snd f=Prod.snd f/\True)/\True))/\(decide ((↑v6:Int)<(↑Q0:Int))=false->true=w1e f)))) (by kernel_rfl) ?_
 try simp only[z0,z1,z2,z3,z4,z5,z6,z7,z8,z9,z10,Int.reduceEq,z11,z12,z13,z14,z15,z16,z17,z18,z19,z20,z21,z22,z23,z24,z25,z26,z27,z28,z29,z30,Int.reduceLE,Int.reduceLT,z31,z32,z33,z34,qa4]
 try simp only[qb6,qb7,qc8,List.set_cons_zero,List.cons.injEq,and_true,true_and]
 obtain⟨hp1,hp2⟩:=h
 refine⟨λhl=>?_,λhl=>⟨λ_=>True,λx=>!q86 x.1 || x.1.1==0,λ_ _=>rfl,⟨hp2,λ_ _=>trivial⟩,λhw=>?_,λhw=>?_⟩⟩
 ·have:¬f.1.length=f.2.length:=by omega
  simp[w1e,this]
 ·have hw:wn3 f.2=true:=hw
  simp[w1e,hw]
 have hw:wn3 f.2=false:=hw
 have hl:f.1.length=f.2.length:=by omega
 have hv:w1e f=wh4 f.1:=by simp[w1e,hl,hw]
 rw[hv]
 generalize f.1=l at *
 refine⟨(),1,⟨Nat.le_refl _,?_⟩,rfl,λk ⟨h1,hk⟩=>⟨λhlt=>?_,λhge=>?_⟩⟩
 ·cases l with
  | nil=>exact .inr ⟨rfl,rfl⟩
  | cons a l=>exact .inl ⟨by simp,λi h0 hi=>by omega⟩
 ·have hk:AscTo l k:=hk.resolve_right λ⟨_,e⟩=>by subst e; simp at hlt
  have e:((k:Int)-1).toNat=k-1:=by omega
  rw[e]
  exact⟨hlt,qa7 (by omega) (by omega),⟨by omega,by omega⟩,λh2=>(wc4 (by omega) hlt h2).symm,λh2=>⟨qa7 (by omega) (by omega),k+1,⟨by omega,.inl (hk.step hlt (.inr h2))⟩,by omega,by omega⟩⟩
 ·rcases hk with hk | ⟨_,rfl⟩
  ·obtain rfl:k=l.length:=by have:=hk.le; omega
   exact hk.all.symm
  ·rfl
abbrev tQ:Ty:=.prod (.list (.list (.int .i64))) (.list (.int .i64))
abbrev x05:qc0:=qf8 true none [q7z] [.bool] (λ_=>True) (λx=>(x.1.1==0,()))
theorem w33:qd3 Tryz.prog 186 x05:=by
 refine meets (snd (SpecsOk.nil _)) Tryz.func186 rfl rfl (λ_ _=>none) (λ_=>by kernel_rfl) (by decide) ?_
 rintro⟨r,⟨⟩⟩ -
 revert r
 intro(r:Int × Int)
 refine @qd8 _ ((Prod.fst r==(0:Int))=(Prod.fst r==(0:Ty.den (Ty.int .i64)))) (by kernel_rfl) ?_
 try simp only[z0,z1,z2,z3,z4,z5,z6,z7,z8,z9,z10,Int.reduceEq,z11,z12,z13,z14,z15,z16,z17,z18,z19,z20,z21,z22,z23,z24,z25,z26,z27,z28,z29,z30,Int.reduceLE,Int.reduceLT,z31,z32,z33,z34,qa4]
 try simp only[qb6,qb7,qc8,List.set_cons_zero,List.cons.injEq,and_true,true_and]
 done
abbrev x5c:qc0:=qf8 true none [tQ] [tInt] (λx=>0<x.1.1.length) (λx=>((nL x.1.1 0).length,()))
theorem w34:qd3 Tryz.prog 106 x5c:=by
 refine meets (snd (SpecsOk.nil _)) Tryz.func106 rfl rfl (λ_ _=>none) (λ_=>by kernel_rfl) (by decide) ?_
 rintro⟨q,⟨⟩⟩ h
 revert q
 intro(q:List (List Int) × List Int) (h:0<q.1.length)
 refine @qd8 _ (let Q0:=Prod.fst q; ((0:Int)<=(0:Int)/\(0:Int)<(↑(List.length Q0):Int))/\(↑(List.length (qa1 (Ty.list (Ty.int .i64)) Q0 (0:Nat))):Int)=(↑(List.length (nL Q0 (0:Nat))):Int)) (by kernel_rfl) ?_
 try simp only[z0,z1,z2,z3,z4,z5,z6,z7,z8,z9,z10,Int.reduceEq,z11,z12,z13,z14,z15,z16,z17,z18,z19,z20,z21,z22,z23,z24,z25,z26,z27,z28,z29,z30,Int.reduceLE,Int.reduceLT,z31,z32,z33,z34,qa4]
 try simp only[qb6,qb7,qc8,List.set_cons_zero,List.cons.injEq,and_true,true_and]
 omega
def q4c (m:List (List Int)) (y pix:List Int):(List Int × List (Int × Int)) × Bool:=if(q70 m pix y).2≠0\/((q70 m pix y).1.any λr=>r.1==0)=true then(([],[]),false) else((pix,(q70 m pix y).1),true)
abbrev x5d:qc0:=qf8 true none [tQ,tInts] [q5c,.bool] (λx=>q3b x.1.1 x.2.1 x.1.2/\x.2.1.length<=100000) (λx=>((q4c x.1.1 x.1.2 x.2.1).1,(q4c x.1.1 x.1.2 x.2.1).2,()))
theorem xe7 {m:List (List Int)} {pix y:List Int} (h:q3b m pix y):(q70 m pix y).1.length<=1000000:=by
 unfold q70
 split
 ·rename_i he
  have hA:=Asked.of he
  have hO:=h.ok he
  unfold w7j
  split
  ·simp
  ·split
   ·simp
   ·have hsh:=(q1d hO.red pix.length).piv
    rw[show(qg2 m pix y).length=m.length from qn5 _ _ _] at hsh
    have:=hA.msk.rows6
    have e:(wq8 m pix y).2.length=(qc7 (qg2 m pix y) pix.length).2.length:=rfl
    simp
    omega
 ·simp
theorem w7o:qd3 Tryz.prog 168 x5d:=by
 refine meets (snd (SpecsOk.cons w7l (SpecsOk.cons wu0 (SpecsOk.cons (wl8 (fs:=[(186,x05)]) (SpecsOk.cons w33 (SpecsOk.nil _))) (SpecsOk.nil _))))) Tryz.func168 rfl rfl (λ_ _=>none) (λ_=>by kernel_rfl) (by decide) ?_
 rintro⟨q,pix,⟨⟩⟩ h
 revert q pix
 intro(q:List (List Int) × List Int) (pix:List Int) (h:q3b q.1 pix q.2/\pix.length<=100000)
 refine @qd8 _ (let Q0:=q4c (Prod.fst q) (Prod.snd q) pix; let Q1:=q70 (Prod.fst q) pix (Prod.snd q); let Q2:=Prod.fst Q0; let Q3:=Prod.fst Q1; q3b (Prod.fst q) pix (Prod.snd q)/\((Prod.snd Q1 != (0:Int))=true->(Prod.fst Q2=[]/\Prod.snd Q2=[]/\True)/\false=Prod.snd Q0/\True)/\((Prod.snd Q1 != (0:Int))=false->∃(v1:qa5 [Ty.prod (Ty.int .i64) (Ty.int .i64)]->Prop),∃(v2:qa5 [Ty.prod (Ty.int .i64) (Ty.int .i64)]->Bool),(∀(v3:(Int × Int) × qa5._f [] PUnit.unit),v1 v3->True/\(Prod.fst (Prod.fst v3)==(0:Ty.den (Ty.int .i64)))=v2 v3)/\(List.length Q3<=(1000000:Nat)/\∀(v3:Nat),v3<List.length Q3->v1 (qa1 (Ty.prod (Ty.int .i64) (Ty.int .i64)) Q3 v3,()))/\((List.any Q3 λ(v4:Int × Int)=>v2 (v4,()))=true->(Prod.fst Q2=[]/\Prod.snd Q2=[]/\True)/\false=Prod.snd Q0/\True)/\((List.any Q3 λ(v4:Int × Int)=>v2 (v4,()))=false->List.length pix<=(100000:Nat)/\(pix=Prod.fst Q2/\Prod.fst Q1=Prod.snd Q2/\True)/\true=Prod.snd Q0/\True))) (by kernel_rfl) ?_
 try simp only[z0,z1,z2,z3,z4,z5,z6,z7,z8,z9,z10,Int.reduceEq,z11,z12,z13,z14,z15,z16,z17,z18,z19,z20,z21,z22,z23,z24,z25,z26,z27,z28,z29,z30,Int.reduceLE,Int.reduceLT,z31,z32,z33,z34,qa4]
 try simp only[qb6,qb7,qc8,List.set_cons_zero,List.cons.injEq,and_true,true_and]
 obtain⟨hp,hl⟩:=h
 refine⟨hp,λh1=>by simp[q4c,h1],λh1=>⟨λ_=>True,λx=>x.1.1==0,λ_ _=>rfl,⟨?_,λ_ _=>trivial⟩,λh2=>?_,λh2=>⟨hl,?_⟩⟩⟩
 ·exact xe7 hp
 ·have h2:((q70 q.1 pix q.2).1.any λr=>r.1==0)=true:=h2
  unfold q4c; rw[if_pos (.inr h2)]; exact⟨⟨rfl,rfl⟩,rfl⟩
 ·have h2:((q70 q.1 pix q.2).1.any λr=>r.1==0)=false:=h2
  unfold q4c; rw[if_neg (by rw[h1,h2]; simp)]; exact⟨⟨rfl,rfl⟩,rfl⟩
theorem w7p (a b:Int):qf2 b (a.tmod b)=qf2 a b:=by
 unfold qf2
 show((Nat.gcd b.natAbs (a.tmod b).natAbs:Nat):Int)=(Nat.gcd a.natAbs b.natAbs:Nat)
 rw[Int.natAbs_tmod,Nat.gcd_comm b.natAbs,<- Nat.gcd_rec,Nat.gcd_comm]
def x5e (a b:Int):Nat->Option Inv
 | 0=>some (Inv.of [0,1] 0 (λs:Int × Int=>[(0,.lit (.int .i64 s.1)),(1,.lit (.int .i64 s.2))]) (λ_=>[]) (λs=>qg3 BIG s.1/\qg3 BIG s.2/\qf2 s.1 s.2=qf2 a b) (λs=>s.2.natAbs))
 | _=>none
theorem q4d:qd3 Tryz.prog 139 w09:=by
 refine meets (snd (SpecsOk.nil _)) Tryz.func139 rfl rfl (λx=>x5e x.1 x.2.1) (λ_=>by kernel_rfl) (by decide) ?_
 rintro⟨a,b,⟨⟩⟩ h
 revert a b
 intro(a:Int) (b:Int) (h:(-BIG<=a/\a<=BIG)/\-BIG<=b/\b<=BIG)
 refine @qd8 _ (∃(v0:Unit),∃(v1:Int × Int),(qg3 BIG (Prod.fst v1)/\qg3 BIG (Prod.snd v1)/\qf2 (Prod.fst v1) (Prod.snd v1)=qf2 a b)/\((a=Prod.fst v1/\b=Prod.snd v1/\True)/\True)/\∀(v2:Int × Int),qg3 BIG (Prod.fst v2)/\qg3 BIG (Prod.snd v2)/\qf2 (Prod.fst v2) (Prod.snd v2)=qf2 a b->((Prod.snd v2 != (0:Int))=true->Prod.snd v2≠(0:Int)/\∃(v5:Int × Int),(qg3 BIG (Prod.fst v5)/\qg3 BIG (Prod.snd v5)/\qf2 (Prod.fst v5) (Prod.snd v5)=qf2 a b)/\Int.natAbs (Prod.snd v5)<Int.natAbs (Prod.snd v2)/\(Prod.snd v2=Prod.fst v5/\Int.tmod (Prod.fst v2) (Prod.snd v2)=Prod.snd v5/\True)/\True)/\((Prod.snd v2 != (0:Int))=false->fits .i64 ((0:Int)-Prod.fst v2)/\max2 true (Prod.fst v2) ((0:Int)-Prod.fst v2)=qf2 a b)) (by kernel_rfl) ?_
 try simp only[z0,z1,z2,z3,z4,z5,z6,z7,z8,z9,z10,Int.reduceEq,z11,z12,z13,z14,z15,z16,z17,z18,z19,z20,z21,z22,z23,z24,z25,z26,z27,z28,z29,z30,Int.reduceLE,Int.reduceLT,z31,z32,z33,z34,qa4]
 try simp only[qb6,qb7,qc8,List.set_cons_zero,List.cons.injEq,and_true,true_and]
 refine⟨(),(a,b),⟨h.1,h.2,rfl⟩,⟨rfl,rfl⟩,?_⟩
 rintro⟨x,y⟩ ⟨h1,h2,h3⟩
 dsimp only at h1 h2 h3 ⊢
 have hB:BIG=4000000000000000000:=rfl
 refine⟨λhy=>⟨hy,(y,x.tmod y),⟨h2,?_,(w7p x y).trans h3⟩,?_,rfl,rfl⟩,λhy=>?_⟩
 ·have:(x.tmod y).natAbs<=x.natAbs:=by rw[Int.natAbs_tmod]; exact Nat.mod_le _ _
  unfold qg3 at h1 ⊢
  dsimp only
  omega
 ·dsimp only
  rw[Int.natAbs_tmod]
  exact Nat.mod_lt _ (by omega)
 ·subst hy
  unfold qg3 at h1
  refine⟨qa7 (by omega) (by omega),?_⟩
  rw[<- h3]
  show max x (0-x)=((Int.gcd x 0:Nat):Int)
  rw[Int.gcd_zero_right]
  omega
def qj5 (l:List Int):List Int:=l.map λn=>n.tdiv (max (gcdL l) 1)
abbrev x06:qc0:=qf8 true (some 3) [tInts] [tInts] (λx=>q36 x.1) (λx=>(qj5 x.1,()))
def xs0 (l:List Int):Nat->Option Inv
 | 0=>some (Inv.of [3,11] 0 (λk:Nat=>[(3,.lit (.int .i64 (gcdL (l.take k)))),(11,.lit (.int .i64 k))]) (λ_=>[]) (λk=>k<=l.length) (λk=>l.length-k))
 | 1=>some (Inv.of [6,21] 1 (λk:Nat=>[(6,.own 0),(21,.lit (.int .i64 k))]) (λk=>[.vec 3 (.int .i64) ((qj5 l).take k)]) (λk=>k<=l.length) (λk=>l.length-k))
 | _=>none
theorem q18:qd3 Tryz.prog 115 x06:=by
 refine meets (snd (SpecsOk.cons q4d (SpecsOk.nil _))) Tryz.func115 rfl rfl (λx=>xs0 x.1) (λ_=>by kernel_rfl) (by decide) ?_
 rintro⟨l,⟨⟩⟩ h
 revert l
 intro(l:List Int) (h:q36 l)
 refine @qd8 _ (let Q0:=List.length l; ∃(v0:Unit),∃(v1:Nat),Nat.le v1 Q0/\(((0:Int)=gcdL (List.take v1 l)/\(0:Int)=(↑v1:Int)/\True)/\True)/\∀(v2:Nat),Nat.le v2 Q0->(decide ((↑v2:Int)<(↑Q0:Int))=true->((0:Int)<=(↑v2:Int)/\(↑v2:Int)<(↑Q0:Int))/\(((-4000000000000000000:Int)<=gcdL (List.take v2 l)/\gcdL (List.take v2 l)<=BIG)/\(-4000000000000000000:Int)<=qa1 (Ty.int .i64) l (Int.toNat (↑v2:Int))/\qa1 (Ty.int .i64) l (Int.toNat (↑v2:Int))<=BIG)/\fits .i64 ((↑v2:Int)+(1:Int))/\∃(v5:Nat),Nat.le v5 Q0/\List.length l-v5<List.length l-v2/\(qf2 (gcdL (List.take v2 l)) (qa1 (Ty.int .i64) l (Int.toNat (↑v2:Int)))=gcdL (List.take v5 l)/\(↑v2:Int)+(1:Int)=(↑v5:Int)/\True)/\True)/\(decide ((↑v2:Int)<(↑Q0:Int))=false->∃(v5:Unit),∃(v6:Nat),Nat.le v6 Q0/\((True/\(0:Int)=(↑v6:Int)/\True)/\List.take v6 (qj5 l)=[]/\True)/\∀(v7:Nat),Nat.le v7 Q0->(decide ((↑v7:Int)<(↑Q0:Int))=true->((0:Int)<=(↑v7:Int)/\(↑v7:Int)<(↑Q0:Int))/\max2 true (gcdL (List.take v2 l)) (1:Int)≠(0:Int)/\fits .i64 (Int.tdiv (qa1 (Ty.int .i64) l (Int.toNat (↑v7:Int))) (max2 true (gcdL (List.take v2 l)) (1:Int)))/\((0:Nat)<List.length [Int.tdiv (qa1 (Ty.int .i64) l (Int.toNat (↑v7:Int))) (max2 true (gcdL (List.take v2 l)) (1:Int))]/\Nat.le (List.length (List.take v7 (qj5 l))+List.length [Int.tdiv (qa1 (Ty.int .i64) l (Int.toNat (↑v7:Int))) (max2 true (gcdL (List.take v2 l)) (1:Int))]) (1000000:Nat))/\fits .i64 ((↑v7:Int)+(1:Int))/\∃(v10:Nat),Nat.le v10 Q0/\List.length l-v10<List.length l-v7/\(True/\(↑v7:Int)+(1:Int)=(↑v10:Int)/\True)/\List.take v7 (qj5 l)++[Int.tdiv (qa1 (Ty.int .i64) l (Int.toNat (↑v7:Int))) (max2 true (gcdL (List.take v2 l)) (1:Int))]=List.take v10 (qj5 l)/\True)/\(decide ((↑v7:Int)<(↑Q0:Int))=false->List.take v7 (qj5 l)=qj5 l))) (by kernel_rfl) ?_
 try simp only[z0,z1,z2,z3,z4,z5,z6,z7,z8,z9,z10,Int.reduceEq,z11,z12,z13,z14,z15,z16,z17,z18,z19,z20,z21,z22,z23,z24,z25,z26,z27,z28,z29,z30,Int.reduceLE,Int.reduceLT,z31,z32,z33,z34,qa4]
 try simp only[qb6,qb7,qc8,List.set_cons_zero,List.cons.injEq,and_true,true_and]
 have hlen:=h.1
 have hpl:(qj5 l).length=l.length:=by simp[qj5]
 refine⟨(),0,Nat.zero_le _,⟨rfl,rfl⟩,λk hk=>⟨λhlt=>?_,λhge=>?_⟩⟩
 ·have h1:=wt4 h k hk
  have h2:=q0k h hlt
  unfold BIG at h1
  exact⟨hlt,⟨⟨by omega,by unfold BIG; omega⟩,h2⟩,qa7 (by omega) (by omega),k+1,by omega,by omega,(q6k l k hlt).symm,by omega⟩
 ·obtain rfl:k=l.length:=by omega
  rw[List.take_length]
  refine⟨(),0,Nat.zero_le _,⟨rfl,rfl⟩,λi hi=>⟨λhlt=>?_,λhge=>?_⟩⟩
  ·have h2:=q0k h hlt
   have h3:=qk5 (g:=max (gcdL l) 1) h2
   unfold BIG at h3
   refine⟨hlt,by show ¬max (gcdL l) 1=0; omega,qa7 (by show -9223372036854775808<=(nI l i).tdiv (max (gcdL l) 1); omega) (by show(nI l i).tdiv (max (gcdL l) 1)<=9223372036854775807; omega),by rw[List.length_take]; omega,qa7 (by omega) (by omega),i+1,by omega,by omega,by omega,?_⟩
   rw[q6n _ i (by omega),qh7 (qj5 l) i (by omega),qh7 l i hlt]
   simp[qj5]
   rfl
  ·rw[List.take_of_length_le (by omega)]
def qj0 (l:List Int) (n:Int):List Int:=l.map λk=>k*n
structure w7q (l:List Int) (n:Int):Prop where
 len:l.length<=1000
 big:∀i,i<l.length->qg3 BIG (nI l i*n)
abbrev x9v:qc0:=qf8 true none [tInts,tInt] [tInts] (λx=>w7q x.1 x.2.1) (λx=>(qj0 x.1 x.2.1,()))
def x5f (l:List Int) (n:Int):Nat->Option Inv
 | 0=>some (Inv.of [5,10] 1 (λk:Nat=>[(5,.own 0),(10,.lit (.int .i64 k))]) (λk=>[.vec 3 (.int .i64) ((qj0 l n).take k)]) (λk=>k<=l.length) (λk=>l.length-k))
 | _=>none
theorem wn4:qd3 Tryz.prog 116 x9v:=by
 refine meets (snd (SpecsOk.nil _)) Tryz.func116 rfl rfl (λx=>x5f x.1 x.2.1) (λ_=>by kernel_rfl) (by decide) ?_
 rintro⟨l,n,⟨⟩⟩ h
 revert l n
 intro(l:List Int) (n:Int) (h:w7q l n)
 refine @qd8 _ (let Q0:=List.length l; let Q1:=qj0 l n; ∃(v0:Unit),∃(v1:Nat),Nat.le v1 Q0/\((True/\(0:Int)=(↑v1:Int)/\True)/\List.take v1 Q1=[]/\True)/\∀(v2:Nat),Nat.le v2 Q0->(decide ((↑v2:Int)<(↑Q0:Int))=true->((0:Int)<=(↑v2:Int)/\(↑v2:Int)<(↑Q0:Int))/\fits .i64 (qa1 (Ty.int .i64) l (Int.toNat (↑v2:Int))*n)/\((0:Nat)<List.length [qa1 (Ty.int .i64) l (Int.toNat (↑v2:Int))*n]/\Nat.le (List.length (List.take v2 Q1)+List.length [qa1 (Ty.int .i64) l (Int.toNat (↑v2:Int))*n]) (1000000:Nat))/\fits .i64 ((↑v2:Int)+(1:Int))/\∃(v5:Nat),Nat.le v5 Q0/\List.length l-v5<List.length l-v2/\(True/\(↑v2:Int)+(1:Int)=(↑v5:Int)/\True)/\List.take v2 Q1++[qa1 (Ty.int .i64) l (Int.toNat (↑v2:Int))*n]=List.take v5 Q1/\True)/\(decide ((↑v2:Int)<(↑Q0:Int))=false->List.take v2 Q1=qj0 l n)) (by kernel_rfl) ?_
 try simp only[z0,z1,z2,z3,z4,z5,z6,z7,z8,z9,z10,Int.reduceEq,z11,z12,z13,z14,z15,z16,z17,z18,z19,z20,z21,z22,z23,z24,z25,z26,z27,z28,z29,z30,Int.reduceLE,Int.reduceLT,z31,z32,z33,z34,qa4]
 try simp only[qb6,qb7,qc8,List.set_cons_zero,List.cons.injEq,and_true,true_and]
 have hlen:=h.len
 have hpl:(qj0 l n).length=l.length:=by simp[qj0]
 refine⟨(),0,Nat.zero_le _,⟨rfl,rfl⟩,λi hi=>⟨λhlt=>?_,λhge=>?_⟩⟩
 ·have h3:=h.big i hlt
  unfold qg3 BIG at h3
  refine⟨hlt,qa7 (by omega) (by omega),by rw[List.length_take]; omega,qa7 (by omega) (by omega),i+1,by omega,by omega,by omega,?_⟩
  rw[q6n _ i (by omega),qh7 (qj0 l n) i (by omega),qh7 l i hlt]
  simp[qj0]
 ·rw[List.take_of_length_le (by omega)]
def q3c (r p:List Int) (j:Nat):List Int:=(List.range r.length).map λk=>nI r k*nI p j-nI p k*nI r j
def qe0 (r p:List Int) (j:Nat):List Int:=qj5 (q3c r p j)
structure xe8 (r p:List Int) (j:Nat):Prop where
 len:r.length<=1000
 eq:p.length=r.length
 lt:j<r.length
 b1:∀k,k<r.length->qg3 BIG (nI r k*nI p j)
 b2:∀k,k<r.length->qg3 BIG (nI p k*nI r j)
 b3:∀k,k<r.length->qg3 BIG (nI r k*nI p j-nI p k*nI r j)
abbrev sWo:qc0:=qf8 true none [tInts,tInts,tInt] [tInts] (λx=>0<=x.2.2.1/\xe8 x.1 x.2.1 x.2.2.1.toNat) (λx=>(qe0 x.1 x.2.1 x.2.2.1.toNat,()))
def x9w (r p:List Int) (j:Nat):Nat->Option Inv
 | 0=>some (Inv.of [7,11] 1 (λk:Nat=>[(7,.own 0),(11,.lit (.int .i64 k))]) (λk=>[.vec 3 (.int .i64) ((q3c r p j).take k)]) (λk=>k<=r.length) (λk=>r.length-k))
 | _=>none
theorem xe9:qd3 Tryz.prog 117 sWo:=by
 refine meets (snd (SpecsOk.cons q18 (SpecsOk.nil _))) Tryz.func117 rfl rfl (λx=>x9w x.1 x.2.1 x.2.2.1.toNat) (λ_=>by kernel_rfl) (by decide) ?_
 rintro⟨r,p,j,⟨⟩⟩ h
 revert r p j
 intro(r:List Int) (p:List Int) (j:Int) (h:0<=j/\xe8 r p j.toNat)
 refine @qd8 _ (let Q0:=Int.toNat j; let Q1:=List.length r; let Q2:=q3c r p Q0; ∃(v0:Unit),∃(v1:Nat),Nat.le v1 Q1/\((True/\(0:Int)=(↑v1:Int)/\True)/\List.take v1 Q2=[]/\True)/\∀(v2:Nat),Nat.le v2 Q1->(decide ((↑v2:Int)<(↑Q1:Int))=true->((0:Int)<=(↑v2:Int)/\(↑v2:Int)<(↑Q1:Int))/\((0:Int)<=j/\j<(↑(List.length p):Int))/\fits .i64 (qa1 (Ty.int .i64) r (Int.toNat (↑v2:Int))*qa1 (Ty.int .i64) p Q0)/\((0:Int)<=(↑v2:Int)/\(↑v2:Int)<(↑(List.length p):Int))/\((0:Int)<=j/\j<(↑Q1:Int))/\fits .i64 (qa1 (Ty.int .i64) p (Int.toNat (↑v2:Int))*qa1 (Ty.int .i64) r Q0)/\fits .i64 (qa1 (Ty.int .i64) r (Int.toNat (↑v2:Int))*qa1 (Ty.int .i64) p Q0-qa1 (Ty.int .i64) p (Int.toNat (↑v2:Int))*qa1 (Ty.int .i64) r Q0)/\((0:Nat)<List.length [qa1 (Ty.int .i64) r (Int.toNat (↑v2:Int))*qa1 (Ty.int .i64) p Q0-qa1 (Ty.int .i64) p (Int.toNat (↑v2:Int))*qa1 (Ty.int .i64) r Q0]/\Nat.le (List.length (List.take v2 Q2)+List.length [qa1 (Ty.int .i64) r (Int.toNat (↑v2:Int))*qa1 (Ty.int .i64) p Q0-qa1 (Ty.int .i64) p (Int.toNat (↑v2:Int))*qa1 (Ty.int .i64) r Q0]) (1000000:Nat))/\fits .i64 ((↑v2:Int)+(1:Int))/\∃(v5:Nat),Nat.le v5 Q1/\List.length r-v5<List.length r-v2/\(True/\(↑v2:Int)+(1:Int)=(↑v5:Int)/\True)/\List.take v2 Q2++[qa1 (Ty.int .i64) r (Int.toNat (↑v2:Int))*qa1 (Ty.int .i64) p Q0-qa1 (Ty.int .i64) p (Int.toNat (↑v2:Int))*qa1 (Ty.int .i64) r Q0]=List.take v5 Q2/\True)/\(decide ((↑v2:Int)<(↑Q1:Int))=false->q36 (List.take v2 Q2)/\qj5 (List.take v2 Q2)=qe0 r p Q0)) (by kernel_rfl) ?_
 try simp only[z0,z1,z2,z3,z4,z5,z6,z7,z8,z9,z10,Int.reduceEq,z11,z12,z13,z14,z15,z16,z17,z18,z19,z20,z21,z22,z23,z24,z25,z26,z27,z28,z29,z30,Int.reduceLE,Int.reduceLT,z31,z32,z33,z34,qa4]
 try simp only[qb6,qb7,qc8,List.set_cons_zero,List.cons.injEq,and_true,true_and]
 obtain⟨hj,h⟩:=h
 have hlen:=h.len
 have heq:=h.eq
 have hlt':=h.lt
 have hpl:(q3c r p j.toNat).length=r.length:=by simp[q3c]
 have hpk:0<=j/\j<(p.length:Int):=⟨hj,by omega⟩
 have hrk:0<=j/\j<(r.length:Int):=⟨hj,by omega⟩
 have hat:∀k,k<r.length->nI (q3c r p j.toNat) k=nI r k*nI p j.toNat-nI p k*nI r j.toNat:=λk hk=>by
  rw[qh7 _ k (by omega)]; simp[q3c]
 refine⟨(),0,Nat.zero_le _,⟨rfl,rfl⟩,λi hi=>⟨λhlt=>?_,λhge=>?_⟩⟩
 ·have h1:=h.b1 i hlt
  have h2:=h.b2 i hlt
  have h3:=h.b3 i hlt
  unfold qg3 BIG at h1 h2 h3
  refine⟨hlt,hpk,qa7 (by omega) (by omega),by omega,hrk,qa7 (by omega) (by omega),qa7 (by omega) (by omega),by rw[List.length_take]; omega,qa7 (by omega) (by omega),i+1,by omega,by omega,by omega,?_⟩
  rw[q6n _ i (by omega),hat i hlt]
 ·rw[List.take_of_length_le (by omega)]
  refine⟨⟨by omega,λx hx=>?_⟩,rfl⟩
  obtain⟨k,hk,rfl⟩:=List.getElem_of_mem hx
  rw[<- qh7 _ k hk,hat k (by omega)]
  exact h.b3 k (by omega)
def xs1 (n d:Int):Int × Int:=(n.tdiv (qf2 n d),d.tdiv (qf2 n d))
end Go.Proofs.YtdibdlelmkcccaaGreat
