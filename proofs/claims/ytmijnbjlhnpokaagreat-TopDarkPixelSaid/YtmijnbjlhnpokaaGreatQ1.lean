/- Fractions of little terms compared: contracts by the engine. No condition. -/
import Derived.Test.YtmijnbjlhnpokaaGreatV25
import Derived.Test.YtmijnbjlhnpokaaGreatV8
import Derived.Test.YtmijnbjlhnpokaaGreatEng3
import Derived.Test.YtmijnbjlhnpokaaGreatH1
import Derived.Test.YtmijnbjlhnpokaaGreatV4
set_option linter.unusedVariables false
set_option linter.unusedSimpArgs false
namespace Go.Proofs.YtmijnbjlhnpokaaGreat
open Go Go.RowKit Eng
abbrev x4x:qb7:=we6 false none [tQ,qc8] (λ_=>True) (λx=>.clo 214 (.cons (.imm (.cons (.lit (.int .i64 x.2.1)) .nil) 0) (.cons (.imm (.cons (.dat (.list (.int .i64)) x.1.1) (.cons (.dat (.int .i64) x.1.2) .nil)) 0) .nil)))
theorem w0a:Meets Tryz.prog 159 x4x:=by
 refine q3k (snd (SpecsOk.nil _)) Tryz.func159 rfl rfl (λ_ _=>none) (λ_=>by kernel_rfl) (by decide) ?_
 rintro⟨q,k,⟨⟩⟩ -
 revert q k
 intro(q:List (List Int) × List Int) (k:Int)
 refine @qd1 _ (((k=k/\True)/\(0:Nat)=(0:Nat))/\((q.1=q.1/\q.2=q.2/\True)/\(0:Nat)=(0:Nat))/\True) (by kernel_rfl) ?_
 try simp only[z0,z1,z2,z3,z4,z5,z6,z7,z8,z9,z10,Int.reduceEq,z11,z12,z13,z14,z15,z16,z17,z18,z19,z20,z21,z22,z23,z24,z25,z26,z27,z28,z29,z30,Int.reduceLE,Int.reduceLT,z31,z32,z33,z34,qa1]
 try simp only[qa7,qa8,qb8,z31,z32,z2,z1]
structure xn3 (m:List (List Int)) (y:List Int) (k:Int):Prop where
 pre:wh0 m y k
 len:(q4t m y k).length<=1000000
open Go Go.Proofs Go.RowKit Eng Ls
def textF (m:List (List Int)) (f:Flt):ByteArray:=w6e (qi2 m f)
abbrev nFt (l:List Flt) (k:Nat):Flt:=l.getD k (0,0,0)
def q31 (m:List (List Int)) (L:List Flt):Nat->List (ByteArray × Bool)
 | 0=>[]
 | k+1=>q5o (q31 m L k) (textF m (nFt L k)) true
def x8z (m:List (List Int)) (L:List Flt) (k:Nat):Bool:=(q4g (q31 m L k) (textF m (nFt L k))).getD false
def wq6 (m:List (List Int)) (L:List Flt):Nat->List Flt
 | 0=>[]
 | k+1=>wq6 m L k++if x8z m L k then[] else[nFt L k]
theorem w2i (m:List (List Int)) (L:List Flt):∀k,(wq6 m L k).length<=k
 | 0=>Nat.le_refl _
 | k+1=>by
  have:=w2i m L k
  rw[wq6,List.length_append]
  split <;> simp <;> omega
theorem w2j (m:List (List Int)) (k i:Nat):∀j,(q5h m k i j).length<=j
 | 0=>Nat.le_refl _
 | j+1=>by
  have:=w2j m k i j
  rw[q5h,List.length_append]
  split <;> simp <;> omega
theorem w2k {m:List (List Int)} (h:Mk m) (k:Nat):∀i,(q4d m k i).length<=i*10
 | 0=>Nat.zero_le _
 | i+1=>by
  have h1:=w2k h k i
  have h2:=w2j m k i (nL m 0).length
  have h3:=h.pix10
  rw[q4d,List.length_append]; omega
theorem xn4 {m:List (List Int)} (h:Mk m):(qk9 m 4).length<=240:=by
 have h1:=h.rows6
 have g:=λk=>w2k h k m.length
 have g0:=g 0
 have g1:=g 1
 have g2:=g 2
 have g3:=g 3
 simp only[qk9,List.length_append,List.length_nil]
 omega
theorem w2l {m:List (List Int)} {k i:Nat} {f:Flt}:∀j,f∈q5h m k i j->fvB m f=true
 | 0,h=>by cases h
 | j+1,h=>by
  rw[q5h] at h
  rcases List.mem_append.1 h with h | h
  ·exact w2l j h
  ·split at h
   ·rename_i hv; rw[List.mem_singleton.1 h]; exact hv
   ·cases h
theorem w2m {m:List (List Int)} {k:Nat} {f:Flt}:∀i,f∈q4d m k i->fvB m f=true
 | 0,h=>by cases h
 | i+1,h=>by
  rw[q4d] at h
  rcases List.mem_append.1 h with h | h
  ·exact w2m i h
  ·exact w2l _ h
theorem w2n {m:List (List Int)} {f:Flt}:∀k,f∈qk9 m k->fvB m f=true
 | 0,h=>by cases h
 | k+1,h=>by
  rw[qk9] at h
  rcases List.mem_append.1 h with h | h
  ·exact w2n k h
  ·exact w2m _ h
abbrev sAl:qb7:=qf1 true (some 25) [qg0] [.list qo3] (λx=>qa9 x.1=true) (λx=>(wq6 x.1 (qk9 x.1 4) (qk9 x.1 4).length,()))
def x9a (m:List (List Int)) (k:Nat):List AObj:=[.box 23 (.cons (.dat (.list (.int .i64)) m) .nil),.box 79 (.cons (.own 4) .nil),.mp .bool (q31 m (qk9 m 4) k),.box 189 (.cons (.own 2) .nil),.vec 25 qo3 (wq6 m (qk9 m 4) k)]
def yl4 (m:List (List Int)):Nat->Option Inv
 | 0=>some (Inv.of [] 5 (λ_=>[]) (λc:Nat=>x9a m c) (λc=>c<=(qk9 m 4).length) (λc=>c))
 | _=>none
theorem xn5:Meets Tryz.prog 102 sAl:=by
 refine meets (x7z (SpecsOk.cons w5o (SpecsOk.cons wp9 (SpecsOk.cons wq3 (SpecsOk.nil _)))) (ItsOk.cons xm8 ItsOk.nil)) Tryz.func102 rfl rfl (λx=>yl4 x.1) (λ_=>by kernel_rfl) (by decide) ?_
 rintro⟨m,⟨⟩⟩ h
 revert m
 intro(m:List (List Int)) (h:qa9 m=true)
 refine @qd1 _ (True/\qa9 m=true/\∃(v0:Unit),∃(v1:Nat),Nat.le v1 (qk9 m (4:Nat)).length/\v1=(0:Nat)/\((m=m/\True)/\(True/\True)/\[]=q31 m (qk9 m (4:Nat)) v1/\(True/\True)/\wq6 m (qk9 m (4:Nat)) v1=[]/\True)/\∀(v2:Nat),Nat.le v2 (qk9 m (4:Nat)).length->(∀(v4:(Int × Int × Int) × qa4._f [] PUnit.unit),(List.map fA (qk9 m (4:Nat)))[v2]?=some v4->FltPre m (v4.1.1,v4.1.2.1,v4.1.2.2)/\True/\((!Option.getD (q4g (q31 m (qk9 m (4:Nat)) v2) (w6e (q15 (Ty.int .i64) (qi2 m (v4.1.1,v4.1.2.1,v4.1.2.2)) none))) (Ty.dflt Ty.bool))=true->((0:Nat)<List.length [(v4.1.1,v4.1.2.1,v4.1.2.2)]/\Nat.le ((wq6 m (qk9 m (4:Nat)) v2).length+List.length [(v4.1.1,v4.1.2.1,v4.1.2.2)]) (1000000:Nat))/\∃(v7:Nat),Nat.le v7 (qk9 m (4:Nat)).length/\v7=v2+(1:Nat)/\(m=m/\True)/\(True/\True)/\q5o (q31 m (qk9 m (4:Nat)) v2) (w6e (q15 (Ty.int .i64) (qi2 m (v4.1.1,v4.1.2.1,v4.1.2.2)) none)) true=q31 m (qk9 m (4:Nat)) v7/\(True/\True)/\wq6 m (qk9 m (4:Nat)) v2++[(v4.1.1,v4.1.2.1,v4.1.2.2)]=wq6 m (qk9 m (4:Nat)) v7/\True)/\((!Option.getD (q4g (q31 m (qk9 m (4:Nat)) v2) (w6e (q15 (Ty.int .i64) (qi2 m (v4.1.1,v4.1.2.1,v4.1.2.2)) none))) (Ty.dflt Ty.bool))=false->∃(v7:Nat),Nat.le v7 (qk9 m (4:Nat)).length/\v7=v2+(1:Nat)/\(m=m/\True)/\(True/\True)/\q5o (q31 m (qk9 m (4:Nat)) v2) (w6e (q15 (Ty.int .i64) (qi2 m (v4.1.1,v4.1.2.1,v4.1.2.2)) none)) true=q31 m (qk9 m (4:Nat)) v7/\(True/\True)/\wq6 m (qk9 m (4:Nat)) v2=wq6 m (qk9 m (4:Nat)) v7/\True))/\(v2=(List.map fA (qk9 m (4:Nat))).length->wq6 m (qk9 m (4:Nat)) v2=wq6 m (qk9 m (4:Nat)) (qk9 m (4:Nat)).length)) (by kernel_rfl) ?_
 try simp only[z0,z1,z2,z3,z4,z5,z6,z7,z8,z9,z10,Int.reduceEq,z11,z12,z13,z14,z15,z16,z17,z18,z19,z20,z21,z22,z23,z24,z25,z26,z27,z28,z29,z30,Int.reduceLE,Int.reduceLT,z31,z32,z33,z34,qa1]
 try simp only[qa7,qa8,qb8,z31,z32,z2,z1]
 have hM:=Mk.of h
 have hle:=xn4 hM
 refine⟨h,(),0,Nat.zero_le _,rfl,⟨rfl,rfl⟩,λk hk=>⟨?_,λe=>?_⟩⟩
 ·rintro⟨⟨kd,r,p⟩,⟨⟩⟩ hf
  rw[List.getElem?_map] at hf
  obtain⟨f',h1,h2⟩:=Option.map_eq_some_iff.1 hf
  obtain rfl:f'=(kd,r,p):=congrArg Prod.fst h2
  have hlt:=(List.getElem?_eq_some_iff.1 h1).1
  have hn:nFt (qk9 m 4) k=(kd,r,p):=by unfold nFt; rw[List.getD_eq_getElem?_getD,h1]; rfl
  have hv:fvB m (kd,r,p)=true:=w2n 4 (List.mem_of_getElem? h1)
  have hlen:=w2i m (qk9 m 4) k
  have e1:x8z m (qk9 m 4) k=(q4g (q31 m (qk9 m 4) k) (w6e (qi2 m (kd,r,p)))).getD false:=by unfold x8z textF; rw[hn]
  have e2:q5o (q31 m (qk9 m 4) k) (w6e (qi2 m (kd,r,p))) true=q31 m (qk9 m 4) (k+1):=by rw[q31,textF,hn]
  refine⟨⟨h,hv⟩,λhb=>⟨by omega,k+1,hlt,rfl,e2,?_⟩,λhb=>⟨k+1,hlt,rfl,e2,?_⟩⟩
  ·rw[wq6,if_neg (by rw[e1]; exact ne_true_of_eq_false hb),hn]
  ·rw[wq6,if_pos (e1.trans hb),List.append_nil]
 ·rw[List.length_map] at e; rw[e]
def xt8 (m:List (List Int)):List Flt × Int:=if qa9 m then(wq6 m (qk9 m 4) (qk9 m 4).length,0) else([],1)
abbrev x9c:qb7:=qf1 false none [qg0] [.list qo3,qc8] (λ_=>True) (λx=>((xt8 x.1).1,(xt8 x.1).2,()))
theorem w5u:Meets Tryz.prog 52 x9c:=by
 refine meets (snd (SpecsOk.cons qp4 (SpecsOk.cons xn5 (SpecsOk.nil _)))) Tryz.func52 rfl rfl (λ_ _=>none) (λ_=>by kernel_rfl) (by decide) ?_
 rintro⟨m,⟨⟩⟩ -
 revert m
 intro(m:List (List Int))
 refine @qd1 _ (True/\((!qa9 m)=true->(xt8 m).1=[]/\(1:Int)=(xt8 m).2/\True)/\((!qa9 m)=false->qa9 m=true/\wq6 m (qk9 m (4:Nat)) (qk9 m (4:Nat)).length=(xt8 m).1/\(0:Int)=(xt8 m).2/\True)) (by kernel_rfl) ?_
 try simp only[z0,z1,z2,z3,z4,z5,z6,z7,z8,z9,z10,Int.reduceEq,z11,z12,z13,z14,z15,z16,z17,z18,z19,z20,z21,z22,z23,z24,z25,z26,z27,z28,z29,z30,Int.reduceLE,Int.reduceLT,z31,z32,z33,z34,qa1]
 try simp only[qa7,qa8,qb8,z31,z32,z2,z1]
 exact⟨λh=>by simp[xt8,h],λh=>⟨h,by simp[xt8,h]⟩⟩
open Go Go.RowKit Ls Eng
theorem own_blk {w:World} {B e n:Nat} {A:Option Addr} {c:Nat} {xs:List Value} (h:w.ownsRow B e 1 (.slice A n c) n xs):∀ad,A=some ad->B<=ad.block:=by
 intro ad e1
 rcases h.2 with⟨h,_⟩ | ⟨g,cap,cur,h,hb,_⟩
 ·rw[e1] at h; cases h
 ·rw[e1] at h; cases h; exact hb
abbrev x01:qb7:=qf1 true none [.list (.int .i64)] [.list (.int .i64)] (λx=>x.1.length<=100000) (λx=>(x.1,()))
theorem wq7:Meets Tryz.prog 105 x01:=w15 ⟨_,_,Tryz.func105,rfl,rfl⟩ λw m x vs hm hp hx=>by
 obtain⟨l,⟨⟩⟩:=x
 obtain⟨u,us,rfl,h1,h2⟩:=hx
 obtain rfl:us=[]:=h2
 obtain⟨A,c,rfl,hSI⟩:=xk0 hm (show Rd m (.list (.int .i64)) l [u] from h1)
 refine(clone_any A l.length c l w hSI hp).mono λe w' ⟨A',c',e1,e2,e3⟩=>⟨_,e1,e3,[_],rfl,_,_,rfl,?_,rfl⟩
 exact x0b (w6g e2) (own_blk e2)
set_option maxRecDepth 100000 in
set_option maxHeartbeats 400000 in
theorem clone_nil (w:World):Calls Tryz.prog 105 #[.slice none 0 0] w λe w'=>e=.returned (.slice none 0 0)/\Below w.heap.size w w':=by
 have hq:=λw=>Lib.run_eql_slice_nil (P:=Tryz.prog) w 34 3 none 0 0 0 0 Tryz.underlying34
 go_enter Tryz.func105,Tryz.ntmps105
 go_wp2
 go_ret
 exact⟨rfl,Below.refl _ _⟩
abbrev x02:qb7:=qf1 true none [.nlist (.int .i64)] [.nlist (.int .i64)] (λx=>x.1.length<=100000) (λx=>(x.1,()))
theorem wq8:Meets Tryz.prog 105 x02:=w15 ⟨_,_,Tryz.func105,rfl,rfl⟩ λw m x vs hm hp hx=>by
 obtain⟨l,⟨⟩⟩:=x
 obtain⟨u,us,rfl,h1,h2⟩:=hx
 obtain rfl:us=[]:=h2
 have h1:Rd m (.nlist (.int .i64)) l [u]:=h1
 obtain⟨h3,h4⟩:=h1
 by_cases h0:(l:List Int).length=0
 ·obtain rfl:l=[]:=List.eq_nil_of_length_eq_zero h0
  obtain rfl:u=.slice none 0 0:=(List.cons.inj (h4 rfl)).1
  refine(clone_nil w).mono λe w' ⟨e1,e2⟩=>⟨_,e1,e2,[_],rfl,_,_,rfl,⟨⟨none,0,rfl,Nat.le_refl _,by unfold maxLen; omega,λh=>absurd h (Nat.lt_irrefl _)⟩,λ_=>rfl⟩,rfl⟩
 ·obtain⟨A,c,rfl,hSI⟩:=xk0 hm (show Rd m (.list (.int .i64)) l [u] from h3)
  refine(clone_any A _ c l w hSI hp).mono λe w' ⟨A',c',e1,e2,e3⟩=>⟨_,e1,e3,[_],rfl,_,_,rfl,⟨?_,λh=>absurd h h0⟩,rfl⟩
  exact x0b (w6g e2) (own_blk e2)
theorem x4y {R:Type} (b:Bool) (x y:R):Det (λk:R->Prop=>(b=true->k x)/\(b=false->k y)):=λk H=>by
 cases b with
 | true=>exact⟨x,H.1 rfl,λk' h=>⟨λ_=>h,λe=>by cases e⟩⟩
 | false=>exact⟨y,H.2 rfl,λk' h=>⟨λe=>(by cases e),λ_=>h⟩⟩
abbrev x03:qb7:=
 {fresh:=true,own:=some 3,run:=λargs k=>qg3 [.nlist (.int .i64)] args λx=>need (x.1.length<=100000) λ_=>(x.1.isEmpty=true->k (.lit (.slice none 0 0)))/\(x.1.isEmpty=false->k (.dat (.int .i64) x.1)),
  one:=λargs k h=>(qd7 (qo2 [.nlist (.int .i64)] args) λx=>qg7 (x4y x.1.isEmpty _ _)) k h }
theorem wq9:Meets Tryz.prog 105 x03:=by
 refine⟨⟨_,_,Tryz.func105,rfl,rfl⟩,λw m args vs k hm hargs hrun=>?_⟩
 obtain⟨⟨l,⟨⟩⟩,⟨hp,hk⟩,hx⟩:=qk0 hrun hargs
 have hp:l.length<=100000:=hp
 have hk:(l.isEmpty=true->k (.lit (.slice none 0 0)))/\(l.isEmpty=false->k (.dat (.int .i64) l)):=hk
 obtain⟨u,us,rfl,h1,h2⟩:=hx
 obtain rfl:us=[]:=h2
 have h1:Rd m (.nlist (.int .i64)) l [u]:=h1
 obtain⟨h3,h4⟩:=h1
 by_cases h0:(l:List Int).length=0
 ·obtain rfl:l=[]:=List.eq_nil_of_length_eq_zero h0
  obtain rfl:u=.slice none 0 0:=(List.cons.inj (h4 rfl)).1
  refine(clone_nil w).mono λe w' ⟨e1,e2⟩=>?_
  exact⟨_,λ_=>none,e1,e2,(λb o h=>by cases h),(λb o h=>by cases h),.inr (.inl ⟨hk.1 rfl,rfl⟩)⟩
 ·obtain⟨A,c,rfl,hSI⟩:=xk0 hm (show Rd m (.list (.int .i64)) l [u] from h3)
  refine(clone_any A l.length c l w hSI hp).mono λe w' ⟨A',c',e1,e2,e3⟩=>?_
  have he:l.isEmpty=false:=by cases l with
   | nil=>exact absurd rfl h0
   | cons x l=>rfl
  exact⟨_,λ_=>none,e1,e3,(λb o h=>by cases h),(λb o h=>by cases h),.inl ⟨.int .i64,l,ints l,hk.2 he,e2,rdL_ints _ l,λ_ _=>rfl⟩⟩
abbrev q09:Ty:=.prod .bool (.list (.int .i64))
abbrev Frm:=Bool × List Int
theorem qz7:Meets Tryz.prog 57 we9:=by
 refine meets (snd (SpecsOk.nil _)) Tryz.func57 rfl rfl (λ_ _=>none) (λ_=>by kernel_rfl) (by decide) ?_
 rintro⟨n,lo,hi,⟨⟩⟩ -
 revert n lo hi
 intro(n:Int) (lo:Int) (hi:Int)
 refine @qd1 _ ((decide (lo<=n)=true->decide (n<=hi)=inB n lo hi)/\(decide (lo<=n)=false->false=inB n lo hi)) (by kernel_rfl) ?_
 try simp only[z0,z1,z2,z3,z4,z5,z6,z7,z8,z9,z10,Int.reduceEq,z11,z12,z13,z14,z15,z16,z17,z18,z19,z20,z21,z22,z23,z24,z25,z26,z27,z28,z29,z30,Int.reduceLE,Int.reduceLT,z31,z32,z33,z34,qa1]
 try simp only[qa7,qa8,qb8,z31,z32,z2,z1]
 constructor
 ·intro h1
  simp[inB,h1]
 ·intro h1
  have:¬lo<=n:=by omega
  simp[inB,this]
def x2g (n:Int):Bool:=inB n (0-1000) 1000
abbrev yf9:qb7:=qf1 true none [qc8] [.bool] (λ_=>True) (λx=>(!x2g x.1,()))
theorem w9p:Meets Tryz.prog 171 yf9:=by
 refine meets (snd (SpecsOk.cons qz7 (SpecsOk.nil _))) Tryz.func171 rfl rfl (λ_ _=>none) (λ_=>by kernel_rfl) (by decide) ?_
 rintro⟨n,⟨⟩⟩ -
 revert n
 intro(n:Int)
 refine @qd1 _ (True/\(!inB n (-1000:Int) (1000:Int))=!x2g n) (by kernel_rfl) ?_
 try simp only[z0,z1,z2,z3,z4,z5,z6,z7,z8,z9,z10,Int.reduceEq,z11,z12,z13,z14,z15,z16,z17,z18,z19,z20,z21,z22,z23,z24,z25,z26,z27,z28,z29,z30,Int.reduceLE,Int.reduceLT,z31,z32,z33,z34,qa1]
 try simp only[qa7,qa8,qb8,z31,z32,z2,z1]
 exact(Bool.not_not _).symm
def q2a (m:List (List Int)) (x:List Int):Bool:=decide (x.length=(nL m 0).length) && x.all x2g
abbrev yl5:qb7:=qf1 true none [qg0,qe9] [.bool] (λx=>qa9 x.1=true) (λx=>(q2a x.1 x.2.1,()))
theorem wr0:Meets Tryz.prog 109 yl5:=by
 refine meets (snd (SpecsOk.cons (q3o (fs:=[(171,yf9)]) (SpecsOk.cons w9p (SpecsOk.nil _))) (SpecsOk.nil _))) Tryz.func109 rfl rfl (λ_ _=>none) (λ_=>by kernel_rfl) (by decide) ?_
 rintro⟨m,x,⟨⟩⟩ h
 revert m x
 intro(m:List (List Int)) (x:List Int) (h:qa9 m=true)
 refine @qd1 _ (((0:Int)<=(0:Int)/\(0:Int)<(↑m.length:Int))/\(((↑x.length:Int)==(↑(nL m (0:Nat)).length:Int))=true->∃(v1:qa4 [Ty.int .i64]->Prop),∃(v2:qa4 [Ty.int .i64]->Bool),(∀(v3:Int × qa4._f [] PUnit.unit),v1 v3->True/\(!x2g v3.1)=v2 v3)/\(x.length<=(1000000:Nat)/\∀(v3:Nat),v3<x.length->v1 (nI x v3,()))/\(!List.any x λ(v3:Int)=>v2 (v3,()))=q2a m x)/\(((↑x.length:Int)==(↑(nL m (0:Nat)).length:Int))=false->false=q2a m x)) (by kernel_rfl) ?_
 try simp only[z0,z1,z2,z3,z4,z5,z6,z7,z8,z9,z10,Int.reduceEq,z11,z12,z13,z14,z15,z16,z17,z18,z19,z20,z21,z22,z23,z24,z25,z26,z27,z28,z29,z30,Int.reduceLE,Int.reduceLT,z31,z32,z33,z34,qa1]
 try simp only[qa7,qa8,qb8,z31,z32,z2,z1]
 refine⟨by have:=(Mk.of h).rows1; omega,λhl=>⟨λ_=>True,λx=>!x2g x.1,λ_ _=>(Bool.not_not _).symm,⟨by have:=(Mk.of h).pix10; omega,λ_ _=>trivial⟩,?_⟩,λhl=>?_⟩
 ·unfold q2a; rw[decide_eq_true (show x.length=(nL m 0).length by omega)]; simp[List.not_all_eq_any_not]
 ·unfold q2a; rw[decide_eq_false (show ¬x.length=(nL m 0).length by omega)]; rfl
abbrev yg0:qb7:=hspec [] true none [.d qe9,.cap qg0] [.bool] (λx=>qa9 x.2.1=true) (λx=>(!q2a x.2.1 x.1,()))
theorem w9q:Meets Tryz.prog 108 yg0:=by
 refine qm7 (SpecsOk.nil _) (snd (SpecsOk.cons wr0 (SpecsOk.nil _))) Tryz.func108 rfl rfl (λ_ _=>none) (λ_=>by kernel_rfl) (by decide) ?_
 rintro⟨x,m,⟨⟩⟩ h
 revert x m
 intro(x:List Int) (m:List (List Int)) (h:qa9 m=true)
 refine @qd1 _ (qa9 m=true/\(!q2a m x)=!q2a m x) (by kernel_rfl) ?_
 try simp only[z0,z1,z2,z3,z4,z5,z6,z7,z8,z9,z10,Int.reduceEq,z11,z12,z13,z14,z15,z16,z17,z18,z19,z20,z21,z22,z23,z24,z25,z26,z27,z28,z29,z30,Int.reduceLE,Int.reduceLT,z31,z32,z33,z34,qa1]
 try simp only[qa7,qa8,qb8,z31,z32,z2,z1]
 exact h
def vpB (m p:List (List Int)):Bool:=qa9 m && inB p.length 1 60 && p.all (q2a m)
abbrev sVP:qb7:=qf1 true none [qg0,qg0] [.bool] (λ_=>True) (λx=>(vpB x.1 x.2.1,()))
theorem xn6:Meets Tryz.prog 56 sVP:=by
 refine meets (snd (SpecsOk.cons qp4 (SpecsOk.cons qz7 (SpecsOk.cons (wo5 (fs:=[(108,yg0)]) (SpecsOk.cons w9q (SpecsOk.nil _))) (SpecsOk.nil _))))) Tryz.func56 rfl rfl (λ_ _=>none) (λ_=>by kernel_rfl) (by decide) ?_
 rintro⟨m,p,⟨⟩⟩ -
 revert m p
 intro(m:List (List Int)) (p:List (List Int))
 refine @qd1 _ (True/\(qa9 m=true->True/\(inB (↑p.length:Int) (1:Int) (60:Int)=true->∃(v2:qa4 [Ty.list (Ty.int .i64)]->Prop),∃(v3:qa4 [Ty.list (Ty.int .i64)]->Bool),(∀(v4:List Int × qa4._f [] PUnit.unit),v2 v4->qa9 m=true/\(!q2a m v4.1)=v3 v4)/\(p.length<=(1000000:Nat)/\∀(v4:Nat),v4<p.length->v2 (nL p v4,()))/\(!List.any p λ(v4:List Int)=>v3 (v4,()))=vpB m p)/\(inB (↑p.length:Int) (1:Int) (60:Int)=false->false=vpB m p))/\(qa9 m=false->false=vpB m p)) (by kernel_rfl) ?_
 try simp only[z0,z1,z2,z3,z4,z5,z6,z7,z8,z9,z10,Int.reduceEq,z11,z12,z13,z14,z15,z16,z17,z18,z19,z20,z21,z22,z23,z24,z25,z26,z27,z28,z29,z30,Int.reduceLE,Int.reduceLT,z31,z32,z33,z34,qa1]
 try simp only[qa7,qa8,qb8,z31,z32,z2,z1]
 refine⟨λhv=>⟨λhl=>⟨λ_=>True,λx=>!q2a m x.1,λ_ _=>⟨hv,(Bool.not_not _).symm⟩,⟨by have:=qh5.1 hl; omega,λ_ _=>trivial⟩,?_⟩,λhl=>?_⟩,λhv=>?_⟩
 ·unfold vpB; rw[hv,hl]; simp[List.not_all_eq_any_not]
 ·unfold vpB; rw[hl,hv]; rfl
 ·unfold vpB; rw[hv]; rfl
def q7u (a b:List Int) (k:Nat):List Int:=(List.range k).map λi=>nI b i-nI a i
def q4u (a b:List Int):List Int:=q7u a b b.length
structure w2o (a b:List Int):Prop where
 le:b.length<=a.length
 len:b.length<=1000
 ba:∀i,i<b.length->qf8 100000 (nI a i)
 bb:∀i,i<b.length->qf8 100000 (nI b i)
theorem q33 (a b:List Int) (k:Nat):(q7u a b k).length=k:=by simp[q7u]
abbrev yl6:qb7:=qf1 true (some 3) [qe9,qe9] [qe9] (λx=>w2o x.1 x.2.1) (λx=>(q4u x.1 x.2.1,()))
def x9d (a b:List Int):Nat->Option Inv
 | 0=>some (Inv.of [5,10] 1 (λk:Nat=>[(5,.own 0),(10,.lit (.int .i64 k))]) (λk=>[.vec 3 (.int .i64) (q7u a b k)]) (λk=>k<=b.length) (λk=>b.length-k))
 | _=>none
theorem w9r:Meets Tryz.prog 59 yl6:=by
 refine meets (snd (SpecsOk.nil _)) Tryz.func59 rfl rfl (λx=>x9d x.1 x.2.1) (λ_=>by kernel_rfl) (by decide) ?_
 rintro⟨a,b,⟨⟩⟩ h
 revert a b
 intro(a:List Int) (b:List Int) (h:w2o a b)
 refine @qd1 _ (∃(v0:Unit),∃(v1:Nat),Nat.le v1 b.length/\((True/\(0:Int)=(↑v1:Int)/\True)/\q7u a b v1=[]/\True)/\∀(v2:Nat),Nat.le v2 b.length->(decide ((↑v2:Int)<(↑b.length:Int))=true->((0:Int)<=(↑v2:Int)/\(↑v2:Int)<(↑b.length:Int))/\((0:Int)<=(↑v2:Int)/\(↑v2:Int)<(↑a.length:Int))/\fits .i64 (nI b v2-nI a v2)/\((0:Nat)<List.length [nI b v2-nI a v2]/\Nat.le ((q7u a b v2).length+List.length [nI b v2-nI a v2]) (1000000:Nat))/\fits .i64 ((↑v2:Int)+(1:Int))/\∃(v5:Nat),Nat.le v5 b.length/\b.length-v5<b.length-v2/\(True/\(↑v2:Int)+(1:Int)=(↑v5:Int)/\True)/\q7u a b v2++[nI b v2-nI a v2]=q7u a b v5/\True)/\(decide ((↑v2:Int)<(↑b.length:Int))=false->q7u a b v2=q4u a b)) (by kernel_rfl) ?_
 try simp only[z0,z1,z2,z3,z4,z5,z6,z7,z8,z9,z10,Int.reduceEq,z11,z12,z13,z14,z15,z16,z17,z18,z19,z20,z21,z22,z23,z24,z25,z26,z27,z28,z29,z30,Int.reduceLE,Int.reduceLT,z31,z32,z33,z34,qa1]
 try simp only[qa7,qa8,qb8,z31,z32,z2,z1]
 have hl:=h.len
 refine⟨(),0,Nat.zero_le _,⟨rfl,rfl⟩,λk hk=>⟨λhlt=>?_,λhge=>?_⟩⟩
 ·have h1:=h.ba k hlt
  have h2:=h.bb k hlt
  have h3:=h.le
  unfold qf8 at h1 h2
  exact⟨hlt,by omega,qb5 (by omega) (by omega),by rw[q33]; omega,qb5 (by omega) (by omega),k+1,hlt,by omega,by omega,by simp[q7u,List.range_succ]⟩
 ·obtain rfl:k=b.length:=by omega
  rfl
structure Vp (m p:List (List Int)):Prop where
 msk:Mk m
 val:qa9 m=true
 lo:1<=p.length
 hi:p.length<=60
 len:∀i,i<p.length->(nL p i).length=(nL m 0).length
 bd:∀i,i<p.length->∀j,j<(nL m 0).length->qf8 1000 (nI (nL p i) j)
theorem Vp.of {m p:List (List Int)} (h:vpB m p=true):Vp m p:=by
 unfold vpB at h
 rw[Bool.and_eq_true,Bool.and_eq_true,qh5,List.all_eq_true] at h
 obtain⟨⟨h1,h2⟩,h3⟩:=h
 have h4:∀i,i<p.length->(nL p i).length=(nL m 0).length/\∀n∈nL p i,x2g n=true:=λi hi=>by
  have:=h3 (nL p i) (by rw[qj8 p i hi]; exact List.getElem_mem hi)
  unfold q2a at this
  rw[Bool.and_eq_true,decide_eq_true_eq,List.all_eq_true] at this
  exact this
 refine⟨Mk.of h1,h1,by omega,by omega,λi hi=>(h4 i hi).1,λi hi j hj=>?_⟩
 have h5:=(h4 i hi).2 (nI (nL p i) j) (by rw[qg5 _ j (by rw[(h4 i hi).1]; exact hj)]; exact List.getElem_mem _)
 have h6:=qh5.1 h5
 unfold qf8; omega
theorem Vp.chg {m p:List (List Int)} (h:Vp m p) {i j:Nat} (hi:i<p.length) (hj:j<p.length):w2o (nL p i) (nL p j):=by
 have h1:=h.len i hi
 have h2:=h.len j hj
 have h3:=h.msk.pix10
 refine⟨by omega,by omega,λk hk=>?_,λk hk=>?_⟩
 ·have:=h.bd i hi k (by omega); unfold qf8 at this ⊢; omega
 ·have:=h.bd j hj k (by omega); unfold qf8 at this ⊢; omega
def yg1 (m:List (List Int)) (a b:List Int):List Int × Int:=if vpB m [a,b] then(q4u a b,0) else([],1)
def xn7 (m p:List (List Int)) (e:Nat) (i:Nat):Frm:=if i % e=0 then(true,nL p i) else(false,(qv8 m (q4u (nL p (i-1)) (nL p i))).1)
def qq3 (m p:List (List Int)) (e:Nat) (k:Nat):List Frm:=(List.range k).map (xn7 m p e)
structure w2p (m p:List (List Int)) (e:Int):Prop where
 ok:vpB m p=true
 lo:1<=e
 hi:e<=60
theorem q7v (m p:List (List Int)) (e k:Nat):(qq3 m p e k).length=k:=by simp[qq3]
abbrev yl7:qb7:=qf1 false none [qg0,qg0,qc8] [.list q09] (λx=>w2p x.1 x.2.1 x.2.2.1) (λx=>(qq3 x.1 x.2.1 x.2.2.1.toNat x.2.1.length,()))
def x9e (m p:List (List Int)) (e:Nat):Nat->Option Inv
 | 0=>some (Inv.of [7,13] 1 (λk:Nat=>[(7,.own 0),(13,.lit (.int .i64 k))]) (λk=>[.vec 39 q09 (qq3 m p e k)]) (λk=>k<=p.length) (λk=>p.length-k))
 | _=>none
theorem w9s:Meets Tryz.prog 58 yl7:=by
 refine meets (snd (SpecsOk.cons wq7 (SpecsOk.cons w9r (SpecsOk.cons w5n (SpecsOk.nil _))))) Tryz.func58 rfl rfl (λx=>x9e x.1 x.2.1 x.2.2.1.toNat) (λ_=>by kernel_rfl) (by decide) ?_
 rintro⟨m,p,e,⟨⟩⟩ h
 revert m p e
 intro(m:List (List Int)) (p:List (List Int)) (e:Int) (h:w2p m p e)
 refine @qd1 _ (∃(v0:Unit),∃(v1:Nat),Nat.le v1 p.length/\((True/\(0:Int)=(↑v1:Int)/\True)/\qq3 m p e.toNat v1=[]/\True)/\∀(v2:Nat),Nat.le v2 p.length->(decide ((↑v2:Int)<(↑p.length:Int))=true->((0:Int)<=(↑v2:Int)/\(↑v2:Int)<(↑p.length:Int))/\e≠(0:Int)/\(nL p v2).length<=(100000:Nat)/\((!Int.tmod (↑v2:Int) e==(0:Int))=true->fits .i64 ((↑v2:Int)-(1:Int))/\((0:Int)<=(↑v2:Int)-(1:Int)/\(↑v2:Int)-(1:Int)<(↑p.length:Int))/\w2o (nL p ((↑v2:Int)-(1:Int)).toNat) (nL p v2)/\(q4u (nL p ((↑v2:Int)-(1:Int)).toNat) (nL p v2)).length<=(1000000:Nat)/\((0:Nat)<List.length [(Int.tmod (↑v2:Int) e==(0:Int),(qv8 m (q4u (nL p ((↑v2:Int)-(1:Int)).toNat) (nL p v2))).1)]/\Nat.le ((qq3 m p e.toNat v2).length+List.length [(Int.tmod (↑v2:Int) e==(0:Int),(qv8 m (q4u (nL p ((↑v2:Int)-(1:Int)).toNat) (nL p v2))).1)]) (1000000:Nat))/\fits .i64 ((↑v2:Int)+(1:Int))/\∃(v6:Nat),Nat.le v6 p.length/\p.length-v6<p.length-v2/\(True/\(↑v2:Int)+(1:Int)=(↑v6:Int)/\True)/\qq3 m p e.toNat v2++[(Int.tmod (↑v2:Int) e==(0:Int),(qv8 m (q4u (nL p ((↑v2:Int)-(1:Int)).toNat) (nL p v2))).1)]=qq3 m p e.toNat v6/\True)/\((!Int.tmod (↑v2:Int) e==(0:Int))=false->((0:Nat)<List.length [(Int.tmod (↑v2:Int) e==(0:Int),nL p v2)]/\Nat.le ((qq3 m p e.toNat v2).length+List.length [(Int.tmod (↑v2:Int) e==(0:Int),nL p v2)]) (1000000:Nat))/\fits .i64 ((↑v2:Int)+(1:Int))/\∃(v6:Nat),Nat.le v6 p.length/\p.length-v6<p.length-v2/\(True/\(↑v2:Int)+(1:Int)=(↑v6:Int)/\True)/\qq3 m p e.toNat v2++[(Int.tmod (↑v2:Int) e==(0:Int),nL p v2)]=qq3 m p e.toNat v6/\True))/\(decide ((↑v2:Int)<(↑p.length:Int))=false->qq3 m p e.toNat v2=qq3 m p e.toNat p.length)) (by kernel_rfl) ?_
 try simp only[z0,z1,z2,z3,z4,z5,z6,z7,z8,z9,z10,Int.reduceEq,z11,z12,z13,z14,z15,z16,z17,z18,z19,z20,z21,z22,z23,z24,z25,z26,z27,z28,z29,z30,Int.reduceLE,Int.reduceLT,z31,z32,z33,z34,qa1]
 try simp only[qa7,qa8,qb8,z31,z32,z2,z1]
 have hv:=Vp.of h.ok
 have p60:=hv.hi
 have lo:=h.lo
 have hi:=h.hi
 refine⟨(),0,Nat.zero_le _,⟨rfl,rfl⟩,λk hk=>⟨λhlt=>?_,λhge=>?_⟩⟩
 ·have hl:=hv.len k hlt
  have p10:=hv.msk.pix10
  have el:=q7v m p e.toNat k
  have hsn:qq3 m p e.toNat (k+1)=qq3 m p e.toNat k++[xn7 m p e.toNat k]:=by simp[qq3,List.range_succ]
  have htm:(k:Int).tmod e=((k % e.toNat:Nat):Int):=by
   rw[Int.tmod_eq_emod_of_nonneg (by omega)]
   have:(e.toNat:Int)=e:=Int.toNat_of_nonneg (by omega)
   rw[Int.natCast_emod,this]
  rw[htm]
  refine⟨hlt,by omega,by omega,λh0=>?_,λh0=>?_⟩
  ·have hk0:k≠0:=λe0=>h0 (by subst e0; simp)
   have e1:((k:Int)-1).toNat=k-1:=by omega
   have hc:=hv.chg (i:=k-1) (j:=k) (by omega) hlt
   have hcl:(q4u (nL p (k-1)) (nL p k)).length=(nL p k).length:=q33 _ _ _
   rw[e1]
   refine⟨qb5 (by omega) (by omega),⟨by omega,by omega⟩,hc,by omega,by omega,qb5 (by omega) (by omega),k+1,hlt,by omega,by omega,?_⟩
   rw[hsn,xn7,if_neg (λq=>h0 (by rw[q]; rfl))]
   have:(((k % e.toNat:Nat):Int)==0)=false:=by simpa using h0
   rw[this]
  ·refine⟨by omega,qb5 (by omega) (by omega),k+1,hlt,by omega,by omega,?_⟩
   have h1:k % e.toNat=0:=by omega
   rw[hsn,xn7,if_pos h1,h1]
   rfl
 ·obtain rfl:k=p.length:=by omega
  rfl
def shB (r:Int × Int):Bool:=r.2==1 && inB r.1 (0-1000000) 1000000
abbrev yl8:qb7:=qf1 true none [q0e] [.bool] (λ_=>True) (λx=>(shB x.1,()))
theorem w9t:Meets Tryz.prog 255 yl8:=by
 refine meets (snd (SpecsOk.cons qt2 (SpecsOk.nil _))) Tryz.func255 rfl rfl (λ_ _=>none) (λ_=>by kernel_rfl) (by decide) ?_
 rintro⟨r,⟨⟩⟩ -
 revert r
 intro(r:Int × Int)
 refine @qd1 _ (((r.2==(1:Int))=true->True/\inB r.1 (-1000000:Int) (1000000:Int)=shB r)/\((r.2==(1:Int))=false->false=shB r)) (by kernel_rfl) ?_
 try simp only[z0,z1,z2,z3,z4,z5,z6,z7,z8,z9,z10,Int.reduceEq,z11,z12,z13,z14,z15,z16,z17,z18,z19,z20,z21,z22,z23,z24,z25,z26,z27,z28,z29,z30,Int.reduceLE,Int.reduceLT,z31,z32,z33,z34,qa1]
 try simp only[qa7,qa8,qb8,z31,z32,z2,z1]
 first
  | done
  | (refine⟨λh=>?_,λh=>?_⟩ <;> simp[shB,h])
def nQ (l:List (Int × Int)) (i:Nat):Int × Int:=qf2 q0e l i
def whX (n:Nat) (f:Fit):Nat->List Int
 | 0=>List.replicate n 0
 | i+1=>(whX n f i).set (nI f.1 i).toNat (nQ f.2 i).1
def whB (f:Fit):Nat->Bool
 | 0=>true
 | i+1=>whB f i && shB (nQ f.2 i)
theorem q4v (n:Nat) (f:Fit):∀i,(whX n f i).length=n
 | 0=>by simp[whX]
 | i+1=>by rw[whX,List.length_set,q4v n f i]
def whL (n:Nat) (L:List Fit):List (List Int):=L.filterMap λf=>if whB f f.1.length=true then some (whX n f f.1.length) else none
def ql5 (m:List (List Int)) (y:List Int) (k:Int):List (List Int) × Int:=if wj6 m y k=0 then(whL (nL m 0).length (q4t m y k),0) else([],wj6 m y k)
structure x9g (n:Nat) (f:Fit):Prop where
 len:f.2.length=f.1.length
 lenB:f.1.length<=1000
 at_:∀j,j<f.1.length->0<=nI f.1 j/\nI f.1 j<n
structure w0b (m:List (List Int)) (y:List Int) (k:Int):Prop where
 pre:xn3 m y k
 each:∀f∈q4t m y k,x9g (nL m 0).length f
theorem xn8 (n:Nat) {L:List Fit} {c:Nat} {f:Fit} (h:L[c]? = some f):whL n (L.take (c+1))=whL n (L.take c)++if whB f f.1.length=true then[whX n f f.1.length] else[]:=by
 rw[List.take_add_one,h]
 unfold whL
 rw[List.filterMap_append]
 congr 1
 simp only[Option.toList_some,List.filterMap_cons,List.filterMap_nil]
 by_cases hf:whB f f.1.length=true
 ·rw[if_pos hf,if_pos hf]
 ·rw[if_neg hf,if_neg hf]
open Go Go.Proofs Go.RowKit Eng Ls
abbrev yl9:qb7:=q8r (q02 [qg0,qe9,qc8]) true (some 34) (some 3) (λx=>wj6 x.1 x.2.1 x.2.2.1=0->w0b x.1 x.2.1 x.2.2.1) (λx=>.tup (.cons (.dat (.list (.int .i64)) (ql5 x.1 x.2.1 x.2.2.1).1) (.cons (.lit (.int .i64 (ql5 x.1 x.2.1 x.2.2.1).2)) .nil)))
def xt9 (m:List (List Int)) (out:List (List Int)):List AObj:=[.box 23 (.cons (.dat (.list (.int .i64)) m) .nil),.box 95 (.cons (.clo 255 .nil) .nil),.box 22 (.cons (.msl 3 .none) .nil),.mat 34 3 (.int .i64) out .none .none]
def x9h (m:List (List Int)) (L:List Fit):Nat->Option Inv
 | 0=>some (Inv.of [] 4 (λ_=>[]) (λc:Nat=>xt9 m (whL (nL m 0).length (L.take c))) (λc=>c<=L.length) (λc=>c))
 | 1=>some (Eng.Inv.mk (Nat × Fit) Nat [12,13,37] 6 (λq i=>[(12,.own 5),(13,.lit (.bool (whB q.2 i))),(37,.lit (.int .i64 i))]) (λq i=>xt9 m (whL (nL m 0).length (L.take q.1))++[.box 72 (.cons (.dat (.int .i64) q.2.1) (.cons (.dat q0e q.2.2) .nil)),.vec 3 (.int .i64) (whX (nL m 0).length q.2 i)]) (λq i=>i<=q.2.1.length) (λq i=>q.2.1.length-i))
 | _=>none
theorem w9u:Meets Tryz.prog 245 yl9:=by
 refine q9k (x0r [65] [] (SpecsOk.cons w9g (SpecsOk.cons w0a (SpecsOk.cons w9t (SpecsOk.nil _)))) MutsOk.nil (ItsOk.cons w5t ItsOk.nil)) Tryz.func245 rfl rfl (qm4 _) (λx=>x9h x.1 (q4t x.1 x.2.1 x.2.2.1)) (λ_=>by kernel_rfl) (by decide) ?_
 rintro⟨m,y,k,⟨⟩⟩ h
 revert m y k
 intro(m:List (List Int)) (y:List Int) (k:Int) (h:wj6 m y k=0->w0b m y k)
 refine @qd1 _ (let Q0:=q4t m y k; let Q1:=ql5 m y k; True/\((wj6 m y k != (0:Int))=true->Q1.1=[]/\wj6 m y k=Q1.2/\True)/\((wj6 m y k != (0:Int))=false->True/\wh0 m y k/\∃(v1:Unit),∃(v2:Nat),Nat.le v2 Q0.length/\v2=(0:Nat)/\((m=m/\True)/\(True/\True)/\(True/\True)/\whL (nL m (0:Nat)).length (List.take v2 Q0)=[]/\True)/\∀(v3:Nat),Nat.le v3 Q0.length->(∀(v5:(List Int × List (Int × Int)) × qa4._f [] PUnit.unit),(List.map (λ(v7:List Int × List (Int × Int))=>(v7,())) Q0)[v3]?=some v5->((0:Int)<=(0:Int)/\(0:Int)<(↑m.length:Int))/\((↑(nL m (0:Nat)).length:Int)=(↑(nL m (0:Nat)).length:Int)/\(0:Int)<=(↑(nL m (0:Nat)).length:Int)/\(↑(nL m (0:Nat)).length:Int)<=(1000000:Int))/\∃(v7:Nat × Fit),∃(v8:Nat),Nat.le v8 v7.2.1.length/\((True/\true=whB v7.2 v8/\(0:Int)=(↑v8:Int)/\True)/\(m=m/\True)/\(True/\True)/\(True/\True)/\(whL (nL m (0:Nat)).length (List.take v3 Q0)=whL (nL m (0:Nat)).length (List.take v7.1 Q0)/\True/\True)/\(v5.1.1=v7.2.1/\v5.1.2=v7.2.2/\True)/\List.replicate (↑(nL m (0:Nat)).length:Int).toNat (Ty.dflt (TI.ty T3))=whX (nL m (0:Nat)).length v7.2 v8/\True)/\∀(v9:Nat),Nat.le v9 v7.2.1.length->(decide ((↑v9:Int)<(↑v5.1.1.length:Int))=true->((0:Int)<=(↑v9:Int)/\(↑v9:Int)<(↑v5.1.1.length:Int))/\((0:Int)<=(↑v9:Int)/\(↑v9:Int)<(↑v7.2.2.length:Int))/\(whB v7.2 v9=true->((0:Int)<=(↑v9:Int)/\(↑v9:Int)<(↑v7.2.2.length:Int))/\True/\((0:Int)<=nI v5.1.1 v9/\nI v5.1.1 v9<(↑(whX (nL m (0:Nat)).length v7.2 v9).length:Int))/\(nI v5.1.1 v9).toNat<(whX (nL m (0:Nat)).length v7.2 v9).length/\fits .i64 ((↑v9:Int)+(1:Int))/\∃(v13:Nat),Nat.le v13 v7.2.1.length/\v7.2.1.length-v13<v7.2.1.length-v9/\(True/\shB ((qf2 q0e v7.2.2 v9).1,(qf2 q0e v7.2.2 v9).2)=whB v7.2 v13/\(↑v9:Int)+(1:Int)=(↑v13:Int)/\True)/\(m=m/\True)/\(True/\True)/\(True/\True)/\(whL (nL m (0:Nat)).length (List.take v7.1 Q0)=whL (nL m (0:Nat)).length (List.take v7.1 Q0)/\True/\True)/\(v7.2.1=v7.2.1/\v7.2.2=v7.2.2/\True)/\List.set (whX (nL m (0:Nat)).length v7.2 v9) (nI v5.1.1 v9).toNat (qf2 q0e v7.2.2 v9).1=whX (nL m (0:Nat)).length v7.2 v13/\True)/\(whB v7.2 v9=false->((0:Int)<=nI v5.1.1 v9/\nI v5.1.1 v9<(↑(whX (nL m (0:Nat)).length v7.2 v9).length:Int))/\(nI v5.1.1 v9).toNat<(whX (nL m (0:Nat)).length v7.2 v9).length/\fits .i64 ((↑v9:Int)+(1:Int))/\∃(v13:Nat),Nat.le v13 v7.2.1.length/\v7.2.1.length-v13<v7.2.1.length-v9/\(True/\false=whB v7.2 v13/\(↑v9:Int)+(1:Int)=(↑v13:Int)/\True)/\(m=m/\True)/\(True/\True)/\(True/\True)/\(whL (nL m (0:Nat)).length (List.take v7.1 Q0)=whL (nL m (0:Nat)).length (List.take v7.1 Q0)/\True/\True)/\(v7.2.1=v7.2.1/\v7.2.2=v7.2.2/\True)/\List.set (whX (nL m (0:Nat)).length v7.2 v9) (nI v5.1.1 v9).toNat (qf2 q0e v7.2.2 v9).1=whX (nL m (0:Nat)).length v7.2 v13/\True))/\(decide ((↑v9:Int)<(↑v5.1.1.length:Int))=false->(whB v7.2 v9=true->((0:Nat)<(0:Nat)+(1:Nat)/\(whL (nL m (0:Nat)).length (List.take v7.1 Q0)).length+((0:Nat)+(1:Nat))<=(1000000:Nat))/\∃(v13:Nat),Nat.le v13 Q0.length/\v13=v3+(1:Nat)/\(m=m/\True)/\(True/\True)/\(True/\True)/\(whL (nL m (0:Nat)).length (List.take v7.1 Q0)++[whX (nL m (0:Nat)).length v7.2 v9]=whL (nL m (0:Nat)).length (List.take v13 Q0)/\True/\True)/\True)/\(whB v7.2 v9=false->∃(v13:Nat),Nat.le v13 Q0.length/\v13=v3+(1:Nat)/\(m=m/\True)/\(True/\True)/\(True/\True)/\(whL (nL m (0:Nat)).length (List.take v7.1 Q0)=whL (nL m (0:Nat)).length (List.take v13 Q0)/\True/\True)/\True)))/\(v3=(List.map (λ(v6:List Int × List (Int × Int))=>(v6,())) Q0).length->whL (nL m (0:Nat)).length (List.take v3 Q0)=Q1.1/\(0:Int)=Q1.2/\True))) (by kernel_rfl) ?_
 try simp only[z0,z1,z2,z3,z4,z5,z6,z7,z8,z9,z10,Int.reduceEq,z11,z12,z13,z14,z15,z16,z17,z18,z19,z20,z21,z22,z23,z24,z25,z26,z27,z28,z29,z30,Int.reduceLE,Int.reduceLT,z31,z32,z33,z34,qa1]
 try simp only[qa7,qa8,qb8,z31,z32,z2,z1]
 refine⟨λhe=>by simp[ql5,he],λhe=>?_⟩
 have hw:=h he
 have hlen:=hw.pre.len
 have hea:=hw.each
 have hone:=hw.pre.pre.one
 have hpx:=hw.pre.pre.pix
 have hR:ql5 m y k=(whL (nL m 0).length (q4t m y k),0):=by rw[ql5,if_pos he]
 refine⟨hw.pre.pre,(),0,Nat.zero_le _,rfl,rfl,?_⟩
 rw[hR]
 generalize q4t m y k=L at hlen hea ⊢
 rintro c hc
 refine⟨?_,λhfin=>?_⟩
 ·rintro⟨f,⟨⟩⟩ hf
  rw[List.getElem?_map] at hf
  obtain⟨f',h1,h2⟩:=Option.map_eq_some_iff.1 hf
  obtain rfl:f'=f:=congrArg Prod.fst h2
  have hlt:=(List.getElem?_eq_some_iff.1 h1).1
  have hfi:=hea f' (List.mem_of_getElem? h1)
  have hf1:=hfi.len
  have hf2:=hfi.lenB
  have hsn:=xn8 (nL m 0).length h1
  have hwl:(whL (nL m 0).length (L.take c)).length<=c:=by
   have h3:=List.length_filterMap_le (λf:Fit=>if whB f f.1.length=true then some (whX (nL m 0).length f f.1.length) else none) (L.take c)
   have h4:(whL (nL m 0).length (L.take c)).length<=(L.take c).length:=h3
   rw[List.length_take] at h4
   omega
  dsimp only
  refine⟨by omega,by omega,(c,f'),0,Nat.zero_le _,⟨⟨rfl,rfl⟩,rfl,⟨rfl,rfl⟩,rfl⟩,λi hi=>⟨λhlt2=>?_,λhge=>?_⟩⟩
  ·have hat:=hfi.at_ i hlt2
   have hxl:=q4v (nL m 0).length f' i
   dsimp only at hi ⊢
   rw[hxl]
   refine⟨hlt2,by omega,λhb=>⟨by omega,hat,by omega,qb5 (by omega) (by omega),i+1,hlt2,by omega,⟨?_,by omega⟩,rfl⟩,λhb=>⟨hat,by omega,qb5 (by omega) (by omega),i+1,hlt2,by omega,⟨?_,by omega⟩,rfl⟩⟩
   ·rw[whB,hb,Bool.true_and]; rfl
   ·rw[whB,hb,Bool.false_and]
  ·dsimp only at hi hge ⊢
   obtain rfl:i=f'.1.length:=by omega
   refine⟨λhb=>⟨by omega,c+1,hlt,rfl,?_⟩,λhb=>⟨c+1,hlt,rfl,?_⟩⟩
   ·rw[hsn,if_pos hb]
   ·rw[hsn,if_neg (by rw[hb]; decide),List.append_nil]
 ·rw[List.length_map] at hfin
  rw[hfin,List.take_length]
  exact⟨rfl,rfl⟩
abbrev x9i:qb7:=qf1 true none [q09] [.bool] (λ_=>True) (λx=>(decide (x.1.2.length=0),()))
theorem w5v:Meets Tryz.prog 244 x9i:=by
 refine meets (snd (SpecsOk.nil _)) Tryz.func244 rfl rfl (λ_ _=>none) (λ_=>by kernel_rfl) (by decide) ?_
 rintro⟨⟨b,l⟩,⟨⟩⟩ -
 revert b l
 intro(b:Bool) (l:List Int)
 refine @qd1 _ (((↑l.length:Int)==(0:Int))=decide (l.length=(0:Nat))) (by kernel_rfl) ?_
 try simp only[z0,z1,z2,z3,z4,z5,z6,z7,z8,z9,z10,Int.reduceEq,z11,z12,z13,z14,z15,z16,z17,z18,z19,z20,z21,z22,z23,z24,z25,z26,z27,z28,z29,z30,Int.reduceLE,Int.reduceLT,z31,z32,z33,z34,qa1]
 try simp only[qa7,qa8,qb8,z31,z32,z2,z1]
 exact decide_eq_decide.2 (show(l.length:Int)=0↔l.length=0 by omega)
def qr7 (a b:List Int):Nat->List Int
 | 0=>a
 | k+1=>(qr7 a b k).set k (nI (qr7 a b k) k+nI b k)
def nextL (m:List (List Int)) (b:List Int) (f:Frm) (t:Int):List Int:=
 if f.2.length=0 then[] else if f.1=true then f.2 else if b=[] then[]
 else if(ql5 m f.2 t).2=0/\(ql5 m f.2 t).1.length=1 then(if q2a m (qr7 (nL (ql5 m f.2 t).1 0) b b.length) then qr7 (nL (ql5 m f.2 t).1 0) b b.length else[])
 else[]
structure w0c (m:List (List Int)) (b:List Int) (f:Frm) (t:Int):Prop where
 val:qa9 m=true
 before:b=[]\/q2a m b=true
 len:f.2.length<=100000
 wh:f.1=false->wj6 m f.2 t=0->w0b m f.2 t
theorem q7w (l:List Int) {p q:Nat} (h:q≠p) (x:Int):nI (l.set p x) q=nI l q:=by
 unfold nI qf2
 rw[List.getD_eq_getElem?_getD,List.getD_eq_getElem?_getD,List.getElem?_set_ne (Ne.symm h)]
theorem wr1 (a b:List Int):∀k,(qr7 a b k).length=a.length
 | 0=>rfl
 | k+1=>by rw[qr7,List.length_set,wr1 a b k]
theorem wh1 (a b:List Int):∀(k c:Nat),k<=c->nI (qr7 a b k) c=nI a c
 | 0,c,_=>rfl
 | k+1,c,h=>by rw[qr7,q7w _ (by omega),wh1 a b k c (by omega)]
theorem xn9 {m:List (List Int)} {x:List Int} (h:q2a m x=true):x.length=(nL m 0).length/\∀j,j<x.length->qf8 1000 (nI x j):=by
 unfold q2a at h
 rw[Bool.and_eq_true,decide_eq_true_eq,List.all_eq_true] at h
 refine⟨h.1,λj hj=>?_⟩
 have:=qh5.1 (h.2 (nI x j) (by rw[qg5 x j hj]; exact List.getElem_mem hj))
 unfold qf8; omega
theorem xu0 (n:Nat) (f:Fit):∀i,whB f i=true->∀c,c<n->qf8 1000000 (nI (whX n f i) c)
 | 0,_,c,hc=>by
  rw[qg5 _ c (by rw[q4v]; exact hc)]
  simp only[whX,List.getElem_replicate]
  unfold qf8; omega
 | i+1,h,c,hc=>by
  rw[whB,Bool.and_eq_true] at h
  by_cases e:c=(nI f.1 i).toNat
  ·have h2:=h.2
   unfold shB at h2
   rw[Bool.and_eq_true] at h2
   have h3:=qh5.1 h2.2
   rw[whX,qg5 _ c (by rw[List.length_set,q4v]; exact hc)]
   subst e
   rw[List.getElem_set_self]
   unfold qf8; omega
  ·rw[whX,q7w _ e]
   exact xu0 n f i h.1 c hc
theorem w9v {m:List (List Int)} {y:List Int} {k:Int} {r:List Int} (h:r∈(ql5 m y k).1):r.length=(nL m 0).length/\∀c,c<r.length->qf8 1000000 (nI r c):=by
 unfold ql5 at h
 split at h
 ·unfold whL at h
  obtain⟨f,_,h2⟩:=List.mem_filterMap.1 h
  split at h2
  ·rename_i hb
   obtain rfl:=Option.some.inj h2
   exact⟨q4v _ _ _,λc hc=>xu0 _ f _ hb c (by rw[q4v] at hc; exact hc)⟩
  ·cases h2
 ·cases h
theorem xo0 {m:List (List Int)} {b:List Int} {l:List Int} {t:Int} (h0:¬l.length=0) (hb:b.isEmpty=false) (hw:(ql5 m l t).2=0/\(ql5 m l t).1.length=1) :
  nextL m b (false,l) t=if q2a m (qr7 (nL (ql5 m l t).1 0) b b.length) then qr7 (nL (ql5 m l t).1 0) b b.length else[]:=by
 unfold nextL
 rw[if_neg h0,if_neg (by simp),if_neg (by intro e; subst e; cases hb),if_pos hw]
abbrev x9j:qb7:=qf1 false none [qg0,.nlist qc8,q09,qc8] [.nlist qc8] (λx=>w0c x.1 x.2.1 x.2.2.1 x.2.2.2.1) (λx=>(nextL x.1 x.2.1 x.2.2.1 x.2.2.2.1,()))
def x4z (m:List (List Int)) (b:List Int) (f:Frm) (t:Int):Nat->Option Inv
 | 0=>some (Inv.of [11,49] 2 (λk:Nat=>[(11,.msl 1 (some 0)),(49,.lit (.int .i64 k))]) (λk=>[.box 245 (.cons (.lit (.bool f.1)) (.cons (.dat (.int .i64) f.2) .nil)),.mat 34 3 (.int .i64) [qr7 (nL (ql5 m f.2 t).1 0) b k] .none .none]) (λk=>k<=b.length) (λk=>b.length-k))
 | _=>none
theorem w5w:Meets Tryz.prog 224 x9j:=by
 refine meets (x0r [] [] (SpecsOk.cons w5v (SpecsOk.cons wq8 (SpecsOk.cons w9u (SpecsOk.cons wr0 (SpecsOk.nil _))))) MutsOk.nil ItsOk.nil) Tryz.func224 rfl rfl (λx=>x4z x.1 x.2.1 x.2.2.1 x.2.2.2.1) (λ_=>by kernel_rfl) (by decide) ?_
 rintro⟨m,b,⟨key,l⟩,t,⟨⟩⟩ h
 revert m b key l t
 intro(m:List (List Int)) (b:List Int) (key:Bool) (l:List Int) (t:Int) (h:w0c m b (key,l) t)
 refine @qd1 _ (let Q0:=ql5 m l t; let Q1:=qe3 Q0.1.length none; True/\(decide (l.length=(0:Nat))=true->nextL m b (key,l) t=[])/\(decide (l.length=(0:Nat))=false->(key=true->(0:Nat)<l.length/\l.length<=(100000:Nat)/\l=nextL m b (key,l) t)/\(key=false->(List.isEmpty b=true->nextL m b (key,l) t=[])/\(List.isEmpty b=false->(wj6 m l t=(0:Int)->w0b m l t)/\((Q0.2 != (0:Int))=true->nextL m b (key,l) t=[])/\((Q0.2 != (0:Int))=false->(((↑Q1:Int) != (1:Int))=true->nextL m b (key,l) t=[])/\(((↑Q1:Int) != (1:Int))=false->((0:Int)<=(0:Int)/\(0:Int)<(↑Q1:Int))/\(0:Nat)<qe3 Q0.1.length none/\∃(v5:Unit),∃(v6:Nat),Nat.le v6 b.length/\((some (0:Nat)=some (0:Nat)/\(0:Int)=(↑v6:Int)/\True)/\(key=key/\l=l/\True)/\(Q0.1=[qr7 (nL Q0.1 (0:Nat)) b v6]/\True/\True)/\True)/\∀(v7:Nat),Nat.le v7 b.length->(decide ((↑v7:Int)<(↑b.length:Int))=true->((0:Int)<=(↑v7:Int)/\(↑v7:Int)<(↑b.length:Int))/\((0:Int)<=(↑v7:Int)/\(↑v7:Int)<(↑(nL [qr7 (nL Q0.1 (0:Nat)) b v7] (0:Nat)).length:Int))/\v7<(nL [qr7 (nL Q0.1 (0:Nat)) b v7] (0:Nat)).length/\fits .i64 (nI (nL [qr7 (nL Q0.1 (0:Nat)) b v7] (0:Nat)) v7+qf2 qc8 b v7)/\((0:Int)<=(↑v7:Int)/\(↑v7:Int)<(↑(nL [qr7 (nL Q0.1 (0:Nat)) b v7] (0:Nat)).length:Int))/\v7<(nL [qr7 (nL Q0.1 (0:Nat)) b v7] (0:Nat)).length/\fits .i64 ((↑v7:Int)+(1:Int))/\∃(v10:Nat),Nat.le v10 b.length/\b.length-v10<b.length-v7/\(some (0:Nat)=some (0:Nat)/\(↑v7:Int)+(1:Int)=(↑v10:Int)/\True)/\(key=key/\l=l/\True)/\(List.set [qr7 (nL Q0.1 (0:Nat)) b v7] (0:Nat) (List.set (nL [qr7 (nL Q0.1 (0:Nat)) b v7] (0:Nat)) v7 (nI (nL [qr7 (nL Q0.1 (0:Nat)) b v7] (0:Nat)) v7+qf2 qc8 b v7))=[qr7 (nL Q0.1 (0:Nat)) b v10]/\True/\True)/\True)/\(decide ((↑v7:Int)<(↑b.length:Int))=false->qa9 m=true/\((!q2a m (nL [qr7 (nL Q0.1 (0:Nat)) b v7] (0:Nat)))=true->nextL m b (key,l) t=[])/\((!q2a m (nL [qr7 (nL Q0.1 (0:Nat)) b v7] (0:Nat)))=false->nL [qr7 (nL Q0.1 (0:Nat)) b v7] (0:Nat)=nextL m b (key,l) t/\Nat.le (1:Nat) (nL [qr7 (nL Q0.1 (0:Nat)) b v7] (0:Nat)).length)))))))) (by kernel_rfl) ?_
 try simp only[z0,z1,z2,z3,z4,z5,z6,z7,z8,z9,z10,Int.reduceEq,z11,z12,z13,z14,z15,z16,z17,z18,z19,z20,z21,z22,z23,z24,z25,z26,z27,z28,z29,z30,Int.reduceLE,Int.reduceLT,z31,z32,z33,z34,qa1]
 try simp only[qa7,qa8,qb8,z31,z32,z2,z1]
 refine⟨λh0=>if_pos h0,λh0=>⟨λhk=>⟨by omega,h.len,?_⟩,λhk=>⟨λhb=>?_,λhb=>?_⟩⟩⟩
 ·unfold nextL; rw[if_neg h0,if_pos hk]
 ·subst hk
  unfold nextL; rw[if_neg h0,if_neg (by simp),if_pos (List.isEmpty_iff.1 hb)]
 subst hk
 have hno:¬((ql5 m l t).2=0/\(ql5 m l t).1.length=1)->nextL m b (false,l) t=[]:=λhn=>by
  unfold nextL; rw[if_neg h0,if_neg (by simp),if_neg (by intro e; subst e; cases hb),if_neg hn]
 refine⟨h.wh rfl,λhe=>hno λq=>he q.1,λhe=>?_⟩
 simp only[qe3,qe7]
 refine⟨λhn=>hno λq=>hn (by omega),λhn=>⟨by omega,by omega,(),0,Nat.zero_le _,⟨rfl,?_⟩,λk hk=>?_⟩⟩
 ·show _=[nL _ 0]
  obtain⟨r,hr⟩:=List.length_eq_one_iff.1 (show(ql5 m l t).1.length=1 by omega)
  rw[hr]; rfl
 have hpb:q2a m b=true:=by
  rcases h.before with e | e
  ·subst e; cases hb
  ·exact e
 obtain⟨hbl,hbb⟩:=xn9 hpb
 have hM:=Mk.of h.val
 have p1:=hM.pix1
 have p10:=hM.pix10
 obtain⟨hrl,hrb⟩:=w9v (show nL (ql5 m l t).1 0∈(ql5 m l t).1 by rw[qj8 _ 0 (by omega)]; exact List.getElem_mem _)
 simp only[wr1]
 refine⟨λhlt=>?_,λhge=>?_⟩
 ·have h1:=hbb k hlt
  have h2:=hrb k (by omega)
  rw[wh1 _ _ k k (Nat.le_refl k)]
  unfold qf8 at h1 h2
  exact⟨hlt,by omega,by omega,qb5 (by omega) (by omega),by omega,by omega,qb5 (by omega) (by omega),k+1,hlt,by omega,by omega,by rw[qr7,wh1 _ _ k k (Nat.le_refl k)]⟩
 ·obtain rfl:k=b.length:=by omega
  have hn':=xo0 (m:=m) h0 hb ⟨he,by omega⟩
  exact⟨h.val,λhp=>by rw[hn',if_neg (by rw[hp]; decide)],λhp=>⟨by rw[hn',if_pos hp],by omega⟩⟩
abbrev nFr (F:List Frm) (i:Nat):Frm:=qf2 (.prod .bool (.list (.int .i64))) F i
def qp8 (m:List (List Int)) (F:List Frm) (t:Int):Nat->List Int
 | 0=>[]
 | k+1=>nextL m (qp8 m F t k) (nFr F k) t
def w9w (m:List (List Int)) (F:List Frm) (t:Int):Prop:=∀i,i<F.length->(nFr F i).1=false->wj6 m (nFr F i).2 t=0->w0b m (nFr F i).2 t
structure wr5 (F:List Frm) (m:List (List Int)) (t:Int):Prop where
 val:qa9 m=true
 size:F.length<=1000000
 len:∀i,i<F.length->(nFr F i).2.length<=100000
 key:∀i,i<F.length->(nFr F i).1=true->q2a m (nFr F i).2=true
 wh:w9w m F t
abbrev ym0 (i:Nat) (l:List Int):qa4 [qc8,.nlist qc8]:=((i:Int),l,())
def xf1 (F:List Frm) (m:List (List Int)) (t:Int):List (qa4 [qc8,.nlist qc8]):=(List.range F.length).map λi=>ym0 i (qp8 m F t (i+1))
abbrev x9k:qw4:=wx7 [.list q09,qg0,qc8] [qc8,.nlist qc8] (λx=>wr5 x.1 x.2.1 x.2.2.1) (λx=>xf1 x.1 x.2.1 x.2.2.1)
def x9l (F:List Frm) (m:List (List Int)) (t:Int):Nat->Option Inv
 | 0=>some (Inv.of [5,8,10] 1 (λk:Nat=>[(5,.ndat false (.int .i64) (qp8 m F t k)),(8,.dat (.prod .bool (.list (.int .i64))) F),(10,.lit (.int .i64 k))]) (λk=>[.cnt (some k)]) (λk=>k<=F.length) (λk=>F.length-k))
 | _=>none
theorem w2q {m:List (List Int)} {b:List Int} {f:Frm} {t:Int} (hk:f.1=true->q2a m f.2=true):nextL m b f t=[]\/q2a m (nextL m b f t)=true:=by
 unfold nextL
 split; · exact .inl rfl
 split; · exact .inr (hk ‹_›)
 split; · exact .inl rfl
 split
 ·split
  ·exact .inr ‹_›
  ·exact .inl rfl
 ·exact .inl rfl
theorem w2r {F:List Frm} {m:List (List Int)} {t:Int} (h:wr5 F m t):∀k,k<=F.length->qp8 m F t k=[]\/q2a m (qp8 m F t k)=true
 | 0,_=>.inl rfl
 | k+1,hk=>w2q (h.key k hk)
theorem w2s {m:List (List Int)} {x:List Int} (h:q2a m x=true):x.length=(nL m 0).length:=by
 unfold q2a at h
 rw[Bool.and_eq_true,decide_eq_true_eq] at h
 exact h.1
theorem w9x:qu0 Tryz.prog 223 x9k:=by
 refine says (snd (SpecsOk.cons w5w (SpecsOk.cons wq9 (SpecsOk.nil _)))) Tryz.func223 rfl rfl rfl [21] (λx=>x9l x.1 x.2.1 x.2.2.1) (λ_=>by kernel_rfl) (by decide) ?_
 rintro⟨F,m,t,⟨⟩⟩ l h
 revert F m t
 intro(F:List Frm) (m:List (List Int)) (t:Int) (h:wr5 F m t)
 refine @qd1 _ (let Q0:=(F,m,t,PUnit.unit); let Q1:=xf1 F m t; ∃(v0:Unit),∃(v1:Nat),Nat.le v1 F.length/\((qp8 m F t v1=[]/\F=F/\(0:Int)=(↑v1:Int)/\True)/\some (0:Nat)=some v1/\True)/\∀(v2:Nat),Nat.le v2 F.length->(decide ((↑v2:Int)<(↑F.length:Int))=true->((0:Int)<=(↑v2:Int)/\(↑v2:Int)<(↑F.length:Int))/\w0c m (qp8 m F t v2) ((qf2 (Ty.prod Ty.bool (Ty.list (Ty.int .i64))) F v2).1,(qf2 (Ty.prod Ty.bool (Ty.list (Ty.int .i64))) F v2).2) t/\(nextL m (qp8 m F t v2) ((qf2 (Ty.prod Ty.bool (Ty.list (Ty.int .i64))) F v2).1,(qf2 (Ty.prod Ty.bool (Ty.list (Ty.int .i64))) F v2).2) t).length<=(100000:Nat)/\(List.isEmpty (nextL m (qp8 m F t v2) ((qf2 (Ty.prod Ty.bool (Ty.list (Ty.int .i64))) F v2).1,(qf2 (Ty.prod Ty.bool (Ty.list (Ty.int .i64))) F v2).2) t)=true->Value.slice none (0:Nat) (0:Nat)=Value.slice none (0:Nat) (0:Nat)/\Value.func (Fn.yield l) #[] #[]=Value.func (Fn.yield (qh2.l (q0d [Ty.list q09,qg0,qc8] [qc8,Ty.nlist qc8] [(21:Nat)] Q0 Q1 l))) #[] #[]/\Value.slice none (0:Nat) (0:Nat)=Value.slice none (0:Nat) (0:Nat)/\(qh2.L (q0d [Ty.list q09,qg0,qc8] [qc8,Ty.nlist qc8] [(21:Nat)] Q0 Q1 l))[v2]?=some ((↑v2:Int),[],())/\(fits .i64 ((↑v2:Int)+(1:Int))/\∃(v6:Nat),Nat.le v6 F.length/\F.length-v6<F.length-v2/\(nextL m (qp8 m F t v2) ((qf2 (Ty.prod Ty.bool (Ty.list (Ty.int .i64))) F v2).1,(qf2 (Ty.prod Ty.bool (Ty.list (Ty.int .i64))) F v2).2) t=qp8 m F t v6/\F=F/\(↑v2:Int)+(1:Int)=(↑v6:Int)/\True)/\some (v2+(1:Nat))=some v6/\True)/\True)/\(List.isEmpty (nextL m (qp8 m F t v2) ((qf2 (Ty.prod Ty.bool (Ty.list (Ty.int .i64))) F v2).1,(qf2 (Ty.prod Ty.bool (Ty.list (Ty.int .i64))) F v2).2) t)=false->Value.func (Fn.yield l) #[] #[]=Value.func (Fn.yield (qh2.l (q0d [Ty.list q09,qg0,qc8] [qc8,Ty.nlist qc8] [(21:Nat)] Q0 Q1 l))) #[] #[]/\(0:Nat)<(nextL m (qp8 m F t v2) ((qf2 (Ty.prod Ty.bool (Ty.list (Ty.int .i64))) F v2).1,(qf2 (Ty.prod Ty.bool (Ty.list (Ty.int .i64))) F v2).2) t).length/\(qh2.L (q0d [Ty.list q09,qg0,qc8] [qc8,Ty.nlist qc8] [(21:Nat)] Q0 Q1 l))[v2]?=some ((↑v2:Int),nextL m (qp8 m F t v2) ((qf2 (Ty.prod Ty.bool (Ty.list (Ty.int .i64))) F v2).1,(qf2 (Ty.prod Ty.bool (Ty.list (Ty.int .i64))) F v2).2) t,())/\(fits .i64 ((↑v2:Int)+(1:Int))/\∃(v6:Nat),Nat.le v6 F.length/\F.length-v6<F.length-v2/\(nextL m (qp8 m F t v2) ((qf2 (Ty.prod Ty.bool (Ty.list (Ty.int .i64))) F v2).1,(qf2 (Ty.prod Ty.bool (Ty.list (Ty.int .i64))) F v2).2) t=qp8 m F t v6/\F=F/\(↑v2:Int)+(1:Int)=(↑v6:Int)/\True)/\some (v2+(1:Nat))=some v6/\True)/\True))/\(decide ((↑v2:Int)<(↑F.length:Int))=false->v2=(qh2.L (q0d [Ty.list q09,qg0,qc8] [qc8,Ty.nlist qc8] [(21:Nat)] Q0 Q1 l)).length)) (by kernel_rfl) ?_
 try simp only[z0,z1,z2,z3,z4,z5,z6,z7,z8,z9,z10,Int.reduceEq,z11,z12,z13,z14,z15,z16,z17,z18,z19,z20,z21,z22,z23,z24,z25,z26,z27,z28,z29,z30,Int.reduceLE,Int.reduceLT,z31,z32,z33,z34,qa1]
 try simp only[qa7,qa8,qb8,z31,z32,z2,z1]
 have hsz:=h.size
 have key:∀k,k<F.length->(xf1 F m t)[k]? = some ((k:Int),nextL m (qp8 m F t k) (nFr F k) t,()):=λk hk=>by
  unfold xf1
  rw[List.getElem?_map,List.getElem?_range hk]
  rfl
 refine⟨(),0,Nat.zero_le _,⟨⟨rfl,rfl⟩,rfl⟩,λk hk=>⟨λhlt=>?_,λhge=>?_⟩⟩
 ·have hn:nextL m (qp8 m F t k) (nFr F k) t=[]\/q2a m (nextL m (qp8 m F t k) (nFr F k) t)=true:=w2q (h.key k hlt)
  have hl:(nextL m (qp8 m F t k) (nFr F k) t).length<=100000:=by
   rcases hn with e | e
   ·rw[e]; exact Nat.zero_le _
   ·have h1:=w2s e
    have h2:=(Mk.of h.val).pix10
    omega
  refine⟨hlt,⟨h.val,w2r h k hk,h.len k hlt,h.wh k hlt⟩,hl,λhe=>⟨rfl,?_,qb5 (by omega) (by omega),k+1,hlt,by omega,⟨rfl,by omega⟩,rfl⟩,λhe=>?_⟩
  ·have e:=List.isEmpty_iff.1 he
   have h1:=key k hlt
   rw[show nextL m (qp8 m F t k) (nFr F k) t=[] from e] at h1
   exact h1
  ·have hp:0<(nextL m (qp8 m F t k) (nFr F k) t).length:=by
    rcases Nat.eq_zero_or_pos (nextL m (qp8 m F t k) (nFr F k) t).length with q | q
    ·rw[show nextL m (qp8 m F t k) ((qf2 (Ty.bool.prod (Ty.int IntKind.i64).list) F k).1,(qf2 (Ty.bool.prod (Ty.int IntKind.i64).list) F k).2) t=[] from List.eq_nil_of_length_eq_zero q] at he
     cases he
    ·exact q
   exact⟨rfl,hp,key k hlt,qb5 (by omega) (by omega),k+1,hlt,by omega,⟨rfl,by omega⟩,rfl⟩
 ·obtain rfl:k=F.length:=by omega
  show _=(xf1 F m t).length
  simp[xf1]
abbrev ym1:qb7:=we6 false none [qg0,.list q09,qc8] (λ_=>True) (λx=>.clo 223 (.cons (.imm (.cons (.dat (.prod .bool (.list (.int .i64))) x.2.1) .nil) 0) (.cons (.imm (.cons (.dat (.list (.int .i64)) x.1) .nil) 0) (.cons (.imm (.cons (.lit (.int .i64 x.2.2.1)) .nil) 0) .nil))))
theorem w9y:Meets Tryz.prog 165 ym1:=by
 refine q3k (snd (SpecsOk.nil _)) Tryz.func165 rfl rfl (λx _=>none) (λ_=>by kernel_rfl) (by decide) ?_
 rintro⟨m,F,t,⟨⟩⟩ -
 revert m F t
 intro(m:List (List Int)) (F:List Frm) (t:Int)
 refine @qd1 _ (((F=F/\True)/\(0:Nat)=(0:Nat))/\((m=m/\True)/\(0:Nat)=(0:Nat))/\((t=t/\True)/\(0:Nat)=(0:Nat))/\True) (by kernel_rfl) ?_
 try simp only[z0,z1,z2,z3,z4,z5,z6,z7,z8,z9,z10,Int.reduceEq,z11,z12,z13,z14,z15,z16,z17,z18,z19,z20,z21,z22,z23,z24,z25,z26,z27,z28,z29,z30,Int.reduceLE,Int.reduceLT,z31,z32,z33,z34,qa1]
 try simp only[qa7,qa8,qb8,z31,z32,z2,z1]
structure w9z (m p:List (List Int)) (e t:Int):Prop where
 enc:w2p m p e
 wh:w9w m (qq3 m p e.toNat p.length) t
def xf2 (m p:List (List Int)) (e t:Int):Bool:=(List.range p.length).all λi=>decide (qp8 m (qq3 m p e.toNat p.length) t (i+1)=nL p i)
abbrev ym2:qb7:=qf1 true none [qg0,qg0,qc8,qc8] [.bool] (λx=>w9z x.1 x.2.1 x.2.2.1 x.2.2.2.1) (λx=>(xf2 x.1 x.2.1 x.2.2.1 x.2.2.2.1,()))
structure xo1 (m p:List (List Int)) (e t:Int) (c:Nat):Prop where
 le:c<=p.length
 all:∀i,i<c->qp8 m (qq3 m p e.toNat p.length) t (i+1)=nL p i
def x9m (m p:List (List Int)) (e t:Int):Nat->Option Inv
 | 0=>some (Inv.of [] 2 (λ_=>[]) (λc:Nat=>[.box 22 (.cons (.dat (.list (.int .i64)) p) .nil),.box 4 (.cons (.lit (.bool false)) .nil)]) (λc=>xo1 m p e t c) (λc=>c))
 | _=>none
theorem w90:Meets Tryz.prog 103 ym2:=by
 refine meets (x7z (SpecsOk.cons w9s (SpecsOk.cons w9y (SpecsOk.cons w9e (SpecsOk.nil _)))) (ItsOk.cons w9x ItsOk.nil)) Tryz.func103 rfl rfl (λx=>x9m x.1 x.2.1 x.2.2.1 x.2.2.2.1) (λ_=>by kernel_rfl) (by decide) ?_
 rintro⟨m,p,e,t,⟨⟩⟩ h
 revert m p e t
 intro(m:List (List Int)) (p:List (List Int)) (e:Int) (t:Int) (h:w9z m p e t)
 refine @qd1 _ (let Q0:=qq3 m p e.toNat p.length; w2p m p e/\True/\wr5 Q0 m t/\∃(v0:Unit),∃(v1:Nat),xo1 m p e t v1/\v1=(0:Nat)/\((p=p/\True)/\(false=false/\True)/\True)/\∀(v2:Nat),xo1 m p e t v2->(∀(v4:Int × qa4._f [Ty.nlist qc8] ⟨qa4._f [] PUnit.unit,PUnit.unit⟩),(xf1 Q0 m t)[v2]?=some v4->(List.isEmpty v4.2.1=true->false=xf2 m p e t)/\(List.isEmpty v4.2.1=false->((0:Int)<=v4.1/\v4.1<(↑p.length:Int))/\v4.2.1.length<=(1000000:Nat)/\((!decide (v4.2.1=nL p v4.1.toNat))=true->false=xf2 m p e t)/\((!decide (v4.2.1=nL p v4.1.toNat))=false->∃(v8:Nat),xo1 m p e t v8/\v8=v2+(1:Nat)/\(p=p/\True)/\(false=false/\True)/\True)))/\(v2=(xf1 Q0 m t).length->true=xf2 m p e t)) (by kernel_rfl) ?_
 try simp only[z0,z1,z2,z3,z4,z5,z6,z7,z8,z9,z10,Int.reduceEq,z11,z12,z13,z14,z15,z16,z17,z18,z19,z20,z21,z22,z23,z24,z25,z26,z27,z28,z29,z30,Int.reduceLE,Int.reduceLT,z31,z32,z33,z34,qa1]
 try simp only[qa7,qa8,qb8,z31,z32,z2,z1]
 have hv:=Vp.of h.enc.ok
 have p60:=hv.hi
 have p1:=hv.msk.pix1
 have p10:=hv.msk.pix10
 generalize hF:qq3 m p e.toNat p.length=F
 have hFl:F.length=p.length:=by rw[<- hF,q7v]
 have hat:∀i,i<p.length->nFr F i=xn7 m p e.toNat i:=λi hi=>by
  rw[<- hF]
  unfold nFr
  rw[qq4 _ i (by rw[q7v]; exact hi)]
  simp[qq3]
 have hpic:∀i,i<p.length->q2a m (nL p i)=true:=λi hi=>by
  have h1:=h.enc.ok
  unfold vpB at h1
  rw[Bool.and_eq_true,List.all_eq_true] at h1
  exact h1.2 _ (by rw[qj8 p i hi]; exact List.getElem_mem hi)
 have hD:wr5 F m t:=by
  refine⟨hv.val,by omega,λi hi=>?_,λi hi hk=>?_,?_⟩
  ·rw[hat i (by omega)]
   unfold xn7
   split
   ·have:=hv.len i (by omega); show(nL p i).length<=_; omega
   ·show(qv8 m _).1.length<=_
    unfold qv8
    split
    ·have:=hv.msk.rows6; simp only[q7p,List.length_map,List.length_range]; omega
    ·exact Nat.zero_le _
  ·rw[hat i (by omega)] at hk ⊢
   unfold xn7 at hk ⊢
   split at hk
   ·rename_i q; rw[if_pos q]; exact hpic i (by omega)
   ·cases hk
  ·rw[<- hF]; exact h.wh
 have hrig:xf2 m p e t=(List.range p.length).all λi=>decide (qp8 m F t (i+1)=nL p i):=by unfold xf2; rw[hF]
 have hno:∀i,i<p.length->¬qp8 m F t (i+1)=nL p i->false=xf2 m p e t:=λi hi hne=>by
  rw[hrig]
  symm
  rw[List.all_eq_false]
  exact⟨i,List.mem_range.2 hi,by simpa using hne⟩
 refine⟨h.enc,hD,(),0,⟨Nat.zero_le _,λi hi=>absurd hi (by omega)⟩,rfl,λc hc=>⟨?_,λhfin=>?_⟩⟩
 ·rintro⟨i,x,⟨⟩⟩ hx
  unfold xf1 at hx
  rw[List.getElem?_map] at hx
  obtain⟨j,hj,e1⟩:=Option.map_eq_some_iff.1 hx
  have hcl:c<F.length:=by
   have:=(List.getElem?_eq_some_iff.1 hj).1
   simpa using this
  rw[List.getElem?_range hcl] at hj
  obtain rfl:=Option.some.inj hj
  obtain⟨rfl,rfl⟩:i=(c:Int)/\x=qp8 m F t (c+1):=⟨(congrArg Prod.fst e1).symm,(congrArg (λq=>q.2.1) e1).symm⟩
  dsimp only
  have hcp:c<p.length:=by omega
  have hl:=hv.len c hcp
  refine⟨λhemp=>hno c hcp λq=>?_,λhemp=>⟨⟨by omega,by omega⟩,?_,λhne=>?_,λheq=>?_⟩⟩
  ·rw[List.isEmpty_iff.1 hemp] at q
   rw[<- q] at hl
   simp only[List.length_nil] at hl
   omega
  ·rcases w2r hD (c+1) hcl with q | q
   ·rw[q]; exact Nat.zero_le _
   ·have:=w2s q; omega
  ·exact hno c hcp hne
  ·refine⟨c+1,⟨hcp,λi hi=>?_⟩,rfl⟩
   rw[hF]
   by_cases q:i=c
   ·subst q; exact heq
   ·have:=hc.all i (by omega); rw[hF] at this; exact this
 ·have hfin:c=p.length:=by rw[hfin]; simp[xf1,hFl]
  rw[hrig]
  symm
  rw[List.all_eq_true]
  intro i hi
  have hi:=List.mem_range.1 hi
  have:=hc.all i (by omega)
  rw[hF] at this
  exact decide_eq_true this
def w2t (m p:List (List Int)) (e t:Int):Bool × Int:=if vpB m p=false then(false,1) else if inB e 1 60 && inB t 0 (nL m 0).length then(xf2 m p e t,0) else(false,7)
abbrev ym3:qb7:=qf1 true none [qg0,qg0,qc8,qc8] [.bool,qc8] (λx=>(w2t x.1 x.2.1 x.2.2.1 x.2.2.2.1).2=0->w9w x.1 (qq3 x.1 x.2.1 x.2.2.1.toNat x.2.1.length) x.2.2.2.1) (λx=>((w2t x.1 x.2.1 x.2.2.1 x.2.2.2.1).1,(w2t x.1 x.2.1 x.2.2.1 x.2.2.2.1).2,()))
theorem w91:Meets Tryz.prog 53 ym3:=by
 refine meets (snd (SpecsOk.cons xn6 (SpecsOk.cons qz7 (SpecsOk.cons w90 (SpecsOk.nil _))))) Tryz.func53 rfl rfl (λ_ _=>none) (λ_=>by kernel_rfl) (by decide) ?_
 rintro⟨m,p,e,t,⟨⟩⟩ h
 revert m p e t
 intro(m:List (List Int)) (p:List (List Int)) (e:Int) (t:Int) (h:(w2t m p e t).2=0->w9w m (qq3 m p e.toNat p.length) t)
 refine @qd1 _ (let Q0:=w2t m p e t; True/\((!vpB m p)=true->false=Q0.1/\(1:Int)=Q0.2/\True)/\((!vpB m p)=false->True/\((!inB e (1:Int) (60:Int))=true->false=Q0.1/\(7:Int)=Q0.2/\True)/\((!inB e (1:Int) (60:Int))=false->((0:Int)<=(0:Int)/\(0:Int)<(↑m.length:Int))/\True/\((!inB t (0:Int) (↑(nL m (0:Nat)).length:Int))=true->false=Q0.1/\(7:Int)=Q0.2/\True)/\((!inB t (0:Int) (↑(nL m (0:Nat)).length:Int))=false->w9z m p e t/\xf2 m p e t=Q0.1/\(0:Int)=Q0.2/\True)))) (by kernel_rfl) ?_
 try simp only[z0,z1,z2,z3,z4,z5,z6,z7,z8,z9,z10,Int.reduceEq,z11,z12,z13,z14,z15,z16,z17,z18,z19,z20,z21,z22,z23,z24,z25,z26,z27,z28,z29,z30,Int.reduceLE,Int.reduceLT,z31,z32,z33,z34,qa1]
 try simp only[qa7,qa8,qb8,z31,z32,z2,z1]
 have h7:vpB m p=true->(inB e 1 60 && inB t 0 (nL m 0).length)=false->(w2t m p e t).1=false/\(w2t m p e t).2=7:=λhv hb=>by simp[w2t,hv,hb]
 refine⟨λhv=>by simp[w2t,hv],λhv=>⟨λhe=>?_,λhe=>⟨by have:=(Vp.of hv).msk.rows1; omega,λht=>?_,λht=>?_⟩⟩⟩
 ·obtain⟨h1,h2⟩:=h7 hv (by rw[he]; rfl)
  exact⟨h1.symm,h2.symm⟩
 ·obtain⟨h1,h2⟩:=h7 hv (by rw[ht]; simp)
  exact⟨h1.symm,h2.symm⟩
 ·have hs:w2t m p e t=(xf2 m p e t,0):=by simp[w2t,hv,he,ht]
  rw[hs] at h ⊢
  exact⟨⟨⟨hv,(qh5.1 he).1,(qh5.1 he).2⟩,h rfl⟩,rfl,rfl⟩
open Go Go.RowKit Eng
abbrev tU64:Ty:=.int .u64
abbrev x04:Ty:=.prod (.int .i64) (.int .u64)
theorem x9o {a:Int} (h0:0<=a) (h1:a<4294967296):IntKind.u64.wrap ((BitVec.ofInt 64 a &&& BitVec.ofInt 64 4294967295).toNat:Int)=a:=by
 have e1:(BitVec.ofInt 64 a).toNat=a.toNat:=by
  rw[BitVec.toNat_ofInt]
  omega
 have e2:(BitVec.ofInt 64 4294967295).toNat=2 ^ 32-1:=by decide
 rw[BitVec.toNat_and,e1,e2,Nat.and_two_pow_sub_one_eq_mod]
 have e3:a.toNat % 2 ^ 32=a.toNat:=Nat.mod_eq_of_lt (by omega)
 rw[e3]
 have e4:((a.toNat:Nat):Int)=a:=by omega
 rw[e4]
 exact Go.IntWalk.u64_in a (by omega)
theorem x9p {a:Int} (h0:0<=a) (h1:a<4294967296):a.fdiv 4294967296=0:=by
 rw[Int.fdiv_eq_ediv_of_nonneg _ (by decide)]
 omega
theorem x50 {x:Int} (h0:0<=x) (h1:x<=18446744073709551615):fits IntKind.u64 x:=by
 unfold fits
 exact Go.IntWalk.u64_in x ⟨h0,h1⟩
def lil (x:Int):Prop:=0<=x/\x<=2000000000
theorem x05 {x y:Int} (hx:lil x) (hy:lil y):0<=x*y/\x*y<=4000000000000000000:=
 ⟨Int.mul_nonneg hx.1 hy.1,Int.mul_le_mul hx.2 hy.2 hy.1 (by decide)⟩
abbrev x9q:qb7:=qf1 true none [tU64,tU64] [tU64,tU64] (λx=>lil x.1/\lil x.2.1) (λx=>(0,x.1*x.2.1,()))
theorem w5x:Meets Tryz.prog 198 x9q:=by
 refine meets (snd (SpecsOk.nil _)) Tryz.func198 rfl rfl (λ_ _=>none) (λ_=>by kernel_rfl) (by decide) ?_
 rintro⟨x,y,⟨⟩⟩ h
 revert x y
 intro(x:Int) (y:Int) (h:lil x/\lil y)
 refine @qd1 _ ((0:Int)<=(32:Int)/\(0:Int)<=(32:Int)/\fits IntKind.u64 (IntKind.wrap IntKind.u64 (↑(BitVec.toNat (BitVec.ofInt (64:Nat) x &&& BitVec.ofInt (64:Nat) (4294967295:Int))):Int)*IntKind.wrap IntKind.u64 (↑(BitVec.toNat (BitVec.ofInt (64:Nat) y &&& BitVec.ofInt (64:Nat) (4294967295:Int))):Int))/\fits IntKind.u64 (Int.fdiv x (4294967296:Int)*IntKind.wrap IntKind.u64 (↑(BitVec.toNat (BitVec.ofInt (64:Nat) y &&& BitVec.ofInt (64:Nat) (4294967295:Int))):Int))/\(0:Int)<=(32:Int)/\fits IntKind.u64 (Int.fdiv x (4294967296:Int)*IntKind.wrap IntKind.u64 (↑(BitVec.toNat (BitVec.ofInt (64:Nat) y &&& BitVec.ofInt (64:Nat) (4294967295:Int))):Int)+Int.fdiv (IntKind.wrap IntKind.u64 (↑(BitVec.toNat (BitVec.ofInt (64:Nat) x &&& BitVec.ofInt (64:Nat) (4294967295:Int))):Int)*IntKind.wrap IntKind.u64 (↑(BitVec.toNat (BitVec.ofInt (64:Nat) y &&& BitVec.ofInt (64:Nat) (4294967295:Int))):Int)) (4294967296:Int))/\(0:Int)<=(32:Int)/\fits IntKind.u64 (IntKind.wrap IntKind.u64 (↑(BitVec.toNat (BitVec.ofInt (64:Nat) x &&& BitVec.ofInt (64:Nat) (4294967295:Int))):Int)*Int.fdiv y (4294967296:Int))/\fits IntKind.u64 (IntKind.wrap IntKind.u64 (↑(BitVec.toNat (BitVec.ofInt (64:Nat) (Int.fdiv x (4294967296:Int)*IntKind.wrap IntKind.u64 (↑(BitVec.toNat (BitVec.ofInt (64:Nat) y &&& BitVec.ofInt (64:Nat) (4294967295:Int))):Int)+Int.fdiv (IntKind.wrap IntKind.u64 (↑(BitVec.toNat (BitVec.ofInt (64:Nat) x &&& BitVec.ofInt (64:Nat) (4294967295:Int))):Int)*IntKind.wrap IntKind.u64 (↑(BitVec.toNat (BitVec.ofInt (64:Nat) y &&& BitVec.ofInt (64:Nat) (4294967295:Int))):Int)) (4294967296:Int)) &&& BitVec.ofInt (64:Nat) (4294967295:Int))):Int)+IntKind.wrap IntKind.u64 (↑(BitVec.toNat (BitVec.ofInt (64:Nat) x &&& BitVec.ofInt (64:Nat) (4294967295:Int))):Int)*Int.fdiv y (4294967296:Int))/\fits IntKind.u64 (Int.fdiv x (4294967296:Int)*Int.fdiv y (4294967296:Int))/\fits IntKind.u64 (Int.fdiv x (4294967296:Int)*Int.fdiv y (4294967296:Int)+Int.fdiv (Int.fdiv x (4294967296:Int)*IntKind.wrap IntKind.u64 (↑(BitVec.toNat (BitVec.ofInt (64:Nat) y &&& BitVec.ofInt (64:Nat) (4294967295:Int))):Int)+Int.fdiv (IntKind.wrap IntKind.u64 (↑(BitVec.toNat (BitVec.ofInt (64:Nat) x &&& BitVec.ofInt (64:Nat) (4294967295:Int))):Int)*IntKind.wrap IntKind.u64 (↑(BitVec.toNat (BitVec.ofInt (64:Nat) y &&& BitVec.ofInt (64:Nat) (4294967295:Int))):Int)) (4294967296:Int)) (4294967296:Int))/\(0:Int)<=(32:Int)/\fits IntKind.u64 (Int.fdiv x (4294967296:Int)*Int.fdiv y (4294967296:Int)+Int.fdiv (Int.fdiv x (4294967296:Int)*IntKind.wrap IntKind.u64 (↑(BitVec.toNat (BitVec.ofInt (64:Nat) y &&& BitVec.ofInt (64:Nat) (4294967295:Int))):Int)+Int.fdiv (IntKind.wrap IntKind.u64 (↑(BitVec.toNat (BitVec.ofInt (64:Nat) x &&& BitVec.ofInt (64:Nat) (4294967295:Int))):Int)*IntKind.wrap IntKind.u64 (↑(BitVec.toNat (BitVec.ofInt (64:Nat) y &&& BitVec.ofInt (64:Nat) (4294967295:Int))):Int)) (4294967296:Int)) (4294967296:Int)+Int.fdiv (IntKind.wrap IntKind.u64 (↑(BitVec.toNat (BitVec.ofInt (64:Nat) (Int.fdiv x (4294967296:Int)*IntKind.wrap IntKind.u64 (↑(BitVec.toNat (BitVec.ofInt (64:Nat) y &&& BitVec.ofInt (64:Nat) (4294967295:Int))):Int)+Int.fdiv (IntKind.wrap IntKind.u64 (↑(BitVec.toNat (BitVec.ofInt (64:Nat) x &&& BitVec.ofInt (64:Nat) (4294967295:Int))):Int)*IntKind.wrap IntKind.u64 (↑(BitVec.toNat (BitVec.ofInt (64:Nat) y &&& BitVec.ofInt (64:Nat) (4294967295:Int))):Int)) (4294967296:Int)) &&& BitVec.ofInt (64:Nat) (4294967295:Int))):Int)+IntKind.wrap IntKind.u64 (↑(BitVec.toNat (BitVec.ofInt (64:Nat) x &&& BitVec.ofInt (64:Nat) (4294967295:Int))):Int)*Int.fdiv y (4294967296:Int)) (4294967296:Int))/\fits IntKind.u64 (x*y)/\Int.fdiv x (4294967296:Int)*Int.fdiv y (4294967296:Int)+Int.fdiv (Int.fdiv x (4294967296:Int)*IntKind.wrap IntKind.u64 (↑(BitVec.toNat (BitVec.ofInt (64:Nat) y &&& BitVec.ofInt (64:Nat) (4294967295:Int))):Int)+Int.fdiv (IntKind.wrap IntKind.u64 (↑(BitVec.toNat (BitVec.ofInt (64:Nat) x &&& BitVec.ofInt (64:Nat) (4294967295:Int))):Int)*IntKind.wrap IntKind.u64 (↑(BitVec.toNat (BitVec.ofInt (64:Nat) y &&& BitVec.ofInt (64:Nat) (4294967295:Int))):Int)) (4294967296:Int)) (4294967296:Int)+Int.fdiv (IntKind.wrap IntKind.u64 (↑(BitVec.toNat (BitVec.ofInt (64:Nat) (Int.fdiv x (4294967296:Int)*IntKind.wrap IntKind.u64 (↑(BitVec.toNat (BitVec.ofInt (64:Nat) y &&& BitVec.ofInt (64:Nat) (4294967295:Int))):Int)+Int.fdiv (IntKind.wrap IntKind.u64 (↑(BitVec.toNat (BitVec.ofInt (64:Nat) x &&& BitVec.ofInt (64:Nat) (4294967295:Int))):Int)*IntKind.wrap IntKind.u64 (↑(BitVec.toNat (BitVec.ofInt (64:Nat) y &&& BitVec.ofInt (64:Nat) (4294967295:Int))):Int)) (4294967296:Int)) &&& BitVec.ofInt (64:Nat) (4294967295:Int))):Int)+IntKind.wrap IntKind.u64 (↑(BitVec.toNat (BitVec.ofInt (64:Nat) x &&& BitVec.ofInt (64:Nat) (4294967295:Int))):Int)*Int.fdiv y (4294967296:Int)) (4294967296:Int)=(0:Ty.den tU64)/\x*y=x*y/\True) (by kernel_rfl) ?_
 try simp only[z0,z1,z2,z3,z4,z5,z6,z7,z8,z9,z10,Int.reduceEq,z11,z12,z13,z14,z15,z16,z17,z18,z19,z20,z21,z22,z23,z24,z25,z26,z27,z28,z29,z30,Int.reduceLE,Int.reduceLT,z31,z32,z33,z34,qa1]
 try simp only[qa7,qa8,qb8,z31,z32,z2,z1]
 have hm:=x05 h.1 h.2
 obtain⟨⟨x0,x1⟩,y0,y1⟩:=h
 have e1:=x9o (a:=x) x0 (by omega)
 have e2:=x9o (a:=y) y0 (by omega)
 have d1:=x9p (a:=x) x0 (by omega)
 have d2:=x9p (a:=y) y0 (by omega)
 have d3:(x*y).fdiv 4294967296=(x*y) / 4294967296:=Int.fdiv_eq_ediv_of_nonneg _ (by decide)
 have q0:0<=(x*y) / 4294967296:=by omega
 have q1:(x*y) / 4294967296<4294967296:=by omega
 have e3:=x9o q0 q1
 have d4:=x9p q0 q1
 simp only[e1,e2,d1,d2,d3,Int.zero_mul,Int.mul_zero,Int.zero_add,Int.add_zero,e3,d4]
 have f0:fits IntKind.u64 0:=x50 (by decide) (by decide)
 have f1:fits IntKind.u64 (x*y):=x50 hm.1 (by omega)
 have f2:fits IntKind.u64 ((x*y) / 4294967296):=x50 q0 (by omega)
 exact⟨f1,f0,f2,f0,f2,f0,f0,f0,f1,trivial⟩
abbrev x42:qb7:=qf1 true none [qc8] [tU64] (λx=>lil x.1) (λx=>(x.1,()))
theorem w0d:Meets Tryz.prog 230 x42:=by
 refine meets (snd (SpecsOk.nil _)) Tryz.func230 rfl rfl (λ_ _=>none) (λ_=>by kernel_rfl) (by decide) ?_
 rintro⟨x,⟨⟩⟩ h
 revert x
 intro(x:Int) (h:lil x)
 refine @qd1 _ ((decide (x<(0:Int))=true->fits IntKind.u64 x/\fits IntKind.u64 ((0:Int)-x)/\(0:Int)-x=x)/\(decide (x<(0:Int))=false->fits IntKind.u64 x/\x=x)) (by kernel_rfl) ?_
 try simp only[z0,z1,z2,z3,z4,z5,z6,z7,z8,z9,z10,Int.reduceEq,z11,z12,z13,z14,z15,z16,z17,z18,z19,z20,z21,z22,z23,z24,z25,z26,z27,z28,z29,z30,Int.reduceLE,Int.reduceLT,z31,z32,z33,z34,qa1]
 try simp only[qa7,qa8,qb8,z31,z32,z2,z1]
 obtain⟨h0,h1⟩:=h
 exact⟨λhl=>absurd h0 (by omega),λ_=>x50 h0 (by omega)⟩
abbrev ym4:qb7:=qf1 true none [qc8,qc8] [x04] (λx=>lil x.1/\lil x.2.1) (λx=>((0,x.1*x.2.1),()))
theorem w92:Meets Tryz.prog 195 ym4:=by
 refine meets (snd (SpecsOk.cons w5x (SpecsOk.cons w0d (SpecsOk.nil _)))) Tryz.func195 rfl rfl (λ_ _=>none) (λ_=>by kernel_rfl) (by decide) ?_
 rintro⟨x,y,⟨⟩⟩ h
 revert x y
 intro(x:Int) (y:Int) (h:lil x/\lil y)
 refine @qd1 _ (lil x/\lil y/\(lil x/\lil y)/\fits .i64 (0:Ty.den tU64)/\((decide (x<(0:Int)) != decide (y<(0:Int)))=true->False)/\((decide (x<(0:Int)) != decide (y<(0:Int)))=false->(0:Ty.den tU64)=(0:Ty.den (Ty.int .i64))/\x*y=x*y/\True)) (by kernel_rfl) ?_
 try simp only[z0,z1,z2,z3,z4,z5,z6,z7,z8,z9,z10,Int.reduceEq,z11,z12,z13,z14,z15,z16,z17,z18,z19,z20,z21,z22,z23,z24,z25,z26,z27,z28,z29,z30,Int.reduceLE,Int.reduceLT,z31,z32,z33,z34,qa1]
 try simp only[qa7,qa8,qb8,z31,z32,z2,z1]
 have hx:=h.1.1
 have hy:=h.2.1
 refine⟨h.1,h.2,h,qb5 (by decide) (by decide),λhn=>?_⟩
 have e1:decide (x<0)=false:=decide_eq_false (by omega)
 have e2:decide (y<0)=false:=decide_eq_false (by omega)
 rw[e1,e2] at hn
 exact hn rfl
def w6f (a b:Int × Int):Int:=if a.1=b.1/\a.2=b.2 then 0 else if a.1<b.1\/a.1=b.1/\a.2<b.2 then -1 else 1
abbrev x9r:qb7:=qf1 true none [x04,x04] [qc8] (λ_=>True) (λx=>(w6f x.1 x.2.1,()))
theorem w5y:Meets Tryz.prog 197 x9r:=by
 refine meets (snd (SpecsOk.nil _)) Tryz.func197 rfl rfl (λ_ _=>none) (λ_=>by kernel_rfl) (by decide) ?_
 rintro⟨⟨a,b⟩,⟨c,d⟩,⟨⟩⟩ -
 revert a b c d
 intro(a:Int) (b:Int) (c:Int) (d:Int)
 refine @qd1 _ (((a==c && b==d)=true->(0:Int)=w6f (a,b) (c,d))/\((a==c && b==d)=false->(decide (a<c)=true->(-1:Int)=w6f (a,b) (c,d))/\(decide (a<c)=false->((a==c)=true->(decide (b<d)=true->(-1:Int)=w6f (a,b) (c,d))/\(decide (b<d)=false->(1:Int)=w6f (a,b) (c,d)))/\((a==c)=false->(1:Int)=w6f (a,b) (c,d))))) (by kernel_rfl) ?_
 try simp only[z0,z1,z2,z3,z4,z5,z6,z7,z8,z9,z10,Int.reduceEq,z11,z12,z13,z14,z15,z16,z17,z18,z19,z20,z21,z22,z23,z24,z25,z26,z27,z28,z29,z30,Int.reduceLE,Int.reduceLT,z31,z32,z33,z34,qa1]
 try simp only[qa7,qa8,qb8,z31,z32,z2,z1]
 rw[Bool.and_eq_true,beq_iff_eq,beq_iff_eq,Bool.eq_false_iff,ne_eq,Bool.and_eq_true,beq_iff_eq,beq_iff_eq]
 unfold w6f
 dsimp only
 refine⟨λh=>(if_pos h).symm,λh=>?_⟩
 rw[if_neg h]
 refine⟨λh1=>(if_pos (.inl h1)).symm,λh1=>⟨λh2=>⟨λh3=>(if_pos (.inr ⟨h2,h3⟩)).symm,λh3=>(if_neg (by omega)).symm⟩,λh2=>(if_neg (by omega)).symm⟩⟩
def wj7 (a b:Int × Int):Int:=if a.1*b.2=b.1*a.2 then 0 else if a.1*b.2<b.1*a.2 then -1 else 1
structure q0f (a:Int × Int):Prop where
 n:lil a.1
 d:lil a.2
 pos:1<=a.2
abbrev x44:qb7:=qf1 true none [q0e,q0e] [qc8] (λx=>q0f x.1/\q0f x.2.1) (λx=>(wj7 x.1 x.2.1,()))
theorem w5z:Meets Tryz.prog 246 x44:=by
 refine meets (snd (SpecsOk.cons w92 (SpecsOk.cons w5y (SpecsOk.nil _)))) Tryz.func246 rfl rfl (λ_ _=>none) (λ_=>by kernel_rfl) (by decide) ?_
 rintro⟨⟨a,b⟩,⟨c,d⟩,⟨⟩⟩ h
 revert a b c d
 intro(a:Int) (b:Int) (c:Int) (d:Int) (h:q0f (a,b)/\q0f (c,d))
 refine @qd1 _ ((decide (b<(1:Int))=true->(decide (d<(1:Int))=true->(lil a/\lil (1:Int))/\(lil c/\lil (1:Int))/\True/\w6f ((0:Ty.den (Ty.int .i64)),a*(1:Int)) ((0:Ty.den (Ty.int .i64)),c*(1:Int))=wj7 (a,b) (c,d))/\(decide (d<(1:Int))=false->(lil a/\lil d)/\(lil c/\lil (1:Int))/\True/\w6f ((0:Ty.den (Ty.int .i64)),a*d) ((0:Ty.den (Ty.int .i64)),c*(1:Int))=wj7 (a,b) (c,d)))/\(decide (b<(1:Int))=false->(decide (d<(1:Int))=true->(lil a/\lil (1:Int))/\(lil c/\lil b)/\True/\w6f ((0:Ty.den (Ty.int .i64)),a*(1:Int)) ((0:Ty.den (Ty.int .i64)),c*b)=wj7 (a,b) (c,d))/\(decide (d<(1:Int))=false->(lil a/\lil d)/\(lil c/\lil b)/\True/\w6f ((0:Ty.den (Ty.int .i64)),a*d) ((0:Ty.den (Ty.int .i64)),c*b)=wj7 (a,b) (c,d)))) (by kernel_rfl) ?_
 try simp only[z0,z1,z2,z3,z4,z5,z6,z7,z8,z9,z10,Int.reduceEq,z11,z12,z13,z14,z15,z16,z17,z18,z19,z20,z21,z22,z23,z24,z25,z26,z27,z28,z29,z30,Int.reduceLE,Int.reduceLT,z31,z32,z33,z34,qa1]
 try simp only[qa7,qa8,qb8,z31,z32,z2,z1]
 obtain⟨⟨h1,h2,h3⟩,⟨h4,h5,h6⟩⟩:=h
 dsimp only at h1 h2 h3 h4 h5 h6
 refine⟨λq=>absurd h3 (by omega),λ_=>⟨λq=>absurd h6 (by omega),λ_=>⟨⟨h1,h5⟩,⟨h4,h2⟩,?_⟩⟩⟩
 unfold w6f wj7
 simp
theorem w50:Meets Tryz.prog 227 x44:=by
 refine meets (snd (SpecsOk.cons w5z (SpecsOk.nil _))) Tryz.func227 rfl rfl (λ_ _=>none) (λ_=>by kernel_rfl) (by decide) ?_
 rintro⟨⟨a,b⟩,⟨c,d⟩,⟨⟩⟩ h
 revert a b c d
 intro(a:Int) (b:Int) (c:Int) (d:Int) (h:q0f (a,b)/\q0f (c,d))
 refine @qd1 _ ((q0f (a,b)/\q0f (c,d))/\wj7 (a,b) (c,d)=wj7 (a,b) (c,d)) (by kernel_rfl) ?_
 try simp only[z0,z1,z2,z3,z4,z5,z6,z7,z8,z9,z10,Int.reduceEq,z11,z12,z13,z14,z15,z16,z17,z18,z19,z20,z21,z22,z23,z24,z25,z26,z27,z28,z29,z30,Int.reduceLE,Int.reduceLT,z31,z32,z33,z34,qa1]
 try simp only[qa7,qa8,qb8,z31,z32,z2,z1]
 exact h
end Go.Proofs.YtmijnbjlhnpokaaGreat
