/- Streams: pictures, changes, frames; contracts by the engine. No condition. -/
import Derived.Test.YtmijnbjlhnpokaaGreatV25
import Derived.Test.YtmijnbjlhnpokaaGreatBld
import Derived.Test.YtmijnbjlhnpokaaGreatV7
import Derived.Test.YtmijnbjlhnpokaaGreatEng3
import Derived.Test.YtmijnbjlhnpokaaGreatV18
import Derived.Test.YtmijnbjlhnpokaaGreatV22
set_option linter.unusedVariables false
set_option linter.unusedSimpArgs false
namespace Go.Proofs.YtmijnbjlhnpokaaGreat
open Go Go.RowKit Eng
abbrev x4o:qb4:=wl1 false none [tQ,qd0] (λ_=>True) (λx=>.clo 214 (.cons (.imm (.cons (.lit (.int .i64 x.2.1)) .nil) 0) (.cons (.imm (.cons (.dat (.list (.int .i64)) x.1.1) (.cons (.dat (.int .i64) x.1.2) .nil)) 0) .nil)))
theorem wx9:Meets Tryz.prog 159 x4o:=by
 refine q45 (snd (SpecsOk.nil _)) Tryz.func159 rfl rfl (λ_ _=>none) (λ_=>by kernel_rfl) (by decide) ?_
 rintro⟨q,k,⟨⟩⟩ -
 revert q k
 intro(q:List (List Int) × List Int) (k:Int)
 refine @qd1 _ (((k=k/\True)/\(0:Nat)=(0:Nat))/\((q.1=q.1/\q.2=q.2/\True)/\(0:Nat)=(0:Nat))/\True) (by kernel_rfl) ?_
 try simp only[z0,z1,z2,z3,z4,z5,z6,z7,z8,z9,z10,Int.reduceEq,z11,z12,z13,z14,z15,z16,z17,z18,z19,z20,z21,z22,z23,z24,z25,z26,z27,z28,z29,z30,Int.reduceLE,Int.reduceLT,z31,z32,z33,z34,qa1]
 try simp only[qa7,qa8,qb5,z31,z32,z2,z1]
structure w1x (m:List (List Int)) (y:List Int) (k:Int):Prop where
 pre:we3 m y k
 len:(q2r m y k).length<=1000000
open Go Go.Proofs Go.RowKit Eng Ls
def textF (m:List (List Int)) (f:Flt):ByteArray:=w5r (qh1 m f)
abbrev nFt (l:List Flt) (k:Nat):Flt:=l.getD k (0,0,0)
def q3u (m:List (List Int)) (L:List Flt):Nat->List (ByteArray × Bool)
 | 0=>[]
 | k+1=>q5f (q3u m L k) (textF m (nFt L k)) true
def x9d (m:List (List Int)) (L:List Flt) (k:Nat):Bool:=(q38 (q3u m L k) (textF m (nFt L k))).getD false
def wp1 (m:List (List Int)) (L:List Flt):Nat->List Flt
 | 0=>[]
 | k+1=>wp1 m L k++if x9d m L k then[] else[nFt L k]
theorem w1y (m:List (List Int)) (L:List Flt):∀k,(wp1 m L k).length<=k
 | 0=>Nat.le_refl _
 | k+1=>by
  have:=w1y m L k
  rw[wp1,List.length_append]
  split <;> simp <;> omega
theorem w1z (m:List (List Int)) (k i:Nat):∀j,(q49 m k i j).length<=j
 | 0=>Nat.le_refl _
 | j+1=>by
  have:=w1z m k i j
  rw[q49,List.length_append]
  split <;> simp <;> omega
theorem w11 {m:List (List Int)} (h:Mk m) (k:Nat):∀i,(q33 m k i).length<=i*10
 | 0=>Nat.zero_le _
 | i+1=>by
  have h1:=w11 h k i
  have h2:=w1z m k i (nL m 0).length
  have h3:=h.pix10
  rw[q33,List.length_append]; omega
theorem xk9 {m:List (List Int)} (h:Mk m):(qk4 m 4).length<=240:=by
 have h1:=h.rows6
 have g:=λk=>w11 h k m.length
 have g0:=g 0
 have g1:=g 1
 have g2:=g 2
 have g3:=g 3
 simp only[qk4,List.length_append,List.length_nil]
 omega
theorem w13 {m:List (List Int)} {k i:Nat} {f:Flt}:∀j,f∈q49 m k i j->fvB m f=true
 | 0,h=>by cases h
 | j+1,h=>by
  rw[q49] at h
  rcases List.mem_append.1 h with h | h
  ·exact w13 j h
  ·split at h
   ·rename_i hv; rw[List.mem_singleton.1 h]; exact hv
   ·cases h
theorem w14 {m:List (List Int)} {k:Nat} {f:Flt}:∀i,f∈q33 m k i->fvB m f=true
 | 0,h=>by cases h
 | i+1,h=>by
  rw[q33] at h
  rcases List.mem_append.1 h with h | h
  ·exact w14 i h
  ·exact w13 _ h
theorem w15 {m:List (List Int)} {f:Flt}:∀k,f∈qk4 m k->fvB m f=true
 | 0,h=>by cases h
 | k+1,h=>by
  rw[qk4] at h
  rcases List.mem_append.1 h with h | h
  ·exact w15 k h
  ·exact w14 _ h
abbrev sAl:qb4:=qf2 true (some 25) [qf3] [.list qj4] (λx=>qb9 x.1=true) (λx=>(wp1 x.1 (qk4 x.1 4) (qk4 x.1 4).length,()))
def x9e (m:List (List Int)) (k:Nat):List AObj:=[.box 23 (.cons (.dat (.list (.int .i64)) m) .nil),.box 79 (.cons (.own 4) .nil),.mp .bool (q3u m (qk4 m 4) k),.box 189 (.cons (.own 2) .nil),.vec 25 qj4 (wp1 m (qk4 m 4) k)]
def ym3 (m:List (List Int)):Nat->Option Inv
 | 0=>some (Inv.of [] 5 (λ_=>[]) (λc:Nat=>x9e m c) (λc=>c<=(qk4 m 4).length) (λc=>c))
 | _=>none
theorem xl0:Meets Tryz.prog 102 sAl:=by
 refine meets (x70 (SpecsOk.cons w4w (SpecsOk.cons q7i (SpecsOk.cons wo8 (SpecsOk.nil _)))) (ItsOk.cons xk4 ItsOk.nil)) Tryz.func102 rfl rfl (λx=>ym3 x.1) (λ_=>by kernel_rfl) (by decide) ?_
 rintro⟨m,⟨⟩⟩ h
 revert m
 intro(m:List (List Int)) (h:qb9 m=true)
 refine @qd1 _ (True/\qb9 m=true/\∃(v0:Unit),∃(v1:Nat),Nat.le v1 (qk4 m (4:Nat)).length/\v1=(0:Nat)/\((m=m/\True)/\(True/\True)/\[]=q3u m (qk4 m (4:Nat)) v1/\(True/\True)/\wp1 m (qk4 m (4:Nat)) v1=[]/\True)/\∀(v2:Nat),Nat.le v2 (qk4 m (4:Nat)).length->(∀(v4:(Int × Int × Int) × qa4._f [] PUnit.unit),(List.map fA (qk4 m (4:Nat)))[v2]?=some v4->FltPre m (v4.1.1,v4.1.2.1,v4.1.2.2)/\True/\((!Option.getD (q38 (q3u m (qk4 m (4:Nat)) v2) (w5r (q1t (Ty.int .i64) (qh1 m (v4.1.1,v4.1.2.1,v4.1.2.2)) none))) (Ty.dflt Ty.bool))=true->((0:Nat)<List.length [(v4.1.1,v4.1.2.1,v4.1.2.2)]/\Nat.le ((wp1 m (qk4 m (4:Nat)) v2).length+List.length [(v4.1.1,v4.1.2.1,v4.1.2.2)]) (1000000:Nat))/\∃(v7:Nat),Nat.le v7 (qk4 m (4:Nat)).length/\v7=v2+(1:Nat)/\(m=m/\True)/\(True/\True)/\q5f (q3u m (qk4 m (4:Nat)) v2) (w5r (q1t (Ty.int .i64) (qh1 m (v4.1.1,v4.1.2.1,v4.1.2.2)) none)) true=q3u m (qk4 m (4:Nat)) v7/\(True/\True)/\wp1 m (qk4 m (4:Nat)) v2++[(v4.1.1,v4.1.2.1,v4.1.2.2)]=wp1 m (qk4 m (4:Nat)) v7/\True)/\((!Option.getD (q38 (q3u m (qk4 m (4:Nat)) v2) (w5r (q1t (Ty.int .i64) (qh1 m (v4.1.1,v4.1.2.1,v4.1.2.2)) none))) (Ty.dflt Ty.bool))=false->∃(v7:Nat),Nat.le v7 (qk4 m (4:Nat)).length/\v7=v2+(1:Nat)/\(m=m/\True)/\(True/\True)/\q5f (q3u m (qk4 m (4:Nat)) v2) (w5r (q1t (Ty.int .i64) (qh1 m (v4.1.1,v4.1.2.1,v4.1.2.2)) none)) true=q3u m (qk4 m (4:Nat)) v7/\(True/\True)/\wp1 m (qk4 m (4:Nat)) v2=wp1 m (qk4 m (4:Nat)) v7/\True))/\(v2=(List.map fA (qk4 m (4:Nat))).length->wp1 m (qk4 m (4:Nat)) v2=wp1 m (qk4 m (4:Nat)) (qk4 m (4:Nat)).length)) (by kernel_rfl) ?_
 try simp only[z0,z1,z2,z3,z4,z5,z6,z7,z8,z9,z10,Int.reduceEq,z11,z12,z13,z14,z15,z16,z17,z18,z19,z20,z21,z22,z23,z24,z25,z26,z27,z28,z29,z30,Int.reduceLE,Int.reduceLT,z31,z32,z33,z34,qa1]
 try simp only[qa7,qa8,qb5,z31,z32,z2,z1]
 have hM:=Mk.of h
 have hle:=xk9 hM
 refine⟨h,(),0,Nat.zero_le _,rfl,⟨rfl,rfl⟩,λk hk=>⟨?_,λe=>?_⟩⟩
 ·rintro⟨⟨kd,r,p⟩,⟨⟩⟩ hf
  rw[List.getElem?_map] at hf
  obtain⟨f',h1,h2⟩:=Option.map_eq_some_iff.1 hf
  obtain rfl:f'=(kd,r,p):=congrArg Prod.fst h2
  have hlt:=(List.getElem?_eq_some_iff.1 h1).1
  have hn:nFt (qk4 m 4) k=(kd,r,p):=by unfold nFt; rw[List.getD_eq_getElem?_getD,h1]; rfl
  have hv:fvB m (kd,r,p)=true:=w15 4 (List.mem_of_getElem? h1)
  have hlen:=w1y m (qk4 m 4) k
  have e1:x9d m (qk4 m 4) k=(q38 (q3u m (qk4 m 4) k) (w5r (qh1 m (kd,r,p)))).getD false:=by unfold x9d textF; rw[hn]
  have e2:q5f (q3u m (qk4 m 4) k) (w5r (qh1 m (kd,r,p))) true=q3u m (qk4 m 4) (k+1):=by rw[q3u,textF,hn]
  refine⟨⟨h,hv⟩,λhb=>⟨by omega,k+1,hlt,rfl,e2,?_⟩,λhb=>⟨k+1,hlt,rfl,e2,?_⟩⟩
  ·rw[wp1,if_neg (by rw[e1]; exact ne_true_of_eq_false hb),hn]
  ·rw[wp1,if_pos (e1.trans hb),List.append_nil]
 ·rw[List.length_map] at e; rw[e]
def xr9 (m:List (List Int)):List Flt × Int:=if qb9 m then(wp1 m (qk4 m 4) (qk4 m 4).length,0) else([],1)
abbrev x9g:qb4:=qf2 false none [qf3] [.list qj4,qd0] (λ_=>True) (λx=>((xr9 x.1).1,(xr9 x.1).2,()))
theorem w42:Meets Tryz.prog 52 x9g:=by
 refine meets (snd (SpecsOk.cons qq1 (SpecsOk.cons xl0 (SpecsOk.nil _)))) Tryz.func52 rfl rfl (λ_ _=>none) (λ_=>by kernel_rfl) (by decide) ?_
 rintro⟨m,⟨⟩⟩ -
 revert m
 intro(m:List (List Int))
 refine @qd1 _ (True/\((!qb9 m)=true->(xr9 m).1=[]/\(1:Int)=(xr9 m).2/\True)/\((!qb9 m)=false->qb9 m=true/\wp1 m (qk4 m (4:Nat)) (qk4 m (4:Nat)).length=(xr9 m).1/\(0:Int)=(xr9 m).2/\True)) (by kernel_rfl) ?_
 try simp only[z0,z1,z2,z3,z4,z5,z6,z7,z8,z9,z10,Int.reduceEq,z11,z12,z13,z14,z15,z16,z17,z18,z19,z20,z21,z22,z23,z24,z25,z26,z27,z28,z29,z30,Int.reduceLE,Int.reduceLT,z31,z32,z33,z34,qa1]
 try simp only[qa7,qa8,qb5,z31,z32,z2,z1]
 exact⟨λh=>by simp[xr9,h],λh=>⟨h,by simp[xr9,h]⟩⟩
open Go Go.RowKit Ls Eng
theorem own_blk {w:World} {B e n:Nat} {A:Option Addr} {c:Nat} {xs:List Value} (h:w.ownsRow B e 1 (.slice A n c) n xs):∀ad,A=some ad->B<=ad.block:=by
 intro ad e1
 rcases h.2 with⟨h,_⟩ | ⟨g,cap,cur,h,hb,_⟩
 ·rw[e1] at h; cases h
 ·rw[e1] at h; cases h; exact hb
abbrev x0j:qb4:=qf2 true none [.list (.int .i64)] [.list (.int .i64)] (λx=>x.1.length<=100000) (λx=>(x.1,()))
theorem wp2:Meets Tryz.prog 105 x0j:=w1m ⟨_,_,Tryz.func105,rfl,rfl⟩ λw m x vs hm hp hx=>by
 obtain⟨l,⟨⟩⟩:=x
 obtain⟨u,us,rfl,h1,h2⟩:=hx
 obtain rfl:us=[]:=h2
 obtain⟨A,c,rfl,hSI⟩:=xh7 hm (show Rd m (.list (.int .i64)) l [u] from h1)
 refine(clone_any A l.length c l w hSI hp).mono λe w' ⟨A',c',e1,e2,e3⟩=>⟨_,e1,e3,[_],rfl,_,_,rfl,?_,rfl⟩
 exact xh8 (wh3 e2) (own_blk e2)
set_option maxRecDepth 100000 in
set_option maxHeartbeats 400000 in
theorem clone_nil (w:World):Calls Tryz.prog 105 #[.slice none 0 0] w λe w'=>e=.returned (.slice none 0 0)/\Below w.heap.size w w':=by
 have hq:=λw=>Lib.run_eql_slice_nil (P:=Tryz.prog) w 34 3 none 0 0 0 0 Tryz.underlying34
 go_enter Tryz.func105,Tryz.ntmps105
 go_wp2
 go_ret
 exact⟨rfl,Below.refl _ _⟩
abbrev x0k:qb4:=qf2 true none [.nlist (.int .i64)] [.nlist (.int .i64)] (λx=>x.1.length<=100000) (λx=>(x.1,()))
theorem wp3:Meets Tryz.prog 105 x0k:=w1m ⟨_,_,Tryz.func105,rfl,rfl⟩ λw m x vs hm hp hx=>by
 obtain⟨l,⟨⟩⟩:=x
 obtain⟨u,us,rfl,h1,h2⟩:=hx
 obtain rfl:us=[]:=h2
 have h1:Rd m (.nlist (.int .i64)) l [u]:=h1
 obtain⟨h3,h4⟩:=h1
 by_cases h0:(l:List Int).length=0
 ·obtain rfl:l=[]:=List.eq_nil_of_length_eq_zero h0
  obtain rfl:u=.slice none 0 0:=(List.cons.inj (h4 rfl)).1
  refine(clone_nil w).mono λe w' ⟨e1,e2⟩=>⟨_,e1,e2,[_],rfl,_,_,rfl,⟨⟨none,0,rfl,Nat.le_refl _,by unfold maxLen; omega,λh=>absurd h (Nat.lt_irrefl _)⟩,λ_=>rfl⟩,rfl⟩
 ·obtain⟨A,c,rfl,hSI⟩:=xh7 hm (show Rd m (.list (.int .i64)) l [u] from h3)
  refine(clone_any A _ c l w hSI hp).mono λe w' ⟨A',c',e1,e2,e3⟩=>⟨_,e1,e3,[_],rfl,_,_,rfl,⟨?_,λh=>absurd h h0⟩,rfl⟩
  exact xh8 (wh3 e2) (own_blk e2)
theorem x4p {R:Type} (b:Bool) (x y:R):Det (λk:R->Prop=>(b=true->k x)/\(b=false->k y)):=λk H=>by
 cases b with
 | true=>exact⟨x,H.1 rfl,λk' h=>⟨λ_=>h,λe=>by cases e⟩⟩
 | false=>exact⟨y,H.2 rfl,λk' h=>⟨λe=>(by cases e),λ_=>h⟩⟩
abbrev x0l:qb4:=
 {fresh:=true,own:=some 3,run:=λargs k=>qg2 [.nlist (.int .i64)] args λx=>need (x.1.length<=100000) λ_=>(x.1.isEmpty=true->k (.lit (.slice none 0 0)))/\(x.1.isEmpty=false->k (.dat (.int .i64) x.1)),
  one:=λargs k h=>(qd7 (qn6 [.nlist (.int .i64)] args) λx=>qg6 (x4p x.1.isEmpty _ _)) k h }
theorem wp4:Meets Tryz.prog 105 x0l:=by
 refine⟨⟨_,_,Tryz.func105,rfl,rfl⟩,λw m args vs k hm hargs hrun=>?_⟩
 obtain⟨⟨l,⟨⟩⟩,⟨hp,hk⟩,hx⟩:=qj6 hrun hargs
 have hp:l.length<=100000:=hp
 have hk:(l.isEmpty=true->k (.lit (.slice none 0 0)))/\(l.isEmpty=false->k (.dat (.int .i64) l)):=hk
 obtain⟨u,us,rfl,h1,h2⟩:=hx
 obtain rfl:us=[]:=h2
 have h1:Rd m (.nlist (.int .i64)) l [u]:=h1
 obtain⟨h3,h4⟩:=h1
 by_cases h0:(l:List Int).length=0
 ·obtain rfl:l=[]:=List.eq_nil_of_length_eq_zero h0
  obtain rfl:u=.slice none 0 0:=(List.cons.inj (h4 rfl)).1
  refine(clone_nil w).mono λe w' ⟨e1,e2⟩=>?_
  exact⟨_,λ_=>none,e1,e2,(λb o h=>by cases h),(λb o h=>by cases h),.inr (.inl ⟨hk.1 rfl,rfl⟩)⟩
 ·obtain⟨A,c,rfl,hSI⟩:=xh7 hm (show Rd m (.list (.int .i64)) l [u] from h3)
  refine(clone_any A l.length c l w hSI hp).mono λe w' ⟨A',c',e1,e2,e3⟩=>?_
  have he:l.isEmpty=false:=by cases l with
   | nil=>exact absurd rfl h0
   | cons x l=>rfl
  exact⟨_,λ_=>none,e1,e3,(λb o h=>by cases h),(λb o h=>by cases h),.inl ⟨.int .i64,l,ints l,hk.2 he,e2,rdL_ints _ l,λ_ _=>rfl⟩⟩
abbrev qk9:Ty:=.prod .bool (.list (.int .i64))
abbrev Frm:=Bool × List Int
theorem qs6:Meets Tryz.prog 57 wc7:=by
 refine meets (snd (SpecsOk.nil _)) Tryz.func57 rfl rfl (λ_ _=>none) (λ_=>by kernel_rfl) (by decide) ?_
 rintro⟨n,lo,hi,⟨⟩⟩ -
 revert n lo hi
 intro(n:Int) (lo:Int) (hi:Int)
 refine @qd1 _ ((decide (lo<=n)=true->decide (n<=hi)=inB n lo hi)/\(decide (lo<=n)=false->false=inB n lo hi)) (by kernel_rfl) ?_
 try simp only[z0,z1,z2,z3,z4,z5,z6,z7,z8,z9,z10,Int.reduceEq,z11,z12,z13,z14,z15,z16,z17,z18,z19,z20,z21,z22,z23,z24,z25,z26,z27,z28,z29,z30,Int.reduceLE,Int.reduceLT,z31,z32,z33,z34,qa1]
 try simp only[qa7,qa8,qb5,z31,z32,z2,z1]
 constructor
 ·intro h1
  simp[inB,h1]
 ·intro h1
  have:¬lo<=n:=by omega
  simp[inB,this]
def x1w (n:Int):Bool:=inB n (0-1000) 1000
abbrev yg1:qb4:=qf2 true none [qd0] [.bool] (λ_=>True) (λx=>(!x1w x.1,()))
theorem w89:Meets Tryz.prog 171 yg1:=by
 refine meets (snd (SpecsOk.cons qs6 (SpecsOk.nil _))) Tryz.func171 rfl rfl (λ_ _=>none) (λ_=>by kernel_rfl) (by decide) ?_
 rintro⟨n,⟨⟩⟩ -
 revert n
 intro(n:Int)
 refine @qd1 _ (True/\(!inB n (-1000:Int) (1000:Int))=!x1w n) (by kernel_rfl) ?_
 try simp only[z0,z1,z2,z3,z4,z5,z6,z7,z8,z9,z10,Int.reduceEq,z11,z12,z13,z14,z15,z16,z17,z18,z19,z20,z21,z22,z23,z24,z25,z26,z27,z28,z29,z30,Int.reduceLE,Int.reduceLT,z31,z32,z33,z34,qa1]
 try simp only[qa7,qa8,qb5,z31,z32,z2,z1]
 exact(Bool.not_not _).symm
def q1x (m:List (List Int)) (x:List Int):Bool:=decide (x.length=(nL m 0).length) && x.all x1w
abbrev ym4:qb4:=qf2 true none [qf3,qe8] [.bool] (λx=>qb9 x.1=true) (λx=>(q1x x.1 x.2.1,()))
theorem wp5:Meets Tryz.prog 109 ym4:=by
 refine meets (snd (SpecsOk.cons (q3l (fs:=[(171,yg1)]) (SpecsOk.cons w89 (SpecsOk.nil _))) (SpecsOk.nil _))) Tryz.func109 rfl rfl (λ_ _=>none) (λ_=>by kernel_rfl) (by decide) ?_
 rintro⟨m,x,⟨⟩⟩ h
 revert m x
 intro(m:List (List Int)) (x:List Int) (h:qb9 m=true)
 refine @qd1 _ (((0:Int)<=(0:Int)/\(0:Int)<(↑m.length:Int))/\(((↑x.length:Int)==(↑(nL m (0:Nat)).length:Int))=true->∃(v1:qa4 [Ty.int .i64]->Prop),∃(v2:qa4 [Ty.int .i64]->Bool),(∀(v3:Int × qa4._f [] PUnit.unit),v1 v3->True/\(!x1w v3.1)=v2 v3)/\(x.length<=(1000000:Nat)/\∀(v3:Nat),v3<x.length->v1 (nI x v3,()))/\(!List.any x λ(v3:Int)=>v2 (v3,()))=q1x m x)/\(((↑x.length:Int)==(↑(nL m (0:Nat)).length:Int))=false->false=q1x m x)) (by kernel_rfl) ?_
 try simp only[z0,z1,z2,z3,z4,z5,z6,z7,z8,z9,z10,Int.reduceEq,z11,z12,z13,z14,z15,z16,z17,z18,z19,z20,z21,z22,z23,z24,z25,z26,z27,z28,z29,z30,Int.reduceLE,Int.reduceLT,z31,z32,z33,z34,qa1]
 try simp only[qa7,qa8,qb5,z31,z32,z2,z1]
 refine⟨by have:=(Mk.of h).rows1; omega,λhl=>⟨λ_=>True,λx=>!x1w x.1,λ_ _=>(Bool.not_not _).symm,⟨by have:=(Mk.of h).pix10; omega,λ_ _=>trivial⟩,?_⟩,λhl=>?_⟩
 ·unfold q1x; rw[decide_eq_true (show x.length=(nL m 0).length by omega)]; simp[List.not_all_eq_any_not]
 ·unfold q1x; rw[decide_eq_false (show ¬x.length=(nL m 0).length by omega)]; rfl
abbrev yg2:qb4:=hspec [] true none [.d qe8,.cap qf3] [.bool] (λx=>qb9 x.2.1=true) (λx=>(!q1x x.2.1 x.1,()))
theorem w9a:Meets Tryz.prog 108 yg2:=by
 refine qk0 (SpecsOk.nil _) (snd (SpecsOk.cons wp5 (SpecsOk.nil _))) Tryz.func108 rfl rfl (λ_ _=>none) (λ_=>by kernel_rfl) (by decide) ?_
 rintro⟨x,m,⟨⟩⟩ h
 revert x m
 intro(x:List Int) (m:List (List Int)) (h:qb9 m=true)
 refine @qd1 _ (qb9 m=true/\(!q1x m x)=!q1x m x) (by kernel_rfl) ?_
 try simp only[z0,z1,z2,z3,z4,z5,z6,z7,z8,z9,z10,Int.reduceEq,z11,z12,z13,z14,z15,z16,z17,z18,z19,z20,z21,z22,z23,z24,z25,z26,z27,z28,z29,z30,Int.reduceLE,Int.reduceLT,z31,z32,z33,z34,qa1]
 try simp only[qa7,qa8,qb5,z31,z32,z2,z1]
 exact h
def vpB (m p:List (List Int)):Bool:=qb9 m && inB p.length 1 60 && p.all (q1x m)
abbrev sVP:qb4:=qf2 true none [qf3,qf3] [.bool] (λ_=>True) (λx=>(vpB x.1 x.2.1,()))
theorem we4:Meets Tryz.prog 56 sVP:=by
 refine meets (snd (SpecsOk.cons qq1 (SpecsOk.cons qs6 (SpecsOk.cons (wm1 (fs:=[(108,yg2)]) (SpecsOk.cons w9a (SpecsOk.nil _))) (SpecsOk.nil _))))) Tryz.func56 rfl rfl (λ_ _=>none) (λ_=>by kernel_rfl) (by decide) ?_
 rintro⟨m,p,⟨⟩⟩ -
 revert m p
 intro(m:List (List Int)) (p:List (List Int))
 refine @qd1 _ (True/\(qb9 m=true->True/\(inB (↑p.length:Int) (1:Int) (60:Int)=true->∃(v2:qa4 [Ty.list (Ty.int .i64)]->Prop),∃(v3:qa4 [Ty.list (Ty.int .i64)]->Bool),(∀(v4:List Int × qa4._f [] PUnit.unit),v2 v4->qb9 m=true/\(!q1x m v4.1)=v3 v4)/\(p.length<=(1000000:Nat)/\∀(v4:Nat),v4<p.length->v2 (nL p v4,()))/\(!List.any p λ(v4:List Int)=>v3 (v4,()))=vpB m p)/\(inB (↑p.length:Int) (1:Int) (60:Int)=false->false=vpB m p))/\(qb9 m=false->false=vpB m p)) (by kernel_rfl) ?_
 try simp only[z0,z1,z2,z3,z4,z5,z6,z7,z8,z9,z10,Int.reduceEq,z11,z12,z13,z14,z15,z16,z17,z18,z19,z20,z21,z22,z23,z24,z25,z26,z27,z28,z29,z30,Int.reduceLE,Int.reduceLT,z31,z32,z33,z34,qa1]
 try simp only[qa7,qa8,qb5,z31,z32,z2,z1]
 refine⟨λhv=>⟨λhl=>⟨λ_=>True,λx=>!q1x m x.1,λ_ _=>⟨hv,(Bool.not_not _).symm⟩,⟨by have:=qh6.1 hl; omega,λ_ _=>trivial⟩,?_⟩,λhl=>?_⟩,λhv=>?_⟩
 ·unfold vpB; rw[hv,hl]; simp[List.not_all_eq_any_not]
 ·unfold vpB; rw[hl,hv]; rfl
 ·unfold vpB; rw[hv]; rfl
def q7m (a b:List Int) (k:Nat):List Int:=(List.range k).map λi=>nI b i-nI a i
def q2w (a b:List Int):List Int:=q7m a b b.length
structure wp6 (a b:List Int):Prop where
 le:b.length<=a.length
 len:b.length<=1000
 ba:∀i,i<b.length->qf0 100000 (nI a i)
 bb:∀i,i<b.length->qf0 100000 (nI b i)
theorem q3v (a b:List Int) (k:Nat):(q7m a b k).length=k:=by simp[q7m]
abbrev ym5:qb4:=qf2 true (some 3) [qe8,qe8] [qe8] (λx=>wp6 x.1 x.2.1) (λx=>(q2w x.1 x.2.1,()))
def x9h (a b:List Int):Nat->Option Inv
 | 0=>some (Inv.of [5,10] 1 (λk:Nat=>[(5,.own 0),(10,.lit (.int .i64 k))]) (λk=>[.vec 3 (.int .i64) (q7m a b k)]) (λk=>k<=b.length) (λk=>b.length-k))
 | _=>none
theorem wp7:Meets Tryz.prog 59 ym5:=by
 refine meets (snd (SpecsOk.nil _)) Tryz.func59 rfl rfl (λx=>x9h x.1 x.2.1) (λ_=>by kernel_rfl) (by decide) ?_
 rintro⟨a,b,⟨⟩⟩ h
 revert a b
 intro(a:List Int) (b:List Int) (h:wp6 a b)
 refine @qd1 _ (∃(v0:Unit),∃(v1:Nat),Nat.le v1 b.length/\((True/\(0:Int)=(↑v1:Int)/\True)/\q7m a b v1=[]/\True)/\∀(v2:Nat),Nat.le v2 b.length->(decide ((↑v2:Int)<(↑b.length:Int))=true->((0:Int)<=(↑v2:Int)/\(↑v2:Int)<(↑b.length:Int))/\((0:Int)<=(↑v2:Int)/\(↑v2:Int)<(↑a.length:Int))/\fits .i64 (nI b v2-nI a v2)/\((0:Nat)<List.length [nI b v2-nI a v2]/\Nat.le ((q7m a b v2).length+List.length [nI b v2-nI a v2]) (1000000:Nat))/\fits .i64 ((↑v2:Int)+(1:Int))/\∃(v5:Nat),Nat.le v5 b.length/\b.length-v5<b.length-v2/\(True/\(↑v2:Int)+(1:Int)=(↑v5:Int)/\True)/\q7m a b v2++[nI b v2-nI a v2]=q7m a b v5/\True)/\(decide ((↑v2:Int)<(↑b.length:Int))=false->q7m a b v2=q2w a b)) (by kernel_rfl) ?_
 try simp only[z0,z1,z2,z3,z4,z5,z6,z7,z8,z9,z10,Int.reduceEq,z11,z12,z13,z14,z15,z16,z17,z18,z19,z20,z21,z22,z23,z24,z25,z26,z27,z28,z29,z30,Int.reduceLE,Int.reduceLT,z31,z32,z33,z34,qa1]
 try simp only[qa7,qa8,qb5,z31,z32,z2,z1]
 have hl:=h.len
 refine⟨(),0,Nat.zero_le _,⟨rfl,rfl⟩,λk hk=>⟨λhlt=>?_,λhge=>?_⟩⟩
 ·have h1:=h.ba k hlt
  have h2:=h.bb k hlt
  have h3:=h.le
  unfold qf0 at h1 h2
  exact⟨hlt,by omega,qb8 (by omega) (by omega),by rw[q3v]; omega,qb8 (by omega) (by omega),k+1,hlt,by omega,by omega,by simp[q7m,List.range_succ]⟩
 ·obtain rfl:k=b.length:=by omega
  rfl
structure Vp (m p:List (List Int)):Prop where
 msk:Mk m
 val:qb9 m=true
 lo:1<=p.length
 hi:p.length<=60
 len:∀i,i<p.length->(nL p i).length=(nL m 0).length
 bd:∀i,i<p.length->∀j,j<(nL m 0).length->qf0 1000 (nI (nL p i) j)
theorem Vp.of {m p:List (List Int)} (h:vpB m p=true):Vp m p:=by
 unfold vpB at h
 rw[Bool.and_eq_true,Bool.and_eq_true,qh6,List.all_eq_true] at h
 obtain⟨⟨h1,h2⟩,h3⟩:=h
 have h4:∀i,i<p.length->(nL p i).length=(nL m 0).length/\∀n∈nL p i,x1w n=true:=λi hi=>by
  have:=h3 (nL p i) (by rw[qm1 p i hi]; exact List.getElem_mem hi)
  unfold q1x at this
  rw[Bool.and_eq_true,decide_eq_true_eq,List.all_eq_true] at this
  exact this
 refine⟨Mk.of h1,h1,by omega,by omega,λi hi=>(h4 i hi).1,λi hi j hj=>?_⟩
 have h5:=(h4 i hi).2 (nI (nL p i) j) (by rw[qh0 _ j (by rw[(h4 i hi).1]; exact hj)]; exact List.getElem_mem _)
 have h6:=qh6.1 h5
 unfold qf0; omega
theorem Vp.chg {m p:List (List Int)} (h:Vp m p) {i j:Nat} (hi:i<p.length) (hj:j<p.length):wp6 (nL p i) (nL p j):=by
 have h1:=h.len i hi
 have h2:=h.len j hj
 have h3:=h.msk.pix10
 refine⟨by omega,by omega,λk hk=>?_,λk hk=>?_⟩
 ·have:=h.bd i hi k (by omega); unfold qf0 at this ⊢; omega
 ·have:=h.bd j hj k (by omega); unfold qf0 at this ⊢; omega
def q50 (m:List (List Int)) (a b:List Int):List Int × Int:=if vpB m [a,b] then(q2w a b,0) else([],1)
abbrev x9i:qb4:=qf2 false none [qf3,qe8,qe8] [qe8,qd0] (λ_=>True) (λx=>((q50 x.1 x.2.1 x.2.2.1).1,(q50 x.1 x.2.1 x.2.2.1).2,()))
theorem w43:Meets Tryz.prog 13 x9i:=by
 refine meets (snd (SpecsOk.cons we4 (SpecsOk.cons wp7 (SpecsOk.nil _)))) Tryz.func13 rfl rfl (λ_ _=>none) (λ_=>by kernel_rfl) (by decide) ?_
 rintro⟨m,a,b,⟨⟩⟩ -
 revert m a b
 intro(m:List (List Int)) (a:List Int) (b:List Int)
 refine @qd1 _ (let Q0:=q50 m a b; True/\((!vpB m [a,b])=true->Q0.1=[]/\(1:Int)=Q0.2/\True)/\((!vpB m [a,b])=false->wp6 a b/\q2w a b=Q0.1/\(0:Int)=Q0.2/\True)) (by kernel_rfl) ?_
 try simp only[z0,z1,z2,z3,z4,z5,z6,z7,z8,z9,z10,Int.reduceEq,z11,z12,z13,z14,z15,z16,z17,z18,z19,z20,z21,z22,z23,z24,z25,z26,z27,z28,z29,z30,Int.reduceLE,Int.reduceLT,z31,z32,z33,z34,qa1]
 try simp only[qa7,qa8,qb5,z31,z32,z2,z1]
 exact⟨λh=>by simp[q50,h],λh=>⟨(Vp.of h).chg (i:=0) (j:=1) (by simp) (by simp),by simp[q50,h]⟩⟩
def xc7 (m p:List (List Int)) (e:Nat) (i:Nat):Frm:=if i % e=0 then(true,nL p i) else(false,(qs5 m (q2w (nL p (i-1)) (nL p i))).1)
def ql0 (m p:List (List Int)) (e:Nat) (k:Nat):List Frm:=(List.range k).map (xc7 m p e)
structure wp8 (m p:List (List Int)) (e:Int):Prop where
 ok:vpB m p=true
 lo:1<=e
 hi:e<=60
theorem qw9 (m p:List (List Int)) (e k:Nat):(ql0 m p e k).length=k:=by simp[ql0]
abbrev ym6:qb4:=qf2 false none [qf3,qf3,qd0] [.list qk9] (λx=>wp8 x.1 x.2.1 x.2.2.1) (λx=>(ql0 x.1 x.2.1 x.2.2.1.toNat x.2.1.length,()))
def x9j (m p:List (List Int)) (e:Nat):Nat->Option Inv
 | 0=>some (Inv.of [7,13] 1 (λk:Nat=>[(7,.own 0),(13,.lit (.int .i64 k))]) (λk=>[.vec 39 qk9 (ql0 m p e k)]) (λk=>k<=p.length) (λk=>p.length-k))
 | _=>none
theorem wp9:Meets Tryz.prog 58 ym6:=by
 refine meets (snd (SpecsOk.cons wp2 (SpecsOk.cons wp7 (SpecsOk.cons q9u (SpecsOk.nil _))))) Tryz.func58 rfl rfl (λx=>x9j x.1 x.2.1 x.2.2.1.toNat) (λ_=>by kernel_rfl) (by decide) ?_
 rintro⟨m,p,e,⟨⟩⟩ h
 revert m p e
 intro(m:List (List Int)) (p:List (List Int)) (e:Int) (h:wp8 m p e)
 refine @qd1 _ (∃(v0:Unit),∃(v1:Nat),Nat.le v1 p.length/\((True/\(0:Int)=(↑v1:Int)/\True)/\ql0 m p e.toNat v1=[]/\True)/\∀(v2:Nat),Nat.le v2 p.length->(decide ((↑v2:Int)<(↑p.length:Int))=true->((0:Int)<=(↑v2:Int)/\(↑v2:Int)<(↑p.length:Int))/\e≠(0:Int)/\(nL p v2).length<=(100000:Nat)/\((!Int.tmod (↑v2:Int) e==(0:Int))=true->fits .i64 ((↑v2:Int)-(1:Int))/\((0:Int)<=(↑v2:Int)-(1:Int)/\(↑v2:Int)-(1:Int)<(↑p.length:Int))/\wp6 (nL p ((↑v2:Int)-(1:Int)).toNat) (nL p v2)/\(q2w (nL p ((↑v2:Int)-(1:Int)).toNat) (nL p v2)).length<=(1000000:Nat)/\((0:Nat)<List.length [(Int.tmod (↑v2:Int) e==(0:Int),(qs5 m (q2w (nL p ((↑v2:Int)-(1:Int)).toNat) (nL p v2))).1)]/\Nat.le ((ql0 m p e.toNat v2).length+List.length [(Int.tmod (↑v2:Int) e==(0:Int),(qs5 m (q2w (nL p ((↑v2:Int)-(1:Int)).toNat) (nL p v2))).1)]) (1000000:Nat))/\fits .i64 ((↑v2:Int)+(1:Int))/\∃(v6:Nat),Nat.le v6 p.length/\p.length-v6<p.length-v2/\(True/\(↑v2:Int)+(1:Int)=(↑v6:Int)/\True)/\ql0 m p e.toNat v2++[(Int.tmod (↑v2:Int) e==(0:Int),(qs5 m (q2w (nL p ((↑v2:Int)-(1:Int)).toNat) (nL p v2))).1)]=ql0 m p e.toNat v6/\True)/\((!Int.tmod (↑v2:Int) e==(0:Int))=false->((0:Nat)<List.length [(Int.tmod (↑v2:Int) e==(0:Int),nL p v2)]/\Nat.le ((ql0 m p e.toNat v2).length+List.length [(Int.tmod (↑v2:Int) e==(0:Int),nL p v2)]) (1000000:Nat))/\fits .i64 ((↑v2:Int)+(1:Int))/\∃(v6:Nat),Nat.le v6 p.length/\p.length-v6<p.length-v2/\(True/\(↑v2:Int)+(1:Int)=(↑v6:Int)/\True)/\ql0 m p e.toNat v2++[(Int.tmod (↑v2:Int) e==(0:Int),nL p v2)]=ql0 m p e.toNat v6/\True))/\(decide ((↑v2:Int)<(↑p.length:Int))=false->ql0 m p e.toNat v2=ql0 m p e.toNat p.length)) (by kernel_rfl) ?_
 try simp only[z0,z1,z2,z3,z4,z5,z6,z7,z8,z9,z10,Int.reduceEq,z11,z12,z13,z14,z15,z16,z17,z18,z19,z20,z21,z22,z23,z24,z25,z26,z27,z28,z29,z30,Int.reduceLE,Int.reduceLT,z31,z32,z33,z34,qa1]
 try simp only[qa7,qa8,qb5,z31,z32,z2,z1]
 have hv:=Vp.of h.ok
 have p60:=hv.hi
 have lo:=h.lo
 have hi:=h.hi
 refine⟨(),0,Nat.zero_le _,⟨rfl,rfl⟩,λk hk=>⟨λhlt=>?_,λhge=>?_⟩⟩
 ·have hl:=hv.len k hlt
  have p10:=hv.msk.pix10
  have el:=qw9 m p e.toNat k
  have hsn:ql0 m p e.toNat (k+1)=ql0 m p e.toNat k++[xc7 m p e.toNat k]:=by simp[ql0,List.range_succ]
  have htm:(k:Int).tmod e=((k % e.toNat:Nat):Int):=by
   rw[Int.tmod_eq_emod_of_nonneg (by omega)]
   have:(e.toNat:Int)=e:=Int.toNat_of_nonneg (by omega)
   rw[Int.natCast_emod,this]
  rw[htm]
  refine⟨hlt,by omega,by omega,λh0=>?_,λh0=>?_⟩
  ·have hk0:k≠0:=λe0=>h0 (by subst e0; simp)
   have e1:((k:Int)-1).toNat=k-1:=by omega
   have hc:=hv.chg (i:=k-1) (j:=k) (by omega) hlt
   have hcl:(q2w (nL p (k-1)) (nL p k)).length=(nL p k).length:=q3v _ _ _
   rw[e1]
   refine⟨qb8 (by omega) (by omega),⟨by omega,by omega⟩,hc,by omega,by omega,qb8 (by omega) (by omega),k+1,hlt,by omega,by omega,?_⟩
   rw[hsn,xc7,if_neg (λq=>h0 (by rw[q]; rfl))]
   have:(((k % e.toNat:Nat):Int)==0)=false:=by simpa using h0
   rw[this]
  ·refine⟨by omega,qb8 (by omega) (by omega),k+1,hlt,by omega,by omega,?_⟩
   have h1:k % e.toNat=0:=by omega
   rw[hsn,xc7,if_pos h1,h1]
   rfl
 ·obtain rfl:k=p.length:=by omega
  rfl
def encR (m p:List (List Int)) (e:Int):List Frm × Int:=if vpB m p=false then([],1) else if inB e 1 60 then(ql0 m p e.toNat p.length,0) else([],7)
abbrev x9k:qb4:=qf2 false none [qf3,qf3,qd0] [.list qk9,qd0] (λ_=>True) (λx=>((encR x.1 x.2.1 x.2.2.1).1,(encR x.1 x.2.1 x.2.2.1).2,()))
theorem w44:Meets Tryz.prog 12 x9k:=by
 refine meets (snd (SpecsOk.cons we4 (SpecsOk.cons qs6 (SpecsOk.cons wp9 (SpecsOk.nil _))))) Tryz.func12 rfl rfl (λ_ _=>none) (λ_=>by kernel_rfl) (by decide) ?_
 rintro⟨m,p,e,⟨⟩⟩ -
 revert m p e
 intro(m:List (List Int)) (p:List (List Int)) (e:Int)
 refine @qd1 _ (let Q0:=encR m p e; True/\((!vpB m p)=true->Q0.1=[]/\(1:Int)=Q0.2/\True)/\((!vpB m p)=false->True/\((!inB e (1:Int) (60:Int))=true->Q0.1=[]/\(7:Int)=Q0.2/\True)/\((!inB e (1:Int) (60:Int))=false->wp8 m p e/\ql0 m p e.toNat p.length=Q0.1/\(0:Int)=Q0.2/\True))) (by kernel_rfl) ?_
 try simp only[z0,z1,z2,z3,z4,z5,z6,z7,z8,z9,z10,Int.reduceEq,z11,z12,z13,z14,z15,z16,z17,z18,z19,z20,z21,z22,z23,z24,z25,z26,z27,z28,z29,z30,Int.reduceLE,Int.reduceLT,z31,z32,z33,z34,qa1]
 try simp only[qa7,qa8,qb5,z31,z32,z2,z1]
 refine⟨λh=>by simp[encR,h],λh=>⟨λhe=>by simp[encR,h,he],λhe=>⟨⟨h,(qh6.1 he).1,(qh6.1 he).2⟩,by simp[encR,h,he]⟩⟩⟩
end Go.Proofs.YtmijnbjlhnpokaaGreat
