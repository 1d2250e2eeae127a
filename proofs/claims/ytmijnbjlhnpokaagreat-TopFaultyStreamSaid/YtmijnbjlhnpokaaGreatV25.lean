/- The iterator over fits, and what is over it: contracts by the engine. No condition. -/
import Derived.Test.YtmijnbjlhnpokaaGreatTys
import Derived.Test.YtmijnbjlhnpokaaGreatBld
import Derived.Shelf.Lay
import Derived.Ground.NamesProg
import Derived.Test.YtmijnbjlhnpokaaGreatV7
import Derived.Test.YtmijnbjlhnpokaaGreatV22
set_option linter.unusedVariables false
namespace Go.Proofs
open Go.Shelf
shelf_lay Lays.n169 Nm 169 at Tryz as Tryz.layOut
def Tryz.layWrt_ren:Go.Shelf.Ren:=⟨fun | 167=>221 | 240=>243 | 276=>253 | n=>n,fun | 0=>0 | 4=>4 | 5=>5 | 9=>9 | 20=>20 | 37=>235 | 70=>234 | 72=>237 | 75=>239 | 80=>241 | 164=>265 | n=>n,λn=>n⟩
theorem Tryz.layWrt:Lays.n167 Tryz.prog Tryz.layWrt_ren where
 mixed:=by kernel_rfl
 f167:=Tryz.func221.trans (congrArg some (by kernel_rfl))
 f240:=Tryz.func243.trans (congrArg some (by kernel_rfl))
 f276:=Tryz.func253.trans (congrArg some (by kernel_rfl))
 t0:=Tryz.underlying0
 a0:=Tryz.isAgg0
 z0:=Tryz.sizeOf0
 v0:=Tryz.zeroValue0
 t4:=Tryz.underlying4
 a4:=Tryz.isAgg4
 z4:=Tryz.sizeOf4
 v4:=Tryz.zeroValue4
 t5:=Tryz.underlying5
 a5:=Tryz.isAgg5
 z5:=Tryz.sizeOf5
 v5:=Tryz.zeroValue5
 t9:=Tryz.underlying9
 a9:=Tryz.isAgg9
 z9:=Tryz.sizeOf9
 v9:=Tryz.zeroValue9
 t20:=Tryz.underlying20
 a20:=Tryz.isAgg20
 z20:=Tryz.sizeOf20
 v20:=Tryz.zeroValue20
 t37:=Tryz.underlying235
 a37:=Tryz.isAgg235
 z37:=Tryz.sizeOf235
 v37:=Tryz.zeroValue235
 t70:=Tryz.underlying234
 a70:=Tryz.isAgg234
 z70:=Tryz.sizeOf234
 v70:=Tryz.zeroValue234
 t72:=Tryz.underlying237
 a72:=Tryz.isAgg237
 z72:=Tryz.sizeOf237
 v72:=Tryz.zeroValue237
 t75:=Tryz.underlying239
 a75:=Tryz.isAgg239
 z75:=Tryz.sizeOf239
 v75:=Tryz.zeroValue239
 t164:=Tryz.underlying265
 a164:=Tryz.isAgg265
 z164:=Tryz.sizeOf265
 v164:=Tryz.zeroValue265
theorem Tryz.extraWrt:Builder.Extra Tryz.prog Tryz.layWrt_ren where
 sizeBuilder:=by kernel_rfl
 liesBuilder:=by kernel_rfl
 t5:=Tryz.underlying5
 a5:=Tryz.isAgg5
 z5:=Tryz.sizeOf5
 v5:=Tryz.zeroValue5
 infoByte:=by kernel_rfl
 cellsByte:=by kernel_rfl
 sizeByte:=by kernel_rfl
 neB5:=by decide
theorem Tryz.extraOut:Builder.Extra Tryz.prog Tryz.layOut_ren where
 sizeBuilder:=by kernel_rfl
 liesBuilder:=by kernel_rfl
 t5:=Tryz.underlying5
 a5:=Tryz.isAgg5
 z5:=Tryz.sizeOf5
 v5:=Tryz.zeroValue5
 infoByte:=by kernel_rfl
 cellsByte:=by kernel_rfl
 sizeByte:=by kernel_rfl
 neB5:=by decide
end Go.Proofs
namespace Go.Proofs.YtmijnbjlhnpokaaGreat
open Go Go.Proofs Go.RowKit Eng Ls Go.Shelf
theorem x4h:q3c Tryz.prog 221 ⟨237,5,0⟩:=
 ⟨⟨_,_,Tryz.func221,rfl,rfl⟩,λw b v q h=>λc h0 h1 hs=>xk6 Tryz.layWrt Tryz.extraWrt h c h0 h1 hs⟩
theorem out_ok:q3c Tryz.prog 222 ⟨237,5,2⟩:=
 ⟨⟨_,_,Tryz.func222,rfl,rfl⟩,λw b v q h=>x0g Tryz.layOut Tryz.extraOut h⟩
def x0h:List (Nat × wt4):=[(221,⟨237,5,0⟩),(222,⟨237,5,2⟩)]
theorem xk7:∀f B,find x0h f=some B->q3c Tryz.prog f B:=by
 intro f B h
 unfold x0h at h
 rcases q6x h with⟨rfl,rfl⟩ | h
 ·exact x4h
 rcases q6x h with⟨rfl,rfl⟩ | h
 ·exact out_ok
 cases h
def x8z (specs:List (Nat × qb4)):Ctx:={ specs:=specs,tys:=tys,wr:=[],blds:=x0h }
theorem x9a {specs:List (Nat × qb4)} (h:SpecsOk Tryz.prog specs):Sound Tryz.prog (x8z specs):=SpecsOk.sound h q0x (by kernel_rfl) (hbl:=xk7)
end Go.Proofs.YtmijnbjlhnpokaaGreat
set_option linter.unusedSimpArgs false
namespace Go.Proofs.YtmijnbjlhnpokaaGreat
open Go Go.Proofs Go.RowKit Eng Ls
def x4i:ByteArray:=⟨#[45,46,43]⟩
def x0i (i:Nat):Int:=Eng.byteAt x4i i
theorem w4z (s:ByteArray) (i:Nat):0<=byteAt s i/\byteAt s i<256:=by
 unfold byteAt
 split
 ·rename_i b _; have:=b.toNat_lt; omega
 ·omega
def rowT (s:ByteArray) (r:List Int):Nat->ByteArray
 | 0=>s
 | k+1=>(rowT s r k).push (x0i (nI r k+1).toNat).toNat.toUInt8
def wo6 (m:List (List Int)):Nat->ByteArray
 | 0=>⟨#[]⟩
 | k+1=>(rowT (wo6 m k) (nL m k) (nL m k).length).push 10
theorem q7k (s:ByteArray) (r:List Int):∀k,(rowT s r k).size=s.size+k
 | 0=>rfl
 | k+1=>by rw[rowT,ByteArray.size_push,q7k s r k]; omega
theorem wo7 {m:List (List Int)} (h:Mk m):∀k,k<=m.length->(wo6 m k).size=k*((nL m 0).length+1)
 | 0,_=>by rw[Nat.zero_mul]; rfl
 | k+1,hk=>by rw[wo6,ByteArray.size_push,q7k,wo7 h k (by omega),h.each k (by omega),Nat.succ_mul]; omega
def w5r (m:List (List Int)):ByteArray:=if qb9 m then wo6 m m.length else⟨#[]⟩
abbrev ym2:qb4:=qf2 true none [qf3] [.str] (λ_=>True) (λx=>(w5r x.1,()))
def x9c (m:List (List Int)):Nat->Option Inv
 | 0=>some (Inv.of [3,13] 1 (λk:Nat=>[(3,.msl 0 none),(13,.lit (.int .i64 k))]) (λk=>[.bld 237 5 (wo6 m k)]) (λk=>k<=m.length) (λk=>m.length-k))
 | 1=>some ⟨Nat,Nat,[3,19],1,λk t=>[(3,.msl 0 none),(19,.lit (.int .i64 t))],λk t=>[.bld 237 5 (rowT (wo6 m k) (nL m k) t)],λk t=>t<=(nL m k).length,λk t=>(nL m k).length-t⟩
 | _=>none
theorem wo8:Meets Tryz.prog 164 ym2:=by
 refine meets (x9a (SpecsOk.cons qq1 (SpecsOk.nil _))) Tryz.func164 rfl rfl (λx=>x9c x.1) (λ_=>by kernel_rfl) (by decide) ?_
 rintro⟨m,⟨⟩⟩ -
 revert m
 intro(m:List (List Int))
 refine @qd1 _ (True/\((!qb9 m)=true->Value.string { data:=#[] }=Value.string (w5r m))/\((!qb9 m)=false->∃(v1:Unit),∃(v2:Nat),Nat.le v2 m.length/\((True/\(0:Int)=(↑v2:Int)/\True)/\{ data:=#[] }=wo6 m v2/\True)/\∀(v3:Nat),Nat.le v3 m.length->(decide ((↑v3:Int)<(↑m.length:Int))=true->((0:Int)<=(↑v3:Int)/\(↑v3:Int)<(↑m.length:Int))/\∃(v6:Nat),∃(v7:Nat),Nat.le v7 (nL m v6).length/\((True/\(0:Int)=(↑v7:Int)/\True)/\wo6 m v3=rowT (wo6 m v6) (nL m v6) v7/\True)/\∀(v8:Nat),Nat.le v8 (nL m v6).length->(decide ((↑v8:Int)<(↑(nL m v3).length:Int))=true->((0:Int)<=(↑v8:Int)/\(↑v8:Int)<(↑(nL m v3).length:Int))/\fits .i64 (nI (nL m v3) v8+(1:Int))/\((0:Int)<=nI (nL m v3) v8+(1:Int)/\nI (nL m v3) v8+(1:Int)<(↑(3:Nat):Int))/\((0:Int)<=byteAt { data:=#[(45:UInt8),(46:UInt8),(43:UInt8)] } (nI (nL m v3) v8+(1:Int)).toNat/\byteAt { data:=#[(45:UInt8),(46:UInt8),(43:UInt8)] } (nI (nL m v3) v8+(1:Int)).toNat<(256:Int)/\ByteArray.size (rowT (wo6 m v6) (nL m v6) v8)+(1:Nat)<=(1000000000:Nat))/\fits .i64 ((↑v8:Int)+(1:Int))/\∃(v11:Nat),Nat.le v11 (nL m v6).length/\(nL m v6).length-v11<(nL m v6).length-v8/\(True/\(↑v8:Int)+(1:Int)=(↑v11:Int)/\True)/\ByteArray.push (rowT (wo6 m v6) (nL m v6) v8) (Nat.toUInt8 (byteAt { data:=#[(45:UInt8),(46:UInt8),(43:UInt8)] } (nI (nL m v3) v8+(1:Int)).toNat).toNat)=rowT (wo6 m v6) (nL m v6) v11/\True)/\(decide ((↑v8:Int)<(↑(nL m v3).length:Int))=false->((0:Int)<=(10:Int)/\(10:Int)<(256:Int)/\ByteArray.size (rowT (wo6 m v6) (nL m v6) v8)+(1:Nat)<=(1000000000:Nat))/\fits .i64 ((↑v3:Int)+(1:Int))/\∃(v11:Nat),Nat.le v11 m.length/\m.length-v11<m.length-v3/\(True/\(↑v3:Int)+(1:Int)=(↑v11:Int)/\True)/\ByteArray.push (rowT (wo6 m v6) (nL m v6) v8) (Nat.toUInt8 (10:Nat))=wo6 m v11/\True))/\(decide ((↑v3:Int)<(↑m.length:Int))=false->Value.string (wo6 m v3)=Value.string (w5r m)))) (by kernel_rfl) ?_
 try simp only[z0,z1,z2,z3,z4,z5,z6,z7,z8,z9,z10,Int.reduceEq,z11,z12,z13,z14,z15,z16,z17,z18,z19,z20,z21,z22,z23,z24,z25,z26,z27,z28,z29,z30,Int.reduceLE,Int.reduceLT,z31,z32,z33,z34,qa1]
 try simp only[qa7,qa8,qb5,z31,z32,z2,z1]
 refine⟨λh=>by simp[w5r,h],λhv=>?_⟩
 have hM:=Mk.of hv
 have hsz:=wo7 hM
 have m6:=hM.rows6
 have p10:=hM.pix10
 refine⟨(),0,Nat.zero_le _,⟨rfl,rfl⟩,λk hk=>⟨λhlt=>⟨hlt,k,0,Nat.zero_le _,⟨rfl,rfl⟩,λt ht=>?_⟩,λhge=>?_⟩⟩
 ·have hs0:=hsz k hk
  have hk6:k*((nL m 0).length+1)<=6*11:=Nat.mul_le_mul (by omega) (by omega)
  have hl:=hM.each k hlt
  have hs1:=q7k (wo6 m k) (nL m k) t
  refine⟨λh1=>?_,λh1=>?_⟩
  ·have hb:=hM.small k hlt t (by omega)
   have hby:=w4z ⟨#[45,46,43]⟩ (Int.toNat (nI (nL m k) t+1))
   exact⟨h1,qb8 (by omega) (by omega),⟨by omega,by show nI (nL m k) t+1<3; omega⟩,⟨hby.1,hby.2,by omega⟩,qb8 (by omega) (by omega),t+1,by omega,by omega,by omega,rfl⟩
  ·obtain rfl:t=(nL m k).length:=by omega
   exact⟨by omega,qb8 (by omega) (by omega),k+1,by omega,by omega,by omega,rfl⟩
 ·obtain rfl:k=m.length:=by omega
  simp[w5r,hv]
open Go Go.RowKit Eng
def qz1 (m:List (List Int)) (s:List Int):List (List Int):=qk3 (qq5 m s)
def we0 (v:List Int):Nat->Bool
 | 0=>true
 | k+1=>we0 v k && (nI v k != 0)
def wo9 (m:List (List Int)) (s:List Int):Bool:=decide (s.length≠0) && decide (s.length<=m.length+1)
def q7l (m:List (List Int)) (n:Nat) (s:List Int):List Int:=qg1 n s (nL (qz1 m s) 0) s.length
def w87 (m:List (List Int)) (n:Nat) (s:List Int):List Int:=if nI (q7l m n s) (nI s 0).toNat<0 then q7c (q7l m n s) (-1) else q7l m n s
def wp0 (m:List (List Int)) (s:List Int):Bool:=wo9 m s && decide ((qz1 m s).length=1) && we0 (nL (qz1 m s) 0) s.length
def x4j (m:List (List Int)):Nat->Int
 | 0=>0
 | k+1=>IntKind.i64.wrap (x4j m k+IntKind.i64.wrap ((nL m k).length+1))
def x4k (l:List Int):Bool:=decide (7<l.length) && decide (l.length<=10)
def w88 (m:List (List Int)):Bool:=!(m.any x4k) && decide (x4j m m.length<=200)
theorem xk8 {m:List (List Int)} (hl:w88 m=true) (hM:Mk m):(nL m 0).length<=7:=by
 unfold w88 at hl
 rw[Bool.and_eq_true,Bool.not_eq_true',List.any_eq_false] at hl
 have h1:=hl.1 (nL m 0) (qu9 m 0 (by have:=hM.rows1; omega))
 have h2:=hM.pix10
 unfold x4k at h1
 rw[Bool.and_eq_true,decide_eq_true_eq,decide_eq_true_eq] at h1
 omega
abbrev Fit:=List Int × List (Int × Int)
def qg4 (m:List (List Int)) (y:List Int) (s:List (List Int)):List Fit:=s.filterMap λpix=>if(q3r m y pix).2=true then some (q3r m y pix).1 else none
def qi6 (m:List (List Int)) (y:List Int):Nat->List Fit
 | 0=>[]
 | k+1=>qi6 m y k++qg4 m y (qe9 (nL m 0).length k)
def fitsN (m:List (List Int)) (k:Int):Nat:=(min (min k (nL m 0).length) m.length+1).toNat
def q2r (m:List (List Int)) (y:List Int) (k:Int):List Fit:=qi6 m y (fitsN m k)
structure we3 (m:List (List Int)) (y:List Int) (k:Int):Prop where
 k0:0<=k
 k1:k<=1000
 one:0<m.length
 rows:m.length<=1000
 pix:(nL m 0).length<=1000
 sets:∀j:Nat,j<fitsN m k->∀s∈qe9 (nL m 0).length j,q3q m s y/\s.length<=100000
abbrev x4l:qw1:=wv9 [qd0,tQ] [xy4] (λx=>we3 x.2.1.1 x.2.1.2 x.1) (λx=>(q2r x.2.1.1 x.2.1.2 x.1).map λf=>(f,()))
def x4m:List AObj:=[.dead,.dead,.dead,.dead,.dead,.dead,.dead,.dead,.dead]
def x4n (m:List (List Int)) (y:List Int) (k:Int):Nat->Option Inv
 | 0=>some (Eng.Inv.mk Nat Nat [16] 11 (λ_ s=>[(16,.lit (.int .i64 s))]) (λl s=>.cnt (some (qi6 m y s).length) :: .box 226 (.cons (.lit (.func (.yield l) #[] #[])) .nil) :: x4m) (λ_ s=>s<=fitsN m k) (λ_ s=>fitsN m k-s))
 | 1=>some (Eng.Inv.mk (Nat × Nat) Nat [] 11 (λ_ _=>[]) (λq c=>.cnt (some ((qi6 m y q.2).length+(qg4 m y ((qe9 (nL m 0).length q.2).take c)).length)) :: .box 226 (.cons (.lit (.func (.yield q.1) #[] #[])) .nil) :: x4m) (λq c=>c<=(qe9 (nL m 0).length q.2).length) (λ_ c=>c))
 | _=>none
theorem q9v (m:List (List Int)) (y:List Int) (a:Nat):∀j,∃t,qi6 m y (a+j)=qi6 m y a++t
 | 0=>⟨[],by simp⟩
 | j+1=>by
  obtain⟨t,ht⟩:=q9v m y a j
  exact⟨t++qg4 m y (qe9 (nL m 0).length (a+j:Nat)),by rw[<- Nat.add_assoc,qi6,ht,List.append_assoc]⟩
theorem q02 (m:List (List Int)) (y:List Int) {s:List (List Int)} {c:Nat} {p:List Int} (h:s[c]? = some p):qg4 m y (s.take (c+1))=qg4 m y (s.take c)++if(q3r m y p).2=true then[(q3r m y p).1] else[]:=by
 rw[List.take_add_one,h]
 unfold qg4
 rw[List.filterMap_append]
 congr 1
 simp only[Option.toList_some,List.filterMap_cons,List.filterMap_nil]
 by_cases hf:(q3r m y p).2=true
 ·rw[if_pos hf,if_pos hf]
 ·rw[if_neg hf,if_neg hf]
theorem w40 (m:List (List Int)) (y:List Int) {s:List (List Int)} {c:Nat} {p:List Int} (h:s[c]? = some p) (hf:(q3r m y p).2=true):∃t,qg4 m y s=qg4 m y (s.take c)++(q3r m y p).1 :: t:=by
 have e:s=s.take (c+1)++s.drop (c+1):=(List.take_append_drop _ _).symm
 have h1:qg4 m y s=qg4 m y (s.take (c+1))++qg4 m y (s.drop (c+1)):=by
  unfold qg4
  rw[<- List.filterMap_append,List.take_append_drop]
 rw[h1,q02 m y h,if_pos hf]
 exact⟨qg4 m y (s.drop (c+1)),by simp⟩
theorem w41:qt4 Tryz.prog 214 x4l:=by
 refine says (x70 (SpecsOk.cons w4o (SpecsOk.cons w8q (SpecsOk.cons q9q (SpecsOk.nil _)))) (ItsOk.cons q9p ItsOk.nil)) Tryz.func214 rfl rfl rfl [32] (λx=>x4n x.2.1.1 x.2.1.2 x.1) (λ_=>by kernel_rfl) (by decide) ?_
 rintro⟨k,q,⟨⟩⟩ l h
 revert k q
 intro(k:Int) (q:List (List Int) × List Int) (h:we3 q.1 q.2 k)
 refine @qd1 _ (let Q0:=q2r q.1 q.2 k; let Q1:=(k,q,PUnit.unit); let Q2:=fitsN q.1 k; let Q3:=Int × Int; (0:Nat)<q.1.length/\fits .i64 (max2 false (max2 false k (↑(nL q.1 (0:Nat)).length:Int)) (↑q.1.length:Int)+(1:Int))/\∃(v0:Nat),∃(v1:Nat),Nat.le v1 Q2/\(((0:Int)=(↑v1:Int)/\True)/\some (0:Nat)=some (qi6 q.1 q.2 v1).length/\(Value.func (Fn.yield l) #[] #[]=Value.func (Fn.yield v0) #[] #[]/\True)/\True/\True/\True/\True/\True/\True/\True/\True/\True/\True)/\∀(v2:Nat),Nat.le v2 Q2->(decide ((↑v2:Int)<max2 false (max2 false k (↑(nL q.1 (0:Nat)).length:Int)) (↑q.1.length:Int)+(1:Int))=true->(0:Nat)<q.1.length/\True/\(((0:Ty.den qd0)<=(↑v2:Int)/\(↑v2:Int)<=(1000:Ty.den qd0))/\(0:Ty.den qd0)<=(↑(nL q.1 (0:Nat)).length:Int)/\(↑(nL q.1 (0:Nat)).length:Int)<=(1000:Ty.den qd0))/\∃(v5:Nat × Nat),∃(v6:Nat),Nat.le v6 (qe9 (↑(nL q.1 (0:Nat)).length:Int) (↑v5.2:Int)).length/\v6=(0:Nat)/\(some (qi6 q.1 q.2 v2).length=some ((qi6 q.1 q.2 v5.2).length+(qg4 q.1 q.2 (List.take v6 (qe9 (↑(nL q.1 (0:Nat)).length:Int) (↑v5.2:Int)))).length)/\(Value.func (Fn.yield v0) #[] #[]=Value.func (Fn.yield v5.1) #[] #[]/\True)/\True/\True/\True/\True/\True/\True/\True/\True/\True/\True)/\∀(v7:Nat),Nat.le v7 (qe9 (↑(nL q.1 (0:Nat)).length:Int) (↑v5.2:Int)).length->(∀(v9:List Int × qa4._f [] PUnit.unit),(List.map (λ(v11:List Int)=>(v11,())) (qe9 (↑(nL q.1 (0:Nat)).length:Int) (↑v2:Int)))[v7]?=some v9->∀(v11:q5b),(q3q q.1 (nL [v9.1] (0:Nat)) q.2/\(nL [v9.1] (0:Nat)).length<=(100000:Nat))/\[v9.1]=[v9.1]/\v11=v11/\True/\((q3r q.1 q.2 (nL [v9.1] (0:Nat))).2=true->Value.func (Fn.yield v5.1) #[] #[]=Value.func (Fn.yield (qh3.l (qz7 [qd0,tQ] [xy4] [(32:Nat)] Q1 (List.map (λ(v13:List Int × List Q3)=>(v13,())) Q0) l))) #[] #[]/\(qh3.L (qz7 [qd0,tQ] [xy4] [(32:Nat)] Q1 (List.map (λ(v13:List Int × List Q3)=>(v13,())) Q0) l))[(qi6 q.1 q.2 v5.2).length+(qg4 q.1 q.2 (List.take v7 (qe9 (↑(nL q.1 (0:Nat)).length:Int) (↑v5.2:Int)))).length]?=some (((q3r q.1 q.2 (nL [v9.1] (0:Nat))).1.1,(q3r q.1 q.2 (nL [v9.1] (0:Nat))).1.2),())/\(∃(v13:Nat),Nat.le v13 (qe9 (↑(nL q.1 (0:Nat)).length:Int) (↑v5.2:Int)).length/\v13=v7+(1:Nat)/\some ((qi6 q.1 q.2 v5.2).length+(qg4 q.1 q.2 (List.take v7 (qe9 (↑(nL q.1 (0:Nat)).length:Int) (↑v5.2:Int)))).length+(1:Nat))=some ((qi6 q.1 q.2 v5.2).length+(qg4 q.1 q.2 (List.take v13 (qe9 (↑(nL q.1 (0:Nat)).length:Int) (↑v5.2:Int)))).length)/\(Value.func (Fn.yield v5.1) #[] #[]=Value.func (Fn.yield v5.1) #[] #[]/\True)/\True/\True/\True/\True/\True/\True/\True/\True/\True/\True)/\True)/\((q3r q.1 q.2 (nL [v9.1] (0:Nat))).2=false->∃(v13:Nat),Nat.le v13 (qe9 (↑(nL q.1 (0:Nat)).length:Int) (↑v5.2:Int)).length/\v13=v7+(1:Nat)/\some ((qi6 q.1 q.2 v5.2).length+(qg4 q.1 q.2 (List.take v7 (qe9 (↑(nL q.1 (0:Nat)).length:Int) (↑v5.2:Int)))).length)=some ((qi6 q.1 q.2 v5.2).length+(qg4 q.1 q.2 (List.take v13 (qe9 (↑(nL q.1 (0:Nat)).length:Int) (↑v5.2:Int)))).length)/\(Value.func (Fn.yield v5.1) #[] #[]=Value.func (Fn.yield v5.1) #[] #[]/\True)/\True/\True/\True/\True/\True/\True/\True/\True/\True/\True))/\(v7=(List.map (λ(v10:List Int)=>(v10,())) (qe9 (↑(nL q.1 (0:Nat)).length:Int) (↑v2:Int))).length->fits .i64 ((↑v2:Int)+(1:Int))/\∃(v10:Nat),Nat.le v10 Q2/\fitsN q.1 k-v10<fitsN q.1 k-v2/\((↑v2:Int)+(1:Int)=(↑v10:Int)/\True)/\some ((qi6 q.1 q.2 v5.2).length+(qg4 q.1 q.2 (List.take v7 (qe9 (↑(nL q.1 (0:Nat)).length:Int) (↑v5.2:Int)))).length)=some (qi6 q.1 q.2 v10).length/\(Value.func (Fn.yield v5.1) #[] #[]=Value.func (Fn.yield v0) #[] #[]/\True)/\True/\True/\True/\True/\True/\True/\True/\True/\True/\True))/\(decide ((↑v2:Int)<max2 false (max2 false k (↑(nL q.1 (0:Nat)).length:Int)) (↑q.1.length:Int)+(1:Int))=false->(qi6 q.1 q.2 v2).length=(qh3.L (qz7 [qd0,tQ] [xy4] [(32:Nat)] Q1 (List.map (λ(v5:List Int × List Q3)=>(v5,())) Q0) l)).length)) (by kernel_rfl) ?_
 try simp only[z0,z1,z2,z3,z4,z5,z6,z7,z8,z9,z10,Int.reduceEq,z11,z12,z13,z14,z15,z16,z17,z18,z19,z20,z21,z22,z23,z24,z25,z26,z27,z28,z29,z30,Int.reduceLE,Int.reduceLT,z31,z32,z33,z34,qa1]
 try simp only[qa7,qa8,qb5,z31,z32,z2,z1]
 have hk0:=h.k0
 have hk1:=h.k1
 have hone:=h.one
 have hrows:=h.rows
 have hpix:=h.pix
 have hN:(fitsN q.1 k:Int)=min (min k (nL q.1 0).length) q.1.length+1:=by unfold fitsN; omega
 have hM:max2 false (max2 false k ((nL q.1 0).length:Int)) (q.1.length:Int)=min (min k (nL q.1 0).length) q.1.length:=rfl
 rw[hM]
 refine⟨hone,qb8 (by omega) (by omega),l,0,Nat.zero_le _,⟨rfl,rfl,rfl⟩,λs hs=>⟨λhlt=>?_,λhge=>?_⟩⟩
 ·have hsN:s<fitsN q.1 k:=by omega
  refine⟨hone,by omega,(l,s),0,Nat.zero_le _,rfl,⟨by simp[qg4],rfl⟩,λc hc=>⟨?_,λhfin=>?_⟩⟩
  ·rintro⟨p,⟨⟩⟩ hp -
   have hp2:(qe9 (nL q.1 0).length s)[c]? = some p:=by
    rw[List.getElem?_map] at hp
    obtain⟨p',h1,h2⟩:=Option.map_eq_some_iff.1 hp
    rw[h1]
    exact congrArg some (congrArg Prod.fst h2)
   have hcl:=(List.getElem?_eq_some_iff.1 hp2).1
   dsimp only
   refine⟨h.sets s hsN p (List.mem_of_getElem? hp2),λhf=>⟨rfl,?_,c+1,hcl,rfl,?_⟩,λhf=>⟨c+1,hcl,rfl,?_⟩⟩
   ·show((q2r q.1 q.2 k).map λf=>((f,()):qa4 [xy4]))[(qi6 q.1 q.2 s).length+(qg4 q.1 q.2 ((qe9 (nL q.1 0).length s).take c)).length]? = some ((q3r q.1 q.2 p).1,())
    obtain⟨t,ht⟩:=q9v q.1 q.2 (s+1) (fitsN q.1 k-(s+1))
    rw[show s+1+(fitsN q.1 k-(s+1))=fitsN q.1 k by omega,qi6] at ht
    obtain⟨t2,ht2⟩:=w40 q.1 q.2 hp2 hf
    rw[List.getElem?_map]
    unfold q2r
    rw[ht,ht2,List.append_assoc,List.append_assoc,List.getElem?_append_right (by omega),Nat.add_sub_cancel_left,List.getElem?_append_right (Nat.le_refl _),Nat.sub_self]
    rfl
   ·rw[q02 q.1 q.2 hp2,if_pos hf,List.length_append]
    rfl
   ·rw[q02 q.1 q.2 hp2,if_neg (by rw[hf]; decide),List.append_nil]
  ·rw[List.length_map] at hfin
   refine⟨qb8 (by omega) (by omega),s+1,hsN,by omega,by omega,?_,rfl⟩
   dsimp only
   rw[hfin,List.take_length,qi6,List.length_append]
 ·have e:s=fitsN q.1 k:=by omega
  show(qi6 q.1 q.2 s).length=((q2r q.1 q.2 k).map λf=>((f,()):qa4 [xy4])).length
  rw[List.length_map,e]
  rfl
end Go.Proofs.YtmijnbjlhnpokaaGreat
