/- The iterator over fits, and what is over it: contracts by the engine. No condition. -/
import Derived.Test.YtmijnbjlhnpokaaGreatH1
import Derived.Test.YtmijnbjlhnpokaaGreatEng2
import Derived.Shelf.Strings.Builder1
import Derived.Maps.AppendAt
import Derived.Test.YtmijnbjlhnpokaaGreatTys
import Derived.Shelf.Lay
import Derived.Ground.NamesProg
import Derived.Test.YtmijnbjlhnpokaaGreatV8
set_option linter.unusedVariables false
set_option linter.unusedSimpArgs false
namespace Go.Proofs.YtmijnbjlhnpokaaGreat
open Go Go.RowKit Eng
abbrev Tst:=List Int × List Int
def fVB (m:List (List Int)) (f:Flt):Bool:=qa9 m && fvB m f
theorem FltPre.of {m:List (List Int)} {f:Flt} (h:(qa9 m && fvB m f)=true):FltPre m f:=by
 rw[Bool.and_eq_true] at h; exact⟨h.1,h.2⟩
def ql8 (m:List (List Int)) (f:Flt):List (List Int) × Int:=if fVB m f then(qi2 m f,0) else([],1)
abbrev yk9:qb7:=qf1 true none [qg0,qo3] [qg0,qc8] (λ_=>True) (λx=>((ql8 x.1 x.2.1).1,(ql8 x.1 x.2.1).2,()))
theorem w9n:Meets Tryz.prog 11 yk9:=by
 refine meets (snd (SpecsOk.cons xm5 (SpecsOk.cons wp9 (SpecsOk.nil _)))) Tryz.func11 rfl rfl (λ_ _=>none) (λ_=>by kernel_rfl) (by decide) ?_
 rintro⟨m,⟨kd,r,p⟩,⟨⟩⟩ -
 revert m kd r p
 intro(m:List (List Int)) (kd:Int) (r:Int) (p:Int)
 refine @qd1 _ (let Q0:=(ql8 m (kd,r,p)); let Q1:=(!(qa9 m && fvB m (kd,r,p))); True/\(Q1=true->Q0.1=[]/\(1:Int)=Q0.2/\True)/\(Q1=false->FltPre m (kd,r,p)/\q15 (Ty.int .i64) (qi2 m (kd,r,p)) none=Q0.1/\(0:Int)=Q0.2/\True)) (by kernel_rfl) ?_
 try simp only[z0,z1,z2,z3,z4,z5,z6,z7,z8,z9,z10,Int.reduceEq,z11,z12,z13,z14,z15,z16,z17,z18,z19,z20,z21,z22,z23,z24,z25,z26,z27,z28,z29,z30,Int.reduceLE,Int.reduceLT,z31,z32,z33,z34,qa1]
 try simp only[qa7,qa8,qb8,z31,z32,z2,z1]
 refine⟨λh=>?_,λh=>⟨FltPre.of h,?_⟩⟩
 ·unfold ql8 fVB; rw[h]; exact⟨rfl,rfl⟩
 ·unfold ql8 fVB; rw[h]; exact⟨rfl,rfl⟩
def x8t (m:List (List Int)) (f:Flt) (x:List Int):List Int:=(qv8 (qi2 m f) x).1
theorem w9o (m:List (List Int)) (x:List Int):(q7p m x).length=m.length:=by simp[q7p]
theorem xm7 (m:List (List Int)) (f:Flt):(qi2 m f).length=m.length:=by
 unfold qi2; split
 ·rw[List.length_set]
 ·split
  ·exact qp7 _ _ _
  ·split
   ·rw[List.length_set]
   ·rfl
def yf6 (m:List (List Int)) (f:Flt) (x:List Int):List Int × Int:=if fVB m f=false then([],1) else if w2g m x=0 then(x8t m f x,0) else([],7)
def yf7 (m:List (List Int)) (t:Tst):Bool:=decide (w2g m t.1=0) && decide (t.2.length=m.length)
def vtB (m:List (List Int)) (l:List Tst):Bool:=qa9 m && decide (l.length<=12) && l.all λt=>yf7 m t
def yf8 (m:List (List Int)) (f:Flt) (t:Tst):Bool:=decide (x8t m f t.1=t.2)
def exR (m:List (List Int)) (f:Flt) (l:List Tst):Bool × Int:=if fVB m f && vtB m l then(l.all λt=>yf8 m f t,0) else(false,1)
def q5h (m:List (List Int)) (k i:Nat):Nat->List Flt
 | 0=>[]
 | j+1=>q5h m k i j++if fvB m ((k:Int),(i:Int),(j:Int)) then[((k:Int),(i:Int),(j:Int))] else[]
def q4d (m:List (List Int)) (k:Nat):Nat->List Flt
 | 0=>[]
 | i+1=>q4d m k i++q5h m k i (nL m 0).length
def qk9 (m:List (List Int)):Nat->List Flt
 | 0=>[]
 | k+1=>qk9 m k++q4d m k m.length
theorem x0u (m:List (List Int)) (k i:Nat) {a b:Nat} (h:a<=b):q5h m k i a <+: q5h m k i b:=by
 induction h with
 | refl=>exact List.prefix_refl _
 | step _ ih=>exact ih.trans (List.prefix_append _ _)
theorem x0v (m:List (List Int)) (k:Nat) {a b:Nat} (h:a<=b):q4d m k a <+: q4d m k b:=by
 induction h with
 | refl=>exact List.prefix_refl _
 | step _ ih=>exact ih.trans (List.prefix_append _ _)
theorem x0w (m:List (List Int)) {a b:Nat} (h:a<=b):qk9 m a <+: qk9 m b:=by
 induction h with
 | refl=>exact List.prefix_refl _
 | step _ ih=>exact ih.trans (List.prefix_append _ _)
theorem x4r {m:List (List Int)} {k i j:Nat} (hk:k<4) (hi:i<m.length) (hj:j<(nL m 0).length) (h:fvB m ((k:Int),(i:Int),(j:Int))=true):(qk9 m 4)[(qk9 m k).length+(q4d m k i).length+(q5h m k i j).length]? = some ((k:Int),(i:Int),(j:Int)):=by
 have p1:q5h m k i (j+1) <+: q5h m k i (nL m 0).length:=x0u m k i hj
 have p2:q4d m k i++q5h m k i (j+1) <+: q4d m k m.length:=((List.prefix_append_right_inj _).2 p1).trans (x0v m k (show i+1<=m.length from hi))
 have p3:qk9 m k++(q4d m k i++q5h m k i (j+1)) <+: qk9 m 4:=((List.prefix_append_right_inj _).2 p2).trans (x0w m (show k+1<=4 from hk))
 obtain⟨t,e⟩:=p3
 rw[<- e,q5h,if_pos h]
 generalize qk9 m k=A
 generalize q4d m k i=B
 generalize q5h m k i j=C
 rw[List.getElem?_append_left (by simp only[List.length_append,List.length_cons]; omega),List.getElem?_append_right (by omega),List.getElem?_append_right (by omega),List.getElem?_append_right (by omega),show A.length+B.length+C.length-A.length-B.length-C.length=0 by omega]
 rfl
abbrev fA (f:Flt):qa4 [qo3]:=(f,())
abbrev yl0:qw4:=wx7 [qg0] [qo3] (λx=>qa9 x.1=true) (λx=>(qk9 x.1 4).map fA)
def yl1 (m:List (List Int)):Nat->Option Inv
 | 0=>some (Inv.of [7] 1 (λk:Nat=>[(7,.lit (.int .i64 k))]) (λk=>[.cnt (some (qk9 m k).length)]) (λk=>k<=4) (λk=>4-k))
 | 1=>some ⟨Nat,Nat,[12],1,λk i=>[(12,.lit (.int .i64 i))],λk i=>[.cnt (some ((qk9 m k).length+(q4d m k i).length))],λk i=>i<=m.length,λk i=>m.length-i⟩
 | 2=>some ⟨Nat × Nat,Nat,[19],1,λq j=>[(19,.lit (.int .i64 j))],λq j=>[.cnt (some ((qk9 m q.1).length+(q4d m q.1 q.2).length+(q5h m q.1 q.2 j).length))],λq j=>j<=(nL m 0).length,λq j=>(nL m 0).length-j⟩
 | _=>none
theorem xm8:qu0 Tryz.prog 220 yl0:=by
 refine says (snd (SpecsOk.cons w2h (SpecsOk.nil _))) Tryz.func220 rfl rfl rfl [30] (λx=>yl1 x.1) (λ_=>by kernel_rfl) (by decide) ?_
 rintro⟨m,⟨⟩⟩ l h
 revert m
 intro(m:List (List Int)) (h:qa9 m=true)
 refine @qd1 _ (let Q0:=(m,PUnit.unit); ∃(v0:Unit),∃(v1:Nat),Nat.le v1 (4:Nat)/\(((0:Int)=(↑v1:Int)/\True)/\some (0:Nat)=some (qk9 m v1).length/\True)/\∀(v2:Nat),Nat.le v2 (4:Nat)->(decide ((↑v2:Int)<(4:Int))=true->∃(v5:Nat),∃(v6:Nat),Nat.le v6 m.length/\(((0:Int)=(↑v6:Int)/\True)/\some (qk9 m v2).length=some ((qk9 m v5).length+(q4d m v5 v6).length)/\True)/\∀(v7:Nat),Nat.le v7 m.length->(decide ((↑v7:Int)<(↑m.length:Int))=true->((0:Int)<=(0:Int)/\(0:Int)<(↑m.length:Int))/\∃(v10:Nat × Nat),∃(v11:Nat),Nat.le v11 (nL m (0:Nat)).length/\(((0:Int)=(↑v11:Int)/\True)/\some ((qk9 m v5).length+(q4d m v5 v7).length)=some ((qk9 m v10.1).length+(q4d m v10.1 v10.2).length+(q5h m v10.1 v10.2 v11).length)/\True)/\∀(v12:Nat),Nat.le v12 (nL m (0:Nat)).length->(decide ((↑v12:Int)<(↑(nL m (0:Nat)).length:Int))=true->qa9 m=true/\(fvB m ((↑v2:Int),(↑v7:Int),(↑v12:Int))=true->Value.func (Fn.yield l) #[] #[]=Value.func (Fn.yield (qh2.l (q0d [qg0] [qo3] [(30:Nat)] Q0 (List.map fA (qk9 m (4:Nat))) l))) #[] #[]/\(qh2.L (q0d [qg0] [qo3] [(30:Nat)] Q0 (List.map fA (qk9 m (4:Nat))) l))[(qk9 m v10.1).length+(q4d m v10.1 v10.2).length+(q5h m v10.1 v10.2 v12).length]?=some (((↑v2:Int),(↑v7:Int),(↑v12:Int)),())/\(fits .i64 ((↑v12:Int)+(1:Int))/\∃(v16:Nat),Nat.le v16 (nL m (0:Nat)).length/\(nL m (0:Nat)).length-v16<(nL m (0:Nat)).length-v12/\((↑v12:Int)+(1:Int)=(↑v16:Int)/\True)/\some ((qk9 m v10.1).length+(q4d m v10.1 v10.2).length+(q5h m v10.1 v10.2 v12).length+(1:Nat))=some ((qk9 m v10.1).length+(q4d m v10.1 v10.2).length+(q5h m v10.1 v10.2 v16).length)/\True)/\True)/\(fvB m ((↑v2:Int),(↑v7:Int),(↑v12:Int))=false->fits .i64 ((↑v12:Int)+(1:Int))/\∃(v16:Nat),Nat.le v16 (nL m (0:Nat)).length/\(nL m (0:Nat)).length-v16<(nL m (0:Nat)).length-v12/\((↑v12:Int)+(1:Int)=(↑v16:Int)/\True)/\some ((qk9 m v10.1).length+(q4d m v10.1 v10.2).length+(q5h m v10.1 v10.2 v12).length)=some ((qk9 m v10.1).length+(q4d m v10.1 v10.2).length+(q5h m v10.1 v10.2 v16).length)/\True))/\(decide ((↑v12:Int)<(↑(nL m (0:Nat)).length:Int))=false->fits .i64 ((↑v7:Int)+(1:Int))/\∃(v15:Nat),Nat.le v15 m.length/\m.length-v15<m.length-v7/\((↑v7:Int)+(1:Int)=(↑v15:Int)/\True)/\some ((qk9 m v10.1).length+(q4d m v10.1 v10.2).length+(q5h m v10.1 v10.2 v12).length)=some ((qk9 m v5).length+(q4d m v5 v15).length)/\True))/\(decide ((↑v7:Int)<(↑m.length:Int))=false->fits .i64 ((↑v2:Int)+(1:Int))/\∃(v10:Nat),Nat.le v10 (4:Nat)/\(4:Nat)-v10<(4:Nat)-v2/\((↑v2:Int)+(1:Int)=(↑v10:Int)/\True)/\some ((qk9 m v5).length+(q4d m v5 v7).length)=some (qk9 m v10).length/\True))/\(decide ((↑v2:Int)<(4:Int))=false->(qk9 m v2).length=(qh2.L (q0d [qg0] [qo3] [(30:Nat)] Q0 (List.map fA (qk9 m (4:Nat))) l)).length)) (by kernel_rfl) ?_
 try simp only[z0,z1,z2,z3,z4,z5,z6,z7,z8,z9,z10,Int.reduceEq,z11,z12,z13,z14,z15,z16,z17,z18,z19,z20,z21,z22,z23,z24,z25,z26,z27,z28,z29,z30,Int.reduceLE,Int.reduceLT,z31,z32,z33,z34,qa1]
 try simp only[qa7,qa8,qb8,z31,z32,z2,z1]
 have hM:=Mk.of h
 have m1:=hM.rows1
 have m6:=hM.rows6
 have p10:=hM.pix10
 refine⟨(),0,Nat.zero_le _,⟨rfl,rfl⟩,λk hk=>⟨λhk4=>⟨k,0,Nat.zero_le _,⟨rfl,rfl⟩,λi hi=>⟨λhi6=>⟨by omega,(k,i),0,Nat.zero_le _,⟨rfl,rfl⟩,λj hj=>⟨λhj10=>⟨h,λhv=>⟨rfl,?_,qb5 (by omega) (by omega),j+1,hj10,by omega,by omega,?_⟩,λhv=>⟨qb5 (by omega) (by omega),j+1,hj10,by omega,by omega,?_⟩⟩,λhj10=>⟨qb5 (by omega) (by omega),i+1,hi6,by omega,by omega,?_⟩⟩⟩,λhi6=>⟨qb5 (by omega) (by omega),k+1,by omega,by omega,by omega,?_⟩⟩⟩,λhk4=>?_⟩⟩
 ·show((qk9 m 4).map fA)[(qk9 m k).length+(q4d m k i).length+(q5h m k i j).length]? = some (fA ((k:Int),(i:Int),(j:Int)))
  rw[List.getElem?_map,x4r (by omega) hi6 hj10 hv]
  rfl
 ·rw[q5h,if_pos hv,List.length_append]; rfl
 ·rw[q5h,if_neg (by rw[hv]; decide),List.append_nil]
 ·obtain rfl:j=(nL m 0).length:=by omega
  rw[q4d,List.length_append,Nat.add_assoc]
 ·obtain rfl:i=m.length:=by omega
  rw[qk9,List.length_append]
 ·obtain rfl:k=4:=by omega
  show _=((qk9 m 4).map fA).length
  rw[List.length_map]
abbrev x8u:qb7:=we6 false none [qg0] (λ_=>True) (λx=>.clo 220 (.cons (.imm (.cons (.dat (.list (.int .i64)) x.1) .nil) 0) .nil))
theorem w5o:Meets Tryz.prog 163 x8u:=by
 refine q3k (snd (SpecsOk.nil _)) Tryz.func163 rfl rfl (λx _=>none) (λ_=>by kernel_rfl) (by decide) ?_
 rintro⟨m,⟨⟩⟩ -
 revert m
 intro(m:List (List Int))
 refine @qd1 _ (((m=m/\True)/\(0:Nat)=(0:Nat))/\True) (by kernel_rfl) ?_
 try simp only[z0,z1,z2,z3,z4,z5,z6,z7,z8,z9,z10,Int.reduceEq,z11,z12,z13,z14,z15,z16,z17,z18,z19,z20,z21,z22,z23,z24,z25,z26,z27,z28,z29,z30,Int.reduceLE,Int.reduceLT,z31,z32,z33,z34,qa1]
 try simp only[qa7,qa8,qb8,z31,z32,z2,z1]
end Go.Proofs.YtmijnbjlhnpokaaGreat
namespace Eng
open Go Go.RowKit Go.Proofs Go.Shelf
variable {P : Program} {ρ : Ren}
theorem same_setCell {w:World} {b:Nat} {a:Addr} (h:a.block=b) (v:Value):Kept (λk=>k=b) w (w.setCell a v):=
 ⟨rfl,rfl,rfl,by simp[World.setCell],λk hk=>Below.heap_setCell _ _ _ _ (λe=>hk.2 (by rw[<- h,e]))⟩
theorem Kept.trans {D D':Nat->Prop} {A B C:World} (h:Kept D A B) (k:Kept D' B C) (hd:∀b,D' b->D b\/A.heap.size<=b):Kept D A C:=
 ⟨k.os.trans h.os,k.tape.trans h.tape,k.output.trans h.output,Nat.le_trans h.size k.size,λb hb=>(k.block b ⟨Nat.lt_of_lt_of_le hb.1 h.size,λe=>(hd b e).elim hb.2 (λx=>by have:=hb.1; omega)⟩).trans (h.block b hb)⟩
theorem q7q {D D':Nat->Prop} {A B:World} (h:Kept D A B) (hd:∀b,D b->D' b):Kept D' A B:=Same.mono h λb hb=>⟨hb.1,λe=>hb.2 (hd b e)⟩
theorem kept_alloc (w:World) (o:Obj):Kept (λ_=>False) w (w.alloc o):=by
 have:=Ls.below_alloc w o
 exact⟨this.os,this.tape,this.output,this.size,λb hb=>this.block b hb.1⟩
theorem bcc (L:Lays.n240 P ρ) (X:Builder.X72 P ρ) {w:World} {b:Nat} {v:Value} {q:ByteArray} (h:BldOk (λ_=>none) w 0 (ρ.t 72) (ρ.t 5) b v q) :
  Calls P (ρ.f 240) #[.pointer (some ⟨b,0,none⟩)] w λe w'=>e=.returned (.tuple #[])/\(w'.heap[b]? = some (.cells #[.pointer (some ⟨b,0,none⟩),v] (ρ.t 72) (0,0))/\Kept (λk=>k=b) w w'):=by
 obtain⟨p,hp,hc⟩:=h.cell
 rcases hp with rfl | rfl
 ·refine(Any.Builder_copyCheck_fresh L X b w (by simp[World.cell?,hc]) (by simp[World.shape?,hc]) (by simp[World.frozen?,hc])).mono ?_
  rintro e w' ⟨rfl,rfl⟩
  exact⟨rfl,by simp[World.setCell,Array.getElem?_modify,hc],same_setCell (a:=⟨b,0,none⟩) rfl _⟩
 ·refine(Any.Builder_copyCheck_used L X b w (by simp[World.cell?,hc])).mono ?_
  rintro e w' ⟨rfl,rfl⟩
  exact⟨rfl,hc,Same.refl _ _⟩
theorem yl2 {T e b:Nat} {v v' p:Value} {q q':ByteArray} {w w1 w2:World} (h:BldOk (λ_=>none) w 0 T e b v q) (hTe:T≠e) (k1:Kept (λk=>k=b) w w1) (k2:Kept (λx=>v.ownBlock=some x) w1 w2) (hb:w2.heap[b]? = some (.cells #[.pointer (some ⟨b,0,none⟩),p] T (0,0))) (ho:w2.ownsRow 0 e 1 v' q'.size (Lib.byteCells q'.data.toList))
  (hn:∀x,v'.ownBlock=some x->v.ownBlock=some x\/w.heap.size<=x):w65 w b v T e q' (w2.setCell ⟨b,1,none⟩ v'):=by
 have hne:v'.ownBlock≠some b:=Lib.ownBlock_ne ho hb hTe
 refine⟨Kept.trans (Kept.trans (q7q k1 λx hx=>h.blkIs.2 (.inl hx)) k2 λx hx=>.inl (h.blkIs.2 (.inr hx))) (same_setCell (b:=b) rfl v') λx hx=>.inl (h.blkIs.2 (.inl hx)),v',⟨Nat.zero_le _,⟨_,.inr rfl,?_⟩,?_,hne,rfl,λ_ _=>rfl⟩,hn⟩
 ·simp[World.setCell,Array.getElem?_modify,hb]
 ·exact ho.kept (row:=some b) ⟨rfl,rfl,rfl,by simp[World.setCell],λk _ hk=>Below.heap_setCell _ _ _ _ (λe=>hk (by simp[e]))⟩ (Or.inr hne)
theorem xm9 {w w1:World} {b e:Nat} {v:Value} {n:Nat} {xs:List Value} (h:w.ownsRow 0 e 1 v n xs) (hne:v.ownBlock≠some b) (k1:Kept (λk=>k=b) w w1):w1.ownsRow 0 e 1 v n xs:=
 qo9 h λx hx=>k1.block x ⟨(own_blk h hx).2.1,λe'=>hne (by rw[<- e']; exact(qk7 h).1 hx)⟩
theorem w5p {w w':World} {row:Option Nat} (h:w.grownBy w' row):Kept (λx=>row=some x) w w':=qs7 h λr e=>e
theorem w5q (q:ByteArray) {c:Int} (h0:0<=c) (h1:c<256):Lib.byteCells q.data.toList++[.int .u8 c]=Lib.byteCells (q.push c.toNat.toUInt8).data.toList:=by
 have:((c.toNat.toUInt8).toNat:Int)=c:=by
  rw[Nat.toUInt8_eq,UInt8.toNat_ofNat']
  omega
 simp only[Lib.byteCells,ByteArray.push,Array.toList_push,List.map_append,List.map_cons,List.map_nil,this]
set_option maxHeartbeats 2000000 in
set_option maxRecDepth 100000 in
theorem xn0 (L:Lays.n167 P ρ) (X:Builder.Extra P ρ) {w:World} {b:Nat} {v:Value} {q:ByteArray} (h:BldOk (λ_=>none) w 0 (ρ.t 72) (ρ.t 5) b v q) (c:Int) (h0:0<=c) (h1:c<256) (hs:q.size+1<=1000000000) :
  Calls P (ρ.f 167) #[.pointer (some ⟨b,0,none⟩),.int .u8 c] w λe w'=>e=.returned .nilIface/\w65 w b v (ρ.t 72) (ρ.t 5) (q.push c.toNat.toUInt8) w':=by
 obtain⟨i0,hi,hz0,hz1,hz2⟩:=info_parts X.infoByte
 have mixed:=L.mixed
 have t72:=L.t72; have a72:=L.a72; have z72:=L.z72; have v72:=L.v72; have u72:=run_underlying L.t72
 have t70:=L.t70; have a70:=L.a70; have z70:=L.z70; have v70:=L.v70; have u70:=run_underlying L.t70
 have t5:=L.t5; have a5:=L.a5; have z5:=L.z5; have v5:=L.v5; have u5:=run_underlying L.t5
 have t37:=L.t37; have a37:=L.a37; have z37:=L.z37; have v37:=L.v37; have u37:=run_underlying L.t37
 have t9:=L.t9; have a9:=L.a9; have z9:=L.z9; have v9:=L.v9; have u9:=run_underlying L.t9
 have t4:=L.t4; have a4:=L.a4; have z4:=L.z4; have v4:=L.v4; have u4:=run_underlying L.t4
 have t164:=L.t164; have a164:=L.a164; have z164:=L.z164; have v164:=L.v164; have u164:=run_underlying L.t164
 have e240:∀args w,(callFunc (ρ.f 240) args).run P w=.ok (.enter (ρ.f 240) args) w:=enters_of L.f240 (by kernel_rfl) rfl
 go_enter L.f167,Body.n167_ntmps ρ
 go_wp2_with (go_at_fn (ρ.f 240); refine(bcc { L with } X.toX72 h).mono ?_)
 rintro e w1 ⟨rfl,hbk,hk1⟩
 have hown:=xm9 h.own h.ne hk1
 have c0:w1.cell? ⟨b,0,none⟩=some (.pointer (some ⟨b,0,none⟩)):=by rw[Lib.cell_of_heap hbk]; rfl
 have c1:w1.cell? ⟨b,1,none⟩=some v:=by rw[Lib.cell_of_heap hbk]; rfl
 go_wp2_with (at_builtin; refine wpList_append_own_at _ rfl _ _ (ρ.t 37) rfl 0 (ρ.t 5) i0 (.int .u8 0) 1 1 L.t37 hi hz0 hz1 hz2 rfl (by decide) _ _ _ rfl (hown.alloc _) ⟨w1.heap.size,0,none⟩ 1 1 [.int .u8 c] rfl rfl ?c1 ?c2 ?c3 ?c4 ?c5 ?_)
 case c1=>exact cell_one_new _ _ _
 case c2=>intro u hu; simp at hu; subst hu; rfl
 case c3=>unfold maxLen; omega
 case c4=>omega
 case c5=>exact Nat.zero_le _
 intro v' w2 hown' hgrow _ hat
 have hlt:b<w1.heap.size:=(Array.getElem?_eq_some_iff.1 hbk).1
 have hb2:w2.heap[b]? = some (.cells #[.pointer (some ⟨b,0,none⟩),v] (ρ.t 72) (0,0)):=by
  rw[hgrow.block b (by simp; omega) (λe=>h.ne e.symm),Lib.alloc_old w1 _ b hlt]
  exact hbk
 have d0:w2.cell? ⟨b,0,none⟩=some (.pointer (some ⟨b,0,none⟩)):=by rw[Lib.cell_of_heap hb2]; rfl
 have d1:w2.cell? ⟨b,1,none⟩=some v:=by rw[Lib.cell_of_heap hb2]; rfl
 have f1:w2.frozen? ⟨b,1,none⟩=false:=Lib.frozen_of_heap hb2 1
 have hk2:Kept (λx=>v.ownBlock=some x) w1 w2:=Kept.trans (q7q (kept_alloc w1 _) λ_ h=>h.elim) (w5p hgrow) λx hx=>.inl hx
 have hn:∀x,v'.ownBlock=some x->v.ownBlock=some x\/w.heap.size<=x:=λx hx=>by
  rcases hat with hat | hat
  ·rw[hat] at hx; exact .inl hx
  ·rw[hat] at hx
   have:=Option.some.inj hx
   right; rw[<- this]; have:=hk1.size; simp; omega
 rw[w5q q h0 h1] at hown'
 obtain⟨g,cap,rfl⟩:∃g cap,v'=.slice (some ⟨g,0,none⟩) (q.size+1) cap:=by
  rcases hown'.2 with⟨_,h0⟩ | ⟨g,cap,cur,hv,_⟩
  ·omega
  ·exact⟨g,cap,hv⟩
 go_wp2
 go_ret
 exact⟨rfl,yl2 h X.neB5 hk1 hk2 hb2 (by rw[ByteArray.size_push]; exact hown') hn⟩
set_option maxHeartbeats 1000000 in
set_option maxRecDepth 100000 in
theorem x0x (L:Lays.n169 P ρ) (X:Builder.Extra P ρ) {w:World} {b:Nat} {v:Value} {q:ByteArray} (h:BldOk (λ_=>none) w 0 (ρ.t 72) (ρ.t 5) b v q) :
  Calls P (ρ.f 169) #[.pointer (some ⟨b,0,none⟩)] w λe w'=>e=.returned (.string q)/\Kept (Blk (q5t b v)) w w':=by
 obtain⟨p,hp,hbk⟩:=h.cell
 have bel:∀{w':World},Below w.heap.size w w'->Kept (Blk (q5t b v)) w w':=λhb=>wb5 hb
 obtain⟨l,rfl⟩:∃l:List UInt8,q=⟨l.toArray⟩:=⟨q.data.toList,rfl⟩
 have hown:w.ownsRow 0 (ρ.t 5) 1 v l.length (Lib.byteCells l):=by
  have:=h.own
  rwa [show(ByteArray.mk l.toArray).size=l.length from rfl,show(ByteArray.mk l.toArray).data.toList=l from rfl] at this
 clear h
 by_cases h0:l=[]
 ·subst h0
  rcases hown.2 with⟨rfl,_⟩ | ⟨g,cap,cur,rfl,_,hg,_,_,_,_⟩
  ·exact(Any.Builder_String_nil L X w.heap.size b p w hbk).mono λe w' ⟨e1,e2⟩=>⟨e1,bel e2⟩
  ·by_cases hc0:cap=0
   ·subst hc0
    exact(Any.Builder_String_noroom L X w.heap.size b g p cur w (Nat.le_refl _) hbk hg).mono λe w' ⟨e1,e2⟩=>⟨e1,bel e2⟩
   ·exact(Any.Builder_String_room L X w.heap.size b g cap p w hc0 hbk).mono λe w' ⟨e1,e2⟩=>⟨e1,bel e2⟩
 have hl0:l.length≠0:=by simpa using h0
 obtain⟨g,cap,cur,rfl,hg,hnc,hcm,hcs,htake⟩:∃g cap cur,v=.slice (some ⟨g,0,none⟩) l.length cap/\w.heap[g]? = some (.cells cur (ρ.t 5) (0,0))/\l.length<=cap/\cap<=maxLen/\cur.size=cap*1/\cur.toList.take (l.length*1)=Lib.byteCells l:=by
  rcases hown.2 with⟨_,hz⟩ | ⟨g,cap,cur,hv,_,r⟩
  ·exact absurd hz hl0
  ·exact⟨g,cap,cur,hv,r⟩
 have c1:w.drew.cell? ⟨b,1,none⟩=some (.slice (some ⟨g,0,none⟩) l.length cap):=by
  have:w.drew.heap[b]? = some (.cells #[p,.slice (some ⟨g,0,none⟩) l.length cap] (ρ.t 72) (0,0)):=hbk
  rw[Lib.cell_of_heap this]; rfl
 have hSD:(Builtin.unsafeSliceData_ #[(ρ.t 37)] (ρ.t 127) #[.slice (some ⟨g,0,none⟩) l.length cap]).run P w.drew=.ok (.pointer (some ⟨g,0,none⟩)) w.drew:=
  Lib.run_unsafeSliceData_row _ _ _ _ _ _ (by omega)
 have hUS:(Builtin.unsafeString_ #[(ρ.t 127),(ρ.t 3)] (ρ.t 9) #[.pointer (some ⟨g,0,none⟩),.int .i64 l.length]).run P w.drew=.ok (.string ⟨l.toArray⟩) (w.drew.freeze ⟨g,0,none⟩ l.length):=by
  refine Lib.run_unsafeString_row w.drew (ρ.t 127) (ρ.t 3) (ρ.t 9) (ρ.t 5) L.t127 X.cellsByte g cur.size (by have hg':w.drew.heap[g]? = some (.cells cur (ρ.t 5) (0,0)):=hg; simp[World.shape?,hg']) l h0 (by omega) (by unfold maxLen at hcm; omega) ?_
  intro j x hx
  have:=hown.cells (g:=g) rfl j (.int .u8 x.toNat) (by simp[Lib.byteCells,hx])
  exact this
 have hfin:Kept (Blk (q5t b (.slice (some ⟨g,0,none⟩) l.length cap))) w (w.drew.freeze ⟨g,0,none⟩ l.length):=by
  refine q7q (D:=λx=>x=g) ?_ λx hx=>q6n.2 (.inr (by rw[hx]; rfl))
  unfold World.freeze
  split
  ·exact⟨rfl,rfl,rfl,Nat.le_refl _,λ_ _=>rfl⟩
  ·refine⟨rfl,rfl,rfl,by simp,λx hx=>?_⟩
   show(Array.modify w.heap g _)[x]? = _
   rw[Array.getElem?_modify,if_neg (λe=>hx.2 e.symm)]
 have mixed:=L.mixed
 have t72:=L.t72; have a72:=L.a72; have z72:=L.z72; have v72:=L.v72; have u72:=run_underlying L.t72
 have t70:=L.t70; have a70:=L.a70; have z70:=L.z70; have v70:=L.v70; have u70:=run_underlying L.t70
 have t37:=L.t37; have a37:=L.a37; have z37:=L.z37; have v37:=L.v37; have u37:=run_underlying L.t37
 have t127:=L.t127; have a127:=L.a127; have z127:=L.z127; have v127:=L.v127; have u127:=run_underlying L.t127
 have t3:=L.t3; have a3:=L.a3; have z3:=L.z3; have v3:=L.v3; have u3:=run_underlying L.t3
 have t9:=L.t9; have a9:=L.a9; have z9:=L.z9; have v9:=L.v9; have u9:=run_underlying L.t9
 have t5:=X.t5; have a5:=X.a5; have z5:=X.z5; have v5:=X.v5; have u5:=run_underlying X.t5
 go_enter L.f169,Body.n169_ntmps ρ
 go_wp2
 go_region_o
 all_goals (go_wp2; go_ret; exact⟨rfl,hfin⟩)
end Eng
namespace Go.Proofs
open Go.Shelf
shelf_lay Lays.n169 Nm 169 at Tryz as Tryz.layOut
def Tryz.layWrt_ren:Go.Shelf.Ren:=⟨fun | 167=>221 | 240=>243 | 276=>253 | n=>n,fun | 0=>0 | 4=>4 | 5=>5 | 9=>9 | 20=>20 | 37=>235 | 70=>234 | 72=>237 | 75=>239 | 80=>241 | 164=>265 | n=>n,λn=>n⟩
theorem Tryz.layWrt:Lays.n167 Tryz.prog Tryz.layWrt_ren where
 mixed:=by kernel_rfl
 f167:=Tryz.func221.trans (congrArg some (by kernel_rfl))
 f240:=Tryz.func243.trans (congrArg some (by kernel_rfl))
 f276:=Tryz.func253.trans (congrArg some (by kernel_rfl))
 t0:=Tryz.underlying0
 a0:=Tryz.isAgg0
 z0:=Tryz.sizeOf0
 v0:=Tryz.zeroValue0
 t4:=Tryz.underlying4
 a4:=Tryz.isAgg4
 z4:=Tryz.sizeOf4
 v4:=Tryz.zeroValue4
 t5:=Tryz.underlying5
 a5:=Tryz.isAgg5
 z5:=Tryz.sizeOf5
 v5:=Tryz.zeroValue5
 t9:=Tryz.underlying9
 a9:=Tryz.isAgg9
 z9:=Tryz.sizeOf9
 v9:=Tryz.zeroValue9
 t20:=Tryz.underlying20
 a20:=Tryz.isAgg20
 z20:=Tryz.sizeOf20
 v20:=Tryz.zeroValue20
 t37:=Tryz.underlying235
 a37:=Tryz.isAgg235
 z37:=Tryz.sizeOf235
 v37:=Tryz.zeroValue235
 t70:=Tryz.underlying234
 a70:=Tryz.isAgg234
 z70:=Tryz.sizeOf234
 v70:=Tryz.zeroValue234
 t72:=Tryz.underlying237
 a72:=Tryz.isAgg237
 z72:=Tryz.sizeOf237
 v72:=Tryz.zeroValue237
 t75:=Tryz.underlying239
 a75:=Tryz.isAgg239
 z75:=Tryz.sizeOf239
 v75:=Tryz.zeroValue239
 t164:=Tryz.underlying265
 a164:=Tryz.isAgg265
 z164:=Tryz.sizeOf265
 v164:=Tryz.zeroValue265
theorem Tryz.extraWrt:Builder.Extra Tryz.prog Tryz.layWrt_ren where
 sizeBuilder:=by kernel_rfl
 liesBuilder:=by kernel_rfl
 t5:=Tryz.underlying5
 a5:=Tryz.isAgg5
 z5:=Tryz.sizeOf5
 v5:=Tryz.zeroValue5
 infoByte:=by kernel_rfl
 cellsByte:=by kernel_rfl
 sizeByte:=by kernel_rfl
 neB5:=by decide
theorem Tryz.extraOut:Builder.Extra Tryz.prog Tryz.layOut_ren where
 sizeBuilder:=by kernel_rfl
 liesBuilder:=by kernel_rfl
 t5:=Tryz.underlying5
 a5:=Tryz.isAgg5
 z5:=Tryz.sizeOf5
 v5:=Tryz.zeroValue5
 infoByte:=by kernel_rfl
 cellsByte:=by kernel_rfl
 sizeByte:=by kernel_rfl
 neB5:=by decide
end Go.Proofs
namespace Go.Proofs.YtmijnbjlhnpokaaGreat
open Go Go.Proofs Go.RowKit Eng Ls Go.Shelf
theorem x4s:q3f Tryz.prog 221 ⟨237,5,0⟩:=
 ⟨⟨_,_,Tryz.func221,rfl,rfl⟩,λw b v q h=>λc h0 h1 hs=>xn0 Tryz.layWrt Tryz.extraWrt h c h0 h1 hs⟩
theorem out_ok:q3f Tryz.prog 222 ⟨237,5,2⟩:=
 ⟨⟨_,_,Tryz.func222,rfl,rfl⟩,λw b v q h=>x0x Tryz.layOut Tryz.extraOut h⟩
def x0y:List (Nat × wv5):=[(221,⟨237,5,0⟩),(222,⟨237,5,2⟩)]
theorem xn1:∀f B,find x0y f=some B->q3f Tryz.prog f B:=by
 intro f B h
 unfold x0y at h
 rcases q68 h with⟨rfl,rfl⟩ | h
 ·exact x4s
 rcases q68 h with⟨rfl,rfl⟩ | h
 ·exact out_ok
 cases h
def x8v (specs:List (Nat × qb7)):Ctx:={ specs:=specs,tys:=tys,wr:=[],blds:=x0y }
theorem x8w {specs:List (Nat × qb7)} (h:SpecsOk Tryz.prog specs):Sound Tryz.prog (x8v specs):=SpecsOk.sound h q05 (by kernel_rfl) (hbl:=xn1)
end Go.Proofs.YtmijnbjlhnpokaaGreat
set_option linter.unusedSimpArgs false
namespace Go.Proofs.YtmijnbjlhnpokaaGreat
open Go Go.Proofs Go.RowKit Eng Ls
def x4t:ByteArray:=⟨#[45,46,43]⟩
def x0z (i:Nat):Int:=Eng.byteAt x4t i
theorem w5r (s:ByteArray) (i:Nat):0<=byteAt s i/\byteAt s i<256:=by
 unfold byteAt
 split
 ·rename_i b _; have:=b.toNat_lt; omega
 ·omega
def rowT (s:ByteArray) (r:List Int):Nat->ByteArray
 | 0=>s
 | k+1=>(rowT s r k).push (x0z (nI r k+1).toNat).toNat.toUInt8
def wq0 (m:List (List Int)):Nat->ByteArray
 | 0=>⟨#[]⟩
 | k+1=>(rowT (wq0 m k) (nL m k) (nL m k).length).push 10
theorem q7r (s:ByteArray) (r:List Int):∀k,(rowT s r k).size=s.size+k
 | 0=>rfl
 | k+1=>by rw[rowT,ByteArray.size_push,q7r s r k]; omega
theorem wq1 {m:List (List Int)} (h:Mk m):∀k,k<=m.length->(wq0 m k).size=k*((nL m 0).length+1)
 | 0,_=>by rw[Nat.zero_mul]; rfl
 | k+1,hk=>by rw[wq0,ByteArray.size_push,q7r,wq1 h k (by omega),h.each k (by omega),Nat.succ_mul]; omega
def w6e (m:List (List Int)):ByteArray:=if qa9 m then wq0 m m.length else⟨#[]⟩
abbrev yl3:qb7:=qf1 true none [qg0] [.str] (λ_=>True) (λx=>(w6e x.1,()))
def x8y (m:List (List Int)):Nat->Option Inv
 | 0=>some (Inv.of [3,13] 1 (λk:Nat=>[(3,.msl 0 none),(13,.lit (.int .i64 k))]) (λk=>[.bld 237 5 (wq0 m k)]) (λk=>k<=m.length) (λk=>m.length-k))
 | 1=>some ⟨Nat,Nat,[3,19],1,λk t=>[(3,.msl 0 none),(19,.lit (.int .i64 t))],λk t=>[.bld 237 5 (rowT (wq0 m k) (nL m k) t)],λk t=>t<=(nL m k).length,λk t=>(nL m k).length-t⟩
 | _=>none
theorem wq3:Meets Tryz.prog 164 yl3:=by
 refine meets (x8w (SpecsOk.cons qp4 (SpecsOk.nil _))) Tryz.func164 rfl rfl (λx=>x8y x.1) (λ_=>by kernel_rfl) (by decide) ?_
 rintro⟨m,⟨⟩⟩ -
 revert m
 intro(m:List (List Int))
 refine @qd1 _ (True/\((!qa9 m)=true->Value.string { data:=#[] }=Value.string (w6e m))/\((!qa9 m)=false->∃(v1:Unit),∃(v2:Nat),Nat.le v2 m.length/\((True/\(0:Int)=(↑v2:Int)/\True)/\{ data:=#[] }=wq0 m v2/\True)/\∀(v3:Nat),Nat.le v3 m.length->(decide ((↑v3:Int)<(↑m.length:Int))=true->((0:Int)<=(↑v3:Int)/\(↑v3:Int)<(↑m.length:Int))/\∃(v6:Nat),∃(v7:Nat),Nat.le v7 (nL m v6).length/\((True/\(0:Int)=(↑v7:Int)/\True)/\wq0 m v3=rowT (wq0 m v6) (nL m v6) v7/\True)/\∀(v8:Nat),Nat.le v8 (nL m v6).length->(decide ((↑v8:Int)<(↑(nL m v3).length:Int))=true->((0:Int)<=(↑v8:Int)/\(↑v8:Int)<(↑(nL m v3).length:Int))/\fits .i64 (nI (nL m v3) v8+(1:Int))/\((0:Int)<=nI (nL m v3) v8+(1:Int)/\nI (nL m v3) v8+(1:Int)<(↑(3:Nat):Int))/\((0:Int)<=byteAt { data:=#[(45:UInt8),(46:UInt8),(43:UInt8)] } (nI (nL m v3) v8+(1:Int)).toNat/\byteAt { data:=#[(45:UInt8),(46:UInt8),(43:UInt8)] } (nI (nL m v3) v8+(1:Int)).toNat<(256:Int)/\ByteArray.size (rowT (wq0 m v6) (nL m v6) v8)+(1:Nat)<=(1000000000:Nat))/\fits .i64 ((↑v8:Int)+(1:Int))/\∃(v11:Nat),Nat.le v11 (nL m v6).length/\(nL m v6).length-v11<(nL m v6).length-v8/\(True/\(↑v8:Int)+(1:Int)=(↑v11:Int)/\True)/\ByteArray.push (rowT (wq0 m v6) (nL m v6) v8) (Nat.toUInt8 (byteAt { data:=#[(45:UInt8),(46:UInt8),(43:UInt8)] } (nI (nL m v3) v8+(1:Int)).toNat).toNat)=rowT (wq0 m v6) (nL m v6) v11/\True)/\(decide ((↑v8:Int)<(↑(nL m v3).length:Int))=false->((0:Int)<=(10:Int)/\(10:Int)<(256:Int)/\ByteArray.size (rowT (wq0 m v6) (nL m v6) v8)+(1:Nat)<=(1000000000:Nat))/\fits .i64 ((↑v3:Int)+(1:Int))/\∃(v11:Nat),Nat.le v11 m.length/\m.length-v11<m.length-v3/\(True/\(↑v3:Int)+(1:Int)=(↑v11:Int)/\True)/\ByteArray.push (rowT (wq0 m v6) (nL m v6) v8) (Nat.toUInt8 (10:Nat))=wq0 m v11/\True))/\(decide ((↑v3:Int)<(↑m.length:Int))=false->Value.string (wq0 m v3)=Value.string (w6e m)))) (by kernel_rfl) ?_
 try simp only[z0,z1,z2,z3,z4,z5,z6,z7,z8,z9,z10,Int.reduceEq,z11,z12,z13,z14,z15,z16,z17,z18,z19,z20,z21,z22,z23,z24,z25,z26,z27,z28,z29,z30,Int.reduceLE,Int.reduceLT,z31,z32,z33,z34,qa1]
 try simp only[qa7,qa8,qb8,z31,z32,z2,z1]
 refine⟨λh=>by simp[w6e,h],λhv=>?_⟩
 have hM:=Mk.of hv
 have hsz:=wq1 hM
 have m6:=hM.rows6
 have p10:=hM.pix10
 refine⟨(),0,Nat.zero_le _,⟨rfl,rfl⟩,λk hk=>⟨λhlt=>⟨hlt,k,0,Nat.zero_le _,⟨rfl,rfl⟩,λt ht=>?_⟩,λhge=>?_⟩⟩
 ·have hs0:=hsz k hk
  have hk6:k*((nL m 0).length+1)<=6*11:=Nat.mul_le_mul (by omega) (by omega)
  have hl:=hM.each k hlt
  have hs1:=q7r (wq0 m k) (nL m k) t
  refine⟨λh1=>?_,λh1=>?_⟩
  ·have hb:=hM.small k hlt t (by omega)
   have hby:=w5r ⟨#[45,46,43]⟩ (Int.toNat (nI (nL m k) t+1))
   exact⟨h1,qb5 (by omega) (by omega),⟨by omega,by show nI (nL m k) t+1<3; omega⟩,⟨hby.1,hby.2,by omega⟩,qb5 (by omega) (by omega),t+1,by omega,by omega,by omega,rfl⟩
  ·obtain rfl:t=(nL m k).length:=by omega
   exact⟨by omega,qb5 (by omega) (by omega),k+1,by omega,by omega,by omega,rfl⟩
 ·obtain rfl:k=m.length:=by omega
  simp[w6e,hv]
open Go Go.RowKit Eng
def qz6 (m:List (List Int)) (s:List Int):List (List Int):=qj4 (qn4 m s)
def wg9 (v:List Int):Nat->Bool
 | 0=>true
 | k+1=>wg9 v k && (nI v k != 0)
def q8u (m:List (List Int)) (s:List Int):Bool:=decide (s.length≠0) && decide (s.length<=m.length+1)
def q7s (m:List (List Int)) (n:Nat) (s:List Int):List Int:=qg2 n s (nL (qz6 m s) 0) s.length
def wq4 (m:List (List Int)) (n:Nat) (s:List Int):List Int:=if nI (q7s m n s) (nI s 0).toNat<0 then q7j (q7s m n s) (-1) else q7s m n s
def wq5 (m:List (List Int)) (s:List Int):Bool:=q8u m s && decide ((qz6 m s).length=1) && wg9 (nL (qz6 m s) 0) s.length
def wz9 (m:List (List Int)):Nat->Int
 | 0=>0
 | k+1=>IntKind.i64.wrap (wz9 m k+IntKind.i64.wrap ((nL m k).length+1))
def x00 (l:List Int):Bool:=decide (7<l.length) && decide (l.length<=10)
def q7t (m:List (List Int)):Bool:=!(m.any x00) && decide (wz9 m m.length<=200)
theorem xn2 {m:List (List Int)} (hl:q7t m=true) (hM:Mk m):(nL m 0).length<=7:=by
 unfold q7t at hl
 rw[Bool.and_eq_true,Bool.not_eq_true',List.any_eq_false] at hl
 have h1:=hl.1 (nL m 0) (qx4 m 0 (by have:=hM.rows1; omega))
 have h2:=hM.pix10
 unfold x00 at h1
 rw[Bool.and_eq_true,decide_eq_true_eq,decide_eq_true_eq] at h1
 omega
abbrev Fit:=List Int × List (Int × Int)
def qi8 (m:List (List Int)) (y:List Int) (s:List (List Int)):List Fit:=s.filterMap λpix=>if(wj5 m y pix).2=true then some (wj5 m y pix).1 else none
def qm8 (m:List (List Int)) (y:List Int):Nat->List Fit
 | 0=>[]
 | k+1=>qm8 m y k++qi8 m y (qf0 (nL m 0).length k)
def fitsN (m:List (List Int)) (k:Int):Nat:=(min (min k (nL m 0).length) m.length+1).toNat
def q4t (m:List (List Int)) (y:List Int) (k:Int):List Fit:=qm8 m y (fitsN m k)
structure wh0 (m:List (List Int)) (y:List Int) (k:Int):Prop where
 k0:0<=k
 k1:k<=1000
 one:0<m.length
 rows:m.length<=1000
 pix:(nL m 0).length<=1000
 sets:∀j:Nat,j<fitsN m k->∀s∈qf0 (nL m 0).length j,q3w m s y/\s.length<=100000
abbrev x4u:qw4:=wx7 [qc8,tQ] [x0e] (λx=>wh0 x.2.1.1 x.2.1.2 x.1) (λx=>(q4t x.2.1.1 x.2.1.2 x.1).map λf=>(f,()))
def x4v:List AObj:=[.dead,.dead,.dead,.dead,.dead,.dead,.dead,.dead,.dead]
def x4w (m:List (List Int)) (y:List Int) (k:Int):Nat->Option Inv
 | 0=>some (Eng.Inv.mk Nat Nat [16] 11 (λ_ s=>[(16,.lit (.int .i64 s))]) (λl s=>.cnt (some (qm8 m y s).length) :: .box 226 (.cons (.lit (.func (.yield l) #[] #[])) .nil) :: x4v) (λ_ s=>s<=fitsN m k) (λ_ s=>fitsN m k-s))
 | 1=>some (Eng.Inv.mk (Nat × Nat) Nat [] 11 (λ_ _=>[]) (λq c=>.cnt (some ((qm8 m y q.2).length+(qi8 m y ((qf0 (nL m 0).length q.2).take c)).length)) :: .box 226 (.cons (.lit (.func (.yield q.1) #[] #[])) .nil) :: x4v) (λq c=>c<=(qf0 (nL m 0).length q.2).length) (λ_ c=>c))
 | _=>none
theorem q94 (m:List (List Int)) (y:List Int) (a:Nat):∀j,∃t,qm8 m y (a+j)=qm8 m y a++t
 | 0=>⟨[],by simp⟩
 | j+1=>by
  obtain⟨t,ht⟩:=q94 m y a j
  exact⟨t++qi8 m y (qf0 (nL m 0).length (a+j:Nat)),by rw[<- Nat.add_assoc,qm8,ht,List.append_assoc]⟩
theorem q08 (m:List (List Int)) (y:List Int) {s:List (List Int)} {c:Nat} {p:List Int} (h:s[c]? = some p):qi8 m y (s.take (c+1))=qi8 m y (s.take c)++if(wj5 m y p).2=true then[(wj5 m y p).1] else[]:=by
 rw[List.take_add_one,h]
 unfold qi8
 rw[List.filterMap_append]
 congr 1
 simp only[Option.toList_some,List.filterMap_cons,List.filterMap_nil]
 by_cases hf:(wj5 m y p).2=true
 ·rw[if_pos hf,if_pos hf]
 ·rw[if_neg hf,if_neg hf]
theorem w5s (m:List (List Int)) (y:List Int) {s:List (List Int)} {c:Nat} {p:List Int} (h:s[c]? = some p) (hf:(wj5 m y p).2=true):∃t,qi8 m y s=qi8 m y (s.take c)++(wj5 m y p).1 :: t:=by
 have e:s=s.take (c+1)++s.drop (c+1):=(List.take_append_drop _ _).symm
 have h1:qi8 m y s=qi8 m y (s.take (c+1))++qi8 m y (s.drop (c+1)):=by
  unfold qi8
  rw[<- List.filterMap_append,List.take_append_drop]
 rw[h1,q08 m y h,if_pos hf]
 exact⟨qi8 m y (s.drop (c+1)),by simp⟩
theorem w5t:qu0 Tryz.prog 214 x4u:=by
 refine says (x7z (SpecsOk.cons w5i (SpecsOk.cons w9f (SpecsOk.cons q9z (SpecsOk.nil _)))) (ItsOk.cons q9y ItsOk.nil)) Tryz.func214 rfl rfl rfl [32] (λx=>x4w x.2.1.1 x.2.1.2 x.1) (λ_=>by kernel_rfl) (by decide) ?_
 rintro⟨k,q,⟨⟩⟩ l h
 revert k q
 intro(k:Int) (q:List (List Int) × List Int) (h:wh0 q.1 q.2 k)
 refine @qd1 _ (let Q0:=q4t q.1 q.2 k; let Q1:=(k,q,PUnit.unit); let Q2:=fitsN q.1 k; let Q3:=Int × Int; (0:Nat)<q.1.length/\fits .i64 (max2 false (max2 false k (↑(nL q.1 (0:Nat)).length:Int)) (↑q.1.length:Int)+(1:Int))/\∃(v0:Nat),∃(v1:Nat),Nat.le v1 Q2/\(((0:Int)=(↑v1:Int)/\True)/\some (0:Nat)=some (qm8 q.1 q.2 v1).length/\(Value.func (Fn.yield l) #[] #[]=Value.func (Fn.yield v0) #[] #[]/\True)/\True/\True/\True/\True/\True/\True/\True/\True/\True/\True)/\∀(v2:Nat),Nat.le v2 Q2->(decide ((↑v2:Int)<max2 false (max2 false k (↑(nL q.1 (0:Nat)).length:Int)) (↑q.1.length:Int)+(1:Int))=true->(0:Nat)<q.1.length/\True/\(((0:Ty.den qc8)<=(↑v2:Int)/\(↑v2:Int)<=(1000:Ty.den qc8))/\(0:Ty.den qc8)<=(↑(nL q.1 (0:Nat)).length:Int)/\(↑(nL q.1 (0:Nat)).length:Int)<=(1000:Ty.den qc8))/\∃(v5:Nat × Nat),∃(v6:Nat),Nat.le v6 (qf0 (↑(nL q.1 (0:Nat)).length:Int) (↑v5.2:Int)).length/\v6=(0:Nat)/\(some (qm8 q.1 q.2 v2).length=some ((qm8 q.1 q.2 v5.2).length+(qi8 q.1 q.2 (List.take v6 (qf0 (↑(nL q.1 (0:Nat)).length:Int) (↑v5.2:Int)))).length)/\(Value.func (Fn.yield v0) #[] #[]=Value.func (Fn.yield v5.1) #[] #[]/\True)/\True/\True/\True/\True/\True/\True/\True/\True/\True/\True)/\∀(v7:Nat),Nat.le v7 (qf0 (↑(nL q.1 (0:Nat)).length:Int) (↑v5.2:Int)).length->(∀(v9:List Int × qa4._f [] PUnit.unit),(List.map (λ(v11:List Int)=>(v11,())) (qf0 (↑(nL q.1 (0:Nat)).length:Int) (↑v2:Int)))[v7]?=some v9->∀(v11:q5k),(q3w q.1 (nL [v9.1] (0:Nat)) q.2/\(nL [v9.1] (0:Nat)).length<=(100000:Nat))/\[v9.1]=[v9.1]/\v11=v11/\True/\((wj5 q.1 q.2 (nL [v9.1] (0:Nat))).2=true->Value.func (Fn.yield v5.1) #[] #[]=Value.func (Fn.yield (qh2.l (q0d [qc8,tQ] [x0e] [(32:Nat)] Q1 (List.map (λ(v13:List Int × List Q3)=>(v13,())) Q0) l))) #[] #[]/\(qh2.L (q0d [qc8,tQ] [x0e] [(32:Nat)] Q1 (List.map (λ(v13:List Int × List Q3)=>(v13,())) Q0) l))[(qm8 q.1 q.2 v5.2).length+(qi8 q.1 q.2 (List.take v7 (qf0 (↑(nL q.1 (0:Nat)).length:Int) (↑v5.2:Int)))).length]?=some (((wj5 q.1 q.2 (nL [v9.1] (0:Nat))).1.1,(wj5 q.1 q.2 (nL [v9.1] (0:Nat))).1.2),())/\(∃(v13:Nat),Nat.le v13 (qf0 (↑(nL q.1 (0:Nat)).length:Int) (↑v5.2:Int)).length/\v13=v7+(1:Nat)/\some ((qm8 q.1 q.2 v5.2).length+(qi8 q.1 q.2 (List.take v7 (qf0 (↑(nL q.1 (0:Nat)).length:Int) (↑v5.2:Int)))).length+(1:Nat))=some ((qm8 q.1 q.2 v5.2).length+(qi8 q.1 q.2 (List.take v13 (qf0 (↑(nL q.1 (0:Nat)).length:Int) (↑v5.2:Int)))).length)/\(Value.func (Fn.yield v5.1) #[] #[]=Value.func (Fn.yield v5.1) #[] #[]/\True)/\True/\True/\True/\True/\True/\True/\True/\True/\True/\True)/\True)/\((wj5 q.1 q.2 (nL [v9.1] (0:Nat))).2=false->∃(v13:Nat),Nat.le v13 (qf0 (↑(nL q.1 (0:Nat)).length:Int) (↑v5.2:Int)).length/\v13=v7+(1:Nat)/\some ((qm8 q.1 q.2 v5.2).length+(qi8 q.1 q.2 (List.take v7 (qf0 (↑(nL q.1 (0:Nat)).length:Int) (↑v5.2:Int)))).length)=some ((qm8 q.1 q.2 v5.2).length+(qi8 q.1 q.2 (List.take v13 (qf0 (↑(nL q.1 (0:Nat)).length:Int) (↑v5.2:Int)))).length)/\(Value.func (Fn.yield v5.1) #[] #[]=Value.func (Fn.yield v5.1) #[] #[]/\True)/\True/\True/\True/\True/\True/\True/\True/\True/\True/\True))/\(v7=(List.map (λ(v10:List Int)=>(v10,())) (qf0 (↑(nL q.1 (0:Nat)).length:Int) (↑v2:Int))).length->fits .i64 ((↑v2:Int)+(1:Int))/\∃(v10:Nat),Nat.le v10 Q2/\fitsN q.1 k-v10<fitsN q.1 k-v2/\((↑v2:Int)+(1:Int)=(↑v10:Int)/\True)/\some ((qm8 q.1 q.2 v5.2).length+(qi8 q.1 q.2 (List.take v7 (qf0 (↑(nL q.1 (0:Nat)).length:Int) (↑v5.2:Int)))).length)=some (qm8 q.1 q.2 v10).length/\(Value.func (Fn.yield v5.1) #[] #[]=Value.func (Fn.yield v0) #[] #[]/\True)/\True/\True/\True/\True/\True/\True/\True/\True/\True/\True))/\(decide ((↑v2:Int)<max2 false (max2 false k (↑(nL q.1 (0:Nat)).length:Int)) (↑q.1.length:Int)+(1:Int))=false->(qm8 q.1 q.2 v2).length=(qh2.L (q0d [qc8,tQ] [x0e] [(32:Nat)] Q1 (List.map (λ(v5:List Int × List Q3)=>(v5,())) Q0) l)).length)) (by kernel_rfl) ?_
 try simp only[z0,z1,z2,z3,z4,z5,z6,z7,z8,z9,z10,Int.reduceEq,z11,z12,z13,z14,z15,z16,z17,z18,z19,z20,z21,z22,z23,z24,z25,z26,z27,z28,z29,z30,Int.reduceLE,Int.reduceLT,z31,z32,z33,z34,qa1]
 try simp only[qa7,qa8,qb8,z31,z32,z2,z1]
 have hk0:=h.k0
 have hk1:=h.k1
 have hone:=h.one
 have hrows:=h.rows
 have hpix:=h.pix
 have hN:(fitsN q.1 k:Int)=min (min k (nL q.1 0).length) q.1.length+1:=by unfold fitsN; omega
 have hM:max2 false (max2 false k ((nL q.1 0).length:Int)) (q.1.length:Int)=min (min k (nL q.1 0).length) q.1.length:=rfl
 rw[hM]
 refine⟨hone,qb5 (by omega) (by omega),l,0,Nat.zero_le _,⟨rfl,rfl,rfl⟩,λs hs=>⟨λhlt=>?_,λhge=>?_⟩⟩
 ·have hsN:s<fitsN q.1 k:=by omega
  refine⟨hone,by omega,(l,s),0,Nat.zero_le _,rfl,⟨by simp[qi8],rfl⟩,λc hc=>⟨?_,λhfin=>?_⟩⟩
  ·rintro⟨p,⟨⟩⟩ hp -
   have hp2:(qf0 (nL q.1 0).length s)[c]? = some p:=by
    rw[List.getElem?_map] at hp
    obtain⟨p',h1,h2⟩:=Option.map_eq_some_iff.1 hp
    rw[h1]
    exact congrArg some (congrArg Prod.fst h2)
   have hcl:=(List.getElem?_eq_some_iff.1 hp2).1
   dsimp only
   refine⟨h.sets s hsN p (List.mem_of_getElem? hp2),λhf=>⟨rfl,?_,c+1,hcl,rfl,?_⟩,λhf=>⟨c+1,hcl,rfl,?_⟩⟩
   ·show((q4t q.1 q.2 k).map λf=>((f,()):qa4 [x0e]))[(qm8 q.1 q.2 s).length+(qi8 q.1 q.2 ((qf0 (nL q.1 0).length s).take c)).length]? = some ((wj5 q.1 q.2 p).1,())
    obtain⟨t,ht⟩:=q94 q.1 q.2 (s+1) (fitsN q.1 k-(s+1))
    rw[show s+1+(fitsN q.1 k-(s+1))=fitsN q.1 k by omega,qm8] at ht
    obtain⟨t2,ht2⟩:=w5s q.1 q.2 hp2 hf
    rw[List.getElem?_map]
    unfold q4t
    rw[ht,ht2,List.append_assoc,List.append_assoc,List.getElem?_append_right (by omega),Nat.add_sub_cancel_left,List.getElem?_append_right (Nat.le_refl _),Nat.sub_self]
    rfl
   ·rw[q08 q.1 q.2 hp2,if_pos hf,List.length_append]
    rfl
   ·rw[q08 q.1 q.2 hp2,if_neg (by rw[hf]; decide),List.append_nil]
  ·rw[List.length_map] at hfin
   refine⟨qb5 (by omega) (by omega),s+1,hsN,by omega,by omega,?_,rfl⟩
   dsimp only
   rw[hfin,List.take_length,qm8,List.length_append]
 ·have e:s=fitsN q.1 k:=by omega
  show(qm8 q.1 q.2 s).length=((q4t q.1 q.2 k).map λf=>((f,()):qa4 [x0e])).length
  rw[List.length_map,e]
  rfl
end Go.Proofs.YtmijnbjlhnpokaaGreat
