/- strings.Builder: what its functions do, over any program that lays them: every block but the builder's two is as it was. No condition. -/
import Derived.Test.YtmijnbjlhnpokaaGreatH2
import Derived.Test.YtmijnbjlhnpokaaGreatEng2
import Derived.Shelf.Strings.Builder1
import Derived.Maps.AppendAt
set_option linter.unusedVariables false
set_option linter.unusedSimpArgs false
namespace Go.Proofs.YtmijnbjlhnpokaaGreat
open Go Go.RowKit Eng
def q49 (m:List (List Int)) (k i:Nat):Nat->List Flt
 | 0=>[]
 | j+1=>q49 m k i j++if fvB m ((k:Int),(i:Int),(j:Int)) then[((k:Int),(i:Int),(j:Int))] else[]
def q33 (m:List (List Int)) (k:Nat):Nat->List Flt
 | 0=>[]
 | i+1=>q33 m k i++q49 m k i (nL m 0).length
def qk4 (m:List (List Int)):Nat->List Flt
 | 0=>[]
 | k+1=>qk4 m k++q33 m k m.length
theorem x0d (m:List (List Int)) (k i:Nat) {a b:Nat} (h:a<=b):q49 m k i a <+: q49 m k i b:=by
 induction h with
 | refl=>exact List.prefix_refl _
 | step _ ih=>exact ih.trans (List.prefix_append _ _)
theorem x0e (m:List (List Int)) (k:Nat) {a b:Nat} (h:a<=b):q33 m k a <+: q33 m k b:=by
 induction h with
 | refl=>exact List.prefix_refl _
 | step _ ih=>exact ih.trans (List.prefix_append _ _)
theorem x0f (m:List (List Int)) {a b:Nat} (h:a<=b):qk4 m a <+: qk4 m b:=by
 induction h with
 | refl=>exact List.prefix_refl _
 | step _ ih=>exact ih.trans (List.prefix_append _ _)
theorem x4g {m:List (List Int)} {k i j:Nat} (hk:k<4) (hi:i<m.length) (hj:j<(nL m 0).length) (h:fvB m ((k:Int),(i:Int),(j:Int))=true):(qk4 m 4)[(qk4 m k).length+(q33 m k i).length+(q49 m k i j).length]? = some ((k:Int),(i:Int),(j:Int)):=by
 have p1:q49 m k i (j+1) <+: q49 m k i (nL m 0).length:=x0d m k i hj
 have p2:q33 m k i++q49 m k i (j+1) <+: q33 m k m.length:=((List.prefix_append_right_inj _).2 p1).trans (x0e m k (show i+1<=m.length from hi))
 have p3:qk4 m k++(q33 m k i++q49 m k i (j+1)) <+: qk4 m 4:=((List.prefix_append_right_inj _).2 p2).trans (x0f m (show k+1<=4 from hk))
 obtain⟨t,e⟩:=p3
 rw[<- e,q49,if_pos h]
 generalize qk4 m k=A
 generalize q33 m k i=B
 generalize q49 m k i j=C
 rw[List.getElem?_append_left (by simp only[List.length_append,List.length_cons]; omega),List.getElem?_append_right (by omega),List.getElem?_append_right (by omega),List.getElem?_append_right (by omega),show A.length+B.length+C.length-A.length-B.length-C.length=0 by omega]
 rfl
abbrev fA (f:Flt):qa4 [qj4]:=(f,())
abbrev yl9:qw1:=wv9 [qf3] [qj4] (λx=>qb9 x.1=true) (λx=>(qk4 x.1 4).map fA)
def ym0 (m:List (List Int)):Nat->Option Inv
 | 0=>some (Inv.of [7] 1 (λk:Nat=>[(7,.lit (.int .i64 k))]) (λk=>[.cnt (some (qk4 m k).length)]) (λk=>k<=4) (λk=>4-k))
 | 1=>some ⟨Nat,Nat,[12],1,λk i=>[(12,.lit (.int .i64 i))],λk i=>[.cnt (some ((qk4 m k).length+(q33 m k i).length))],λk i=>i<=m.length,λk i=>m.length-i⟩
 | 2=>some ⟨Nat × Nat,Nat,[19],1,λq j=>[(19,.lit (.int .i64 j))],λq j=>[.cnt (some ((qk4 m q.1).length+(q33 m q.1 q.2).length+(q49 m q.1 q.2 j).length))],λq j=>j<=(nL m 0).length,λq j=>(nL m 0).length-j⟩
 | _=>none
theorem xk4:qt4 Tryz.prog 220 yl9:=by
 refine says (snd (SpecsOk.cons w1u (SpecsOk.nil _))) Tryz.func220 rfl rfl rfl [30] (λx=>ym0 x.1) (λ_=>by kernel_rfl) (by decide) ?_
 rintro⟨m,⟨⟩⟩ l h
 revert m
 intro(m:List (List Int)) (h:qb9 m=true)
 refine @qd1 _ (let Q0:=(m,PUnit.unit); ∃(v0:Unit),∃(v1:Nat),Nat.le v1 (4:Nat)/\(((0:Int)=(↑v1:Int)/\True)/\some (0:Nat)=some (qk4 m v1).length/\True)/\∀(v2:Nat),Nat.le v2 (4:Nat)->(decide ((↑v2:Int)<(4:Int))=true->∃(v5:Nat),∃(v6:Nat),Nat.le v6 m.length/\(((0:Int)=(↑v6:Int)/\True)/\some (qk4 m v2).length=some ((qk4 m v5).length+(q33 m v5 v6).length)/\True)/\∀(v7:Nat),Nat.le v7 m.length->(decide ((↑v7:Int)<(↑m.length:Int))=true->((0:Int)<=(0:Int)/\(0:Int)<(↑m.length:Int))/\∃(v10:Nat × Nat),∃(v11:Nat),Nat.le v11 (nL m (0:Nat)).length/\(((0:Int)=(↑v11:Int)/\True)/\some ((qk4 m v5).length+(q33 m v5 v7).length)=some ((qk4 m v10.1).length+(q33 m v10.1 v10.2).length+(q49 m v10.1 v10.2 v11).length)/\True)/\∀(v12:Nat),Nat.le v12 (nL m (0:Nat)).length->(decide ((↑v12:Int)<(↑(nL m (0:Nat)).length:Int))=true->qb9 m=true/\(fvB m ((↑v2:Int),(↑v7:Int),(↑v12:Int))=true->Value.func (Fn.yield l) #[] #[]=Value.func (Fn.yield (qh3.l (qz7 [qf3] [qj4] [(30:Nat)] Q0 (List.map fA (qk4 m (4:Nat))) l))) #[] #[]/\(qh3.L (qz7 [qf3] [qj4] [(30:Nat)] Q0 (List.map fA (qk4 m (4:Nat))) l))[(qk4 m v10.1).length+(q33 m v10.1 v10.2).length+(q49 m v10.1 v10.2 v12).length]?=some (((↑v2:Int),(↑v7:Int),(↑v12:Int)),())/\(fits .i64 ((↑v12:Int)+(1:Int))/\∃(v16:Nat),Nat.le v16 (nL m (0:Nat)).length/\(nL m (0:Nat)).length-v16<(nL m (0:Nat)).length-v12/\((↑v12:Int)+(1:Int)=(↑v16:Int)/\True)/\some ((qk4 m v10.1).length+(q33 m v10.1 v10.2).length+(q49 m v10.1 v10.2 v12).length+(1:Nat))=some ((qk4 m v10.1).length+(q33 m v10.1 v10.2).length+(q49 m v10.1 v10.2 v16).length)/\True)/\True)/\(fvB m ((↑v2:Int),(↑v7:Int),(↑v12:Int))=false->fits .i64 ((↑v12:Int)+(1:Int))/\∃(v16:Nat),Nat.le v16 (nL m (0:Nat)).length/\(nL m (0:Nat)).length-v16<(nL m (0:Nat)).length-v12/\((↑v12:Int)+(1:Int)=(↑v16:Int)/\True)/\some ((qk4 m v10.1).length+(q33 m v10.1 v10.2).length+(q49 m v10.1 v10.2 v12).length)=some ((qk4 m v10.1).length+(q33 m v10.1 v10.2).length+(q49 m v10.1 v10.2 v16).length)/\True))/\(decide ((↑v12:Int)<(↑(nL m (0:Nat)).length:Int))=false->fits .i64 ((↑v7:Int)+(1:Int))/\∃(v15:Nat),Nat.le v15 m.length/\m.length-v15<m.length-v7/\((↑v7:Int)+(1:Int)=(↑v15:Int)/\True)/\some ((qk4 m v10.1).length+(q33 m v10.1 v10.2).length+(q49 m v10.1 v10.2 v12).length)=some ((qk4 m v5).length+(q33 m v5 v15).length)/\True))/\(decide ((↑v7:Int)<(↑m.length:Int))=false->fits .i64 ((↑v2:Int)+(1:Int))/\∃(v10:Nat),Nat.le v10 (4:Nat)/\(4:Nat)-v10<(4:Nat)-v2/\((↑v2:Int)+(1:Int)=(↑v10:Int)/\True)/\some ((qk4 m v5).length+(q33 m v5 v7).length)=some (qk4 m v10).length/\True))/\(decide ((↑v2:Int)<(4:Int))=false->(qk4 m v2).length=(qh3.L (qz7 [qf3] [qj4] [(30:Nat)] Q0 (List.map fA (qk4 m (4:Nat))) l)).length)) (by kernel_rfl) ?_
 try simp only[z0,z1,z2,z3,z4,z5,z6,z7,z8,z9,z10,Int.reduceEq,z11,z12,z13,z14,z15,z16,z17,z18,z19,z20,z21,z22,z23,z24,z25,z26,z27,z28,z29,z30,Int.reduceLE,Int.reduceLT,z31,z32,z33,z34,qa1]
 try simp only[qa7,qa8,qb5,z31,z32,z2,z1]
 have hM:=Mk.of h
 have m1:=hM.rows1
 have m6:=hM.rows6
 have p10:=hM.pix10
 refine⟨(),0,Nat.zero_le _,⟨rfl,rfl⟩,λk hk=>⟨λhk4=>⟨k,0,Nat.zero_le _,⟨rfl,rfl⟩,λi hi=>⟨λhi6=>⟨by omega,(k,i),0,Nat.zero_le _,⟨rfl,rfl⟩,λj hj=>⟨λhj10=>⟨h,λhv=>⟨rfl,?_,qb8 (by omega) (by omega),j+1,hj10,by omega,by omega,?_⟩,λhv=>⟨qb8 (by omega) (by omega),j+1,hj10,by omega,by omega,?_⟩⟩,λhj10=>⟨qb8 (by omega) (by omega),i+1,hi6,by omega,by omega,?_⟩⟩⟩,λhi6=>⟨qb8 (by omega) (by omega),k+1,by omega,by omega,by omega,?_⟩⟩⟩,λhk4=>?_⟩⟩
 ·show((qk4 m 4).map fA)[(qk4 m k).length+(q33 m k i).length+(q49 m k i j).length]? = some (fA ((k:Int),(i:Int),(j:Int)))
  rw[List.getElem?_map,x4g (by omega) hi6 hj10 hv]
  rfl
 ·rw[q49,if_pos hv,List.length_append]; rfl
 ·rw[q49,if_neg (by rw[hv]; decide),List.append_nil]
 ·obtain rfl:j=(nL m 0).length:=by omega
  rw[q33,List.length_append,Nat.add_assoc]
 ·obtain rfl:i=m.length:=by omega
  rw[qk4,List.length_append]
 ·obtain rfl:k=4:=by omega
  show _=((qk4 m 4).map fA).length
  rw[List.length_map]
abbrev x8y:qb4:=wl1 false none [qf3] (λ_=>True) (λx=>.clo 220 (.cons (.imm (.cons (.dat (.list (.int .i64)) x.1) .nil) 0) .nil))
theorem w4w:Meets Tryz.prog 163 x8y:=by
 refine q45 (snd (SpecsOk.nil _)) Tryz.func163 rfl rfl (λx _=>none) (λ_=>by kernel_rfl) (by decide) ?_
 rintro⟨m,⟨⟩⟩ -
 revert m
 intro(m:List (List Int))
 refine @qd1 _ (((m=m/\True)/\(0:Nat)=(0:Nat))/\True) (by kernel_rfl) ?_
 try simp only[z0,z1,z2,z3,z4,z5,z6,z7,z8,z9,z10,Int.reduceEq,z11,z12,z13,z14,z15,z16,z17,z18,z19,z20,z21,z22,z23,z24,z25,z26,z27,z28,z29,z30,Int.reduceLE,Int.reduceLT,z31,z32,z33,z34,qa1]
 try simp only[qa7,qa8,qb5,z31,z32,z2,z1]
end Go.Proofs.YtmijnbjlhnpokaaGreat
namespace Eng
open Go Go.RowKit Go.Proofs Go.Shelf
variable {P : Program} {ρ : Ren}
theorem same_setCell {w:World} {b:Nat} {a:Addr} (h:a.block=b) (v:Value):Kept (λk=>k=b) w (w.setCell a v):=
 ⟨rfl,rfl,rfl,by simp[World.setCell],λk hk=>Below.heap_setCell _ _ _ _ (λe=>hk.2 (by rw[<- h,e]))⟩
theorem Kept.trans {D D':Nat->Prop} {A B C:World} (h:Kept D A B) (k:Kept D' B C) (hd:∀b,D' b->D b\/A.heap.size<=b):Kept D A C:=
 ⟨k.os.trans h.os,k.tape.trans h.tape,k.output.trans h.output,Nat.le_trans h.size k.size,λb hb=>(k.block b ⟨Nat.lt_of_lt_of_le hb.1 h.size,λe=>(hd b e).elim hb.2 (λx=>by have:=hb.1; omega)⟩).trans (h.block b hb)⟩
theorem q7j {D D':Nat->Prop} {A B:World} (h:Kept D A B) (hd:∀b,D b->D' b):Kept D' A B:=Same.mono h λb hb=>⟨hb.1,λe=>hb.2 (hd b e)⟩
theorem kept_alloc (w:World) (o:Obj):Kept (λ_=>False) w (w.alloc o):=by
 have:=Ls.below_alloc w o
 exact⟨this.os,this.tape,this.output,this.size,λb hb=>this.block b hb.1⟩
theorem bcc (L:Lays.n240 P ρ) (X:Builder.X72 P ρ) {w:World} {b:Nat} {v:Value} {q:ByteArray} (h:BldOk (λ_=>none) w 0 (ρ.t 72) (ρ.t 5) b v q) :
  Calls P (ρ.f 240) #[.pointer (some ⟨b,0,none⟩)] w λe w'=>e=.returned (.tuple #[])/\(w'.heap[b]? = some (.cells #[.pointer (some ⟨b,0,none⟩),v] (ρ.t 72) (0,0))/\Kept (λk=>k=b) w w'):=by
 obtain⟨p,hp,hc⟩:=h.cell
 rcases hp with rfl | rfl
 ·refine(Any.Builder_copyCheck_fresh L X b w (by simp[World.cell?,hc]) (by simp[World.shape?,hc]) (by simp[World.frozen?,hc])).mono ?_
  rintro e w' ⟨rfl,rfl⟩
  exact⟨rfl,by simp[World.setCell,Array.getElem?_modify,hc],same_setCell (a:=⟨b,0,none⟩) rfl _⟩
 ·refine(Any.Builder_copyCheck_used L X b w (by simp[World.cell?,hc])).mono ?_
  rintro e w' ⟨rfl,rfl⟩
  exact⟨rfl,hc,Same.refl _ _⟩
theorem ym1 {T e b:Nat} {v v' p:Value} {q q':ByteArray} {w w1 w2:World} (h:BldOk (λ_=>none) w 0 T e b v q) (hTe:T≠e) (k1:Kept (λk=>k=b) w w1) (k2:Kept (λx=>v.ownBlock=some x) w1 w2) (hb:w2.heap[b]? = some (.cells #[.pointer (some ⟨b,0,none⟩),p] T (0,0))) (ho:w2.ownsRow 0 e 1 v' q'.size (Lib.byteCells q'.data.toList))
  (hn:∀x,v'.ownBlock=some x->v.ownBlock=some x\/w.heap.size<=x):w6h w b v T e q' (w2.setCell ⟨b,1,none⟩ v'):=by
 have hne:v'.ownBlock≠some b:=Lib.ownBlock_ne ho hb hTe
 refine⟨Kept.trans (Kept.trans (q7j k1 λx hx=>h.blkIs.2 (.inl hx)) k2 λx hx=>.inl (h.blkIs.2 (.inr hx))) (same_setCell (b:=b) rfl v') λx hx=>.inl (h.blkIs.2 (.inl hx)),v',⟨Nat.zero_le _,⟨_,.inr rfl,?_⟩,?_,hne,rfl,λ_ _=>rfl⟩,hn⟩
 ·simp[World.setCell,Array.getElem?_modify,hb]
 ·exact ho.kept (row:=some b) ⟨rfl,rfl,rfl,by simp[World.setCell],λk _ hk=>Below.heap_setCell _ _ _ _ (λe=>hk (by simp[e]))⟩ (Or.inr hne)
theorem xk5 {w w1:World} {b e:Nat} {v:Value} {n:Nat} {xs:List Value} (h:w.ownsRow 0 e 1 v n xs) (hne:v.ownBlock≠some b) (k1:Kept (λk=>k=b) w w1):w1.ownsRow 0 e 1 v n xs:=
 qo3 h λx hx=>k1.block x ⟨(own_blk h hx).2.1,λe'=>hne (by rw[<- e']; exact(qk2 h).1 hx)⟩
theorem w4x {w w':World} {row:Option Nat} (h:w.grownBy w' row):Kept (λx=>row=some x) w w':=qr7 h λr e=>e
theorem w4y (q:ByteArray) {c:Int} (h0:0<=c) (h1:c<256):Lib.byteCells q.data.toList++[.int .u8 c]=Lib.byteCells (q.push c.toNat.toUInt8).data.toList:=by
 have:((c.toNat.toUInt8).toNat:Int)=c:=by
  rw[Nat.toUInt8_eq,UInt8.toNat_ofNat']
  omega
 simp only[Lib.byteCells,ByteArray.push,Array.toList_push,List.map_append,List.map_cons,List.map_nil,this]
set_option maxHeartbeats 2000000 in
set_option maxRecDepth 100000 in
theorem xk6 (L:Lays.n167 P ρ) (X:Builder.Extra P ρ) {w:World} {b:Nat} {v:Value} {q:ByteArray} (h:BldOk (λ_=>none) w 0 (ρ.t 72) (ρ.t 5) b v q) (c:Int) (h0:0<=c) (h1:c<256) (hs:q.size+1<=1000000000) :
  Calls P (ρ.f 167) #[.pointer (some ⟨b,0,none⟩),.int .u8 c] w λe w'=>e=.returned .nilIface/\w6h w b v (ρ.t 72) (ρ.t 5) (q.push c.toNat.toUInt8) w':=by
 obtain⟨i0,hi,hz0,hz1,hz2⟩:=info_parts X.infoByte
 have mixed:=L.mixed
 have t72:=L.t72; have a72:=L.a72; have z72:=L.z72; have v72:=L.v72; have u72:=run_underlying L.t72
 have t70:=L.t70; have a70:=L.a70; have z70:=L.z70; have v70:=L.v70; have u70:=run_underlying L.t70
 have t5:=L.t5; have a5:=L.a5; have z5:=L.z5; have v5:=L.v5; have u5:=run_underlying L.t5
 have t37:=L.t37; have a37:=L.a37; have z37:=L.z37; have v37:=L.v37; have u37:=run_underlying L.t37
 have t9:=L.t9; have a9:=L.a9; have z9:=L.z9; have v9:=L.v9; have u9:=run_underlying L.t9
 have t4:=L.t4; have a4:=L.a4; have z4:=L.z4; have v4:=L.v4; have u4:=run_underlying L.t4
 have t164:=L.t164; have a164:=L.a164; have z164:=L.z164; have v164:=L.v164; have u164:=run_underlying L.t164
 have e240:∀args w,(callFunc (ρ.f 240) args).run P w=.ok (.enter (ρ.f 240) args) w:=enters_of L.f240 (by kernel_rfl) rfl
 go_enter L.f167,Body.n167_ntmps ρ
 go_wp2_with (go_at_fn (ρ.f 240); refine(bcc { L with } X.toX72 h).mono ?_)
 rintro e w1 ⟨rfl,hbk,hk1⟩
 have hown:=xk5 h.own h.ne hk1
 have c0:w1.cell? ⟨b,0,none⟩=some (.pointer (some ⟨b,0,none⟩)):=by rw[Lib.cell_of_heap hbk]; rfl
 have c1:w1.cell? ⟨b,1,none⟩=some v:=by rw[Lib.cell_of_heap hbk]; rfl
 go_wp2_with (at_builtin; refine wpList_append_own_at _ rfl _ _ (ρ.t 37) rfl 0 (ρ.t 5) i0 (.int .u8 0) 1 1 L.t37 hi hz0 hz1 hz2 rfl (by decide) _ _ _ rfl (hown.alloc _) ⟨w1.heap.size,0,none⟩ 1 1 [.int .u8 c] rfl rfl ?c1 ?c2 ?c3 ?c4 ?c5 ?_)
 case c1=>exact cell_one_new _ _ _
 case c2=>intro u hu; simp at hu; subst hu; rfl
 case c3=>unfold maxLen; omega
 case c4=>omega
 case c5=>exact Nat.zero_le _
 intro v' w2 hown' hgrow _ hat
 have hlt:b<w1.heap.size:=(Array.getElem?_eq_some_iff.1 hbk).1
 have hb2:w2.heap[b]? = some (.cells #[.pointer (some ⟨b,0,none⟩),v] (ρ.t 72) (0,0)):=by
  rw[hgrow.block b (by simp; omega) (λe=>h.ne e.symm),Lib.alloc_old w1 _ b hlt]
  exact hbk
 have d0:w2.cell? ⟨b,0,none⟩=some (.pointer (some ⟨b,0,none⟩)):=by rw[Lib.cell_of_heap hb2]; rfl
 have d1:w2.cell? ⟨b,1,none⟩=some v:=by rw[Lib.cell_of_heap hb2]; rfl
 have f1:w2.frozen? ⟨b,1,none⟩=false:=Lib.frozen_of_heap hb2 1
 have hk2:Kept (λx=>v.ownBlock=some x) w1 w2:=Kept.trans (q7j (kept_alloc w1 _) λ_ h=>h.elim) (w4x hgrow) λx hx=>.inl hx
 have hn:∀x,v'.ownBlock=some x->v.ownBlock=some x\/w.heap.size<=x:=λx hx=>by
  rcases hat with hat | hat
  ·rw[hat] at hx; exact .inl hx
  ·rw[hat] at hx
   have:=Option.some.inj hx
   right; rw[<- this]; have:=hk1.size; simp; omega
 rw[w4y q h0 h1] at hown'
 obtain⟨g,cap,rfl⟩:∃g cap,v'=.slice (some ⟨g,0,none⟩) (q.size+1) cap:=by
  rcases hown'.2 with⟨_,h0⟩ | ⟨g,cap,cur,hv,_⟩
  ·omega
  ·exact⟨g,cap,hv⟩
 go_wp2
 go_ret
 exact⟨rfl,ym1 h X.neB5 hk1 hk2 hb2 (by rw[ByteArray.size_push]; exact hown') hn⟩
set_option maxHeartbeats 1000000 in
set_option maxRecDepth 100000 in
theorem x0g (L:Lays.n169 P ρ) (X:Builder.Extra P ρ) {w:World} {b:Nat} {v:Value} {q:ByteArray} (h:BldOk (λ_=>none) w 0 (ρ.t 72) (ρ.t 5) b v q) :
  Calls P (ρ.f 169) #[.pointer (some ⟨b,0,none⟩)] w λe w'=>e=.returned (.string q)/\Kept (Blk (q5m b v)) w w':=by
 obtain⟨p,hp,hbk⟩:=h.cell
 have bel:∀{w':World},Below w.heap.size w w'->Kept (Blk (q5m b v)) w w':=λhb=>q98 hb
 obtain⟨l,rfl⟩:∃l:List UInt8,q=⟨l.toArray⟩:=⟨q.data.toList,rfl⟩
 have hown:w.ownsRow 0 (ρ.t 5) 1 v l.length (Lib.byteCells l):=by
  have:=h.own
  rwa [show(ByteArray.mk l.toArray).size=l.length from rfl,show(ByteArray.mk l.toArray).data.toList=l from rfl] at this
 clear h
 by_cases h0:l=[]
 ·subst h0
  rcases hown.2 with⟨rfl,_⟩ | ⟨g,cap,cur,rfl,_,hg,_,_,_,_⟩
  ·exact(Any.Builder_String_nil L X w.heap.size b p w hbk).mono λe w' ⟨e1,e2⟩=>⟨e1,bel e2⟩
  ·by_cases hc0:cap=0
   ·subst hc0
    exact(Any.Builder_String_noroom L X w.heap.size b g p cur w (Nat.le_refl _) hbk hg).mono λe w' ⟨e1,e2⟩=>⟨e1,bel e2⟩
   ·exact(Any.Builder_String_room L X w.heap.size b g cap p w hc0 hbk).mono λe w' ⟨e1,e2⟩=>⟨e1,bel e2⟩
 have hl0:l.length≠0:=by simpa using h0
 obtain⟨g,cap,cur,rfl,hg,hnc,hcm,hcs,htake⟩:∃g cap cur,v=.slice (some ⟨g,0,none⟩) l.length cap/\w.heap[g]? = some (.cells cur (ρ.t 5) (0,0))/\l.length<=cap/\cap<=maxLen/\cur.size=cap*1/\cur.toList.take (l.length*1)=Lib.byteCells l:=by
  rcases hown.2 with⟨_,hz⟩ | ⟨g,cap,cur,hv,_,r⟩
  ·exact absurd hz hl0
  ·exact⟨g,cap,cur,hv,r⟩
 have c1:w.drew.cell? ⟨b,1,none⟩=some (.slice (some ⟨g,0,none⟩) l.length cap):=by
  have:w.drew.heap[b]? = some (.cells #[p,.slice (some ⟨g,0,none⟩) l.length cap] (ρ.t 72) (0,0)):=hbk
  rw[Lib.cell_of_heap this]; rfl
 have hSD:(Builtin.unsafeSliceData_ #[(ρ.t 37)] (ρ.t 127) #[.slice (some ⟨g,0,none⟩) l.length cap]).run P w.drew=.ok (.pointer (some ⟨g,0,none⟩)) w.drew:=
  Lib.run_unsafeSliceData_row _ _ _ _ _ _ (by omega)
 have hUS:(Builtin.unsafeString_ #[(ρ.t 127),(ρ.t 3)] (ρ.t 9) #[.pointer (some ⟨g,0,none⟩),.int .i64 l.length]).run P w.drew=.ok (.string ⟨l.toArray⟩) (w.drew.freeze ⟨g,0,none⟩ l.length):=by
  refine Lib.run_unsafeString_row w.drew (ρ.t 127) (ρ.t 3) (ρ.t 9) (ρ.t 5) L.t127 X.cellsByte g cur.size (by have hg':w.drew.heap[g]? = some (.cells cur (ρ.t 5) (0,0)):=hg; simp[World.shape?,hg']) l h0 (by omega) (by unfold maxLen at hcm; omega) ?_
  intro j x hx
  have:=hown.cells (g:=g) rfl j (.int .u8 x.toNat) (by simp[Lib.byteCells,hx])
  exact this
 have hfin:Kept (Blk (q5m b (.slice (some ⟨g,0,none⟩) l.length cap))) w (w.drew.freeze ⟨g,0,none⟩ l.length):=by
  refine q7j (D:=λx=>x=g) ?_ λx hx=>q6e.2 (.inr (by rw[hx]; rfl))
  unfold World.freeze
  split
  ·exact⟨rfl,rfl,rfl,Nat.le_refl _,λ_ _=>rfl⟩
  ·refine⟨rfl,rfl,rfl,by simp,λx hx=>?_⟩
   show(Array.modify w.heap g _)[x]? = _
   rw[Array.getElem?_modify,if_neg (λe=>hx.2 e.symm)]
 have mixed:=L.mixed
 have t72:=L.t72; have a72:=L.a72; have z72:=L.z72; have v72:=L.v72; have u72:=run_underlying L.t72
 have t70:=L.t70; have a70:=L.a70; have z70:=L.z70; have v70:=L.v70; have u70:=run_underlying L.t70
 have t37:=L.t37; have a37:=L.a37; have z37:=L.z37; have v37:=L.v37; have u37:=run_underlying L.t37
 have t127:=L.t127; have a127:=L.a127; have z127:=L.z127; have v127:=L.v127; have u127:=run_underlying L.t127
 have t3:=L.t3; have a3:=L.a3; have z3:=L.z3; have v3:=L.v3; have u3:=run_underlying L.t3
 have t9:=L.t9; have a9:=L.a9; have z9:=L.z9; have v9:=L.v9; have u9:=run_underlying L.t9
 have t5:=X.t5; have a5:=X.a5; have z5:=X.z5; have v5:=X.v5; have u5:=run_underlying X.t5
 go_enter L.f169,Body.n169_ntmps ρ
 go_wp2
 go_region_o
 all_goals (go_wp2; go_ret; exact⟨rfl,hfin⟩)
end Eng
