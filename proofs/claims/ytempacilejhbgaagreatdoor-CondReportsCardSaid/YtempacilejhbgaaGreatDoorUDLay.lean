/- strings.Builder laid at this seat. Printed by program (mk_lay.py). No condition. -/
import Derived.Test.YtempacilejhbgaaGreatDoorV0
import Derived.Shelf.Strconv.Itoa3
import Derived.Lib.ItoaLen
import Derived.Lib.AppendIntMem
import Derived.Shelf.Lay
import Derived.Ground.NamesProg
import Derived.Test.YtempacilejhbgaaGreatDoorEng2
import Derived.Shelf.Strings.Builder1
import Derived.Maps.AppendAt
import Derived.Test.YtempacilejhbgaaGreatDoorTys
set_option linter.unusedVariables false
set_option linter.unusedSimpArgs false
namespace Eng
open Go Go.RowKit
variable {P : Program} {m0 : View}
theorem w1r {f:Nat} {ins outs:List Ty} {pre:qa4 ins->Prop} {g:qa4 ins->qa4 outs} (hc:qk7 P f)
  (h:∀(w:World) (m:View) (x:qa4 ins) (vs:List Value),m.on w->m0.on w->pre x->qs1 m ins x vs->Calls P f vs.toArray w λe w'=>∃v,e=.returned v/\Below w.heap.size w w'/\xz4 (View.from w' w.heap.size) outs (g x) v):MeetsAt P m0 f (qg6 true none ins outs pre g):=by
 refine⟨hc,λw m args vs k hm hle hargs hrun=>?_⟩
 obtain⟨x,⟨hp,hk⟩,hx⟩:=qo7 hrun hargs
 refine(h w m x vs hm (λb o hb=>hm b o (hle b o hb)) hp hx).mono λe w' ⟨v,e1,e2,us,e3,e4⟩=>⟨v,View.from w' w.heap.size,e1,e2,View.from_on _ _,λb o hb=>?_,?_⟩
 ·unfold View.from at hb
  split at hb
  ·assumption
  ·cases hb
 ·obtain⟨k1,k2⟩:=qv3 (P:=P) (m:=_) e4
  exact⟨_,hk,by rw[e3]; exact q9x k1 ⟨_,q8e⟩⟩
theorem w1s {f:Nat} {ins:List Ty} {pre:qa4 ins->Prop} {x:qa4 ins} {w:World} {vs:List Value} (h:MeetsAt P m0 f (qg6 true none ins [.bool] pre (λ_=>(true,())))) (h0:m0.on w) (hp:pre x) (hx:qs1 (λb=>w.heap[b]?) ins x vs) :
  Calls P f vs.toArray w λe w'=>e=.returned (.bool true)/\Below w.heap.size w w':=by
 have:=h.2 w (λb=>w.heap[b]?) (qh3 ins x) vs (λr=>r=ql7 (qh3 [.bool] ((true,()):qa4 [.bool]))) (View.full_on w) h0 (qv3 hx).1 (q53 hx ⟨hp,rfl⟩)
 refine this.mono λe w' ⟨v,m',e1,e2,_,_,r,e5,e6⟩=>⟨?_,e2⟩
 subst e5
 have e6:[v]=[.bool true]:=e6
 rw[e1,(List.cons.inj e6).1]
end Eng
namespace Go.Proofs.YtempacilejhbgaaGreatDoor
open Go Go.RowKit Eng
theorem xr5 {m0:View} {specs:List (Nat × qb9)} (h:SpecsAt Tryz.prog m0 specs):SoundAt Tryz.prog (ctx specs) m0:=SpecsAt.sound h q0h (by kernel_rfl)
end Go.Proofs.YtempacilejhbgaaGreatDoor
namespace Go.Proofs
open Go.Shelf
shelf_lay LaysM.n171 Nm 171 at Tryz as Tryz.layItoa
end Go.Proofs
namespace Go.Proofs.YtempacilejhbgaaGreatDoor
open Go Go.Proofs Go.RowKit Eng Go.Shelf
structure Tab (m0:View):Prop where
 cells:Cells m0
 tab : ∀ w, m0.on w -> Lib.TabIs Tryz.prog w "internal/strconv.uint64pow10" .u64 Lib.pow10Tab
def itB (n:Int):ByteArray:=⟨(Lib.itoa n).toArray⟩
theorem qo2 {n:Int} (h0:-9223372036854775808<=n) (h1:n<=9223372036854775807):(itB n).size<=21:=by
 have:=Lib.itoa_length_le n h0 h1
 show(Lib.itoa n).toArray.size<=21
 simpa using this
abbrev x0k:qb9:=qg6 true none [tInt] [.str] (λx=>-9223372036854775808<=x.1/\x.1<=9223372036854775807) (λx=>(itB x.1,()))
theorem w46 {m0:View} (hT:Tab m0):MeetsAt Tryz.prog m0 14 x0k:=w1r ⟨_,_,Tryz.func14,rfl,rfl⟩ λw m x vs hm h0 hp hx=>by
 obtain⟨n,⟨⟩⟩:=x
 obtain⟨u,us,rfl,h1,h2⟩:=hx
 obtain rfl:us=[]:=h2
 obtain rfl:u=.int .i64 n:=h1
 exact(Any.strconv_Itoa Tryz.layItoa n hp.1 hp.2 w (hT.tab w h0)).mono λe w' ⟨h1,k,os,h2⟩=>⟨_,h1,by subst h2; exact Lib.below_grow w.heap.size w (Nat.le_refl _) k os,[_],rfl,_,_,rfl,rfl,rfl⟩
end Go.Proofs.YtempacilejhbgaaGreatDoor
namespace Eng
open Go Go.RowKit Go.Proofs Go.Shelf
variable {P : Program} {ρ : Ren}
theorem same_setCell {w:World} {b:Nat} {a:Addr} (h:a.block=b) (v:Value):Kept (λk=>k=b) w (w.setCell a v):=
 ⟨rfl,rfl,rfl,by simp[World.setCell],λk hk=>Below.heap_setCell _ _ _ _ (λe=>hk.2 (by rw[<- h,e]))⟩
theorem Kept.trans {D D':Nat->Prop} {A B C:World} (h:Kept D A B) (k:Kept D' B C) (hd:∀b,D' b->D b\/A.heap.size<=b):Kept D A C:=
 ⟨k.os.trans h.os,k.tape.trans h.tape,k.output.trans h.output,Nat.le_trans h.size k.size,λb hb=>(k.block b ⟨Nat.lt_of_lt_of_le hb.1 h.size,λe=>(hd b e).elim hb.2 (λx=>by have:=hb.1; omega)⟩).trans (h.block b hb)⟩
theorem Kept.mono {D D':Nat->Prop} {A B:World} (h:Kept D A B) (hd:∀b,D b->D' b):Kept D' A B:=Same.mono h λb hb=>⟨hb.1,λe=>hb.2 (hd b e)⟩
theorem bcc (L:Lays.n240 P ρ) (X:Builder.X72 P ρ) {w:World} {b:Nat} {v:Value} {q:ByteArray} (h:BldOk (λ_=>none) w 0 (ρ.t 72) (ρ.t 5) b v q) :
  Calls P (ρ.f 240) #[.pointer (some ⟨b,0,none⟩)] w λe w'=>e=.returned (.tuple #[])/\(w'.heap[b]? = some (.cells #[.pointer (some ⟨b,0,none⟩),v] (ρ.t 72) (0,0))/\Kept (λk=>k=b) w w'):=by
 obtain⟨p,hp,hc⟩:=h.cell
 rcases hp with rfl | rfl
 ·refine(Any.Builder_copyCheck_fresh L X b w (by simp[World.cell?,hc]) (by simp[World.shape?,hc]) (by simp[World.frozen?,hc])).mono ?_
  rintro e w' ⟨rfl,rfl⟩
  exact⟨rfl,by simp[World.setCell,Array.getElem?_modify,hc],same_setCell (a:=⟨b,0,none⟩) rfl _⟩
 ·refine(Any.Builder_copyCheck_used L X b w (by simp[World.cell?,hc])).mono ?_
  rintro e w' ⟨rfl,rfl⟩
  exact⟨rfl,hc,Same.refl _ _⟩
theorem x4l {T e b:Nat} {v v' p:Value} {q q':ByteArray} {w w1 w2:World} (h:BldOk (λ_=>none) w 0 T e b v q) (hTe:T≠e) (k1:Kept (λk=>k=b) w w1) (k2:Kept (λx=>v.ownBlock=some x) w1 w2) (hb:w2.heap[b]? = some (.cells #[.pointer (some ⟨b,0,none⟩),p] T (0,0))) (ho:w2.ownsRow 0 e 1 v' q'.size (Lib.byteCells q'.data.toList))
  (hn:∀x,v'.ownBlock=some x->v.ownBlock=some x\/w.heap.size<=x):w3w w b v T e q' (w2.setCell ⟨b,1,none⟩ v'):=by
 have hne:v'.ownBlock≠some b:=Lib.ownBlock_ne ho hb hTe
 refine⟨Kept.trans (Kept.trans (k1.mono λx hx=>h.blkIs.2 (.inl hx)) k2 λx hx=>.inl (h.blkIs.2 (.inr hx))) (same_setCell (b:=b) rfl v') λx hx=>.inl (h.blkIs.2 (.inl hx)),v',⟨Nat.zero_le _,⟨_,.inr rfl,?_⟩,?_,hne,rfl,λ_ _=>rfl⟩,hn⟩
 ·simp[World.setCell,Array.getElem?_modify,hb]
 ·exact ho.kept (row:=some b) ⟨rfl,rfl,rfl,by simp[World.setCell],λk _ hk=>Below.heap_setCell _ _ _ _ (λe=>hk (by simp[e]))⟩ (Or.inr hne)
theorem w81 {w w1:World} {b e:Nat} {v:Value} {n:Nat} {xs:List Value} (h:w.ownsRow 0 e 1 v n xs) (hne:v.ownBlock≠some b) (k1:Kept (λk=>k=b) w w1):w1.ownsRow 0 e 1 v n xs:=
 qn8 h λx hx=>k1.block x ⟨(qj4 h hx).2.1,λe'=>hne (by rw[<- e']; exact(qk3 h).1 hx)⟩
theorem xr6 {w:World} {t u ty e:Nat} {i:TypeInfo} (ht:P.underlying t=some (.slice e)) (hu:P.underlying u=some .string) (hi:P.info? e=some i) (hz:i.zero=some (.int .u8 0)) (hsize:i.size=1) (hby:i.bytes=1)
  {v:Value} {n:Nat} {xs:List Value} (hown:w.ownsRow 0 e 1 v n xs) {s:ByteArray} (h63:n+s.size<=maxLen) (hbytes:n+s.size<=140737488355328) :
  ∃v' w',(Builtin.append_ #[t,u] ty #[v,.string s]).run P w=.ok v' w'/\w'.ownsRow 0 e 1 v' (n+s.size) (xs++Lib.strCells s)/\w.grownBy w' v.ownBlock/\(v'.ownBlock=v.ownBlock\/v'.ownBlock=some w.heap.size):=by
 obtain⟨v',w',hr,h2,h3,h4⟩:=Lib.run_append_own_string (P:=P) w 0 t u ty e i ht hu hi hz hsize hby v n xs hown s h63 hbytes (Nat.zero_le _)
 refine⟨v',w',hr,h2,h3,?_⟩
 have hsm:n+s.size<=9223372036854775807:=by simp only[maxLen] at h63; omega
 have same:∀{v1:Value} {w1:World},(Builtin.append_ #[t,u] ty #[v,.string s]).run P w=.ok v1 w1->v'=v1:=λh=>by
  rw[h] at hr; injection hr with h; exact h.symm
 rcases hown.2 with⟨rfl,rfl⟩ | ⟨g,cap,cur,rfl,_,hg,hnc,hcm,hcs,htake⟩
 ·by_cases hm:s.size=0
  ·rw[h4.2 ⟨rfl,hm⟩]; exact .inl rfl
  ·have hr':=run_append_nil_string (P:=P) w t u ty e i (.int .u8 0) ht hu hi hz s (by omega) (by omega) (by rw[hby]; omega)
   rw[same hr']; exact .inr rfl
 ·by_cases hroom:n+s.size<=cap
  ·have hr':=Lib.run_append_room_string (P:=P) w t u ty e i ht hu hi hsize g n cap cur hg s hroom (by omega)
   rw[same hr']; exact .inl rfl
  ·have hr':=Lib.run_append_grow_string (P:=P) w t u ty e i (.int .u8 0) ht hu hi hz ⟨g,0,none⟩ n cap xs (by rw[hsize]; exact hown.1) (hown.cells (g:=g) rfl) s (by omega) (by omega) (by rw[hby]; exact growslice_fits (by omega) (by omega))
   rw[same hr']; exact .inr rfl
theorem q9y {ops:Array Oper} {rest:List Oper} {o:Oper} {a:Act} {w:World} {Q:Exit->Act->World->Prop} (hgd:o.guard=none) (sl x:Operand) (t u:TypeId)
  (ho:o.op=.call { callee:=.builtin .append,args:=#[sl,x],argTypes:=#[t,u] })
  (e:TypeId) (i:TypeInfo) (ht:P.underlying t=some (.slice e)) (hu:P.underlying u=some .string) (hi:P.info? e=some i) (hz:i.zero=some (.int .u8 0)) (hsize:i.size=1) (hby:i.bytes=1)
  (v:Value) (n:Nat) (xs:List Value) (hs:a.eval sl=v) (hown:w.ownsRow 0 e 1 v n xs) (s:ByteArray) (hx:a.eval x=.string s) (h63:n+s.size<=maxLen) (hbytes:n+s.size<=140737488355328)
  (h:∀v' w',w'.ownsRow 0 e 1 v' (n+s.size) (xs++Lib.strCells s)->w.grownBy w' v.ownBlock->(v'.ownBlock=v.ownBlock\/v'.ownBlock=some w.heap.size)->wpList P ops Q rest (a.put o.dst v') w'):wpList P ops Q (o :: rest) a w:=by
 refine wpList_plain hgd λK hK=>?_
 obtain⟨v',w',hr,h2,h3,h4⟩:=xr6 (P:=P) (ty:=o.type) ht hu hi hz hsize hby hown h63 hbytes
 unfold Oper.wp execOp
 simp only[ho,resolve,invoke,builtin,Sem.run_bind,Sem.run_pure,Result.andThen_ok,List.map_toArray,List.map_cons,List.map_nil,hs,hx,hr]
 exact hK _ _ (h v' w' h2 h3 h4)
theorem w1t {w w':World} {row:Option Nat} (h:w.grownBy w' row):Kept (λx=>row=some x) w w':=qr2 h λr e=>e
theorem w47 (q s:ByteArray):Lib.byteCells q.data.toList++Lib.strCells s=Lib.byteCells (q++s).data.toList:=by
 simp[Lib.byteCells,Lib.strCells]
set_option maxHeartbeats 2000000 in
set_option maxRecDepth 100000 in
theorem xj0 (L:Lays.n166 P ρ) (X:Builder.Extra P ρ) {w:World} {b:Nat} {v:Value} {q:ByteArray} (h:BldOk (λ_=>none) w 0 (ρ.t 72) (ρ.t 5) b v q) (s:ByteArray) (hs:q.size+s.size<=1000000000) :
  Calls P (ρ.f 166) #[.pointer (some ⟨b,0,none⟩),.string s] w λe w'=>e=.returned (.tuple #[.int .i64 s.size,.nilIface])/\w3w w b v (ρ.t 72) (ρ.t 5) (q++s) w':=by
 obtain⟨i0,hi,hz0,hz1,hz2⟩:=info_parts X.infoByte
 have mixed:=L.mixed
 have t72:=L.t72; have a72:=L.a72; have z72:=L.z72; have v72:=L.v72; have u72:=run_underlying L.t72
 have t70:=L.t70; have a70:=L.a70; have z70:=L.z70; have v70:=L.v70; have u70:=run_underlying L.t70
 have t37:=L.t37; have a37:=L.a37; have z37:=L.z37; have v37:=L.v37; have u37:=run_underlying L.t37
 have t3:=L.t3; have a3:=L.a3; have z3:=L.z3; have v3:=L.v3; have u3:=run_underlying L.t3
 have t9:=L.t9; have a9:=L.a9; have z9:=L.z9; have v9:=L.v9; have u9:=run_underlying L.t9
 have t4:=L.t4; have a4:=L.a4; have z4:=L.z4; have v4:=L.v4; have u4:=run_underlying L.t4
 have t164:=L.t164; have a164:=L.a164; have z164:=L.z164; have v164:=L.v164; have u164:=run_underlying L.t164
 have t5:=X.t5; have a5:=X.a5; have z5:=X.z5; have v5:=X.v5; have u5:=run_underlying X.t5
 have e240:∀args w,(callFunc (ρ.f 240) args).run P w=.ok (.enter (ρ.f 240) args) w:=enters_of L.f240 (by kernel_rfl) rfl
 go_enter L.f166,Body.n166_ntmps ρ
 go_wp2_with (go_at_fn (ρ.f 240); refine(bcc { L with } X.toX72 h).mono ?_)
 rintro e w1 ⟨rfl,hbk,hk1⟩
 have hown:=w81 h.own h.ne hk1
 have c0:w1.cell? ⟨b,0,none⟩=some (.pointer (some ⟨b,0,none⟩)):=by rw[Lib.cell_of_heap hbk]; rfl
 have c1:w1.cell? ⟨b,1,none⟩=some v:=by rw[Lib.cell_of_heap hbk]; rfl
 go_wp2_with (at_builtin; refine q9y rfl _ _ (ρ.t 37) (ρ.t 9) rfl (ρ.t 5) i0 L.t37 L.t9 hi hz0 hz1 hz2 _ _ _ rfl hown s rfl ?c3 ?c4 ?_)
 case c3=>unfold maxLen; omega
 case c4=>omega
 intro v' w2 hown' hgrow hat
 have hlt:b<w1.heap.size:=(Array.getElem?_eq_some_iff.1 hbk).1
 have hb2:w2.heap[b]? = some (.cells #[.pointer (some ⟨b,0,none⟩),v] (ρ.t 72) (0,0)):=by
  rw[hgrow.block b hlt (λe=>h.ne e.symm)]
  exact hbk
 have d0:w2.cell? ⟨b,0,none⟩=some (.pointer (some ⟨b,0,none⟩)):=by rw[Lib.cell_of_heap hb2]; rfl
 have d1:w2.cell? ⟨b,1,none⟩=some v:=by rw[Lib.cell_of_heap hb2]; rfl
 have f1:w2.frozen? ⟨b,1,none⟩=false:=Lib.frozen_of_heap hb2 1
 have hn:∀x,v'.ownBlock=some x->v.ownBlock=some x\/w.heap.size<=x:=λx hx=>by
  rcases hat with hat | hat
  ·rw[hat] at hx; exact .inl hx
  ·rw[hat] at hx
   have:=Option.some.inj hx
   right; rw[<- this]; exact hk1.size
 rw[w47] at hown'
 obtain⟨ao,n',cap,rfl⟩:∃ao n' cap,v'=.slice ao n' cap:=by
  rcases hown'.2 with⟨hv,_⟩ | ⟨g,cap,cur,hv,_⟩
  ·exact⟨_,_,_,hv⟩
  ·exact⟨_,_,_,hv⟩
 go_wp2
 go_ret2
 exact⟨rfl,x4l h X.neB5 hk1 (w1t hgrow) hb2 (by rw[ByteArray.size_append]; exact hown') hn⟩
set_option maxHeartbeats 1000000 in
set_option maxRecDepth 100000 in
theorem xj1 (L:Lays.n169 P ρ) (X:Builder.Extra P ρ) {w:World} {b:Nat} {v:Value} {q:ByteArray} (h:BldOk (λ_=>none) w 0 (ρ.t 72) (ρ.t 5) b v q) :
  Calls P (ρ.f 169) #[.pointer (some ⟨b,0,none⟩)] w λe w'=>e=.returned (.string q)/\Kept (Blk (q4r b v)) w w':=by
 obtain⟨p,hp,hbk⟩:=h.cell
 have bel:∀{w':World},Below w.heap.size w w'->Kept (Blk (q4r b v)) w w':=λhb=>q87 hb
 obtain⟨l,rfl⟩:∃l:List UInt8,q=⟨l.toArray⟩:=⟨q.data.toList,rfl⟩
 have hown:w.ownsRow 0 (ρ.t 5) 1 v l.length (Lib.byteCells l):=by
  have:=h.own
  rwa [show(ByteArray.mk l.toArray).size=l.length from rfl,show(ByteArray.mk l.toArray).data.toList=l from rfl] at this
 clear h
 by_cases h0:l=[]
 ·subst h0
  rcases hown.2 with⟨rfl,_⟩ | ⟨g,cap,cur,rfl,_,hg,_,_,_,_⟩
  ·exact(Any.Builder_String_nil L X w.heap.size b p w hbk).mono λe w' ⟨e1,e2⟩=>⟨e1,bel e2⟩
  ·by_cases hc0:cap=0
   ·subst hc0
    exact(Any.Builder_String_noroom L X w.heap.size b g p cur w (Nat.le_refl _) hbk hg).mono λe w' ⟨e1,e2⟩=>⟨e1,bel e2⟩
   ·exact(Any.Builder_String_room L X w.heap.size b g cap p w hc0 hbk).mono λe w' ⟨e1,e2⟩=>⟨e1,bel e2⟩
 have hl0:l.length≠0:=by simpa using h0
 obtain⟨g,cap,cur,rfl,hg,hnc,hcm,hcs,htake⟩:∃g cap cur,v=.slice (some ⟨g,0,none⟩) l.length cap/\w.heap[g]? = some (.cells cur (ρ.t 5) (0,0))/\l.length<=cap/\cap<=maxLen/\cur.size=cap*1/\cur.toList.take (l.length*1)=Lib.byteCells l:=by
  rcases hown.2 with⟨_,hz⟩ | ⟨g,cap,cur,hv,_,r⟩
  ·exact absurd hz hl0
  ·exact⟨g,cap,cur,hv,r⟩
 have c1:w.drew.cell? ⟨b,1,none⟩=some (.slice (some ⟨g,0,none⟩) l.length cap):=by
  have:w.drew.heap[b]? = some (.cells #[p,.slice (some ⟨g,0,none⟩) l.length cap] (ρ.t 72) (0,0)):=hbk
  rw[Lib.cell_of_heap this]; rfl
 have hSD:(Builtin.unsafeSliceData_ #[(ρ.t 37)] (ρ.t 127) #[.slice (some ⟨g,0,none⟩) l.length cap]).run P w.drew=.ok (.pointer (some ⟨g,0,none⟩)) w.drew:=
  Lib.run_unsafeSliceData_row _ _ _ _ _ _ (by omega)
 have hUS:(Builtin.unsafeString_ #[(ρ.t 127),(ρ.t 3)] (ρ.t 9) #[.pointer (some ⟨g,0,none⟩),.int .i64 l.length]).run P w.drew=.ok (.string ⟨l.toArray⟩) (w.drew.freeze ⟨g,0,none⟩ l.length):=by
  refine Lib.run_unsafeString_row w.drew (ρ.t 127) (ρ.t 3) (ρ.t 9) (ρ.t 5) L.t127 X.cellsByte g cur.size (by have hg':w.drew.heap[g]? = some (.cells cur (ρ.t 5) (0,0)):=hg; simp[World.shape?,hg']) l h0 (by omega) (by unfold maxLen at hcm; omega) ?_
  intro j x hx
  have:=hown.cells (g:=g) rfl j (.int .u8 x.toNat) (by simp[Lib.byteCells,hx])
  exact this
 have hfin:Kept (Blk (q4r b (.slice (some ⟨g,0,none⟩) l.length cap))) w (w.drew.freeze ⟨g,0,none⟩ l.length):=by
  refine Kept.mono (D:=λx=>x=g) ?_ λx hx=>q5k.2 (.inr (by rw[hx]; rfl))
  unfold World.freeze
  split
  ·exact⟨rfl,rfl,rfl,Nat.le_refl _,λ_ _=>rfl⟩
  ·refine⟨rfl,rfl,rfl,by simp,λx hx=>?_⟩
   show(Array.modify w.heap g _)[x]? = _
   rw[Array.getElem?_modify,if_neg (λe=>hx.2 e.symm)]
 have mixed:=L.mixed
 have t72:=L.t72; have a72:=L.a72; have z72:=L.z72; have v72:=L.v72; have u72:=run_underlying L.t72
 have t70:=L.t70; have a70:=L.a70; have z70:=L.z70; have v70:=L.v70; have u70:=run_underlying L.t70
 have t37:=L.t37; have a37:=L.a37; have z37:=L.z37; have v37:=L.v37; have u37:=run_underlying L.t37
 have t127:=L.t127; have a127:=L.a127; have z127:=L.z127; have v127:=L.v127; have u127:=run_underlying L.t127
 have t3:=L.t3; have a3:=L.a3; have z3:=L.z3; have v3:=L.v3; have u3:=run_underlying L.t3
 have t9:=L.t9; have a9:=L.a9; have z9:=L.z9; have v9:=L.v9; have u9:=run_underlying L.t9
 have t5:=X.t5; have a5:=X.a5; have z5:=X.z5; have v5:=X.v5; have u5:=run_underlying X.t5
 go_enter L.f169,Body.n169_ntmps ρ
 go_wp2
 go_region_o
 all_goals (go_wp2; go_ret; exact⟨rfl,hfin⟩)
end Eng
namespace Go.Proofs
open Go.Shelf
shelf_lay Lays.n169 Nm 169 at Tryz as Tryz.layOut
def Tryz.layWrt_ren:Go.Shelf.Ren:=⟨fun | 166=>13 | 240=>27 | 276=>53 | n=>n,fun | 0=>0 | 3=>3 | 4=>4 | 5=>5 | 9=>9 | 20=>20 | 37=>36 | 70=>35 | 72=>38 | 75=>42 | 80=>46 | 164=>79 | n=>n,λn=>n⟩
theorem Tryz.layWrt:Lays.n166 Tryz.prog Tryz.layWrt_ren where
 mixed:=by kernel_rfl
 f166:=Tryz.func13.trans (congrArg some (by kernel_rfl))
 f240:=Tryz.func27.trans (congrArg some (by kernel_rfl))
 f276:=Tryz.func53.trans (congrArg some (by kernel_rfl))
 t0:=Tryz.underlying0
 a0:=Tryz.isAgg0
 z0:=Tryz.sizeOf0
 v0:=Tryz.zeroValue0
 t3:=Tryz.underlying3
 a3:=Tryz.isAgg3
 z3:=Tryz.sizeOf3
 v3:=Tryz.zeroValue3
 t4:=Tryz.underlying4
 a4:=Tryz.isAgg4
 z4:=Tryz.sizeOf4
 v4:=Tryz.zeroValue4
 t9:=Tryz.underlying9
 a9:=Tryz.isAgg9
 z9:=Tryz.sizeOf9
 v9:=Tryz.zeroValue9
 t20:=Tryz.underlying20
 a20:=Tryz.isAgg20
 z20:=Tryz.sizeOf20
 v20:=Tryz.zeroValue20
 t37:=Tryz.underlying36
 a37:=Tryz.isAgg36
 z37:=Tryz.sizeOf36
 v37:=Tryz.zeroValue36
 t70:=Tryz.underlying35
 a70:=Tryz.isAgg35
 z70:=Tryz.sizeOf35
 v70:=Tryz.zeroValue35
 t72:=Tryz.underlying38
 a72:=Tryz.isAgg38
 z72:=Tryz.sizeOf38
 v72:=Tryz.zeroValue38
 t75:=Tryz.underlying42
 a75:=Tryz.isAgg42
 z75:=Tryz.sizeOf42
 v75:=Tryz.zeroValue42
 t164:=Tryz.underlying79
 a164:=Tryz.isAgg79
 z164:=Tryz.sizeOf79
 v164:=Tryz.zeroValue79
theorem Tryz.extraWrt:Builder.Extra Tryz.prog Tryz.layWrt_ren where
 sizeBuilder:=by kernel_rfl
 liesBuilder:=by kernel_rfl
 t5:=Tryz.underlying5
 a5:=Tryz.isAgg5
 z5:=Tryz.sizeOf5
 v5:=Tryz.zeroValue5
 infoByte:=by kernel_rfl
 cellsByte:=by kernel_rfl
 sizeByte:=by kernel_rfl
 neB5:=by decide
theorem Tryz.extraOut:Builder.Extra Tryz.prog Tryz.layOut_ren where
 sizeBuilder:=by kernel_rfl
 liesBuilder:=by kernel_rfl
 t5:=Tryz.underlying5
 a5:=Tryz.isAgg5
 z5:=Tryz.sizeOf5
 v5:=Tryz.zeroValue5
 infoByte:=by kernel_rfl
 cellsByte:=by kernel_rfl
 sizeByte:=by kernel_rfl
 neB5:=by decide
end Go.Proofs
namespace Go.Proofs.YtempacilejhbgaaGreatDoor
open Go Go.Proofs Go.RowKit Eng Ls Go.Shelf
theorem xr7:q2t Tryz.prog 13 ⟨38,5,1⟩:=
 ⟨⟨_,_,Tryz.func13,rfl,rfl⟩,λw b v q h=>λu hs=>xj0 Tryz.layWrt Tryz.extraWrt h u hs⟩
theorem out_ok:q2t Tryz.prog 15 ⟨38,5,2⟩:=
 ⟨⟨_,_,Tryz.func15,rfl,rfl⟩,λw b v q h=>xj1 Tryz.layOut Tryz.extraOut h⟩
def blds:List (Nat × wm5):=[(13,⟨38,5,1⟩),(15,⟨38,5,2⟩)]
theorem xj2:∀f B,find blds f=some B->q2t Tryz.prog f B:=by
 intro f B h
 unfold blds at h
 rcases qb3 h with⟨rfl,rfl⟩ | h
 ·exact xr7
 rcases qb3 h with⟨rfl,rfl⟩ | h
 ·exact out_ok
 cases h
def xr8 (specs:List (Nat × qb9)):Ctx:={ specs:=specs,tys:=tys,wr:=[],blds:=blds }
theorem w82 {m0:View} {specs:List (Nat × qb9)} (h:SpecsAt Tryz.prog m0 specs):SoundAt Tryz.prog (xr8 specs) m0:=SpecsAt.sound h q0h (by kernel_rfl) (hbl:=xj2)
end Go.Proofs.YtempacilejhbgaaGreatDoor
