/- What the table of this seat says of its types, for the engine. Printed by program (gentys.py). No condition. -/
import Derived.Test.YtnchigbbjajiiaaGreatEng3
import Derived.Test.YtnchigbbjajiiaaGreatProg
set_option linter.unusedVariables false
set_option linter.unusedSimpArgs false
namespace Go.Proofs.YtnchigbbjajiiaaGreat
open Go Go.RowKit Eng
theorem xe7 {P:Program} {t:Nat} {z:Value} (h:(P.info? t).map (λi=>i.zero)=some (some z)):∃i,P.info? t=some i/\i.zero=some z:=by
 cases hi:P.info? t with
 | none=>rw[hi] at h; cases h
 | some i=>rw[hi] at h; exact⟨i,rfl,zaa h⟩
theorem q0p {P:Program} {t:Nat} {T:TI} {z:Value} {d:TypeDesc} (h1:(P.info? t).map (λi=>(i.size,i.bytes,i.zero))=some (T.size,T.bytes,some z)) (hz:z.cells.size=T.size) (h2:z.cells.toList.all (·.oneCell')=true)
  (h3:∀m ρ,T.zero.ok P m ρ z.cells.toList) (h4:T.dflt=true->∀m,Rd m T.ty T.ty.dflt z.cells.toList) (h5:T.bytes<=1000000) (h6:T.size≠0) (h7:T.size<=10000) (h8:(match d with | .struct _ | .array _ _=>true | _=>false)=T.agg) (hu:P.underlying t=some d)
  (h9:T.kind=1->P.underlying t=some (.slice T.elem)) (h10:T.kind=2->P.underlying t=some .string) (h11:T.kind=3->P.underlying t=some .bool)
  (h12:T.kind=4->∃n sz,P.underlying t=some (.array n T.elem)/\(∃j,P.info? T.elem=some j/\j.size=sz)/\sz≠0/\∀(f:Nat) (fl:Nat × Nat × Nat),T.flds[f]? = some fl->fl=(f*sz,T.elem,sz)/\f<n)
  (h13:T.kind=5->∃fields,P.underlying t=some (.struct fields)/\fields.toList.map (λF=>(F.offset,F.type))=T.flds.map (λf=>(f.1,f.2.1))/\∀f∈T.flds,(∃j,P.info? f.2.1=some j/\j.size=f.2.2)/\f.2.2≠0) (h14:T.kind<=5) (h15:T.eq2=true->Eq2 P t:=by(intro h; cases h)) (h16:T.isInt=true->∃k,T.ty=.int k/\P.underlying t=some (.int k):=by(intro h; cases h))
  (h17:∀eb,T.bld=some eb->∃i,P.info? t=some i/\i.zero=some (.agg #[.pointer none,.slice none 0 0]):=by(intro eb h; cases h)) (h18:T.mp=true->(∃k,P.underlying t=some (.map k T.elem)/\P.underlying k=some .string)/\∃j z,P.info? T.elem=some j/\j.zero=some z/\z.cells=#[z]:=by(intro h; cases h)) (h19:T.eq3=true->Eq3 P t:=by(intro h; cases h)) (h20:T.isInt=true->z.cells=#[z]:=by(intro h; cases h)):TIok P t T:=by
 refine⟨?_,h5,h6,h7,⟨d,hu,h8⟩,h9,h10,h11,h12,h13,h14,h15,h19,h16,λhi=>?_,h18,h17⟩
 rotate_left
 ·cases hq:P.info? t with
  | none=>rw[hq] at h1; cases h1
  | some i=>rw[hq] at h1; simp only[Option.map_some,Option.some.injEq,Prod.mk.injEq] at h1; exact⟨i,z,rfl,h1.2.2,h20 hi⟩
 cases hi:P.info? t with
 | none=>rw[hi] at h1; cases h1
 | some i=>
  rw[hi] at h1
  simp only[Option.map_some,Option.some.injEq,Prod.mk.injEq] at h1
  exact⟨i,z,rfl,h1.1,h1.2.1,h1.2.2,hz,h2,h3,h4⟩
def tiI (k:IntKind) (b:Nat):TI:={ agg:=false,size:=1,bytes:=b,ty:=.int k,zero:=.cons (.lit (.int k 0)) .nil,kind:=0,dflt:=true,elem:=0,flds:=[],isInt:=true }
def tiS (b e:Nat) (y:Ty):TI:={ agg:=false,size:=1,bytes:=b,ty:=.list y,zero:=.cons (.lit (.slice none 0 0)) .nil,kind:=1,dflt:=true,elem:=e,flds:=[] }
def tiZ (z:Value) (b:Nat):TI:={ agg:=false,size:=1,bytes:=b,ty:=.bool,zero:=.cons (.lit z) .nil,kind:=0,dflt:=false,elem:=0,flds:=[] }
theorem k_ne {a b:Nat} {p:Prop} (h:a=b) (hn:Nat.beq a b=false):p:=absurd h (Nat.ne_of_beq_eq_false hn)
theorem q6k {P:Program} {t:Nat} {k:IntKind} {b:Nat} (h1:(P.info? t).map (λi=>(i.size,i.bytes,i.zero))=some (1,b,some (.int k 0))) (hu:P.underlying t=some (.int k)) (hb:b<=1000000):TIok P t (tiI k b):=
 q0p (z:=.int k 0) h1 rfl rfl (λm ρ=>⟨_,_,rfl,rfl,rfl⟩) (λ_ m=>rfl) hb (zcq 0) (show 1<=10000 by decide) rfl hu (λh=>k_ne h rfl) (λh=>k_ne h rfl) (λh=>k_ne h rfl) (λh=>k_ne h rfl) (λh=>k_ne h rfl) (zae 5) (h16:=λ_=>⟨k,rfl,hu⟩) (h20:=λ_=>rfl)
theorem q4j {P:Program} {t b e:Nat} {y:Ty} (h1:(P.info? t).map (λi=>(i.size,i.bytes,i.zero))=some (1,b,some (.slice none 0 0))) (hu:P.underlying t=some (.slice e)) (hb:b<=1000000):TIok P t (tiS b e y):=
 q0p (z:=.slice none 0 0) h1 rfl rfl (λm ρ=>⟨_,_,rfl,rfl,rfl⟩) (λ_ m=>⟨none,0,rfl,zac _,by unfold maxLen; exact zae _,λh=>absurd h (zbg 0)⟩) hb (zcq 0) (show 1<=10000 by decide) rfl hu (λ_=>hu) (λh=>k_ne h rfl) (λh=>k_ne h rfl) (λh=>k_ne h rfl) (λh=>k_ne h rfl) (show 1<=5 by decide)
theorem qi1 {P:Program} {t b:Nat} {z:Value} {d:TypeDesc} (hz:z.cells=#[z]) (ho:z.oneCell'=true) (h1:(P.info? t).map (λi=>(i.size,i.bytes,i.zero))=some (1,b,some z)) (hu:P.underlying t=some d) (h8:(match(generalizing:=false) d with | .struct _ | .array _ _=>true | _=>false)=false) (hb:b<=1000000):TIok P t (tiZ z b):=
 q0p (z:=z) h1 (by rw[hz]; rfl) (by rw[hz]; show(z.oneCell' && true)=true; rw[ho]; rfl) (λm ρ=>by rw[hz]; exact⟨_,_,rfl,rfl,rfl⟩) (λh=>by cases h) hb (zcq 0) (show 1<=10000 by decide) h8 hu (λh=>k_ne h rfl) (λh=>k_ne h rfl) (λh=>k_ne h rfl) (λh=>k_ne h rfl) (λh=>k_ne h rfl) (zae 5)
def tiM (b e:Nat):TI:={ agg:=false,size:=1,bytes:=b,ty:=.bool,zero:=.cons (.lit (.map none)) .nil,kind:=0,dflt:=false,elem:=e,flds:=[],mp:=true }
theorem yb7 {P:Program} {t b e q:Nat} {y:Value} (h1:(P.info? t).map (λi=>(i.size,i.bytes,i.zero))=some (1,b,some (.map none))) (hu:P.underlying t=some (.map q e)) (hq:P.underlying q=some .string) (hy:(P.info? e).map (λi=>i.zero)=some (some y)) (hy1:y.cells=#[y]) (hb:b<=1000000):TIok P t (tiM b e):=
 q0p (z:=.map none) h1 rfl rfl (λm ρ=>⟨_,_,rfl,rfl,rfl⟩) (λh=>by cases h) hb (zcq 0) (show 1<=10000 by decide) rfl hu (λh=>k_ne h rfl) (λh=>k_ne h rfl) (λh=>k_ne h rfl) (λh=>k_ne h rfl) (λh=>k_ne h rfl) (zae 5) (h18:=λ_=>⟨⟨q,hu,hq⟩,(xe7 hy).elim λj h=>⟨j,y,h.1,h.2,hy1⟩⟩)
def tiR (b:Nat):TI:={ agg:=false,size:=1,bytes:=b,ty:=.str,zero:=.cons (.lit (.string ⟨#[]⟩)) .nil,kind:=2,dflt:=true,elem:=0,flds:=[] }
def tiB (b:Nat):TI:={ agg:=false,size:=1,bytes:=b,ty:=.bool,zero:=.cons .ff .nil,kind:=3,dflt:=true,elem:=0,flds:=[] }
theorem yb8 {P:Program} {t b:Nat} (h1:(P.info? t).map (λi=>(i.size,i.bytes,i.zero))=some (1,b,some (.string ⟨#[]⟩))) (hu:P.underlying t=some .string) (hb:b<=1000000):TIok P t (tiR b):=
 q0p (z:=.string ⟨#[]⟩) h1 rfl rfl (λm ρ=>⟨_,_,rfl,rfl,rfl⟩) (λ_ m=>rfl) hb (zcq 0) (show 1<=10000 by decide) rfl hu (λh=>k_ne h rfl) (λ_=>hu) (λh=>k_ne h rfl) (λh=>k_ne h rfl) (λh=>k_ne h rfl) (show 2<=5 by decide)
theorem yb9 {P:Program} {t b:Nat} (h1:(P.info? t).map (λi=>(i.size,i.bytes,i.zero))=some (1,b,some (.bool false))) (hu:P.underlying t=some .bool) (hb:b<=1000000):TIok P t (tiB b):=
 q0p (z:=.bool false) h1 rfl rfl (λm ρ=>⟨_,_,rfl,rfl,rfl⟩) (λ_ m=>rfl) hb (zcq 0) (show 1<=10000 by decide) rfl hu (λh=>k_ne h rfl) (λh=>k_ne h rfl) (λ_=>hu) (λh=>k_ne h rfl) (λh=>k_ne h rfl) (show 3<=5 by decide)
theorem qt6 {P:Program} {t:Nat} {T:TI} (h:TIok P t T):∃j,P.info? t=some j/\j.size=T.size:=by
 obtain⟨i,z,h1,h2,_⟩:=h.info
 exact⟨i,h1,h2⟩
def T2:TI:=tiI .i64 8
theorem ti2:TIok Tryz.prog 2 T2:=q6k kr Tryz.underlying2 dc
def T3:TI:=tiI .i64 8
theorem ti3:TIok Tryz.prog 3 T3:=q6k kr Tryz.underlying3 dc
def T4:TI:=tiB 1
theorem ti4:TIok Tryz.prog 4 T4:=yb9 kr Tryz.underlying4 dc
def T5:TI:=tiI .u8 1
theorem ti5:TIok Tryz.prog 5 T5:=q6k kr Tryz.underlying5 dc
def T9:TI:=tiR 16
theorem ti9:TIok Tryz.prog 9 T9:=yb8 kr Tryz.underlying9 dc
def T22:TI:=tiS 24 24 (.list (.int .i64))
theorem y2x:TIok Tryz.prog 22 T22:=q4j kr Tryz.underlying22 dc
def T23:TI:=tiS 24 24 (.list (.int .i64))
theorem yo8:TIok Tryz.prog 23 T23:=q4j kr Tryz.underlying23 dc
def T24:TI:=tiS 24 3 (.int .i64)
theorem yc0:TIok Tryz.prog 24 T24:=q4j kr Tryz.underlying24 dc
def T33:TI:=tiI .i64 8
theorem y2y:TIok Tryz.prog 33 T33:=q6k kr Tryz.underlying33 dc
def T41:TI:=tiZ (.nilFunc) 8
theorem y2z:TIok Tryz.prog 41 T41:=qi1 rfl rfl kr Tryz.underlying41 rfl dc
def T43:TI:={ agg:=true,size:=2,bytes:=16,ty:=.prod (.int .i64) (.int .i64),zero:=.cons (.lit (.int .i64 0)) (.cons (.lit (.int .i64 0)) .nil),kind:=5,dflt:=true,elem:=0,flds:=[(0,3,1),(1,3,1)],eq2:=true }
theorem yo9:TIok Tryz.prog 43 T43:=q0p (z:=.agg #[.int .i64 0,.int .i64 0]) kr rfl rfl (λm ρ=>⟨_,_,rfl,rfl,⟨_,_,rfl,rfl,rfl⟩⟩) (λ_ m=>⟨[.int .i64 0],[.int .i64 0],rfl,rfl,rfl⟩) dc dc dc rfl Tryz.underlying43 (λh=>by cases h) (λh=>by cases h) (λh=>by cases h)
 (λh=>by cases h)
 (λ_=>⟨_,Tryz.underlying43,rfl,λf hf=>by
  simp only[T43,List.mem_cons,List.not_mem_nil,or_false] at hf
  rcases hf with rfl | rfl
  ·exact⟨qt6 ti3,dc⟩
  ·exact⟨qt6 ti3,dc⟩⟩) dc (λ_=>wc7 Tryz.underlying43 dc dc rfl rfl Tryz.underlying3 Tryz.underlying3 kr kr)
def T45:TI:=tiZ (.nilFunc) 8
theorem y26:TIok Tryz.prog 45 T45:=qi1 rfl rfl kr Tryz.underlying45 rfl dc
def T46:TI:=tiZ (.nilFunc) 8
theorem y3a:TIok Tryz.prog 46 T46:=qi1 rfl rfl kr Tryz.underlying46 rfl dc
def T53:TI:=tiS 24 43 (.prod (.int .i64) (.int .i64))
theorem y1d:TIok Tryz.prog 53 T53:=q4j kr Tryz.underlying53 dc
def T55:TI:={ agg:=true,size:=2,bytes:=48,ty:=.prod (.list (.int .i64)) (.list (.prod (.int .i64) (.int .i64))),zero:=.cons (.lit (.slice none 0 0)) (.cons (.lit (.slice none 0 0)) .nil),kind:=5,dflt:=true,elem:=0,flds:=[(0,24,1),(1,53,1)] }
theorem y3b:TIok Tryz.prog 55 T55:=q0p (z:=.agg #[.slice none 0 0,.slice none 0 0]) kr rfl rfl (λm ρ=>⟨_,_,rfl,rfl,⟨_,_,rfl,rfl,rfl⟩⟩) (λ_ m=>⟨[.slice none 0 0],[.slice none 0 0],rfl,⟨none,0,rfl,zac _,by unfold maxLen; exact zae _,λh=>absurd h (zbg 0)⟩,⟨none,0,rfl,zac _,by unfold maxLen; exact zae _,λh=>absurd h (zbg 0)⟩⟩) dc dc dc rfl Tryz.underlying55 (λh=>by cases h) (λh=>by cases h) (λh=>by cases h)
 (λh=>by cases h)
 (λ_=>⟨_,Tryz.underlying55,rfl,λf hf=>by
  simp only[T55,List.mem_cons,List.not_mem_nil,or_false] at hf
  rcases hf with rfl | rfl
  ·exact⟨qt6 yc0,dc⟩
  ·exact⟨qt6 y1d,dc⟩⟩) dc
def T60:TI:=tiS 24 158 (.prod (.bool) (.list (.int .i64)))
theorem y3c:TIok Tryz.prog 60 T60:=q4j kr Tryz.underlying60 dc
def T69:TI:=tiZ (.nilFunc) 8
theorem y3d:TIok Tryz.prog 69 T69:=qi1 rfl rfl kr Tryz.underlying69 rfl dc
def T70:TI:=tiS 24 170 (.prod (.int .i64) (.prod (.int .i64) (.int .i64)))
theorem y3e:TIok Tryz.prog 70 T70:=q4j kr Tryz.underlying70 dc
def T74:TI:=tiZ (.nilFunc) 8
theorem y3f:TIok Tryz.prog 74 T74:=qi1 rfl rfl kr Tryz.underlying74 rfl dc
def T82:TI:=tiZ (.nilFunc) 8
theorem y3g:TIok Tryz.prog 82 T82:=qi1 rfl rfl kr Tryz.underlying82 rfl dc
def T99:TI:=tiZ (.nilFunc) 8
theorem y3h:TIok Tryz.prog 99 T99:=qi1 rfl rfl kr Tryz.underlying99 rfl dc
def y1e:TI:=tiS 24 53 (.list (.prod (.int .i64) (.int .i64)))
theorem yp0:TIok Tryz.prog 101 y1e:=q4j kr Tryz.underlying101 dc
def y1f:TI:=tiS 24 55 (.prod (.list (.int .i64)) (.list (.prod (.int .i64) (.int .i64))))
theorem yc1:TIok Tryz.prog 104 y1f:=q4j kr Tryz.underlying104 dc
def yp1:TI:={ agg:=true,size:=2,bytes:=48,ty:=.prod (.list (.list (.int .i64))) (.list (.int .i64)),zero:=.cons (.lit (.slice none 0 0)) (.cons (.lit (.slice none 0 0)) .nil),kind:=5,dflt:=true,elem:=0,flds:=[(0,23,1),(1,24,1)] }
theorem yc2:TIok Tryz.prog 108 yp1:=q0p (z:=.agg #[.slice none 0 0,.slice none 0 0]) kr rfl rfl (λm ρ=>⟨_,_,rfl,rfl,⟨_,_,rfl,rfl,rfl⟩⟩) (λ_ m=>⟨[.slice none 0 0],[.slice none 0 0],rfl,⟨none,0,rfl,zac _,by unfold maxLen; exact zae _,λh=>absurd h (zbg 0)⟩,⟨none,0,rfl,zac _,by unfold maxLen; exact zae _,λh=>absurd h (zbg 0)⟩⟩) dc dc dc rfl Tryz.underlying108 (λh=>by cases h) (λh=>by cases h) (λh=>by cases h)
 (λh=>by cases h)
 (λ_=>⟨_,Tryz.underlying108,rfl,λf hf=>by
  simp only[yp1,List.mem_cons,List.not_mem_nil,or_false] at hf
  rcases hf with rfl | rfl
  ·exact⟨qt6 yo8,dc⟩
  ·exact⟨qt6 yc0,dc⟩⟩) dc
def yp2:TI:={ agg:=true,size:=5,bytes:=88,ty:=.prod (.prod (.list (.list (.int .i64))) (.list (.int .i64))) (.prod (.prod (.int .i64) (.int .i64)) (.list (.prod (.list (.int .i64)) (.list (.prod (.int .i64) (.int .i64)))))),zero:=.cons (.lit (.slice none 0 0)) (.cons (.lit (.slice none 0 0)) (.cons (.lit (.int .i64 0)) (.cons (.lit (.int .i64 0)) (.cons (.lit (.slice none 0 0)) .nil)))),kind:=5,dflt:=true,elem:=0,flds:=[(0,108,2),(2,43,2),(4,104,1)] }
theorem yp3:TIok Tryz.prog 110 yp2:=q0p (z:=.agg #[.slice none 0 0,.slice none 0 0,.int .i64 0,.int .i64 0,.slice none 0 0]) kr rfl rfl (λm ρ=>⟨_,_,rfl,rfl,⟨_,_,rfl,rfl,⟨_,_,rfl,rfl,⟨_,_,rfl,rfl,⟨_,_,rfl,rfl,rfl⟩⟩⟩⟩⟩) (λ_ m=>⟨[.slice none 0 0,.slice none 0 0],[.int .i64 0,.int .i64 0,.slice none 0 0],rfl,⟨[.slice none 0 0],[.slice none 0 0],rfl,⟨none,0,rfl,zac _,by unfold maxLen; exact zae _,λh=>absurd h (zbg 0)⟩,⟨none,0,rfl,zac _,by unfold maxLen; exact zae _,λh=>absurd h (zbg 0)⟩⟩,⟨[.int .i64 0,.int .i64 0],[.slice none 0 0],rfl,⟨[.int .i64 0],[.int .i64 0],rfl,rfl,rfl⟩,⟨none,0,rfl,zac _,by unfold maxLen; exact zae _,λh=>absurd h (zbg 0)⟩⟩⟩) dc dc dc rfl Tryz.underlying110 (λh=>by cases h) (λh=>by cases h) (λh=>by cases h)
 (λh=>by cases h)
 (λ_=>⟨_,Tryz.underlying110,rfl,λf hf=>by
  simp only[yp2,List.mem_cons,List.not_mem_nil,or_false] at hf
  rcases hf with rfl | rfl | rfl
  ·exact⟨qt6 yc2,dc⟩
  ·exact⟨qt6 yo9,dc⟩
  ·exact⟨qt6 yc1,dc⟩⟩) dc
def y1g:TI:=tiZ (.nilFunc) 8
theorem yp4:TIok Tryz.prog 116 y1g:=qi1 rfl rfl kr Tryz.underlying116 rfl dc
def y1h:TI:=tiZ (.nilFunc) 8
theorem yp5:TIok Tryz.prog 119 y1h:=qi1 rfl rfl kr Tryz.underlying119 rfl dc
def y1i:TI:=tiZ (.nilFunc) 8
theorem yp6:TIok Tryz.prog 121 y1i:=qi1 rfl rfl kr Tryz.underlying121 rfl dc
def y1j:TI:=tiZ (.nilFunc) 8
theorem yp7:TIok Tryz.prog 125 y1j:=qi1 rfl rfl kr Tryz.underlying125 rfl dc
def y1k:TI:=tiZ (.nilFunc) 8
theorem yp8:TIok Tryz.prog 127 y1k:=qi1 rfl rfl kr Tryz.underlying127 rfl dc
def y1l:TI:=tiZ (.nilFunc) 8
theorem yp9:TIok Tryz.prog 130 y1l:=qi1 rfl rfl kr Tryz.underlying130 rfl dc
def y1m:TI:=tiZ (.nilFunc) 8
theorem yq0:TIok Tryz.prog 137 y1m:=qi1 rfl rfl kr Tryz.underlying137 rfl dc
def y1n:TI:=tiZ (.nilFunc) 8
theorem yq1:TIok Tryz.prog 141 y1n:=qi1 rfl rfl kr Tryz.underlying141 rfl dc
def yq2:TI:={ agg:=true,size:=2,bytes:=48,ty:=.prod (.list (.list (.int .i64))) (.list (.int .i64)),zero:=.cons (.lit (.slice none 0 0)) (.cons (.lit (.slice none 0 0)) .nil),kind:=5,dflt:=true,elem:=0,flds:=[(0,23,1),(1,24,1)] }
theorem yq3:TIok Tryz.prog 143 yq2:=q0p (z:=.agg #[.slice none 0 0,.slice none 0 0]) kr rfl rfl (λm ρ=>⟨_,_,rfl,rfl,⟨_,_,rfl,rfl,rfl⟩⟩) (λ_ m=>⟨[.slice none 0 0],[.slice none 0 0],rfl,⟨none,0,rfl,zac _,by unfold maxLen; exact zae _,λh=>absurd h (zbg 0)⟩,⟨none,0,rfl,zac _,by unfold maxLen; exact zae _,λh=>absurd h (zbg 0)⟩⟩) dc dc dc rfl Tryz.underlying143 (λh=>by cases h) (λh=>by cases h) (λh=>by cases h)
 (λh=>by cases h)
 (λ_=>⟨_,Tryz.underlying143,rfl,λf hf=>by
  simp only[yq2,List.mem_cons,List.not_mem_nil,or_false] at hf
  rcases hf with rfl | rfl
  ·exact⟨qt6 yo8,dc⟩
  ·exact⟨qt6 yc0,dc⟩⟩) dc
def y1o:TI:=tiI .u64 8
theorem yc3:TIok Tryz.prog 147 y1o:=q6k kr Tryz.underlying147 dc
def yq4:TI:={ agg:=true,size:=2,bytes:=16,ty:=.prod (.int .i64) (.int .u64),zero:=.cons (.lit (.int .i64 0)) (.cons (.lit (.int .u64 0)) .nil),kind:=5,dflt:=true,elem:=0,flds:=[(0,2,1),(1,147,1)],eq2:=true }
theorem x6n:TIok Tryz.prog 149 yq4:=q0p (z:=.agg #[.int .i64 0,.int .u64 0]) kr rfl rfl (λm ρ=>⟨_,_,rfl,rfl,⟨_,_,rfl,rfl,rfl⟩⟩) (λ_ m=>⟨[.int .i64 0],[.int .u64 0],rfl,rfl,rfl⟩) dc dc dc rfl Tryz.underlying149 (λh=>by cases h) (λh=>by cases h) (λh=>by cases h)
 (λh=>by cases h)
 (λ_=>⟨_,Tryz.underlying149,rfl,λf hf=>by
  simp only[yq4,List.mem_cons,List.not_mem_nil,or_false] at hf
  rcases hf with rfl | rfl
  ·exact⟨qt6 ti2,dc⟩
  ·exact⟨qt6 yc3,dc⟩⟩) dc (λ_=>wc7 Tryz.underlying149 dc dc rfl rfl Tryz.underlying2 Tryz.underlying147 kr kr)
def yq5:TI:={ agg:=true,size:=4,bytes:=32,ty:=.prod (.prod (.int .i64) (.int .u64)) (.prod (.int .i64) (.int .u64)),zero:=.cons (.lit (.int .i64 0)) (.cons (.lit (.int .u64 0)) (.cons (.lit (.int .i64 0)) (.cons (.lit (.int .u64 0)) .nil))),kind:=5,dflt:=true,elem:=0,flds:=[(0,149,2),(2,149,2)] }
theorem yq6:TIok Tryz.prog 151 yq5:=q0p (z:=.agg #[.int .i64 0,.int .u64 0,.int .i64 0,.int .u64 0]) kr rfl rfl (λm ρ=>⟨_,_,rfl,rfl,⟨_,_,rfl,rfl,⟨_,_,rfl,rfl,⟨_,_,rfl,rfl,rfl⟩⟩⟩⟩) (λ_ m=>⟨[.int .i64 0,.int .u64 0],[.int .i64 0,.int .u64 0],rfl,⟨[.int .i64 0],[.int .u64 0],rfl,rfl,rfl⟩,⟨[.int .i64 0],[.int .u64 0],rfl,rfl,rfl⟩⟩) dc dc dc rfl Tryz.underlying151 (λh=>by cases h) (λh=>by cases h) (λh=>by cases h)
 (λh=>by cases h)
 (λ_=>⟨_,Tryz.underlying151,rfl,λf hf=>by
  simp only[yq5,List.mem_cons,List.not_mem_nil,or_false] at hf
  rcases hf with rfl | rfl
  ·exact⟨qt6 x6n,dc⟩
  ·exact⟨qt6 x6n,dc⟩⟩) dc
def y1p:TI:=tiZ (.nilFunc) 8
theorem yq7:TIok Tryz.prog 156 y1p:=qi1 rfl rfl kr Tryz.underlying156 rfl dc
def yq8:TI:={ agg:=true,size:=2,bytes:=32,ty:=.prod (.bool) (.list (.int .i64)),zero:=.cons (.ff) (.cons (.lit (.slice none 0 0)) .nil),kind:=5,dflt:=true,elem:=0,flds:=[(0,4,1),(1,24,1)] }
theorem yc4:TIok Tryz.prog 158 yq8:=q0p (z:=.agg #[.bool false,.slice none 0 0]) kr rfl rfl (λm ρ=>⟨_,_,rfl,rfl,⟨_,_,rfl,rfl,rfl⟩⟩) (λ_ m=>⟨[.bool false],[.slice none 0 0],rfl,rfl,⟨none,0,rfl,zac _,by unfold maxLen; exact zae _,λh=>absurd h (zbg 0)⟩⟩) dc dc dc rfl Tryz.underlying158 (λh=>by cases h) (λh=>by cases h) (λh=>by cases h)
 (λh=>by cases h)
 (λ_=>⟨_,Tryz.underlying158,rfl,λf hf=>by
  simp only[yq8,List.mem_cons,List.not_mem_nil,or_false] at hf
  rcases hf with rfl | rfl
  ·exact⟨qt6 ti4,dc⟩
  ·exact⟨qt6 yc0,dc⟩⟩) dc
def y1q:TI:=tiZ (.nilFunc) 8
theorem yq9:TIok Tryz.prog 159 y1q:=qi1 rfl rfl kr Tryz.underlying159 rfl dc
def y1r:TI:=tiZ (.nilFunc) 8
theorem yr0:TIok Tryz.prog 161 y1r:=qi1 rfl rfl kr Tryz.underlying161 rfl dc
def y1s:TI:=tiZ (.nilFunc) 8
theorem yr1:TIok Tryz.prog 162 y1s:=qi1 rfl rfl kr Tryz.underlying162 rfl dc
def y1t:TI:=tiZ (.nilFunc) 8
theorem yr2:TIok Tryz.prog 163 y1t:=qi1 rfl rfl kr Tryz.underlying163 rfl dc
def y1u:TI:=tiM 8 4
theorem yr3:TIok Tryz.prog 166 y1u:=yb7 (y:=.bool false) kr Tryz.underlying166 Tryz.underlying9 kr rfl dc
def y1v:TI:=tiZ (.nilFunc) 8
theorem yr4:TIok Tryz.prog 167 y1v:=qi1 rfl rfl kr Tryz.underlying167 rfl dc
def yr5:TI:={ agg:=true,size:=3,bytes:=24,ty:=.prod (.int .i64) (.prod (.int .i64) (.int .i64)),zero:=.cons (.lit (.int .i64 0)) (.cons (.lit (.int .i64 0)) (.cons (.lit (.int .i64 0)) .nil)),kind:=5,dflt:=true,elem:=0,flds:=[(0,3,1),(1,3,1),(2,3,1)],eq3:=true }
theorem yr6:TIok Tryz.prog 170 yr5:=q0p (z:=.agg #[.int .i64 0,.int .i64 0,.int .i64 0]) kr rfl rfl (λm ρ=>⟨_,_,rfl,rfl,⟨_,_,rfl,rfl,⟨_,_,rfl,rfl,rfl⟩⟩⟩) (λ_ m=>⟨[.int .i64 0],[.int .i64 0,.int .i64 0],rfl,rfl,⟨[.int .i64 0],[.int .i64 0],rfl,rfl,rfl⟩⟩) dc dc dc rfl Tryz.underlying170 (λh=>by cases h) (λh=>by cases h) (λh=>by cases h)
 (λh=>by cases h)
 (λ_=>⟨_,Tryz.underlying170,rfl,λf hf=>by
  simp only[yr5,List.mem_cons,List.not_mem_nil,or_false] at hf
  rcases hf with rfl | rfl | rfl
  ·exact⟨qt6 ti3,dc⟩
  ·exact⟨qt6 ti3,dc⟩
  ·exact⟨qt6 ti3,dc⟩⟩) dc (h19:=λ_=>w6i Tryz.underlying170 dc dc dc rfl rfl rfl Tryz.underlying3 Tryz.underlying3 Tryz.underlying3 kr kr)
def y1w:TI:=tiZ (.nilFunc) 8
theorem yr7:TIok Tryz.prog 178 y1w:=qi1 rfl rfl kr Tryz.underlying178 rfl dc
def y1x:TI:=tiZ (.nilFunc) 8
theorem yr8:TIok Tryz.prog 183 y1x:=qi1 rfl rfl kr Tryz.underlying183 rfl dc
def y1y:TI:=tiZ (.nilFunc) 8
theorem yr9:TIok Tryz.prog 187 y1y:=qi1 rfl rfl kr Tryz.underlying187 rfl dc
def y1z:TI:=tiZ (.nilFunc) 8
theorem ys1:TIok Tryz.prog 189 y1z:=qi1 rfl rfl kr Tryz.underlying189 rfl dc
def y10:TI:=tiZ (.nilFunc) 8
theorem ys2:TIok Tryz.prog 191 y10:=qi1 rfl rfl kr Tryz.underlying191 rfl dc
def y11:TI:=tiZ (.nilFunc) 8
theorem ys3:TIok Tryz.prog 193 y11:=qi1 rfl rfl kr Tryz.underlying193 rfl dc
def y12:TI:=tiZ (.nilFunc) 8
theorem ys4:TIok Tryz.prog 195 y12:=qi1 rfl rfl kr Tryz.underlying195 rfl dc
def y14:TI:=tiI .u64 8
theorem ys5:TIok Tryz.prog 199 y14:=q6k kr Tryz.underlying199 dc
def ys6:TI:={ agg:=true,size:=2,bytes:=32,ty:=.prod (.bool) (.list (.int .i64)),zero:=.cons (.ff) (.cons (.lit (.slice none 0 0)) .nil),kind:=5,dflt:=true,elem:=0,flds:=[(0,158,2)] }
theorem ys7:TIok Tryz.prog 202 ys6:=q0p (z:=.agg #[.bool false,.slice none 0 0]) kr rfl rfl (λm ρ=>⟨_,_,rfl,rfl,⟨_,_,rfl,rfl,rfl⟩⟩) (λ_ m=>⟨[.bool false],[.slice none 0 0],rfl,rfl,⟨none,0,rfl,zac _,by unfold maxLen; exact zae _,λh=>absurd h (zbg 0)⟩⟩) dc dc dc rfl Tryz.underlying202 (λh=>by cases h) (λh=>by cases h) (λh=>by cases h)
 (λh=>by cases h)
 (λ_=>⟨_,Tryz.underlying202,rfl,λf hf=>by
  simp only[ys6,List.mem_cons,List.not_mem_nil,or_false] at hf
  rcases hf with rfl
  ·exact⟨qt6 yc4,dc⟩⟩) dc
def y15:TI:=tiZ (.nilFunc) 8
theorem ys8:TIok Tryz.prog 203 y15:=qi1 rfl rfl kr Tryz.underlying203 rfl dc
def y16:TI:=tiZ (.nilFunc) 8
theorem ys9:TIok Tryz.prog 205 y16:=qi1 rfl rfl kr Tryz.underlying205 rfl dc
def y17:TI:=tiZ (.pointer none) 8
theorem yc5:TIok Tryz.prog 207 y17:=qi1 rfl rfl kr Tryz.underlying207 rfl dc
def y18:TI:=tiS 24 5 (.int .u8)
theorem yc6:TIok Tryz.prog 208 y18:=q4j kr Tryz.underlying208 dc
def yt0:TI:={ agg:=true,size:=2,bytes:=32,ty:=.bool,zero:=.cons (.lit (.pointer none)) (.cons (.lit (.slice none 0 0)) .nil),kind:=5,dflt:=false,elem:=0,flds:=[(0,207,1),(1,208,1)],bld:=some 5 }
theorem yt1:TIok Tryz.prog 210 yt0:=q0p (z:=.agg #[.pointer none,.slice none 0 0]) kr rfl rfl (λm ρ=>⟨_,_,rfl,rfl,⟨_,_,rfl,rfl,rfl⟩⟩) (λh=>by cases h) dc dc dc rfl Tryz.underlying210 (λh=>by cases h) (λh=>by cases h) (λh=>by cases h)
 (λh=>by cases h)
 (λ_=>⟨_,Tryz.underlying210,rfl,λf hf=>by
  simp only[yt0,List.mem_cons,List.not_mem_nil,or_false] at hf
  rcases hf with rfl | rfl
  ·exact⟨qt6 yc5,dc⟩
  ·exact⟨qt6 yc6,dc⟩⟩) dc (h17:=λ_ _=>xe7 kr)
def y19:TI:=tiZ (.nilFunc) 8
theorem yc7:TIok Tryz.prog 215 y19:=qi1 rfl rfl kr Tryz.underlying215 rfl dc
def y2a:TI:={ agg:=true,size:=4,bytes:=32,ty:=.bool,zero:=.cons (.lit .nilFunc) (.cons (.lit .nilFunc) (.cons (.lit .nilFunc) (.cons (.lit .nilFunc) .nil))),kind:=4,dflt:=false,elem:=215,flds:=[(0,215,1),(1,215,1),(2,215,1),(3,215,1)] }
theorem yt2:TIok Tryz.prog 216 y2a:=q0p (z:=.agg #[.nilFunc,.nilFunc,.nilFunc,.nilFunc]) kr rfl rfl (λm ρ=>⟨_,_,rfl,rfl,⟨_,_,rfl,rfl,⟨_,_,rfl,rfl,⟨_,_,rfl,rfl,rfl⟩⟩⟩⟩) (λh=>by cases h) dc dc dc rfl Tryz.underlying216 (λh=>by cases h) (λh=>by cases h) (λh=>by cases h)
 (λ_=>⟨4,1,Tryz.underlying216,qt6 yc7,dc,λf fl h=>by
  match f,h with
  | 0,h=>injection h with h; exact⟨h.symm,dc⟩
  | 1,h=>injection h with h; exact⟨h.symm,dc⟩
  | 2,h=>injection h with h; exact⟨h.symm,dc⟩
  | 3,h=>injection h with h; exact⟨h.symm,dc⟩⟩)
 (λh=>by cases h) dc
def yt3:TI:={ agg:=true,size:=2,bytes:=16,ty:=.prod (.int .i64) (.int .i64),zero:=.cons (.lit (.int .i64 0)) (.cons (.lit (.int .i64 0)) .nil),kind:=5,dflt:=true,elem:=0,flds:=[(0,43,2)] }
theorem yt4:TIok Tryz.prog 220 yt3:=q0p (z:=.agg #[.int .i64 0,.int .i64 0]) kr rfl rfl (λm ρ=>⟨_,_,rfl,rfl,⟨_,_,rfl,rfl,rfl⟩⟩) (λ_ m=>⟨[.int .i64 0],[.int .i64 0],rfl,rfl,rfl⟩) dc dc dc rfl Tryz.underlying220 (λh=>by cases h) (λh=>by cases h) (λh=>by cases h)
 (λh=>by cases h)
 (λ_=>⟨_,Tryz.underlying220,rfl,λf hf=>by
  simp only[yt3,List.mem_cons,List.not_mem_nil,or_false] at hf
  rcases hf with rfl
  ·exact⟨qt6 yo9,dc⟩⟩) dc
def y2b:TI:=tiI .i64 8
theorem yt5:TIok Tryz.prog 244 y2b:=q6k kr Tryz.underlying244 dc
def y2c:TI:=tiI .u32 4
theorem yt6:TIok Tryz.prog 252 y2c:=q6k kr Tryz.underlying252 dc
def y2d:TI:=tiZ (.nilFunc) 8
theorem yt7:TIok Tryz.prog 264 y2d:=qi1 rfl rfl kr Tryz.underlying264 rfl dc
def tys:List (Nat × TI):=[(2,T2),(3,T3),(4,T4),(5,T5),(9,T9),(22,T22),(23,T23),(24,T24),(33,T33),(41,T41),(43,T43),(45,T45),(46,T46),(53,T53),(55,T55),(60,T60),(69,T69),(70,T70),(74,T74),(82,T82),(99,T99),(101,y1e),(104,y1f),(108,yp1),(110,yp2),(116,y1g),(119,y1h),(121,y1i),(125,y1j),(127,y1k),(130,y1l),(137,y1m),(141,y1n),(143,yq2),(147,y1o),(149,yq4),(151,yq5),(156,y1p),(158,yq8),(159,y1q),(161,y1r),(162,y1s),(163,y1t),(166,y1u),(167,y1v),(170,yr5),(178,y1w),(183,y1x),(187,y1y),(189,y1z),(191,y10),(193,y11),(195,y12),(199,y14),(202,ys6),(203,y15),(205,y16),(207,y17),(208,y18),(210,yt0),(215,y19),(216,y2a),(220,yt3),(244,y2b),(252,y2c),(264,y2d)]
theorem q8l {α:Type} {i j:Nat} {v w:α} {l:List (Nat × α)} (h:find ((j,v) :: l) i=some w):(i=j/\w=v)\/find l i=some w:=by
 simp only[find] at h
 split at h
 ·rename_i e; exact .inl ⟨(zab e).symm,by injection h with h; exact h.symm⟩
 ·exact .inr h
theorem x6o {P:Program}:∀t T,find ([]:List (Nat × TI)) t=some T->TIok P t T:=λ_ _ h=>by cases h
theorem qb6 {P:Program} {j:Nat} {U:TI} {l:List (Nat × TI)} (h:TIok P j U) (r:∀t T,find l t=some T->TIok P t T):∀t T,find ((j,U) :: l) t=some T->TIok P t T:=λt T e=>by
 rcases q8l e with⟨rfl,rfl⟩ | e
 ·exact h
 ·exact r t T e
set_option maxRecDepth 100000 in
theorem q03:∀t T,find tys t=some T->TIok Tryz.prog t T:=by
 unfold tys
 exact qb6 ti2 <| qb6 ti3 <| qb6 ti4 <| qb6 ti5 <| qb6 ti9 <| qb6 y2x <| qb6 yo8 <| qb6 yc0 <| qb6 y2y <| qb6 y2z <| qb6 yo9 <| qb6 y26 <| qb6 y3a <| qb6 y1d <| qb6 y3b <| qb6 y3c <| qb6 y3d <| qb6 y3e <| qb6 y3f <| qb6 y3g <| qb6 y3h <| qb6 yp0 <| qb6 yc1 <| qb6 yc2 <| qb6 yp3 <| qb6 yp4 <| qb6 yp5 <| qb6 yp6 <| qb6 yp7 <| qb6 yp8 <| qb6 yp9 <| qb6 yq0 <| qb6 yq1 <| qb6 yq3 <| qb6 yc3 <| qb6 x6n <| qb6 yq6 <| qb6 yq7 <| qb6 yc4 <| qb6 yq9 <| qb6 yr0 <| qb6 yr1 <| qb6 yr2 <| qb6 yr3 <| qb6 yr4 <| qb6 yr6 <| qb6 yr7 <| qb6 yr8 <| qb6 yr9 <| qb6 ys1 <| qb6 ys2 <| qb6 ys3 <| qb6 ys4 <| qb6 ys5 <| qb6 ys7 <| qb6 ys8 <| qb6 ys9 <| qb6 yc5 <| qb6 yc6 <| qb6 yt1 <| qb6 yc7 <| qb6 yt2 <| qb6 yt4 <| qb6 yt5 <| qb6 yt6 <| qb6 yt7 <| x6o
end Go.Proofs.YtnchigbbjajiiaaGreat
