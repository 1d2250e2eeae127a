/- What the table of this seat says of its types, for the engine. Printed by program (gentys.py). No condition. -/
import Derived.Test.YtnchigbbjajiiaaGreatEng3
import Derived.Test.YtnchigbbjajiiaaGreatProg
set_option linter.unusedVariables false
set_option linter.unusedSimpArgs false
namespace Go.Proofs.YtnchigbbjajiiaaGreat
open Go Go.RowKit Eng
theorem w77 {P:Program} {t:Nat} {z:Value} (h:(P.info? t).map (λi=>i.zero)=some (some z)):∃i,P.info? t=some i/\i.zero=some z:=by
 cases hi:P.info? t with
 | none=>rw[hi] at h; cases h
 | some i=>rw[hi] at h; exact⟨i,rfl,zaa h⟩
theorem qy7 {P:Program} {t:Nat} {T:TI} {z:Value} {d:TypeDesc} (h1:(P.info? t).map (λi=>(i.size,i.bytes,i.zero))=some (T.size,T.bytes,some z)) (hz:z.cells.size=T.size) (h2:z.cells.toList.all (·.oneCell')=true)
  (h3:∀m ρ,T.zero.ok P m ρ z.cells.toList) (h4:T.dflt=true->∀m,Rd m T.ty T.ty.dflt z.cells.toList) (h5:T.bytes<=1000000) (h6:T.size≠0) (h7:T.size<=10000) (h8:(match d with | .struct _ | .array _ _=>true | _=>false)=T.agg) (hu:P.underlying t=some d)
  (h9:T.kind=1->P.underlying t=some (.slice T.elem)) (h10:T.kind=2->P.underlying t=some .string) (h11:T.kind=3->P.underlying t=some .bool)
  (h12:T.kind=4->∃n sz,P.underlying t=some (.array n T.elem)/\(∃j,P.info? T.elem=some j/\j.size=sz)/\sz≠0/\∀(f:Nat) (fl:Nat × Nat × Nat),T.flds[f]? = some fl->fl=(f*sz,T.elem,sz)/\f<n)
  (h13:T.kind=5->∃fields,P.underlying t=some (.struct fields)/\fields.toList.map (λF=>(F.offset,F.type))=T.flds.map (λf=>(f.1,f.2.1))/\∀f∈T.flds,(∃j,P.info? f.2.1=some j/\j.size=f.2.2)/\f.2.2≠0) (h14:T.kind<=5) (h15:T.eq2=true->Eq2 P t:=by(intro h; cases h)) (h16:T.isInt=true->∃k,T.ty=.int k/\P.underlying t=some (.int k):=by(intro h; cases h))
  (h17:∀eb,T.bld=some eb->∃i,P.info? t=some i/\i.zero=some (.agg #[.pointer none,.slice none 0 0]):=by(intro eb h; cases h)) (h18:T.mp=true->(∃k,P.underlying t=some (.map k T.elem)/\P.underlying k=some .string)/\∃j z,P.info? T.elem=some j/\j.zero=some z/\z.cells=#[z]:=by(intro h; cases h)) (h19:T.eq3=true->Eq3 P t:=by(intro h; cases h)) (h20:T.isInt=true->z.cells=#[z]:=by(intro h; cases h)):TIok P t T:=by
 refine⟨?_,h5,h6,h7,⟨d,hu,h8⟩,h9,h10,h11,h12,h13,h14,h15,h19,h16,λhi=>?_,h18,h17⟩
 rotate_left
 ·cases hq:P.info? t with
  | none=>rw[hq] at h1; cases h1
  | some i=>rw[hq] at h1; simp only[Option.map_some,Option.some.injEq,Prod.mk.injEq] at h1; exact⟨i,z,rfl,h1.2.2,h20 hi⟩
 cases hi:P.info? t with
 | none=>rw[hi] at h1; cases h1
 | some i=>
  rw[hi] at h1
  simp only[Option.map_some,Option.some.injEq,Prod.mk.injEq] at h1
  exact⟨i,z,rfl,h1.1,h1.2.1,h1.2.2,hz,h2,h3,h4⟩
def tiI (k:IntKind) (b:Nat):TI:={ agg:=false,size:=1,bytes:=b,ty:=.int k,zero:=.cons (.lit (.int k 0)) .nil,kind:=0,dflt:=true,elem:=0,flds:=[],isInt:=true }
def tiS (b e:Nat) (y:Ty):TI:={ agg:=false,size:=1,bytes:=b,ty:=.list y,zero:=.cons (.lit (.slice none 0 0)) .nil,kind:=1,dflt:=true,elem:=e,flds:=[] }
def tiZ (z:Value) (b:Nat):TI:={ agg:=false,size:=1,bytes:=b,ty:=.bool,zero:=.cons (.lit z) .nil,kind:=0,dflt:=false,elem:=0,flds:=[] }
theorem k_ne {a b:Nat} {p:Prop} (h:a=b) (hn:Nat.beq a b=false):p:=absurd h (Nat.ne_of_beq_eq_false hn)
theorem q9g {P:Program} {t:Nat} {k:IntKind} {b:Nat} (h1:(P.info? t).map (λi=>(i.size,i.bytes,i.zero))=some (1,b,some (.int k 0))) (hu:P.underlying t=some (.int k)) (hb:b<=1000000):TIok P t (tiI k b):=
 qy7 (z:=.int k 0) h1 rfl rfl (λm ρ=>⟨_,_,rfl,rfl,rfl⟩) (λ_ m=>rfl) hb (zcb 0) (show 1<=10000 by decide) rfl hu (λh=>k_ne h rfl) (λh=>k_ne h rfl) (λh=>k_ne h rfl) (λh=>k_ne h rfl) (λh=>k_ne h rfl) (zae 5) (h16:=λ_=>⟨k,rfl,hu⟩) (h20:=λ_=>rfl)
theorem q5f {P:Program} {t b e:Nat} {y:Ty} (h1:(P.info? t).map (λi=>(i.size,i.bytes,i.zero))=some (1,b,some (.slice none 0 0))) (hu:P.underlying t=some (.slice e)) (hb:b<=1000000):TIok P t (tiS b e y):=
 qy7 (z:=.slice none 0 0) h1 rfl rfl (λm ρ=>⟨_,_,rfl,rfl,rfl⟩) (λ_ m=>⟨none,0,rfl,zad _,by unfold maxLen; exact zae _,λh=>absurd h (zbf 0)⟩) hb (zcb 0) (show 1<=10000 by decide) rfl hu (λ_=>hu) (λh=>k_ne h rfl) (λh=>k_ne h rfl) (λh=>k_ne h rfl) (λh=>k_ne h rfl) (show 1<=5 by decide)
theorem qg9 {P:Program} {t b:Nat} {z:Value} {d:TypeDesc} (hz:z.cells=#[z]) (ho:z.oneCell'=true) (h1:(P.info? t).map (λi=>(i.size,i.bytes,i.zero))=some (1,b,some z)) (hu:P.underlying t=some d) (h8:(match(generalizing:=false) d with | .struct _ | .array _ _=>true | _=>false)=false) (hb:b<=1000000):TIok P t (tiZ z b):=
 qy7 (z:=z) h1 (by rw[hz]; rfl) (by rw[hz]; show(z.oneCell' && true)=true; rw[ho]; rfl) (λm ρ=>by rw[hz]; exact⟨_,_,rfl,rfl,rfl⟩) (λh=>by cases h) hb (zcb 0) (show 1<=10000 by decide) h8 hu (λh=>k_ne h rfl) (λh=>k_ne h rfl) (λh=>k_ne h rfl) (λh=>k_ne h rfl) (λh=>k_ne h rfl) (zae 5)
def tiM (b e:Nat):TI:={ agg:=false,size:=1,bytes:=b,ty:=.bool,zero:=.cons (.lit (.map none)) .nil,kind:=0,dflt:=false,elem:=e,flds:=[],mp:=true }
theorem x4q {P:Program} {t b e q:Nat} {y:Value} (h1:(P.info? t).map (λi=>(i.size,i.bytes,i.zero))=some (1,b,some (.map none))) (hu:P.underlying t=some (.map q e)) (hq:P.underlying q=some .string) (hy:(P.info? e).map (λi=>i.zero)=some (some y)) (hy1:y.cells=#[y]) (hb:b<=1000000):TIok P t (tiM b e):=
 qy7 (z:=.map none) h1 rfl rfl (λm ρ=>⟨_,_,rfl,rfl,rfl⟩) (λh=>by cases h) hb (zcb 0) (show 1<=10000 by decide) rfl hu (λh=>k_ne h rfl) (λh=>k_ne h rfl) (λh=>k_ne h rfl) (λh=>k_ne h rfl) (λh=>k_ne h rfl) (zae 5) (h18:=λ_=>⟨⟨q,hu,hq⟩,(w77 hy).elim λj h=>⟨j,y,h.1,h.2,hy1⟩⟩)
def tiR (b:Nat):TI:={ agg:=false,size:=1,bytes:=b,ty:=.str,zero:=.cons (.lit (.string ⟨#[]⟩)) .nil,kind:=2,dflt:=true,elem:=0,flds:=[] }
def tiB (b:Nat):TI:={ agg:=false,size:=1,bytes:=b,ty:=.bool,zero:=.cons .ff .nil,kind:=3,dflt:=true,elem:=0,flds:=[] }
theorem x4r {P:Program} {t b:Nat} (h1:(P.info? t).map (λi=>(i.size,i.bytes,i.zero))=some (1,b,some (.string ⟨#[]⟩))) (hu:P.underlying t=some .string) (hb:b<=1000000):TIok P t (tiR b):=
 qy7 (z:=.string ⟨#[]⟩) h1 rfl rfl (λm ρ=>⟨_,_,rfl,rfl,rfl⟩) (λ_ m=>rfl) hb (zcb 0) (show 1<=10000 by decide) rfl hu (λh=>k_ne h rfl) (λ_=>hu) (λh=>k_ne h rfl) (λh=>k_ne h rfl) (λh=>k_ne h rfl) (show 2<=5 by decide)
theorem x4s {P:Program} {t b:Nat} (h1:(P.info? t).map (λi=>(i.size,i.bytes,i.zero))=some (1,b,some (.bool false))) (hu:P.underlying t=some .bool) (hb:b<=1000000):TIok P t (tiB b):=
 qy7 (z:=.bool false) h1 rfl rfl (λm ρ=>⟨_,_,rfl,rfl,rfl⟩) (λ_ m=>rfl) hb (zcb 0) (show 1<=10000 by decide) rfl hu (λh=>k_ne h rfl) (λh=>k_ne h rfl) (λ_=>hu) (λh=>k_ne h rfl) (λh=>k_ne h rfl) (show 3<=5 by decide)
theorem qr3 {P:Program} {t:Nat} {T:TI} (h:TIok P t T):∃j,P.info? t=some j/\j.size=T.size:=by
 obtain⟨i,z,h1,h2,_⟩:=h.info
 exact⟨i,h1,h2⟩
def T2:TI:=tiI .i64 8
theorem ti2:TIok Tryz.prog 2 T2:=q9g kr Tryz.underlying2 dc
def T3:TI:=tiI .i64 8
theorem ti3:TIok Tryz.prog 3 T3:=q9g kr Tryz.underlying3 dc
def T4:TI:=tiB 1
theorem ti4:TIok Tryz.prog 4 T4:=x4s kr Tryz.underlying4 dc
def T5:TI:=tiI .u8 1
theorem ti5:TIok Tryz.prog 5 T5:=q9g kr Tryz.underlying5 dc
def T9:TI:=tiR 16
theorem ti9:TIok Tryz.prog 9 T9:=x4r kr Tryz.underlying9 dc
def T22:TI:=tiS 24 24 (.list (.int .i64))
theorem yk2:TIok Tryz.prog 22 T22:=q5f kr Tryz.underlying22 dc
def T23:TI:=tiS 24 24 (.list (.int .i64))
theorem yf3:TIok Tryz.prog 23 T23:=q5f kr Tryz.underlying23 dc
def T24:TI:=tiS 24 3 (.int .i64)
theorem x4t:TIok Tryz.prog 24 T24:=q5f kr Tryz.underlying24 dc
def T29:TI:={ agg:=true,size:=2,bytes:=16,ty:=.prod (.int .i64) (.int .i64),zero:=.cons (.lit (.int .i64 0)) (.cons (.lit (.int .i64 0)) .nil),kind:=5,dflt:=true,elem:=0,flds:=[(0,3,1),(1,3,1)],eq2:=true }
theorem yk3:TIok Tryz.prog 29 T29:=qy7 (z:=.agg #[.int .i64 0,.int .i64 0]) kr rfl rfl (λm ρ=>⟨_,_,rfl,rfl,⟨_,_,rfl,rfl,rfl⟩⟩) (λ_ m=>⟨[.int .i64 0],[.int .i64 0],rfl,rfl,rfl⟩) dc dc dc rfl Tryz.underlying29 (λh=>by cases h) (λh=>by cases h) (λh=>by cases h)
 (λh=>by cases h)
 (λ_=>⟨_,Tryz.underlying29,rfl,λf hf=>by
  simp only[T29,List.mem_cons,List.not_mem_nil,or_false] at hf
  rcases hf with rfl | rfl
  ·exact⟨qr3 ti3,dc⟩
  ·exact⟨qr3 ti3,dc⟩⟩) dc (λ_=>q00 Tryz.underlying29 dc dc rfl rfl Tryz.underlying3 Tryz.underlying3 kr kr)
def T30:TI:=tiS 24 32 (.prod (.list (.int .i64)) (.prod (.int .i64) (.int .i64)))
theorem yk4:TIok Tryz.prog 30 T30:=q5f kr Tryz.underlying30 dc
def T32:TI:={ agg:=true,size:=3,bytes:=40,ty:=.prod (.list (.int .i64)) (.prod (.int .i64) (.int .i64)),zero:=.cons (.lit (.slice none 0 0)) (.cons (.lit (.int .i64 0)) (.cons (.lit (.int .i64 0)) .nil)),kind:=5,dflt:=true,elem:=0,flds:=[(0,24,1),(1,3,1),(2,3,1)] }
theorem yk5:TIok Tryz.prog 32 T32:=qy7 (z:=.agg #[.slice none 0 0,.int .i64 0,.int .i64 0]) kr rfl rfl (λm ρ=>⟨_,_,rfl,rfl,⟨_,_,rfl,rfl,⟨_,_,rfl,rfl,rfl⟩⟩⟩) (λ_ m=>⟨[.slice none 0 0],[.int .i64 0,.int .i64 0],rfl,⟨none,0,rfl,zad _,by unfold maxLen; exact zae _,λh=>absurd h (zbf 0)⟩,⟨[.int .i64 0],[.int .i64 0],rfl,rfl,rfl⟩⟩) dc dc dc rfl Tryz.underlying32 (λh=>by cases h) (λh=>by cases h) (λh=>by cases h)
 (λh=>by cases h)
 (λ_=>⟨_,Tryz.underlying32,rfl,λf hf=>by
  simp only[T32,List.mem_cons,List.not_mem_nil,or_false] at hf
  rcases hf with rfl | rfl | rfl
  ·exact⟨qr3 x4t,dc⟩
  ·exact⟨qr3 ti3,dc⟩
  ·exact⟨qr3 ti3,dc⟩⟩) dc
def T33:TI:=tiI .i64 8
theorem yk6:TIok Tryz.prog 33 T33:=q9g kr Tryz.underlying33 dc
def T41:TI:=tiZ (.nilFunc) 8
theorem yk7:TIok Tryz.prog 41 T41:=qg9 rfl rfl kr Tryz.underlying41 rfl dc
def T43:TI:={ agg:=true,size:=2,bytes:=16,ty:=.prod (.int .i64) (.int .i64),zero:=.cons (.lit (.int .i64 0)) (.cons (.lit (.int .i64 0)) .nil),kind:=5,dflt:=true,elem:=0,flds:=[(0,3,1),(1,3,1)],eq2:=true }
theorem yf4:TIok Tryz.prog 43 T43:=qy7 (z:=.agg #[.int .i64 0,.int .i64 0]) kr rfl rfl (λm ρ=>⟨_,_,rfl,rfl,⟨_,_,rfl,rfl,rfl⟩⟩) (λ_ m=>⟨[.int .i64 0],[.int .i64 0],rfl,rfl,rfl⟩) dc dc dc rfl Tryz.underlying43 (λh=>by cases h) (λh=>by cases h) (λh=>by cases h)
 (λh=>by cases h)
 (λ_=>⟨_,Tryz.underlying43,rfl,λf hf=>by
  simp only[T43,List.mem_cons,List.not_mem_nil,or_false] at hf
  rcases hf with rfl | rfl
  ·exact⟨qr3 ti3,dc⟩
  ·exact⟨qr3 ti3,dc⟩⟩) dc (λ_=>q00 Tryz.underlying43 dc dc rfl rfl Tryz.underlying3 Tryz.underlying3 kr kr)
def T45:TI:=tiZ (.nilFunc) 8
theorem yk8:TIok Tryz.prog 45 T45:=qg9 rfl rfl kr Tryz.underlying45 rfl dc
def T46:TI:=tiZ (.nilFunc) 8
theorem yk9:TIok Tryz.prog 46 T46:=qg9 rfl rfl kr Tryz.underlying46 rfl dc
def T53:TI:=tiS 24 43 (.prod (.int .i64) (.int .i64))
theorem yf5:TIok Tryz.prog 53 T53:=q5f kr Tryz.underlying53 dc
def T55:TI:={ agg:=true,size:=2,bytes:=48,ty:=.prod (.list (.int .i64)) (.list (.prod (.int .i64) (.int .i64))),zero:=.cons (.lit (.slice none 0 0)) (.cons (.lit (.slice none 0 0)) .nil),kind:=5,dflt:=true,elem:=0,flds:=[(0,24,1),(1,53,1)] }
theorem yl0:TIok Tryz.prog 55 T55:=qy7 (z:=.agg #[.slice none 0 0,.slice none 0 0]) kr rfl rfl (λm ρ=>⟨_,_,rfl,rfl,⟨_,_,rfl,rfl,rfl⟩⟩) (λ_ m=>⟨[.slice none 0 0],[.slice none 0 0],rfl,⟨none,0,rfl,zad _,by unfold maxLen; exact zae _,λh=>absurd h (zbf 0)⟩,⟨none,0,rfl,zad _,by unfold maxLen; exact zae _,λh=>absurd h (zbf 0)⟩⟩) dc dc dc rfl Tryz.underlying55 (λh=>by cases h) (λh=>by cases h) (λh=>by cases h)
 (λh=>by cases h)
 (λ_=>⟨_,Tryz.underlying55,rfl,λf hf=>by
  simp only[T55,List.mem_cons,List.not_mem_nil,or_false] at hf
  rcases hf with rfl | rfl
  ·exact⟨qr3 x4t,dc⟩
  ·exact⟨qr3 yf5,dc⟩⟩) dc
def T60:TI:=tiS 24 158 (.prod (.bool) (.list (.int .i64)))
theorem yl1:TIok Tryz.prog 60 T60:=q5f kr Tryz.underlying60 dc
def T69:TI:=tiZ (.nilFunc) 8
theorem yl2:TIok Tryz.prog 69 T69:=qg9 rfl rfl kr Tryz.underlying69 rfl dc
def T70:TI:=tiS 24 170 (.prod (.int .i64) (.prod (.int .i64) (.int .i64)))
theorem yl3:TIok Tryz.prog 70 T70:=q5f kr Tryz.underlying70 dc
def T74:TI:=tiZ (.nilFunc) 8
theorem yl4:TIok Tryz.prog 74 T74:=qg9 rfl rfl kr Tryz.underlying74 rfl dc
def T82:TI:=tiZ (.nilFunc) 8
theorem yl5:TIok Tryz.prog 82 T82:=qg9 rfl rfl kr Tryz.underlying82 rfl dc
def T86:TI:={ agg:=true,size:=2,bytes:=16,ty:=.prod (.int .i64) (.int .i64),zero:=.cons (.lit (.int .i64 0)) (.cons (.lit (.int .i64 0)) .nil),kind:=5,dflt:=true,elem:=0,flds:=[(0,3,1),(1,3,1)],eq2:=true }
theorem yl6:TIok Tryz.prog 86 T86:=qy7 (z:=.agg #[.int .i64 0,.int .i64 0]) kr rfl rfl (λm ρ=>⟨_,_,rfl,rfl,⟨_,_,rfl,rfl,rfl⟩⟩) (λ_ m=>⟨[.int .i64 0],[.int .i64 0],rfl,rfl,rfl⟩) dc dc dc rfl Tryz.underlying86 (λh=>by cases h) (λh=>by cases h) (λh=>by cases h)
 (λh=>by cases h)
 (λ_=>⟨_,Tryz.underlying86,rfl,λf hf=>by
  simp only[T86,List.mem_cons,List.not_mem_nil,or_false] at hf
  rcases hf with rfl | rfl
  ·exact⟨qr3 ti3,dc⟩
  ·exact⟨qr3 ti3,dc⟩⟩) dc (λ_=>q00 Tryz.underlying86 dc dc rfl rfl Tryz.underlying3 Tryz.underlying3 kr kr)
def T96:TI:=tiZ (.nilFunc) 8
theorem yl7:TIok Tryz.prog 96 T96:=qg9 rfl rfl kr Tryz.underlying96 rfl dc
def T97:TI:=tiZ (.nilFunc) 8
theorem yl8:TIok Tryz.prog 97 T97:=qg9 rfl rfl kr Tryz.underlying97 rfl dc
def T98:TI:=tiZ (.nilFunc) 8
theorem yl9:TIok Tryz.prog 98 T98:=qg9 rfl rfl kr Tryz.underlying98 rfl dc
def T99:TI:=tiZ (.nilFunc) 8
theorem ym0:TIok Tryz.prog 99 T99:=qg9 rfl rfl kr Tryz.underlying99 rfl dc
def yf6:TI:=tiZ (.nilFunc) 8
theorem x7n:TIok Tryz.prog 100 yf6:=qg9 rfl rfl kr Tryz.underlying100 rfl dc
def yf7:TI:=tiZ (.nilFunc) 8
theorem x7o:TIok Tryz.prog 116 yf7:=qg9 rfl rfl kr Tryz.underlying116 rfl dc
def yf8:TI:=tiZ (.nilFunc) 8
theorem x7p:TIok Tryz.prog 119 yf8:=qg9 rfl rfl kr Tryz.underlying119 rfl dc
def yf9:TI:=tiZ (.nilFunc) 8
theorem x7q:TIok Tryz.prog 121 yf9:=qg9 rfl rfl kr Tryz.underlying121 rfl dc
def yg0:TI:=tiZ (.nilFunc) 8
theorem x7r:TIok Tryz.prog 125 yg0:=qg9 rfl rfl kr Tryz.underlying125 rfl dc
def yg1:TI:=tiZ (.nilFunc) 8
theorem x7s:TIok Tryz.prog 127 yg1:=qg9 rfl rfl kr Tryz.underlying127 rfl dc
def yg2:TI:=tiZ (.nilFunc) 8
theorem x7t:TIok Tryz.prog 130 yg2:=qg9 rfl rfl kr Tryz.underlying130 rfl dc
def yg3:TI:=tiZ (.nilFunc) 8
theorem x7u:TIok Tryz.prog 137 yg3:=qg9 rfl rfl kr Tryz.underlying137 rfl dc
def yg4:TI:=tiZ (.nilFunc) 8
theorem x7v:TIok Tryz.prog 141 yg4:=qg9 rfl rfl kr Tryz.underlying141 rfl dc
def x7w:TI:={ agg:=true,size:=2,bytes:=48,ty:=.prod (.list (.list (.int .i64))) (.list (.int .i64)),zero:=.cons (.lit (.slice none 0 0)) (.cons (.lit (.slice none 0 0)) .nil),kind:=5,dflt:=true,elem:=0,flds:=[(0,23,1),(1,24,1)] }
theorem x7x:TIok Tryz.prog 143 x7w:=qy7 (z:=.agg #[.slice none 0 0,.slice none 0 0]) kr rfl rfl (λm ρ=>⟨_,_,rfl,rfl,⟨_,_,rfl,rfl,rfl⟩⟩) (λ_ m=>⟨[.slice none 0 0],[.slice none 0 0],rfl,⟨none,0,rfl,zad _,by unfold maxLen; exact zae _,λh=>absurd h (zbf 0)⟩,⟨none,0,rfl,zad _,by unfold maxLen; exact zae _,λh=>absurd h (zbf 0)⟩⟩) dc dc dc rfl Tryz.underlying143 (λh=>by cases h) (λh=>by cases h) (λh=>by cases h)
 (λh=>by cases h)
 (λ_=>⟨_,Tryz.underlying143,rfl,λf hf=>by
  simp only[x7w,List.mem_cons,List.not_mem_nil,or_false] at hf
  rcases hf with rfl | rfl
  ·exact⟨qr3 yf3,dc⟩
  ·exact⟨qr3 x4t,dc⟩⟩) dc
def yg5:TI:=tiI .u64 8
theorem x4u:TIok Tryz.prog 147 yg5:=q9g kr Tryz.underlying147 dc
def x7y:TI:={ agg:=true,size:=2,bytes:=16,ty:=.prod (.int .i64) (.int .u64),zero:=.cons (.lit (.int .i64 0)) (.cons (.lit (.int .u64 0)) .nil),kind:=5,dflt:=true,elem:=0,flds:=[(0,2,1),(1,147,1)],eq2:=true }
theorem x7z:TIok Tryz.prog 149 x7y:=qy7 (z:=.agg #[.int .i64 0,.int .u64 0]) kr rfl rfl (λm ρ=>⟨_,_,rfl,rfl,⟨_,_,rfl,rfl,rfl⟩⟩) (λ_ m=>⟨[.int .i64 0],[.int .u64 0],rfl,rfl,rfl⟩) dc dc dc rfl Tryz.underlying149 (λh=>by cases h) (λh=>by cases h) (λh=>by cases h)
 (λh=>by cases h)
 (λ_=>⟨_,Tryz.underlying149,rfl,λf hf=>by
  simp only[x7y,List.mem_cons,List.not_mem_nil,or_false] at hf
  rcases hf with rfl | rfl
  ·exact⟨qr3 ti2,dc⟩
  ·exact⟨qr3 x4u,dc⟩⟩) dc (λ_=>q00 Tryz.underlying149 dc dc rfl rfl Tryz.underlying2 Tryz.underlying147 kr kr)
def x70:TI:={ agg:=true,size:=2,bytes:=32,ty:=.prod (.bool) (.list (.int .i64)),zero:=.cons (.ff) (.cons (.lit (.slice none 0 0)) .nil),kind:=5,dflt:=true,elem:=0,flds:=[(0,4,1),(1,24,1)] }
theorem x4v:TIok Tryz.prog 158 x70:=qy7 (z:=.agg #[.bool false,.slice none 0 0]) kr rfl rfl (λm ρ=>⟨_,_,rfl,rfl,⟨_,_,rfl,rfl,rfl⟩⟩) (λ_ m=>⟨[.bool false],[.slice none 0 0],rfl,rfl,⟨none,0,rfl,zad _,by unfold maxLen; exact zae _,λh=>absurd h (zbf 0)⟩⟩) dc dc dc rfl Tryz.underlying158 (λh=>by cases h) (λh=>by cases h) (λh=>by cases h)
 (λh=>by cases h)
 (λ_=>⟨_,Tryz.underlying158,rfl,λf hf=>by
  simp only[x70,List.mem_cons,List.not_mem_nil,or_false] at hf
  rcases hf with rfl | rfl
  ·exact⟨qr3 ti4,dc⟩
  ·exact⟨qr3 x4t,dc⟩⟩) dc
def yg6:TI:=tiZ (.nilFunc) 8
theorem x71:TIok Tryz.prog 159 yg6:=qg9 rfl rfl kr Tryz.underlying159 rfl dc
def yg7:TI:=tiZ (.nilFunc) 8
theorem x72:TIok Tryz.prog 161 yg7:=qg9 rfl rfl kr Tryz.underlying161 rfl dc
def yg8:TI:=tiZ (.nilFunc) 8
theorem x73:TIok Tryz.prog 162 yg8:=qg9 rfl rfl kr Tryz.underlying162 rfl dc
def yg9:TI:=tiZ (.nilFunc) 8
theorem x74:TIok Tryz.prog 163 yg9:=qg9 rfl rfl kr Tryz.underlying163 rfl dc
def yh0:TI:=tiM 8 4
theorem x75:TIok Tryz.prog 166 yh0:=x4q (y:=.bool false) kr Tryz.underlying166 Tryz.underlying9 kr rfl dc
def yh1:TI:=tiZ (.nilFunc) 8
theorem x76:TIok Tryz.prog 167 yh1:=qg9 rfl rfl kr Tryz.underlying167 rfl dc
def x77:TI:={ agg:=true,size:=3,bytes:=24,ty:=.prod (.int .i64) (.prod (.int .i64) (.int .i64)),zero:=.cons (.lit (.int .i64 0)) (.cons (.lit (.int .i64 0)) (.cons (.lit (.int .i64 0)) .nil)),kind:=5,dflt:=true,elem:=0,flds:=[(0,3,1),(1,3,1),(2,3,1)],eq3:=true }
theorem x78:TIok Tryz.prog 170 x77:=qy7 (z:=.agg #[.int .i64 0,.int .i64 0,.int .i64 0]) kr rfl rfl (λm ρ=>⟨_,_,rfl,rfl,⟨_,_,rfl,rfl,⟨_,_,rfl,rfl,rfl⟩⟩⟩) (λ_ m=>⟨[.int .i64 0],[.int .i64 0,.int .i64 0],rfl,rfl,⟨[.int .i64 0],[.int .i64 0],rfl,rfl,rfl⟩⟩) dc dc dc rfl Tryz.underlying170 (λh=>by cases h) (λh=>by cases h) (λh=>by cases h)
 (λh=>by cases h)
 (λ_=>⟨_,Tryz.underlying170,rfl,λf hf=>by
  simp only[x77,List.mem_cons,List.not_mem_nil,or_false] at hf
  rcases hf with rfl | rfl | rfl
  ·exact⟨qr3 ti3,dc⟩
  ·exact⟨qr3 ti3,dc⟩
  ·exact⟨qr3 ti3,dc⟩⟩) dc (h19:=λ_=>w3h Tryz.underlying170 dc dc dc rfl rfl rfl Tryz.underlying3 Tryz.underlying3 Tryz.underlying3 kr kr)
def yh2:TI:=tiZ (.nilFunc) 8
theorem x79:TIok Tryz.prog 178 yh2:=qg9 rfl rfl kr Tryz.underlying178 rfl dc
def yh3:TI:=tiZ (.nilFunc) 8
theorem x8a:TIok Tryz.prog 183 yh3:=qg9 rfl rfl kr Tryz.underlying183 rfl dc
def yh4:TI:=tiZ (.nilFunc) 8
theorem x8c:TIok Tryz.prog 187 yh4:=qg9 rfl rfl kr Tryz.underlying187 rfl dc
def yh5:TI:=tiZ (.nilFunc) 8
theorem x8d:TIok Tryz.prog 189 yh5:=qg9 rfl rfl kr Tryz.underlying189 rfl dc
def yh6:TI:=tiZ (.nilFunc) 8
theorem x8e:TIok Tryz.prog 191 yh6:=qg9 rfl rfl kr Tryz.underlying191 rfl dc
def yh7:TI:=tiZ (.nilFunc) 8
theorem x8g:TIok Tryz.prog 193 yh7:=qg9 rfl rfl kr Tryz.underlying193 rfl dc
def yh8:TI:=tiZ (.nilFunc) 8
theorem x8h:TIok Tryz.prog 195 yh8:=qg9 rfl rfl kr Tryz.underlying195 rfl dc
def yh9:TI:=tiI .u64 8
theorem x8i:TIok Tryz.prog 199 yh9:=q9g kr Tryz.underlying199 dc
def x8j:TI:={ agg:=true,size:=2,bytes:=32,ty:=.prod (.bool) (.list (.int .i64)),zero:=.cons (.ff) (.cons (.lit (.slice none 0 0)) .nil),kind:=5,dflt:=true,elem:=0,flds:=[(0,158,2)] }
theorem x8k:TIok Tryz.prog 202 x8j:=qy7 (z:=.agg #[.bool false,.slice none 0 0]) kr rfl rfl (λm ρ=>⟨_,_,rfl,rfl,⟨_,_,rfl,rfl,rfl⟩⟩) (λ_ m=>⟨[.bool false],[.slice none 0 0],rfl,rfl,⟨none,0,rfl,zad _,by unfold maxLen; exact zae _,λh=>absurd h (zbf 0)⟩⟩) dc dc dc rfl Tryz.underlying202 (λh=>by cases h) (λh=>by cases h) (λh=>by cases h)
 (λh=>by cases h)
 (λ_=>⟨_,Tryz.underlying202,rfl,λf hf=>by
  simp only[x8j,List.mem_cons,List.not_mem_nil,or_false] at hf
  rcases hf with rfl
  ·exact⟨qr3 x4v,dc⟩⟩) dc
def yi0:TI:=tiZ (.nilFunc) 8
theorem x8l:TIok Tryz.prog 203 yi0:=qg9 rfl rfl kr Tryz.underlying203 rfl dc
def yi1:TI:=tiZ (.nilFunc) 8
theorem x8m:TIok Tryz.prog 205 yi1:=qg9 rfl rfl kr Tryz.underlying205 rfl dc
def yi2:TI:=tiZ (.pointer none) 8
theorem x4w:TIok Tryz.prog 207 yi2:=qg9 rfl rfl kr Tryz.underlying207 rfl dc
def yi3:TI:=tiS 24 5 (.int .u8)
theorem x4x:TIok Tryz.prog 208 yi3:=q5f kr Tryz.underlying208 dc
def x8o:TI:={ agg:=true,size:=2,bytes:=32,ty:=.bool,zero:=.cons (.lit (.pointer none)) (.cons (.lit (.slice none 0 0)) .nil),kind:=5,dflt:=false,elem:=0,flds:=[(0,207,1),(1,208,1)],bld:=some 5 }
theorem x8p:TIok Tryz.prog 210 x8o:=qy7 (z:=.agg #[.pointer none,.slice none 0 0]) kr rfl rfl (λm ρ=>⟨_,_,rfl,rfl,⟨_,_,rfl,rfl,rfl⟩⟩) (λh=>by cases h) dc dc dc rfl Tryz.underlying210 (λh=>by cases h) (λh=>by cases h) (λh=>by cases h)
 (λh=>by cases h)
 (λ_=>⟨_,Tryz.underlying210,rfl,λf hf=>by
  simp only[x8o,List.mem_cons,List.not_mem_nil,or_false] at hf
  rcases hf with rfl | rfl
  ·exact⟨qr3 x4w,dc⟩
  ·exact⟨qr3 x4x,dc⟩⟩) dc (h17:=λ_ _=>w77 kr)
def yi4:TI:=tiZ (.nilFunc) 8
theorem x4y:TIok Tryz.prog 215 yi4:=qg9 rfl rfl kr Tryz.underlying215 rfl dc
def yi5:TI:={ agg:=true,size:=4,bytes:=32,ty:=.bool,zero:=.cons (.lit .nilFunc) (.cons (.lit .nilFunc) (.cons (.lit .nilFunc) (.cons (.lit .nilFunc) .nil))),kind:=4,dflt:=false,elem:=215,flds:=[(0,215,1),(1,215,1),(2,215,1),(3,215,1)] }
theorem x8q:TIok Tryz.prog 216 yi5:=qy7 (z:=.agg #[.nilFunc,.nilFunc,.nilFunc,.nilFunc]) kr rfl rfl (λm ρ=>⟨_,_,rfl,rfl,⟨_,_,rfl,rfl,⟨_,_,rfl,rfl,⟨_,_,rfl,rfl,rfl⟩⟩⟩⟩) (λh=>by cases h) dc dc dc rfl Tryz.underlying216 (λh=>by cases h) (λh=>by cases h) (λh=>by cases h)
 (λ_=>⟨4,1,Tryz.underlying216,qr3 x4y,dc,λf fl h=>by
  match f,h with
  | 0,h=>injection h with h; exact⟨h.symm,dc⟩
  | 1,h=>injection h with h; exact⟨h.symm,dc⟩
  | 2,h=>injection h with h; exact⟨h.symm,dc⟩
  | 3,h=>injection h with h; exact⟨h.symm,dc⟩⟩)
 (λh=>by cases h) dc
def x8r:TI:={ agg:=true,size:=2,bytes:=16,ty:=.prod (.int .i64) (.int .i64),zero:=.cons (.lit (.int .i64 0)) (.cons (.lit (.int .i64 0)) .nil),kind:=5,dflt:=true,elem:=0,flds:=[(0,43,2)] }
theorem x8s:TIok Tryz.prog 220 x8r:=qy7 (z:=.agg #[.int .i64 0,.int .i64 0]) kr rfl rfl (λm ρ=>⟨_,_,rfl,rfl,⟨_,_,rfl,rfl,rfl⟩⟩) (λ_ m=>⟨[.int .i64 0],[.int .i64 0],rfl,rfl,rfl⟩) dc dc dc rfl Tryz.underlying220 (λh=>by cases h) (λh=>by cases h) (λh=>by cases h)
 (λh=>by cases h)
 (λ_=>⟨_,Tryz.underlying220,rfl,λf hf=>by
  simp only[x8r,List.mem_cons,List.not_mem_nil,or_false] at hf
  rcases hf with rfl
  ·exact⟨qr3 yf4,dc⟩⟩) dc
def yi6:TI:=tiZ (.nilFunc) 8
theorem x8t:TIok Tryz.prog 264 yi6:=qg9 rfl rfl kr Tryz.underlying264 rfl dc
def tys:List (Nat × TI):=[(2,T2),(3,T3),(4,T4),(5,T5),(9,T9),(22,T22),(23,T23),(24,T24),(29,T29),(30,T30),(32,T32),(33,T33),(41,T41),(43,T43),(45,T45),(46,T46),(53,T53),(55,T55),(60,T60),(69,T69),(70,T70),(74,T74),(82,T82),(86,T86),(96,T96),(97,T97),(98,T98),(99,T99),(100,yf6),(116,yf7),(119,yf8),(121,yf9),(125,yg0),(127,yg1),(130,yg2),(137,yg3),(141,yg4),(143,x7w),(147,yg5),(149,x7y),(158,x70),(159,yg6),(161,yg7),(162,yg8),(163,yg9),(166,yh0),(167,yh1),(170,x77),(178,yh2),(183,yh3),(187,yh4),(189,yh5),(191,yh6),(193,yh7),(195,yh8),(199,yh9),(202,x8j),(203,yi0),(205,yi1),(207,yi2),(208,yi3),(210,x8o),(215,yi4),(216,yi5),(220,x8r),(264,yi6)]
theorem q7b {α:Type} {i j:Nat} {v w:α} {l:List (Nat × α)} (h:find ((j,v) :: l) i=some w):(i=j/\w=v)\/find l i=some w:=by
 simp only[find] at h
 split at h
 ·rename_i e; exact .inl ⟨(zab e).symm,by injection h with h; exact h.symm⟩
 ·exact .inr h
theorem x1d {P:Program}:∀t T,find ([]:List (Nat × TI)) t=some T->TIok P t T:=λ_ _ h=>by cases h
theorem qb5 {P:Program} {j:Nat} {U:TI} {l:List (Nat × TI)} (h:TIok P j U) (r:∀t T,find l t=some T->TIok P t T):∀t T,find ((j,U) :: l) t=some T->TIok P t T:=λt T e=>by
 rcases q7b e with⟨rfl,rfl⟩ | e
 ·exact h
 ·exact r t T e
set_option maxRecDepth 100000 in
theorem qz5:∀t T,find tys t=some T->TIok Tryz.prog t T:=by
 unfold tys
 exact qb5 ti2 <| qb5 ti3 <| qb5 ti4 <| qb5 ti5 <| qb5 ti9 <| qb5 yk2 <| qb5 yf3 <| qb5 x4t <| qb5 yk3 <| qb5 yk4 <| qb5 yk5 <| qb5 yk6 <| qb5 yk7 <| qb5 yf4 <| qb5 yk8 <| qb5 yk9 <| qb5 yf5 <| qb5 yl0 <| qb5 yl1 <| qb5 yl2 <| qb5 yl3 <| qb5 yl4 <| qb5 yl5 <| qb5 yl6 <| qb5 yl7 <| qb5 yl8 <| qb5 yl9 <| qb5 ym0 <| qb5 x7n <| qb5 x7o <| qb5 x7p <| qb5 x7q <| qb5 x7r <| qb5 x7s <| qb5 x7t <| qb5 x7u <| qb5 x7v <| qb5 x7x <| qb5 x4u <| qb5 x7z <| qb5 x4v <| qb5 x71 <| qb5 x72 <| qb5 x73 <| qb5 x74 <| qb5 x75 <| qb5 x76 <| qb5 x78 <| qb5 x79 <| qb5 x8a <| qb5 x8c <| qb5 x8d <| qb5 x8e <| qb5 x8g <| qb5 x8h <| qb5 x8i <| qb5 x8k <| qb5 x8l <| qb5 x8m <| qb5 x4w <| qb5 x4x <| qb5 x8p <| qb5 x4y <| qb5 x8q <| qb5 x8s <| qb5 x8t <| x1d
end Go.Proofs.YtnchigbbjajiiaaGreat
