/- What the table of this seat says of its types, for the engine. Printed by program (gentys.py). No condition. -/
import Derived.Test.YtmijnbjlhnpokaaGreatEng3
import Derived.Test.YtmijnbjlhnpokaaGreatProg
set_option linter.unusedVariables false
set_option linter.unusedSimpArgs false
namespace Go.Proofs.YtmijnbjlhnpokaaGreat
open Go Go.RowKit Eng
theorem w8i {P:Program} {t:Nat} {z:Value} (h:(P.info? t).map (λi=>i.zero)=some (some z)):∃i,P.info? t=some i/\i.zero=some z:=by
 cases hi:P.info? t with
 | none=>rw[hi] at h; cases h
 | some i=>rw[hi] at h; exact⟨i,rfl,Option.some.inj h⟩
theorem qz5 {P:Program} {t:Nat} {T:TI} {z:Value} {d:TypeDesc} (h1:(P.info? t).map (λi=>(i.size,i.bytes,i.zero))=some (T.size,T.bytes,some z)) (hz:z.cells.size=T.size) (h2:z.cells.toList.all (·.oneCell')=true)
  (h3:∀m ρ,T.zero.ok P m ρ z.cells.toList) (h4:T.dflt=true->∀m,Rd m T.ty T.ty.dflt z.cells.toList) (h5:T.bytes<=1000000) (h6:T.size≠0) (h7:T.size<=10000) (h8:(match d with | .struct _ | .array _ _=>true | _=>false)=T.agg) (hu:P.underlying t=some d)
  (h9:T.kind=1->P.underlying t=some (.slice T.elem)) (h10:T.kind=2->P.underlying t=some .string) (h11:T.kind=3->P.underlying t=some .bool)
  (h12:T.kind=4->∃n sz,P.underlying t=some (.array n T.elem)/\(∃j,P.info? T.elem=some j/\j.size=sz)/\sz≠0/\∀(f:Nat) (fl:Nat × Nat × Nat),T.flds[f]? = some fl->fl=(f*sz,T.elem,sz)/\f<n)
  (h13:T.kind=5->∃fields,P.underlying t=some (.struct fields)/\fields.toList.map (λF=>(F.offset,F.type))=T.flds.map (λf=>(f.1,f.2.1))/\∀f∈T.flds,(∃j,P.info? f.2.1=some j/\j.size=f.2.2)/\f.2.2≠0) (h14:T.kind<=5) (h15:T.eq2=true->Eq2 P t:=by(intro h; cases h)) (h16:T.isInt=true->∃k,T.ty=.int k/\P.underlying t=some (.int k):=by(intro h; cases h))
  (h17:∀eb,T.bld=some eb->∃i,P.info? t=some i/\i.zero=some (.agg #[.pointer none,.slice none 0 0]):=by(intro eb h; cases h)) (h18:T.mp=true->(∃k,P.underlying t=some (.map k T.elem)/\P.underlying k=some .string)/\∃j z,P.info? T.elem=some j/\j.zero=some z/\z.cells=#[z]:=by(intro h; cases h)) (h19:T.eq3=true->Eq3 P t:=by(intro h; cases h)) (h20:T.isInt=true->z.cells=#[z]:=by(intro h; cases h)):TIok P t T:=by
 refine⟨?_,h5,h6,h7,⟨d,hu,h8⟩,h9,h10,h11,h12,h13,h14,h15,h19,h16,λhi=>?_,h18,h17⟩
 rotate_left
 ·cases hq:P.info? t with
  | none=>rw[hq] at h1; cases h1
  | some i=>rw[hq] at h1; simp only[Option.map_some,Option.some.injEq,Prod.mk.injEq] at h1; exact⟨i,z,rfl,h1.2.2,h20 hi⟩
 cases hi:P.info? t with
 | none=>rw[hi] at h1; cases h1
 | some i=>
  rw[hi] at h1
  simp only[Option.map_some,Option.some.injEq,Prod.mk.injEq] at h1
  exact⟨i,z,rfl,h1.1,h1.2.1,h1.2.2,hz,h2,h3,h4⟩
def tiI (k:IntKind) (b:Nat):TI:={ agg:=false,size:=1,bytes:=b,ty:=.int k,zero:=.cons (.lit (.int k 0)) .nil,kind:=0,dflt:=true,elem:=0,flds:=[],isInt:=true }
def tiS (b e:Nat) (y:Ty):TI:={ agg:=false,size:=1,bytes:=b,ty:=.list y,zero:=.cons (.lit (.slice none 0 0)) .nil,kind:=1,dflt:=true,elem:=e,flds:=[] }
def tiZ (z:Value) (b:Nat):TI:={ agg:=false,size:=1,bytes:=b,ty:=.bool,zero:=.cons (.lit z) .nil,kind:=0,dflt:=false,elem:=0,flds:=[] }
theorem k_ne {a b:Nat} {p:Prop} (h:a=b) (hn:Nat.beq a b=false):p:=absurd h (Nat.ne_of_beq_eq_false hn)
theorem q66 {P:Program} {t:Nat} {k:IntKind} {b:Nat} (h1:(P.info? t).map (λi=>(i.size,i.bytes,i.zero))=some (1,b,some (.int k 0))) (hu:P.underlying t=some (.int k)) (hb:b<=1000000):TIok P t (tiI k b):=
 qz5 (z:=.int k 0) h1 rfl rfl (λm ρ=>⟨_,_,rfl,rfl,rfl⟩) (λ_ m=>rfl) hb (Nat.succ_ne_zero 0) (show 1<=10000 by decide) rfl hu (λh=>k_ne h rfl) (λh=>k_ne h rfl) (λh=>k_ne h rfl) (λh=>k_ne h rfl) (λh=>k_ne h rfl) (Nat.zero_le 5) (h16:=λ_=>⟨k,rfl,hu⟩) (h20:=λ_=>rfl)
theorem q67 {P:Program} {t b e:Nat} {y:Ty} (h1:(P.info? t).map (λi=>(i.size,i.bytes,i.zero))=some (1,b,some (.slice none 0 0))) (hu:P.underlying t=some (.slice e)) (hb:b<=1000000):TIok P t (tiS b e y):=
 qz5 (z:=.slice none 0 0) h1 rfl rfl (λm ρ=>⟨_,_,rfl,rfl,rfl⟩) (λ_ m=>⟨none,0,rfl,Nat.le_refl _,by unfold maxLen; exact Nat.zero_le _,λh=>absurd h (Nat.lt_irrefl 0)⟩) hb (Nat.succ_ne_zero 0) (show 1<=10000 by decide) rfl hu (λ_=>hu) (λh=>k_ne h rfl) (λh=>k_ne h rfl) (λh=>k_ne h rfl) (λh=>k_ne h rfl) (show 1<=5 by decide)
theorem qj1 {P:Program} {t b:Nat} {z:Value} {d:TypeDesc} (hz:z.cells=#[z]) (ho:z.oneCell'=true) (h1:(P.info? t).map (λi=>(i.size,i.bytes,i.zero))=some (1,b,some z)) (hu:P.underlying t=some d) (h8:(match(generalizing:=false) d with | .struct _ | .array _ _=>true | _=>false)=false) (hb:b<=1000000):TIok P t (tiZ z b):=
 qz5 (z:=z) h1 (by rw[hz]; rfl) (by rw[hz]; show(z.oneCell' && true)=true; rw[ho]; rfl) (λm ρ=>by rw[hz]; exact⟨_,_,rfl,rfl,rfl⟩) (λh=>by cases h) hb (Nat.succ_ne_zero 0) (show 1<=10000 by decide) h8 hu (λh=>k_ne h rfl) (λh=>k_ne h rfl) (λh=>k_ne h rfl) (λh=>k_ne h rfl) (λh=>k_ne h rfl) (Nat.zero_le 5)
def tiM (b e:Nat):TI:={ agg:=false,size:=1,bytes:=b,ty:=.bool,zero:=.cons (.lit (.map none)) .nil,kind:=0,dflt:=false,elem:=e,flds:=[],mp:=true }
theorem x3l {P:Program} {t b e q:Nat} {y:Value} (h1:(P.info? t).map (λi=>(i.size,i.bytes,i.zero))=some (1,b,some (.map none))) (hu:P.underlying t=some (.map q e)) (hq:P.underlying q=some .string) (hy:(P.info? e).map (λi=>i.zero)=some (some y)) (hy1:y.cells=#[y]) (hb:b<=1000000):TIok P t (tiM b e):=
 qz5 (z:=.map none) h1 rfl rfl (λm ρ=>⟨_,_,rfl,rfl,rfl⟩) (λh=>by cases h) hb (Nat.succ_ne_zero 0) (show 1<=10000 by decide) rfl hu (λh=>k_ne h rfl) (λh=>k_ne h rfl) (λh=>k_ne h rfl) (λh=>k_ne h rfl) (λh=>k_ne h rfl) (Nat.zero_le 5) (h18:=λ_=>⟨⟨q,hu,hq⟩,(w8i hy).elim λj h=>⟨j,y,h.1,h.2,hy1⟩⟩)
def tiR (b:Nat):TI:={ agg:=false,size:=1,bytes:=b,ty:=.str,zero:=.cons (.lit (.string ⟨#[]⟩)) .nil,kind:=2,dflt:=true,elem:=0,flds:=[] }
def tiB (b:Nat):TI:={ agg:=false,size:=1,bytes:=b,ty:=.bool,zero:=.cons .ff .nil,kind:=3,dflt:=true,elem:=0,flds:=[] }
theorem x3m {P:Program} {t b:Nat} (h1:(P.info? t).map (λi=>(i.size,i.bytes,i.zero))=some (1,b,some (.string ⟨#[]⟩))) (hu:P.underlying t=some .string) (hb:b<=1000000):TIok P t (tiR b):=
 qz5 (z:=.string ⟨#[]⟩) h1 rfl rfl (λm ρ=>⟨_,_,rfl,rfl,rfl⟩) (λ_ m=>rfl) hb (Nat.succ_ne_zero 0) (show 1<=10000 by decide) rfl hu (λh=>k_ne h rfl) (λ_=>hu) (λh=>k_ne h rfl) (λh=>k_ne h rfl) (λh=>k_ne h rfl) (show 2<=5 by decide)
theorem x3n {P:Program} {t b:Nat} (h1:(P.info? t).map (λi=>(i.size,i.bytes,i.zero))=some (1,b,some (.bool false))) (hu:P.underlying t=some .bool) (hb:b<=1000000):TIok P t (tiB b):=
 qz5 (z:=.bool false) h1 rfl rfl (λm ρ=>⟨_,_,rfl,rfl,rfl⟩) (λ_ m=>rfl) hb (Nat.succ_ne_zero 0) (show 1<=10000 by decide) rfl hu (λh=>k_ne h rfl) (λh=>k_ne h rfl) (λ_=>hu) (λh=>k_ne h rfl) (λh=>k_ne h rfl) (show 3<=5 by decide)
theorem qs9 {P:Program} {t:Nat} {T:TI} (h:TIok P t T):∃j,P.info? t=some j/\j.size=T.size:=by
 obtain⟨i,z,h1,h2,_⟩:=h.info
 exact⟨i,h1,h2⟩
def T2:TI:=tiI .i64 8
theorem ti2:TIok Tryz.prog 2 T2:=q66 (by kernel_rfl) Tryz.underlying2 (by decide)
def T3:TI:=tiI .i64 8
theorem ti3:TIok Tryz.prog 3 T3:=q66 (by kernel_rfl) Tryz.underlying3 (by decide)
def T4:TI:=tiB 1
theorem ti4:TIok Tryz.prog 4 T4:=x3n (by kernel_rfl) Tryz.underlying4 (by decide)
def T5:TI:=tiI .u8 1
theorem ti5:TIok Tryz.prog 5 T5:=q66 (by kernel_rfl) Tryz.underlying5 (by decide)
def T9:TI:=tiR 16
theorem ti9:TIok Tryz.prog 9 T9:=x3m (by kernel_rfl) Tryz.underlying9 (by decide)
def T22:TI:=tiS 24 34 (.list (.int .i64))
theorem yg9:TIok Tryz.prog 22 T22:=q67 (by kernel_rfl) Tryz.underlying22 (by decide)
def T23:TI:=tiS 24 34 (.list (.int .i64))
theorem yb8:TIok Tryz.prog 23 T23:=q67 (by kernel_rfl) Tryz.underlying23 (by decide)
def T25:TI:={ agg:=true,size:=3,bytes:=24,ty:=.prod (.int .i64) (.prod (.int .i64) (.int .i64)),zero:=.cons (.lit (.int .i64 0)) (.cons (.lit (.int .i64 0)) (.cons (.lit (.int .i64 0)) .nil)),kind:=5,dflt:=true,elem:=0,flds:=[(0,3,1),(1,3,1),(2,3,1)],eq3:=true }
theorem yh0:TIok Tryz.prog 25 T25:=qz5 (z:=.agg #[.int .i64 0,.int .i64 0,.int .i64 0]) (by kernel_rfl) rfl rfl (λm ρ=>⟨_,_,rfl,rfl,⟨_,_,rfl,rfl,⟨_,_,rfl,rfl,rfl⟩⟩⟩) (λ_ m=>⟨[.int .i64 0],[.int .i64 0,.int .i64 0],rfl,rfl,⟨[.int .i64 0],[.int .i64 0],rfl,rfl,rfl⟩⟩) (by decide) (by decide) (by decide) rfl Tryz.underlying25 (λh=>by cases h) (λh=>by cases h) (λh=>by cases h)
 (λh=>by cases h)
 (λ_=>⟨_,Tryz.underlying25,rfl,λf hf=>by
  simp only[T25,List.mem_cons,List.not_mem_nil,or_false] at hf
  rcases hf with rfl | rfl | rfl
  ·exact⟨qs9 ti3,by decide⟩
  ·exact⟨qs9 ti3,by decide⟩
  ·exact⟨qs9 ti3,by decide⟩⟩) (by decide) (h19:=λ_=>w37 Tryz.underlying25 (by decide) (by decide) (by decide) rfl rfl rfl Tryz.underlying3 Tryz.underlying3 Tryz.underlying3 (by kernel_rfl) (by kernel_rfl))
def T28:TI:=tiI .i64 8
theorem yh1:TIok Tryz.prog 28 T28:=q66 (by kernel_rfl) Tryz.underlying28 (by decide)
def T31:TI:=tiS 24 39 (.prod (.bool) (.list (.int .i64)))
theorem yh2:TIok Tryz.prog 31 T31:=q67 (by kernel_rfl) Tryz.underlying31 (by decide)
def T34:TI:=tiS 24 3 (.int .i64)
theorem x0c:TIok Tryz.prog 34 T34:=q67 (by kernel_rfl) Tryz.underlying34 (by decide)
def T39:TI:={ agg:=true,size:=2,bytes:=32,ty:=.prod (.bool) (.list (.int .i64)),zero:=.cons (.ff) (.cons (.lit (.slice none 0 0)) .nil),kind:=5,dflt:=true,elem:=0,flds:=[(0,4,1),(1,34,1)] }
theorem yb9:TIok Tryz.prog 39 T39:=qz5 (z:=.agg #[.bool false,.slice none 0 0]) (by kernel_rfl) rfl rfl (λm ρ=>⟨_,_,rfl,rfl,⟨_,_,rfl,rfl,rfl⟩⟩) (λ_ m=>⟨[.bool false],[.slice none 0 0],rfl,rfl,⟨none,0,rfl,Nat.le_refl _,by unfold maxLen; exact Nat.zero_le _,λh=>absurd h (Nat.lt_irrefl 0)⟩⟩) (by decide) (by decide) (by decide) rfl Tryz.underlying39 (λh=>by cases h) (λh=>by cases h) (λh=>by cases h)
 (λh=>by cases h)
 (λ_=>⟨_,Tryz.underlying39,rfl,λf hf=>by
  simp only[T39,List.mem_cons,List.not_mem_nil,or_false] at hf
  rcases hf with rfl | rfl
  ·exact⟨qs9 ti4,by decide⟩
  ·exact⟨qs9 x0c,by decide⟩⟩) (by decide)
def T43:TI:={ agg:=true,size:=2,bytes:=48,ty:=.prod (.list (.int .i64)) (.list (.int .i64)),zero:=.cons (.lit (.slice none 0 0)) (.cons (.lit (.slice none 0 0)) .nil),kind:=5,dflt:=true,elem:=0,flds:=[(0,34,1),(1,34,1)] }
theorem yh3:TIok Tryz.prog 43 T43:=qz5 (z:=.agg #[.slice none 0 0,.slice none 0 0]) (by kernel_rfl) rfl rfl (λm ρ=>⟨_,_,rfl,rfl,⟨_,_,rfl,rfl,rfl⟩⟩) (λ_ m=>⟨[.slice none 0 0],[.slice none 0 0],rfl,⟨none,0,rfl,Nat.le_refl _,by unfold maxLen; exact Nat.zero_le _,λh=>absurd h (Nat.lt_irrefl 0)⟩,⟨none,0,rfl,Nat.le_refl _,by unfold maxLen; exact Nat.zero_le _,λh=>absurd h (Nat.lt_irrefl 0)⟩⟩) (by decide) (by decide) (by decide) rfl Tryz.underlying43 (λh=>by cases h) (λh=>by cases h) (λh=>by cases h)
 (λh=>by cases h)
 (λ_=>⟨_,Tryz.underlying43,rfl,λf hf=>by
  simp only[T43,List.mem_cons,List.not_mem_nil,or_false] at hf
  rcases hf with rfl | rfl
  ·exact⟨qs9 x0c,by decide⟩
  ·exact⟨qs9 x0c,by decide⟩⟩) (by decide)
def T45:TI:=tiZ (.nilFunc) 8
theorem yh4:TIok Tryz.prog 45 T45:=qj1 rfl rfl (by kernel_rfl) Tryz.underlying45 rfl (by decide)
def T46:TI:=tiZ (.nilFunc) 8
theorem yh5:TIok Tryz.prog 46 T46:=qj1 rfl rfl (by kernel_rfl) Tryz.underlying46 rfl (by decide)
def T53:TI:=tiS 24 60 (.prod (.int .i64) (.int .i64))
theorem yc0:TIok Tryz.prog 53 T53:=q67 (by kernel_rfl) Tryz.underlying53 (by decide)
def T60:TI:={ agg:=true,size:=2,bytes:=16,ty:=.prod (.int .i64) (.int .i64),zero:=.cons (.lit (.int .i64 0)) (.cons (.lit (.int .i64 0)) .nil),kind:=5,dflt:=true,elem:=0,flds:=[(0,3,1),(1,3,1)],eq2:=true }
theorem yc1:TIok Tryz.prog 60 T60:=qz5 (z:=.agg #[.int .i64 0,.int .i64 0]) (by kernel_rfl) rfl rfl (λm ρ=>⟨_,_,rfl,rfl,⟨_,_,rfl,rfl,rfl⟩⟩) (λ_ m=>⟨[.int .i64 0],[.int .i64 0],rfl,rfl,rfl⟩) (by decide) (by decide) (by decide) rfl Tryz.underlying60 (λh=>by cases h) (λh=>by cases h) (λh=>by cases h)
 (λh=>by cases h)
 (λ_=>⟨_,Tryz.underlying60,rfl,λf hf=>by
  simp only[T60,List.mem_cons,List.not_mem_nil,or_false] at hf
  rcases hf with rfl | rfl
  ·exact⟨qs9 ti3,by decide⟩
  ·exact⟨qs9 ti3,by decide⟩⟩) (by decide) (λ_=>q84 Tryz.underlying60 (by decide) (by decide) rfl rfl Tryz.underlying3 Tryz.underlying3 (by kernel_rfl) (by kernel_rfl))
def T72:TI:={ agg:=true,size:=2,bytes:=48,ty:=.prod (.list (.int .i64)) (.list (.prod (.int .i64) (.int .i64))),zero:=.cons (.lit (.slice none 0 0)) (.cons (.lit (.slice none 0 0)) .nil),kind:=5,dflt:=true,elem:=0,flds:=[(0,34,1),(1,53,1)] }
theorem yh6:TIok Tryz.prog 72 T72:=qz5 (z:=.agg #[.slice none 0 0,.slice none 0 0]) (by kernel_rfl) rfl rfl (λm ρ=>⟨_,_,rfl,rfl,⟨_,_,rfl,rfl,rfl⟩⟩) (λ_ m=>⟨[.slice none 0 0],[.slice none 0 0],rfl,⟨none,0,rfl,Nat.le_refl _,by unfold maxLen; exact Nat.zero_le _,λh=>absurd h (Nat.lt_irrefl 0)⟩,⟨none,0,rfl,Nat.le_refl _,by unfold maxLen; exact Nat.zero_le _,λh=>absurd h (Nat.lt_irrefl 0)⟩⟩) (by decide) (by decide) (by decide) rfl Tryz.underlying72 (λh=>by cases h) (λh=>by cases h) (λh=>by cases h)
 (λh=>by cases h)
 (λ_=>⟨_,Tryz.underlying72,rfl,λf hf=>by
  simp only[T72,List.mem_cons,List.not_mem_nil,or_false] at hf
  rcases hf with rfl | rfl
  ·exact⟨qs9 x0c,by decide⟩
  ·exact⟨qs9 yc0,by decide⟩⟩) (by decide)
def T79:TI:=tiS 24 25 (.prod (.int .i64) (.prod (.int .i64) (.int .i64)))
theorem yh7:TIok Tryz.prog 79 T79:=q67 (by kernel_rfl) Tryz.underlying79 (by decide)
def T95:TI:=tiZ (.nilFunc) 8
theorem yh8:TIok Tryz.prog 95 T95:=qj1 rfl rfl (by kernel_rfl) Tryz.underlying95 rfl (by decide)
def yc2:TI:=tiZ (.nilFunc) 8
theorem x6o:TIok Tryz.prog 101 yc2:=qj1 rfl rfl (by kernel_rfl) Tryz.underlying101 rfl (by decide)
def yc3:TI:=tiZ (.nilFunc) 8
theorem x6p:TIok Tryz.prog 102 yc3:=qj1 rfl rfl (by kernel_rfl) Tryz.underlying102 rfl (by decide)
def x6q:TI:={ agg:=true,size:=2,bytes:=48,ty:=.prod (.list (.list (.int .i64))) (.list (.int .i64)),zero:=.cons (.lit (.slice none 0 0)) (.cons (.lit (.slice none 0 0)) .nil),kind:=5,dflt:=true,elem:=0,flds:=[(0,23,1),(1,34,1)] }
theorem x3o:TIok Tryz.prog 107 x6q:=qz5 (z:=.agg #[.slice none 0 0,.slice none 0 0]) (by kernel_rfl) rfl rfl (λm ρ=>⟨_,_,rfl,rfl,⟨_,_,rfl,rfl,rfl⟩⟩) (λ_ m=>⟨[.slice none 0 0],[.slice none 0 0],rfl,⟨none,0,rfl,Nat.le_refl _,by unfold maxLen; exact Nat.zero_le _,λh=>absurd h (Nat.lt_irrefl 0)⟩,⟨none,0,rfl,Nat.le_refl _,by unfold maxLen; exact Nat.zero_le _,λh=>absurd h (Nat.lt_irrefl 0)⟩⟩) (by decide) (by decide) (by decide) rfl Tryz.underlying107 (λh=>by cases h) (λh=>by cases h) (λh=>by cases h)
 (λh=>by cases h)
 (λ_=>⟨_,Tryz.underlying107,rfl,λf hf=>by
  simp only[x6q,List.mem_cons,List.not_mem_nil,or_false] at hf
  rcases hf with rfl | rfl
  ·exact⟨qs9 yb8,by decide⟩
  ·exact⟨qs9 x0c,by decide⟩⟩) (by decide)
def x6r:TI:={ agg:=true,size:=3,bytes:=72,ty:=.prod (.prod (.list (.list (.int .i64))) (.list (.int .i64))) (.list (.int .i64)),zero:=.cons (.lit (.slice none 0 0)) (.cons (.lit (.slice none 0 0)) (.cons (.lit (.slice none 0 0)) .nil)),kind:=5,dflt:=true,elem:=0,flds:=[(0,107,2),(2,34,1)] }
theorem x6s:TIok Tryz.prog 108 x6r:=qz5 (z:=.agg #[.slice none 0 0,.slice none 0 0,.slice none 0 0]) (by kernel_rfl) rfl rfl (λm ρ=>⟨_,_,rfl,rfl,⟨_,_,rfl,rfl,⟨_,_,rfl,rfl,rfl⟩⟩⟩) (λ_ m=>⟨[.slice none 0 0,.slice none 0 0],[.slice none 0 0],rfl,⟨[.slice none 0 0],[.slice none 0 0],rfl,⟨none,0,rfl,Nat.le_refl _,by unfold maxLen; exact Nat.zero_le _,λh=>absurd h (Nat.lt_irrefl 0)⟩,⟨none,0,rfl,Nat.le_refl _,by unfold maxLen; exact Nat.zero_le _,λh=>absurd h (Nat.lt_irrefl 0)⟩⟩,⟨none,0,rfl,Nat.le_refl _,by unfold maxLen; exact Nat.zero_le _,λh=>absurd h (Nat.lt_irrefl 0)⟩⟩) (by decide) (by decide) (by decide) rfl Tryz.underlying108 (λh=>by cases h) (λh=>by cases h) (λh=>by cases h)
 (λh=>by cases h)
 (λ_=>⟨_,Tryz.underlying108,rfl,λf hf=>by
  simp only[x6r,List.mem_cons,List.not_mem_nil,or_false] at hf
  rcases hf with rfl | rfl
  ·exact⟨qs9 x3o,by decide⟩
  ·exact⟨qs9 x0c,by decide⟩⟩) (by decide)
def yc4:TI:=tiZ (.nilFunc) 8
theorem x6t:TIok Tryz.prog 114 yc4:=qj1 rfl rfl (by kernel_rfl) Tryz.underlying114 rfl (by decide)
def yc5:TI:=tiZ (.nilFunc) 8
theorem x6u:TIok Tryz.prog 123 yc5:=qj1 rfl rfl (by kernel_rfl) Tryz.underlying123 rfl (by decide)
def yc6:TI:=tiZ (.nilFunc) 8
theorem x3p:TIok Tryz.prog 136 yc6:=qj1 rfl rfl (by kernel_rfl) Tryz.underlying136 rfl (by decide)
def yc7:TI:={ agg:=true,size:=4,bytes:=32,ty:=.bool,zero:=.cons (.lit .nilFunc) (.cons (.lit .nilFunc) (.cons (.lit .nilFunc) (.cons (.lit .nilFunc) .nil))),kind:=4,dflt:=false,elem:=136,flds:=[(0,136,1),(1,136,1),(2,136,1),(3,136,1)] }
theorem x6v:TIok Tryz.prog 137 yc7:=qz5 (z:=.agg #[.nilFunc,.nilFunc,.nilFunc,.nilFunc]) (by kernel_rfl) rfl rfl (λm ρ=>⟨_,_,rfl,rfl,⟨_,_,rfl,rfl,⟨_,_,rfl,rfl,⟨_,_,rfl,rfl,rfl⟩⟩⟩⟩) (λh=>by cases h) (by decide) (by decide) (by decide) rfl Tryz.underlying137 (λh=>by cases h) (λh=>by cases h) (λh=>by cases h)
 (λ_=>⟨4,1,Tryz.underlying137,qs9 x3p,by decide,λf fl h=>by
  match f,h with
  | 0,h=>injection h with h; exact⟨h.symm,by decide⟩
  | 1,h=>injection h with h; exact⟨h.symm,by decide⟩
  | 2,h=>injection h with h; exact⟨h.symm,by decide⟩
  | 3,h=>injection h with h; exact⟨h.symm,by decide⟩⟩)
 (λh=>by cases h) (by decide)
def yc8:TI:=tiZ (.nilFunc) 8
theorem x6w:TIok Tryz.prog 144 yc8:=qj1 rfl rfl (by kernel_rfl) Tryz.underlying144 rfl (by decide)
def yc9:TI:=tiZ (.nilFunc) 8
theorem x6x:TIok Tryz.prog 148 yc9:=qj1 rfl rfl (by kernel_rfl) Tryz.underlying148 rfl (by decide)
def yd0:TI:=tiZ (.nilFunc) 8
theorem x6y:TIok Tryz.prog 157 yd0:=qj1 rfl rfl (by kernel_rfl) Tryz.underlying157 rfl (by decide)
def yd1:TI:=tiZ (.nilFunc) 8
theorem x6z:TIok Tryz.prog 161 yd1:=qj1 rfl rfl (by kernel_rfl) Tryz.underlying161 rfl (by decide)
def yd2:TI:=tiZ (.nilFunc) 8
theorem x60:TIok Tryz.prog 174 yd2:=qj1 rfl rfl (by kernel_rfl) Tryz.underlying174 rfl (by decide)
def yd3:TI:=tiI .u64 8
theorem x61:TIok Tryz.prog 176 yd3:=q66 (by kernel_rfl) Tryz.underlying176 (by decide)
def yd4:TI:=tiZ (.nilFunc) 8
theorem x62:TIok Tryz.prog 180 yd4:=qj1 rfl rfl (by kernel_rfl) Tryz.underlying180 rfl (by decide)
def yd5:TI:={ agg:=true,size:=2,bytes:=16,ty:=.prod (.int .i64) (.int .i64),zero:=.cons (.lit (.int .i64 0)) (.cons (.lit (.int .i64 0)) .nil),kind:=4,dflt:=true,elem:=3,flds:=[(0,3,1),(1,3,1)],eq2:=true }
theorem x63:TIok Tryz.prog 184 yd5:=qz5 (z:=.agg #[.int .i64 0,.int .i64 0]) (by kernel_rfl) rfl rfl (λm ρ=>⟨_,_,rfl,rfl,⟨_,_,rfl,rfl,rfl⟩⟩) (λ_ m=>⟨[.int .i64 0],[.int .i64 0],rfl,rfl,rfl⟩) (by decide) (by decide) (by decide) rfl Tryz.underlying184 (λh=>by cases h) (λh=>by cases h) (λh=>by cases h)
 (λ_=>⟨2,1,Tryz.underlying184,qs9 ti3,by decide,λf fl h=>by
  match f,h with
  | 0,h=>injection h with h; exact⟨h.symm,by decide⟩
  | 1,h=>injection h with h; exact⟨h.symm,by decide⟩⟩)
 (λh=>by cases h) (by decide) (λ_=>(qs9 ti3).elim λj hj=>xw6 Tryz.underlying184 hj.1 (by kernel_rfl) Tryz.underlying3 (by kernel_rfl))
def yd6:TI:=tiM 8 4
theorem x64:TIok Tryz.prog 189 yd6:=x3l (y:=.bool false) (by kernel_rfl) Tryz.underlying189 Tryz.underlying9 (by kernel_rfl) rfl (by decide)
def yd7:TI:=tiZ (.nilFunc) 8
theorem x65:TIok Tryz.prog 190 yd7:=qj1 rfl rfl (by kernel_rfl) Tryz.underlying190 rfl (by decide)
def yd8:TI:=tiZ (.nilFunc) 8
theorem x67:TIok Tryz.prog 193 yd8:=qj1 rfl rfl (by kernel_rfl) Tryz.underlying193 rfl (by decide)
def x68:TI:={ agg:=true,size:=2,bytes:=16,ty:=.prod (.int .i64) (.int .i64),zero:=.cons (.lit (.int .i64 0)) (.cons (.lit (.int .i64 0)) .nil),kind:=5,dflt:=true,elem:=0,flds:=[(0,60,2)] }
theorem x7a:TIok Tryz.prog 199 x68:=qz5 (z:=.agg #[.int .i64 0,.int .i64 0]) (by kernel_rfl) rfl rfl (λm ρ=>⟨_,_,rfl,rfl,⟨_,_,rfl,rfl,rfl⟩⟩) (λ_ m=>⟨[.int .i64 0],[.int .i64 0],rfl,rfl,rfl⟩) (by decide) (by decide) (by decide) rfl Tryz.underlying199 (λh=>by cases h) (λh=>by cases h) (λh=>by cases h)
 (λh=>by cases h)
 (λ_=>⟨_,Tryz.underlying199,rfl,λf hf=>by
  simp only[x68,List.mem_cons,List.not_mem_nil,or_false] at hf
  rcases hf with rfl
  ·exact⟨qs9 yc1,by decide⟩⟩) (by decide)
def yd9:TI:=tiI .u64 8
theorem x3q:TIok Tryz.prog 204 yd9:=q66 (by kernel_rfl) Tryz.underlying204 (by decide)
def x7b:TI:={ agg:=true,size:=2,bytes:=16,ty:=.prod (.int .i64) (.int .u64),zero:=.cons (.lit (.int .i64 0)) (.cons (.lit (.int .u64 0)) .nil),kind:=5,dflt:=true,elem:=0,flds:=[(0,2,1),(1,204,1)],eq2:=true }
theorem x7c:TIok Tryz.prog 206 x7b:=qz5 (z:=.agg #[.int .i64 0,.int .u64 0]) (by kernel_rfl) rfl rfl (λm ρ=>⟨_,_,rfl,rfl,⟨_,_,rfl,rfl,rfl⟩⟩) (λ_ m=>⟨[.int .i64 0],[.int .u64 0],rfl,rfl,rfl⟩) (by decide) (by decide) (by decide) rfl Tryz.underlying206 (λh=>by cases h) (λh=>by cases h) (λh=>by cases h)
 (λh=>by cases h)
 (λ_=>⟨_,Tryz.underlying206,rfl,λf hf=>by
  simp only[x7b,List.mem_cons,List.not_mem_nil,or_false] at hf
  rcases hf with rfl | rfl
  ·exact⟨qs9 ti2,by decide⟩
  ·exact⟨qs9 x3q,by decide⟩⟩) (by decide) (λ_=>q84 Tryz.underlying206 (by decide) (by decide) rfl rfl Tryz.underlying2 Tryz.underlying204 (by kernel_rfl) (by kernel_rfl))
def ye0:TI:=tiZ (.nilFunc) 8
theorem x7d:TIok Tryz.prog 214 ye0:=qj1 rfl rfl (by kernel_rfl) Tryz.underlying214 rfl (by decide)
def ye1:TI:=tiZ (.nilFunc) 8
theorem x7e:TIok Tryz.prog 220 ye1:=qj1 rfl rfl (by kernel_rfl) Tryz.underlying220 rfl (by decide)
def ye2:TI:=tiZ (.nilFunc) 8
theorem x7g:TIok Tryz.prog 223 ye2:=qj1 rfl rfl (by kernel_rfl) Tryz.underlying223 rfl (by decide)
def ye3:TI:=tiZ (.nilFunc) 8
theorem x7h:TIok Tryz.prog 225 ye3:=qj1 rfl rfl (by kernel_rfl) Tryz.underlying225 rfl (by decide)
def ye4:TI:=tiZ (.nilFunc) 8
theorem x7i:TIok Tryz.prog 226 ye4:=qj1 rfl rfl (by kernel_rfl) Tryz.underlying226 rfl (by decide)
def ye5:TI:=tiZ (.nilFunc) 8
theorem x7j:TIok Tryz.prog 228 ye5:=qj1 rfl rfl (by kernel_rfl) Tryz.underlying228 rfl (by decide)
def ye6:TI:=tiZ (.nilFunc) 8
theorem x7k:TIok Tryz.prog 229 ye6:=qj1 rfl rfl (by kernel_rfl) Tryz.underlying229 rfl (by decide)
def ye7:TI:=tiZ (.nilFunc) 8
theorem x7l:TIok Tryz.prog 231 ye7:=qj1 rfl rfl (by kernel_rfl) Tryz.underlying231 rfl (by decide)
def ye8:TI:=tiZ (.nilFunc) 8
theorem x7m:TIok Tryz.prog 233 ye8:=qj1 rfl rfl (by kernel_rfl) Tryz.underlying233 rfl (by decide)
def ye9:TI:=tiZ (.pointer none) 8
theorem x3r:TIok Tryz.prog 234 ye9:=qj1 rfl rfl (by kernel_rfl) Tryz.underlying234 rfl (by decide)
def yf0:TI:=tiS 24 5 (.int .u8)
theorem x3s:TIok Tryz.prog 235 yf0:=q67 (by kernel_rfl) Tryz.underlying235 (by decide)
def x7n:TI:={ agg:=true,size:=2,bytes:=32,ty:=.bool,zero:=.cons (.lit (.pointer none)) (.cons (.lit (.slice none 0 0)) .nil),kind:=5,dflt:=false,elem:=0,flds:=[(0,234,1),(1,235,1)],bld:=some 5 }
theorem x7o:TIok Tryz.prog 237 x7n:=qz5 (z:=.agg #[.pointer none,.slice none 0 0]) (by kernel_rfl) rfl rfl (λm ρ=>⟨_,_,rfl,rfl,⟨_,_,rfl,rfl,rfl⟩⟩) (λh=>by cases h) (by decide) (by decide) (by decide) rfl Tryz.underlying237 (λh=>by cases h) (λh=>by cases h) (λh=>by cases h)
 (λh=>by cases h)
 (λ_=>⟨_,Tryz.underlying237,rfl,λf hf=>by
  simp only[x7n,List.mem_cons,List.not_mem_nil,or_false] at hf
  rcases hf with rfl | rfl
  ·exact⟨qs9 x3r,by decide⟩
  ·exact⟨qs9 x3s,by decide⟩⟩) (by decide) (h17:=λ_ _=>w8i (by kernel_rfl))
def yf1:TI:=tiZ (.nilFunc) 8
theorem x7p:TIok Tryz.prog 241 yf1:=qj1 rfl rfl (by kernel_rfl) Tryz.underlying241 rfl (by decide)
def yf2:TI:=tiZ (.nilFunc) 8
theorem x7q:TIok Tryz.prog 242 yf2:=qj1 rfl rfl (by kernel_rfl) Tryz.underlying242 rfl (by decide)
def x7r:TI:={ agg:=true,size:=2,bytes:=32,ty:=.prod (.bool) (.list (.int .i64)),zero:=.cons (.ff) (.cons (.lit (.slice none 0 0)) .nil),kind:=5,dflt:=true,elem:=0,flds:=[(0,39,2)] }
theorem x7s:TIok Tryz.prog 245 x7r:=qz5 (z:=.agg #[.bool false,.slice none 0 0]) (by kernel_rfl) rfl rfl (λm ρ=>⟨_,_,rfl,rfl,⟨_,_,rfl,rfl,rfl⟩⟩) (λ_ m=>⟨[.bool false],[.slice none 0 0],rfl,rfl,⟨none,0,rfl,Nat.le_refl _,by unfold maxLen; exact Nat.zero_le _,λh=>absurd h (Nat.lt_irrefl 0)⟩⟩) (by decide) (by decide) (by decide) rfl Tryz.underlying245 (λh=>by cases h) (λh=>by cases h) (λh=>by cases h)
 (λh=>by cases h)
 (λ_=>⟨_,Tryz.underlying245,rfl,λf hf=>by
  simp only[x7r,List.mem_cons,List.not_mem_nil,or_false] at hf
  rcases hf with rfl
  ·exact⟨qs9 yb9,by decide⟩⟩) (by decide)
def yf3:TI:=tiI .u64 8
theorem x7t:TIok Tryz.prog 249 yf3:=q66 (by kernel_rfl) Tryz.underlying249 (by decide)
def yf4:TI:=tiZ (.nilFunc) 8
theorem x7u:TIok Tryz.prog 256 yf4:=qj1 rfl rfl (by kernel_rfl) Tryz.underlying256 rfl (by decide)
def tys:List (Nat × TI):=[(2,T2),(3,T3),(4,T4),(5,T5),(9,T9),(22,T22),(23,T23),(25,T25),(28,T28),(31,T31),(34,T34),(39,T39),(43,T43),(45,T45),(46,T46),(53,T53),(60,T60),(72,T72),(79,T79),(95,T95),(101,yc2),(102,yc3),(107,x6q),(108,x6r),(114,yc4),(123,yc5),(136,yc6),(137,yc7),(144,yc8),(148,yc9),(157,yd0),(161,yd1),(174,yd2),(176,yd3),(180,yd4),(184,yd5),(189,yd6),(190,yd7),(193,yd8),(199,x68),(204,yd9),(206,x7b),(214,ye0),(220,ye1),(223,ye2),(225,ye3),(226,ye4),(228,ye5),(229,ye6),(231,ye7),(233,ye8),(234,ye9),(235,yf0),(237,x7n),(241,yf1),(242,yf2),(245,x7r),(249,yf3),(256,yf4)]
theorem q68 {α:Type} {i j:Nat} {v w:α} {l:List (Nat × α)} (h:find ((j,v) :: l) i=some w):(i=j/\w=v)\/find l i=some w:=by
 simp only[find] at h
 split at h
 ·rename_i e; exact .inl ⟨(Nat.eq_of_beq_eq_true e).symm,by injection h with h; exact h.symm⟩
 ·exact .inr h
theorem x0d {P:Program}:∀t T,find ([]:List (Nat × TI)) t=some T->TIok P t T:=λ_ _ h=>by cases h
theorem qc0 {P:Program} {j:Nat} {U:TI} {l:List (Nat × TI)} (h:TIok P j U) (r:∀t T,find l t=some T->TIok P t T):∀t T,find ((j,U) :: l) t=some T->TIok P t T:=λt T e=>by
 rcases q68 e with⟨rfl,rfl⟩ | e
 ·exact h
 ·exact r t T e
set_option maxRecDepth 100000 in
theorem q05:∀t T,find tys t=some T->TIok Tryz.prog t T:=by
 unfold tys
 exact qc0 ti2 <| qc0 ti3 <| qc0 ti4 <| qc0 ti5 <| qc0 ti9 <| qc0 yg9 <| qc0 yb8 <| qc0 yh0 <| qc0 yh1 <| qc0 yh2 <| qc0 x0c <| qc0 yb9 <| qc0 yh3 <| qc0 yh4 <| qc0 yh5 <| qc0 yc0 <| qc0 yc1 <| qc0 yh6 <| qc0 yh7 <| qc0 yh8 <| qc0 x6o <| qc0 x6p <| qc0 x3o <| qc0 x6s <| qc0 x6t <| qc0 x6u <| qc0 x3p <| qc0 x6v <| qc0 x6w <| qc0 x6x <| qc0 x6y <| qc0 x6z <| qc0 x60 <| qc0 x61 <| qc0 x62 <| qc0 x63 <| qc0 x64 <| qc0 x65 <| qc0 x67 <| qc0 x7a <| qc0 x3q <| qc0 x7c <| qc0 x7d <| qc0 x7e <| qc0 x7g <| qc0 x7h <| qc0 x7i <| qc0 x7j <| qc0 x7k <| qc0 x7l <| qc0 x7m <| qc0 x3r <| qc0 x3s <| qc0 x7o <| qc0 x7p <| qc0 x7q <| qc0 x7s <| qc0 x7t <| qc0 x7u <| x0d
end Go.Proofs.YtmijnbjlhnpokaaGreat
