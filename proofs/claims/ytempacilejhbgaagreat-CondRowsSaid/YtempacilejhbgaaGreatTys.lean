/- What the table of this seat says of its types, for the engine. Printed by program (gentys.py). No condition. -/
import Derived.Test.YtempacilejhbgaaGreatEng3
import Derived.Test.YtempacilejhbgaaGreatProg
set_option linter.unusedVariables false
set_option linter.unusedSimpArgs false
namespace Go.Proofs.YtempacilejhbgaaGreat
open Go Go.RowKit Eng
theorem qg2 {P:Program} {t:Nat} {T:TI} {z:Value} {d:TypeDesc} (h1:(P.info? t).map (λi=>(i.size,i.bytes,i.zero))=some (T.size,T.bytes,some z)) (hz:z.cells.size=T.size) (h2:z.cells.toList.all (·.oneCell')=true)
  (h3:∀m ρ,T.zero.ok P m ρ z.cells.toList) (h4:T.dflt=true->∀m,Rd m T.ty T.ty.dflt z.cells.toList) (h5:T.bytes<=1000000) (h6:T.size≠0) (h7:T.size<=10000) (h8:(match d with | .struct _ | .array _ _=>true | _=>false)=T.agg) (hu:P.underlying t=some d)
  (h9:T.kind=1->P.underlying t=some (.slice T.elem)) (h10:T.kind=2->P.underlying t=some .string) (h11:T.kind=3->P.underlying t=some .bool)
  (h12:T.kind=4->∃n sz,P.underlying t=some (.array n T.elem)/\(∃j,P.info? T.elem=some j/\j.size=sz)/\sz≠0/\∀(f:Nat) (fl:Nat × Nat × Nat),T.flds[f]? = some fl->fl=(f*sz,T.elem,sz)/\f<n)
  (h13:T.kind=5->∃fields,P.underlying t=some (.struct fields)/\fields.toList.map (λF=>(F.offset,F.type))=T.flds.map (λf=>(f.1,f.2.1))/\∀f∈T.flds,(∃j,P.info? f.2.1=some j/\j.size=f.2.2)/\f.2.2≠0) (h14:T.kind<=5) (h15:T.eq2=true->Eq2 P t:=by(intro h; cases h)) (h16:T.isInt=true->∃k,T.ty=.int k/\P.underlying t=some (.int k):=by(intro h; cases h))
  (h17:∀eb,T.bld=some eb->∃i,P.info? t=some i/\i.zero=some (.agg #[.pointer none,.slice none 0 0]):=by(intro eb h; cases h)):TIok P t T:=by
 refine⟨?_,h5,h6,h7,⟨d,hu,h8⟩,h9,h10,h11,h12,h13,h14,h15,h16,h17⟩
 cases hi:P.info? t with
 | none=>rw[hi] at h1; cases h1
 | some i=>
  rw[hi] at h1
  simp only[Option.map_some,Option.some.injEq,Prod.mk.injEq] at h1
  exact⟨i,z,rfl,h1.1,h1.2.1,h1.2.2,hz,h2,h3,h4⟩
theorem qw1 {P:Program} {t:Nat} {T:TI} (h:TIok P t T):∃j,P.info? t=some j/\j.size=T.size:=by
 obtain⟨i,z,h1,h2,_⟩:=h.info
 exact⟨i,h1,h2⟩
def T1:TI:={ agg:=false,size:=1,bytes:=8,ty:=.bool,zero:=.cons (.lit .nilFunc) .nil,kind:=0,dflt:=false,elem:=0,flds:=[] }
theorem ti1:TIok Tryz.prog 1 T1:=qg2 (z:=.nilFunc) (by kernel_rfl) rfl rfl (λm ρ=>⟨_,_,rfl,rfl,rfl⟩) (λh=>by cases h) (by decide) (by decide) (by decide) rfl Tryz.underlying1 (λh=>by cases h) (λh=>by cases h) (λh=>by cases h)
 (λh=>by cases h)
 (λh=>by cases h) (by decide)
def T2:TI:={ agg:=false,size:=1,bytes:=8,ty:=.int .i64,zero:=.cons (.lit (.int .i64 0)) .nil,kind:=0,dflt:=true,elem:=0,flds:=[],isInt:=true }
theorem ti2:TIok Tryz.prog 2 T2:=qg2 (z:=.int .i64 0) (by kernel_rfl) rfl rfl (λm ρ=>⟨_,_,rfl,rfl,rfl⟩) (λ_ m=>rfl) (by decide) (by decide) (by decide) rfl Tryz.underlying2 (λh=>by cases h) (λh=>by cases h) (λh=>by cases h)
 (λh=>by cases h)
 (λh=>by cases h) (by decide) (h16:=λ_=>⟨.i64,rfl,Tryz.underlying2⟩)
def T3:TI:={ agg:=false,size:=1,bytes:=8,ty:=.int .i64,zero:=.cons (.lit (.int .i64 0)) .nil,kind:=0,dflt:=true,elem:=0,flds:=[],isInt:=true }
theorem ti3:TIok Tryz.prog 3 T3:=qg2 (z:=.int .i64 0) (by kernel_rfl) rfl rfl (λm ρ=>⟨_,_,rfl,rfl,rfl⟩) (λ_ m=>rfl) (by decide) (by decide) (by decide) rfl Tryz.underlying3 (λh=>by cases h) (λh=>by cases h) (λh=>by cases h)
 (λh=>by cases h)
 (λh=>by cases h) (by decide) (h16:=λ_=>⟨.i64,rfl,Tryz.underlying3⟩)
def T4:TI:={ agg:=false,size:=1,bytes:=1,ty:=.bool,zero:=.cons (.ff) .nil,kind:=3,dflt:=true,elem:=0,flds:=[] }
theorem ti4:TIok Tryz.prog 4 T4:=qg2 (z:=.bool false) (by kernel_rfl) rfl rfl (λm ρ=>⟨_,_,rfl,rfl,rfl⟩) (λ_ m=>rfl) (by decide) (by decide) (by decide) rfl Tryz.underlying4 (λh=>by cases h) (λh=>by cases h) (λ_=>Tryz.underlying4)
 (λh=>by cases h)
 (λh=>by cases h) (by decide)
def T5:TI:={ agg:=false,size:=1,bytes:=1,ty:=.int .u8,zero:=.cons (.lit (.int .u8 0)) .nil,kind:=0,dflt:=true,elem:=0,flds:=[],isInt:=true }
theorem ti5:TIok Tryz.prog 5 T5:=qg2 (z:=.int .u8 0) (by kernel_rfl) rfl rfl (λm ρ=>⟨_,_,rfl,rfl,rfl⟩) (λ_ m=>rfl) (by decide) (by decide) (by decide) rfl Tryz.underlying5 (λh=>by cases h) (λh=>by cases h) (λh=>by cases h)
 (λh=>by cases h)
 (λh=>by cases h) (by decide) (h16:=λ_=>⟨.u8,rfl,Tryz.underlying5⟩)
def T6:TI:={ agg:=false,size:=1,bytes:=1,ty:=.int .u8,zero:=.cons (.lit (.int .u8 0)) .nil,kind:=0,dflt:=true,elem:=0,flds:=[],isInt:=true }
theorem ti6:TIok Tryz.prog 6 T6:=qg2 (z:=.int .u8 0) (by kernel_rfl) rfl rfl (λm ρ=>⟨_,_,rfl,rfl,rfl⟩) (λ_ m=>rfl) (by decide) (by decide) (by decide) rfl Tryz.underlying6 (λh=>by cases h) (λh=>by cases h) (λh=>by cases h)
 (λh=>by cases h)
 (λh=>by cases h) (by decide) (h16:=λ_=>⟨.u8,rfl,Tryz.underlying6⟩)
def T7:TI:={ agg:=true,size:=4,bytes:=24,ty:=.prod (.int .i64) (.prod (.int .i64) (.prod (.bool) (.int .u8))),zero:=.cons (.lit (.int .i64 0)) (.cons (.lit (.int .i64 0)) (.cons (.ff) (.cons (.lit (.int .u8 0)) .nil))),kind:=5,dflt:=true,elem:=0,flds:=[(0,2,1),(1,3,1),(2,4,1),(3,6,1)] }
theorem ti7:TIok Tryz.prog 7 T7:=qg2 (z:=.agg #[.int .i64 0,.int .i64 0,.bool false,.int .u8 0]) (by kernel_rfl) rfl rfl (λm ρ=>⟨_,_,rfl,rfl,⟨_,_,rfl,rfl,⟨_,_,rfl,rfl,⟨_,_,rfl,rfl,rfl⟩⟩⟩⟩) (λ_ m=>⟨[.int .i64 0],[.int .i64 0,.bool false,.int .u8 0],rfl,rfl,⟨[.int .i64 0],[.bool false,.int .u8 0],rfl,rfl,⟨[.bool false],[.int .u8 0],rfl,rfl,rfl⟩⟩⟩) (by decide) (by decide) (by decide) rfl Tryz.underlying7 (λh=>by cases h) (λh=>by cases h) (λh=>by cases h)
 (λh=>by cases h)
 (λ_=>⟨_,Tryz.underlying7,rfl,λf hf=>by
  simp only[T7,List.mem_cons,List.not_mem_nil,or_false] at hf
  rcases hf with rfl | rfl | rfl | rfl
  ·exact⟨qw1 ti2,by decide⟩
  ·exact⟨qw1 ti3,by decide⟩
  ·exact⟨qw1 ti4,by decide⟩
  ·exact⟨qw1 ti6,by decide⟩⟩) (by decide)
def T8:TI:={ agg:=true,size:=4,bytes:=24,ty:=.prod (.int .i64) (.prod (.int .i64) (.prod (.bool) (.int .u8))),zero:=.cons (.lit (.int .i64 0)) (.cons (.lit (.int .i64 0)) (.cons (.ff) (.cons (.lit (.int .u8 0)) .nil))),kind:=5,dflt:=true,elem:=0,flds:=[(0,2,1),(1,3,1),(2,4,1),(3,6,1)] }
theorem ti8:TIok Tryz.prog 8 T8:=qg2 (z:=.agg #[.int .i64 0,.int .i64 0,.bool false,.int .u8 0]) (by kernel_rfl) rfl rfl (λm ρ=>⟨_,_,rfl,rfl,⟨_,_,rfl,rfl,⟨_,_,rfl,rfl,⟨_,_,rfl,rfl,rfl⟩⟩⟩⟩) (λ_ m=>⟨[.int .i64 0],[.int .i64 0,.bool false,.int .u8 0],rfl,rfl,⟨[.int .i64 0],[.bool false,.int .u8 0],rfl,rfl,⟨[.bool false],[.int .u8 0],rfl,rfl,rfl⟩⟩⟩) (by decide) (by decide) (by decide) rfl Tryz.underlying8 (λh=>by cases h) (λh=>by cases h) (λh=>by cases h)
 (λh=>by cases h)
 (λ_=>⟨_,Tryz.underlying8,rfl,λf hf=>by
  simp only[T8,List.mem_cons,List.not_mem_nil,or_false] at hf
  rcases hf with rfl | rfl | rfl | rfl
  ·exact⟨qw1 ti2,by decide⟩
  ·exact⟨qw1 ti3,by decide⟩
  ·exact⟨qw1 ti4,by decide⟩
  ·exact⟨qw1 ti6,by decide⟩⟩) (by decide)
def T9:TI:={ agg:=false,size:=1,bytes:=16,ty:=.str,zero:=.cons (.lit (.string ⟨#[]⟩)) .nil,kind:=2,dflt:=true,elem:=0,flds:=[] }
theorem ti9:TIok Tryz.prog 9 T9:=qg2 (z:=.string ⟨#[]⟩) (by kernel_rfl) rfl rfl (λm ρ=>⟨_,_,rfl,rfl,rfl⟩) (λ_ m=>rfl) (by decide) (by decide) (by decide) rfl Tryz.underlying9 (λh=>by cases h) (λ_=>Tryz.underlying9) (λh=>by cases h)
 (λh=>by cases h)
 (λh=>by cases h) (by decide)
def T10:TI:={ agg:=false,size:=1,bytes:=16,ty:=.str,zero:=.cons (.lit (.string ⟨#[]⟩)) .nil,kind:=2,dflt:=true,elem:=0,flds:=[] }
theorem x6o:TIok Tryz.prog 10 T10:=qg2 (z:=.string ⟨#[]⟩) (by kernel_rfl) rfl rfl (λm ρ=>⟨_,_,rfl,rfl,rfl⟩) (λ_ m=>rfl) (by decide) (by decide) (by decide) rfl Tryz.underlying10 (λh=>by cases h) (λ_=>Tryz.underlying10) (λh=>by cases h)
 (λh=>by cases h)
 (λh=>by cases h) (by decide)
def T11:TI:={ agg:=false,size:=1,bytes:=16,ty:=.str,zero:=.cons (.lit (.string ⟨#[]⟩)) .nil,kind:=2,dflt:=true,elem:=0,flds:=[] }
theorem x6p:TIok Tryz.prog 11 T11:=qg2 (z:=.string ⟨#[]⟩) (by kernel_rfl) rfl rfl (λm ρ=>⟨_,_,rfl,rfl,rfl⟩) (λ_ m=>rfl) (by decide) (by decide) (by decide) rfl Tryz.underlying11 (λh=>by cases h) (λ_=>Tryz.underlying11) (λh=>by cases h)
 (λh=>by cases h)
 (λh=>by cases h) (by decide)
def T12:TI:={ agg:=false,size:=1,bytes:=8,ty:=.int .u64,zero:=.cons (.lit (.int .u64 0)) .nil,kind:=0,dflt:=true,elem:=0,flds:=[],isInt:=true }
theorem x5v:TIok Tryz.prog 12 T12:=qg2 (z:=.int .u64 0) (by kernel_rfl) rfl rfl (λm ρ=>⟨_,_,rfl,rfl,rfl⟩) (λ_ m=>rfl) (by decide) (by decide) (by decide) rfl Tryz.underlying12 (λh=>by cases h) (λh=>by cases h) (λh=>by cases h)
 (λh=>by cases h)
 (λh=>by cases h) (by decide) (h16:=λ_=>⟨.u64,rfl,Tryz.underlying12⟩)
def T14:TI:={ agg:=true,size:=2,bytes:=24,ty:=.prod (.str) (.int .u64),zero:=.cons (.lit (.string ⟨#[]⟩)) (.cons (.lit (.int .u64 0)) .nil),kind:=5,dflt:=true,elem:=0,flds:=[(0,9,1),(1,12,1)] }
theorem x6q:TIok Tryz.prog 14 T14:=qg2 (z:=.agg #[.string ⟨#[]⟩,.int .u64 0]) (by kernel_rfl) rfl rfl (λm ρ=>⟨_,_,rfl,rfl,⟨_,_,rfl,rfl,rfl⟩⟩) (λ_ m=>⟨[.string ⟨#[]⟩],[.int .u64 0],rfl,rfl,rfl⟩) (by decide) (by decide) (by decide) rfl Tryz.underlying14 (λh=>by cases h) (λh=>by cases h) (λh=>by cases h)
 (λh=>by cases h)
 (λ_=>⟨_,Tryz.underlying14,rfl,λf hf=>by
  simp only[T14,List.mem_cons,List.not_mem_nil,or_false] at hf
  rcases hf with rfl | rfl
  ·exact⟨qw1 ti9,by decide⟩
  ·exact⟨qw1 x5v,by decide⟩⟩) (by decide)
def T15:TI:={ agg:=false,size:=1,bytes:=8,ty:=.bool,zero:=.cons (.lit (.pointer none)) .nil,kind:=0,dflt:=false,elem:=0,flds:=[] }
theorem x6r:TIok Tryz.prog 15 T15:=qg2 (z:=.pointer none) (by kernel_rfl) rfl rfl (λm ρ=>⟨_,_,rfl,rfl,rfl⟩) (λh=>by cases h) (by decide) (by decide) (by decide) rfl Tryz.underlying15 (λh=>by cases h) (λh=>by cases h) (λh=>by cases h)
 (λh=>by cases h)
 (λh=>by cases h) (by decide)
def T16:TI:={ agg:=false,size:=1,bytes:=8,ty:=.bool,zero:=.cons (.lit (.pointer none)) .nil,kind:=0,dflt:=false,elem:=0,flds:=[] }
theorem x6s:TIok Tryz.prog 16 T16:=qg2 (z:=.pointer none) (by kernel_rfl) rfl rfl (λm ρ=>⟨_,_,rfl,rfl,rfl⟩) (λh=>by cases h) (by decide) (by decide) (by decide) rfl Tryz.underlying16 (λh=>by cases h) (λh=>by cases h) (λh=>by cases h)
 (λh=>by cases h)
 (λh=>by cases h) (by decide)
def T17:TI:={ agg:=false,size:=1,bytes:=8,ty:=.bool,zero:=.cons (.lit (.pointer none)) .nil,kind:=0,dflt:=false,elem:=0,flds:=[] }
theorem x2y:TIok Tryz.prog 17 T17:=qg2 (z:=.pointer none) (by kernel_rfl) rfl rfl (λm ρ=>⟨_,_,rfl,rfl,rfl⟩) (λh=>by cases h) (by decide) (by decide) (by decide) rfl Tryz.underlying17 (λh=>by cases h) (λh=>by cases h) (λh=>by cases h)
 (λh=>by cases h)
 (λh=>by cases h) (by decide)
def T18:TI:={ agg:=true,size:=1,bytes:=8,ty:=.bool,zero:=.cons (.lit (.pointer none)) .nil,kind:=5,dflt:=false,elem:=0,flds:=[(0,17,1)] }
theorem x6t:TIok Tryz.prog 18 T18:=qg2 (z:=.agg #[.pointer none]) (by kernel_rfl) rfl rfl (λm ρ=>⟨_,_,rfl,rfl,rfl⟩) (λh=>by cases h) (by decide) (by decide) (by decide) rfl Tryz.underlying18 (λh=>by cases h) (λh=>by cases h) (λh=>by cases h)
 (λh=>by cases h)
 (λ_=>⟨_,Tryz.underlying18,rfl,λf hf=>by
  simp only[T18,List.mem_cons,List.not_mem_nil,or_false] at hf
  rcases hf with rfl
  ·exact⟨qw1 x2y,by decide⟩⟩) (by decide)
def T19:TI:={ agg:=true,size:=1,bytes:=8,ty:=.bool,zero:=.cons (.lit (.pointer none)) .nil,kind:=5,dflt:=false,elem:=0,flds:=[(0,17,1)] }
theorem x6u:TIok Tryz.prog 19 T19:=qg2 (z:=.agg #[.pointer none]) (by kernel_rfl) rfl rfl (λm ρ=>⟨_,_,rfl,rfl,rfl⟩) (λh=>by cases h) (by decide) (by decide) (by decide) rfl Tryz.underlying19 (λh=>by cases h) (λh=>by cases h) (λh=>by cases h)
 (λh=>by cases h)
 (λ_=>⟨_,Tryz.underlying19,rfl,λf hf=>by
  simp only[T19,List.mem_cons,List.not_mem_nil,or_false] at hf
  rcases hf with rfl
  ·exact⟨qw1 x2y,by decide⟩⟩) (by decide)
def T21:TI:={ agg:=false,size:=1,bytes:=4,ty:=.int .i32,zero:=.cons (.lit (.int .i32 0)) .nil,kind:=0,dflt:=true,elem:=0,flds:=[],isInt:=true }
theorem x6v:TIok Tryz.prog 21 T21:=qg2 (z:=.int .i32 0) (by kernel_rfl) rfl rfl (λm ρ=>⟨_,_,rfl,rfl,rfl⟩) (λ_ m=>rfl) (by decide) (by decide) (by decide) rfl Tryz.underlying21 (λh=>by cases h) (λh=>by cases h) (λh=>by cases h)
 (λh=>by cases h)
 (λh=>by cases h) (by decide) (h16:=λ_=>⟨.i32,rfl,Tryz.underlying21⟩)
def T22:TI:={ agg:=false,size:=1,bytes:=24,ty:=.list (.list (.int .i64)),zero:=.cons (.lit (.slice none 0 0)) .nil,kind:=1,dflt:=true,elem:=24,flds:=[] }
theorem x6w:TIok Tryz.prog 22 T22:=qg2 (z:=.slice none 0 0) (by kernel_rfl) rfl rfl (λm ρ=>⟨_,_,rfl,rfl,rfl⟩) (λ_ m=>⟨none,0,rfl,Nat.le_refl _,by unfold maxLen; exact Nat.zero_le _,λh=>absurd h (Nat.lt_irrefl 0)⟩) (by decide) (by decide) (by decide) rfl Tryz.underlying22 (λ_=>Tryz.underlying22) (λh=>by cases h) (λh=>by cases h)
 (λh=>by cases h)
 (λh=>by cases h) (by decide)
def T23:TI:={ agg:=false,size:=1,bytes:=24,ty:=.list (.list (.int .i64)),zero:=.cons (.lit (.slice none 0 0)) .nil,kind:=1,dflt:=true,elem:=24,flds:=[] }
theorem x6x:TIok Tryz.prog 23 T23:=qg2 (z:=.slice none 0 0) (by kernel_rfl) rfl rfl (λm ρ=>⟨_,_,rfl,rfl,rfl⟩) (λ_ m=>⟨none,0,rfl,Nat.le_refl _,by unfold maxLen; exact Nat.zero_le _,λh=>absurd h (Nat.lt_irrefl 0)⟩) (by decide) (by decide) (by decide) rfl Tryz.underlying23 (λ_=>Tryz.underlying23) (λh=>by cases h) (λh=>by cases h)
 (λh=>by cases h)
 (λh=>by cases h) (by decide)
def T24:TI:={ agg:=false,size:=1,bytes:=24,ty:=.list (.int .i64),zero:=.cons (.lit (.slice none 0 0)) .nil,kind:=1,dflt:=true,elem:=3,flds:=[] }
theorem x6y:TIok Tryz.prog 24 T24:=qg2 (z:=.slice none 0 0) (by kernel_rfl) rfl rfl (λm ρ=>⟨_,_,rfl,rfl,rfl⟩) (λ_ m=>⟨none,0,rfl,Nat.le_refl _,by unfold maxLen; exact Nat.zero_le _,λh=>absurd h (Nat.lt_irrefl 0)⟩) (by decide) (by decide) (by decide) rfl Tryz.underlying24 (λ_=>Tryz.underlying24) (λh=>by cases h) (λh=>by cases h)
 (λh=>by cases h)
 (λh=>by cases h) (by decide)
def T25:TI:={ agg:=false,size:=1,bytes:=8,ty:=.bool,zero:=.cons (.lit .nilFunc) .nil,kind:=0,dflt:=false,elem:=0,flds:=[] }
theorem x6z:TIok Tryz.prog 25 T25:=qg2 (z:=.nilFunc) (by kernel_rfl) rfl rfl (λm ρ=>⟨_,_,rfl,rfl,rfl⟩) (λh=>by cases h) (by decide) (by decide) (by decide) rfl Tryz.underlying25 (λh=>by cases h) (λh=>by cases h) (λh=>by cases h)
 (λh=>by cases h)
 (λh=>by cases h) (by decide)
def T26:TI:={ agg:=false,size:=1,bytes:=8,ty:=.bool,zero:=.cons (.lit .nilFunc) .nil,kind:=0,dflt:=false,elem:=0,flds:=[] }
theorem x60:TIok Tryz.prog 26 T26:=qg2 (z:=.nilFunc) (by kernel_rfl) rfl rfl (λm ρ=>⟨_,_,rfl,rfl,rfl⟩) (λh=>by cases h) (by decide) (by decide) (by decide) rfl Tryz.underlying26 (λh=>by cases h) (λh=>by cases h) (λh=>by cases h)
 (λh=>by cases h)
 (λh=>by cases h) (by decide)
def T27:TI:={ agg:=false,size:=1,bytes:=8,ty:=.int .i64,zero:=.cons (.lit (.int .i64 0)) .nil,kind:=0,dflt:=true,elem:=0,flds:=[],isInt:=true }
theorem x61:TIok Tryz.prog 27 T27:=qg2 (z:=.int .i64 0) (by kernel_rfl) rfl rfl (λm ρ=>⟨_,_,rfl,rfl,rfl⟩) (λ_ m=>rfl) (by decide) (by decide) (by decide) rfl Tryz.underlying27 (λh=>by cases h) (λh=>by cases h) (λh=>by cases h)
 (λh=>by cases h)
 (λh=>by cases h) (by decide) (h16:=λ_=>⟨.i64,rfl,Tryz.underlying27⟩)
def T29:TI:={ agg:=false,size:=1,bytes:=8,ty:=.bool,zero:=.cons (.lit .nilFunc) .nil,kind:=0,dflt:=false,elem:=0,flds:=[] }
theorem x62:TIok Tryz.prog 29 T29:=qg2 (z:=.nilFunc) (by kernel_rfl) rfl rfl (λm ρ=>⟨_,_,rfl,rfl,rfl⟩) (λh=>by cases h) (by decide) (by decide) (by decide) rfl Tryz.underlying29 (λh=>by cases h) (λh=>by cases h) (λh=>by cases h)
 (λh=>by cases h)
 (λh=>by cases h) (by decide)
def T31:TI:={ agg:=false,size:=1,bytes:=8,ty:=.bool,zero:=.cons (.lit .nilFunc) .nil,kind:=0,dflt:=false,elem:=0,flds:=[] }
theorem x63:TIok Tryz.prog 31 T31:=qg2 (z:=.nilFunc) (by kernel_rfl) rfl rfl (λm ρ=>⟨_,_,rfl,rfl,rfl⟩) (λh=>by cases h) (by decide) (by decide) (by decide) rfl Tryz.underlying31 (λh=>by cases h) (λh=>by cases h) (λh=>by cases h)
 (λh=>by cases h)
 (λh=>by cases h) (by decide)
def T32:TI:={ agg:=false,size:=1,bytes:=8,ty:=.bool,zero:=.cons (.lit .nilFunc) .nil,kind:=0,dflt:=false,elem:=0,flds:=[] }
theorem x64:TIok Tryz.prog 32 T32:=qg2 (z:=.nilFunc) (by kernel_rfl) rfl rfl (λm ρ=>⟨_,_,rfl,rfl,rfl⟩) (λh=>by cases h) (by decide) (by decide) (by decide) rfl Tryz.underlying32 (λh=>by cases h) (λh=>by cases h) (λh=>by cases h)
 (λh=>by cases h)
 (λh=>by cases h) (by decide)
def T33:TI:={ agg:=true,size:=2,bytes:=16,ty:=.prod (.int .i64) (.int .i64),zero:=.cons (.lit (.int .i64 0)) (.cons (.lit (.int .i64 0)) .nil),kind:=5,dflt:=true,elem:=0,flds:=[(0,3,1),(1,3,1)],eq2:=true }
theorem x65:TIok Tryz.prog 33 T33:=qg2 (z:=.agg #[.int .i64 0,.int .i64 0]) (by kernel_rfl) rfl rfl (λm ρ=>⟨_,_,rfl,rfl,⟨_,_,rfl,rfl,rfl⟩⟩) (λ_ m=>⟨[.int .i64 0],[.int .i64 0],rfl,rfl,rfl⟩) (by decide) (by decide) (by decide) rfl Tryz.underlying33 (λh=>by cases h) (λh=>by cases h) (λh=>by cases h)
 (λh=>by cases h)
 (λ_=>⟨_,Tryz.underlying33,rfl,λf hf=>by
  simp only[T33,List.mem_cons,List.not_mem_nil,or_false] at hf
  rcases hf with rfl | rfl
  ·exact⟨qw1 ti3,by decide⟩
  ·exact⟨qw1 ti3,by decide⟩⟩) (by decide) (λ_=>q39 Tryz.underlying33 (by decide) (by decide) rfl rfl Tryz.underlying3 Tryz.underlying3 (by kernel_rfl) (by kernel_rfl))
def T34:TI:={ agg:=true,size:=2,bytes:=16,ty:=.prod (.int .i64) (.int .i64),zero:=.cons (.lit (.int .i64 0)) (.cons (.lit (.int .i64 0)) .nil),kind:=5,dflt:=true,elem:=0,flds:=[(0,3,1),(1,3,1)],eq2:=true }
theorem x2z:TIok Tryz.prog 34 T34:=qg2 (z:=.agg #[.int .i64 0,.int .i64 0]) (by kernel_rfl) rfl rfl (λm ρ=>⟨_,_,rfl,rfl,⟨_,_,rfl,rfl,rfl⟩⟩) (λ_ m=>⟨[.int .i64 0],[.int .i64 0],rfl,rfl,rfl⟩) (by decide) (by decide) (by decide) rfl Tryz.underlying34 (λh=>by cases h) (λh=>by cases h) (λh=>by cases h)
 (λh=>by cases h)
 (λ_=>⟨_,Tryz.underlying34,rfl,λf hf=>by
  simp only[T34,List.mem_cons,List.not_mem_nil,or_false] at hf
  rcases hf with rfl | rfl
  ·exact⟨qw1 ti3,by decide⟩
  ·exact⟨qw1 ti3,by decide⟩⟩) (by decide) (λ_=>q39 Tryz.underlying34 (by decide) (by decide) rfl rfl Tryz.underlying3 Tryz.underlying3 (by kernel_rfl) (by kernel_rfl))
def T37:TI:={ agg:=false,size:=1,bytes:=8,ty:=.bool,zero:=.cons (.lit .nilFunc) .nil,kind:=0,dflt:=false,elem:=0,flds:=[] }
theorem x67:TIok Tryz.prog 37 T37:=qg2 (z:=.nilFunc) (by kernel_rfl) rfl rfl (λm ρ=>⟨_,_,rfl,rfl,rfl⟩) (λh=>by cases h) (by decide) (by decide) (by decide) rfl Tryz.underlying37 (λh=>by cases h) (λh=>by cases h) (λh=>by cases h)
 (λh=>by cases h)
 (λh=>by cases h) (by decide)
def T38:TI:={ agg:=false,size:=1,bytes:=8,ty:=.bool,zero:=.cons (.lit .nilFunc) .nil,kind:=0,dflt:=false,elem:=0,flds:=[] }
theorem x68:TIok Tryz.prog 38 T38:=qg2 (z:=.nilFunc) (by kernel_rfl) rfl rfl (λm ρ=>⟨_,_,rfl,rfl,rfl⟩) (λh=>by cases h) (by decide) (by decide) (by decide) rfl Tryz.underlying38 (λh=>by cases h) (λh=>by cases h) (λh=>by cases h)
 (λh=>by cases h)
 (λh=>by cases h) (by decide)
def T39:TI:={ agg:=false,size:=1,bytes:=8,ty:=.bool,zero:=.cons (.lit .nilFunc) .nil,kind:=0,dflt:=false,elem:=0,flds:=[] }
theorem x7a:TIok Tryz.prog 39 T39:=qg2 (z:=.nilFunc) (by kernel_rfl) rfl rfl (λm ρ=>⟨_,_,rfl,rfl,rfl⟩) (λh=>by cases h) (by decide) (by decide) (by decide) rfl Tryz.underlying39 (λh=>by cases h) (λh=>by cases h) (λh=>by cases h)
 (λh=>by cases h)
 (λh=>by cases h) (by decide)
def T42:TI:={ agg:=false,size:=1,bytes:=8,ty:=.bool,zero:=.cons (.lit .nilFunc) .nil,kind:=0,dflt:=false,elem:=0,flds:=[] }
theorem x7b:TIok Tryz.prog 42 T42:=qg2 (z:=.nilFunc) (by kernel_rfl) rfl rfl (λm ρ=>⟨_,_,rfl,rfl,rfl⟩) (λh=>by cases h) (by decide) (by decide) (by decide) rfl Tryz.underlying42 (λh=>by cases h) (λh=>by cases h) (λh=>by cases h)
 (λh=>by cases h)
 (λh=>by cases h) (by decide)
def T44:TI:={ agg:=false,size:=1,bytes:=8,ty:=.bool,zero:=.cons (.lit .nilFunc) .nil,kind:=0,dflt:=false,elem:=0,flds:=[] }
theorem x7c:TIok Tryz.prog 44 T44:=qg2 (z:=.nilFunc) (by kernel_rfl) rfl rfl (λm ρ=>⟨_,_,rfl,rfl,rfl⟩) (λh=>by cases h) (by decide) (by decide) (by decide) rfl Tryz.underlying44 (λh=>by cases h) (λh=>by cases h) (λh=>by cases h)
 (λh=>by cases h)
 (λh=>by cases h) (by decide)
def T49:TI:={ agg:=false,size:=1,bytes:=8,ty:=.bool,zero:=.cons (.lit .nilFunc) .nil,kind:=0,dflt:=false,elem:=0,flds:=[] }
theorem x7d:TIok Tryz.prog 49 T49:=qg2 (z:=.nilFunc) (by kernel_rfl) rfl rfl (λm ρ=>⟨_,_,rfl,rfl,rfl⟩) (λh=>by cases h) (by decide) (by decide) (by decide) rfl Tryz.underlying49 (λh=>by cases h) (λh=>by cases h) (λh=>by cases h)
 (λh=>by cases h)
 (λh=>by cases h) (by decide)
def T51:TI:={ agg:=false,size:=1,bytes:=8,ty:=.bool,zero:=.cons (.lit .nilFunc) .nil,kind:=0,dflt:=false,elem:=0,flds:=[] }
theorem x7e:TIok Tryz.prog 51 T51:=qg2 (z:=.nilFunc) (by kernel_rfl) rfl rfl (λm ρ=>⟨_,_,rfl,rfl,rfl⟩) (λh=>by cases h) (by decide) (by decide) (by decide) rfl Tryz.underlying51 (λh=>by cases h) (λh=>by cases h) (λh=>by cases h)
 (λh=>by cases h)
 (λh=>by cases h) (by decide)
def T52:TI:={ agg:=false,size:=1,bytes:=8,ty:=.bool,zero:=.cons (.lit .nilFunc) .nil,kind:=0,dflt:=false,elem:=0,flds:=[] }
theorem x7g:TIok Tryz.prog 52 T52:=qg2 (z:=.nilFunc) (by kernel_rfl) rfl rfl (λm ρ=>⟨_,_,rfl,rfl,rfl⟩) (λh=>by cases h) (by decide) (by decide) (by decide) rfl Tryz.underlying52 (λh=>by cases h) (λh=>by cases h) (λh=>by cases h)
 (λh=>by cases h)
 (λh=>by cases h) (by decide)
def T54:TI:={ agg:=false,size:=1,bytes:=8,ty:=.bool,zero:=.cons (.lit .nilFunc) .nil,kind:=0,dflt:=false,elem:=0,flds:=[] }
theorem x7h:TIok Tryz.prog 54 T54:=qg2 (z:=.nilFunc) (by kernel_rfl) rfl rfl (λm ρ=>⟨_,_,rfl,rfl,rfl⟩) (λh=>by cases h) (by decide) (by decide) (by decide) rfl Tryz.underlying54 (λh=>by cases h) (λh=>by cases h) (λh=>by cases h)
 (λh=>by cases h)
 (λh=>by cases h) (by decide)
def T56:TI:={ agg:=false,size:=1,bytes:=8,ty:=.bool,zero:=.cons (.lit .nilFunc) .nil,kind:=0,dflt:=false,elem:=0,flds:=[] }
theorem x7i:TIok Tryz.prog 56 T56:=qg2 (z:=.nilFunc) (by kernel_rfl) rfl rfl (λm ρ=>⟨_,_,rfl,rfl,rfl⟩) (λh=>by cases h) (by decide) (by decide) (by decide) rfl Tryz.underlying56 (λh=>by cases h) (λh=>by cases h) (λh=>by cases h)
 (λh=>by cases h)
 (λh=>by cases h) (by decide)
def T62:TI:={ agg:=false,size:=1,bytes:=8,ty:=.bool,zero:=.cons (.lit .nilFunc) .nil,kind:=0,dflt:=false,elem:=0,flds:=[] }
theorem x7j:TIok Tryz.prog 62 T62:=qg2 (z:=.nilFunc) (by kernel_rfl) rfl rfl (λm ρ=>⟨_,_,rfl,rfl,rfl⟩) (λh=>by cases h) (by decide) (by decide) (by decide) rfl Tryz.underlying62 (λh=>by cases h) (λh=>by cases h) (λh=>by cases h)
 (λh=>by cases h)
 (λh=>by cases h) (by decide)
def T63:TI:={ agg:=false,size:=1,bytes:=8,ty:=.bool,zero:=.cons (.lit .nilFunc) .nil,kind:=0,dflt:=false,elem:=0,flds:=[] }
theorem x7k:TIok Tryz.prog 63 T63:=qg2 (z:=.nilFunc) (by kernel_rfl) rfl rfl (λm ρ=>⟨_,_,rfl,rfl,rfl⟩) (λh=>by cases h) (by decide) (by decide) (by decide) rfl Tryz.underlying63 (λh=>by cases h) (λh=>by cases h) (λh=>by cases h)
 (λh=>by cases h)
 (λh=>by cases h) (by decide)
def T71:TI:={ agg:=false,size:=1,bytes:=8,ty:=.bool,zero:=.cons (.lit .nilFunc) .nil,kind:=0,dflt:=false,elem:=0,flds:=[] }
theorem x7l:TIok Tryz.prog 71 T71:=qg2 (z:=.nilFunc) (by kernel_rfl) rfl rfl (λm ρ=>⟨_,_,rfl,rfl,rfl⟩) (λh=>by cases h) (by decide) (by decide) (by decide) rfl Tryz.underlying71 (λh=>by cases h) (λh=>by cases h) (λh=>by cases h)
 (λh=>by cases h)
 (λh=>by cases h) (by decide)
def T76:TI:={ agg:=false,size:=1,bytes:=8,ty:=.bool,zero:=.cons (.lit .nilFunc) .nil,kind:=0,dflt:=false,elem:=0,flds:=[] }
theorem x7m:TIok Tryz.prog 76 T76:=qg2 (z:=.nilFunc) (by kernel_rfl) rfl rfl (λm ρ=>⟨_,_,rfl,rfl,rfl⟩) (λh=>by cases h) (by decide) (by decide) (by decide) rfl Tryz.underlying76 (λh=>by cases h) (λh=>by cases h) (λh=>by cases h)
 (λh=>by cases h)
 (λh=>by cases h) (by decide)
def T79:TI:={ agg:=false,size:=1,bytes:=8,ty:=.bool,zero:=.cons (.lit .nilFunc) .nil,kind:=0,dflt:=false,elem:=0,flds:=[] }
theorem x7n:TIok Tryz.prog 79 T79:=qg2 (z:=.nilFunc) (by kernel_rfl) rfl rfl (λm ρ=>⟨_,_,rfl,rfl,rfl⟩) (λh=>by cases h) (by decide) (by decide) (by decide) rfl Tryz.underlying79 (λh=>by cases h) (λh=>by cases h) (λh=>by cases h)
 (λh=>by cases h)
 (λh=>by cases h) (by decide)
def T85:TI:={ agg:=false,size:=1,bytes:=8,ty:=.bool,zero:=.cons (.lit .nilFunc) .nil,kind:=0,dflt:=false,elem:=0,flds:=[] }
theorem x7o:TIok Tryz.prog 85 T85:=qg2 (z:=.nilFunc) (by kernel_rfl) rfl rfl (λm ρ=>⟨_,_,rfl,rfl,rfl⟩) (λh=>by cases h) (by decide) (by decide) (by decide) rfl Tryz.underlying85 (λh=>by cases h) (λh=>by cases h) (λh=>by cases h)
 (λh=>by cases h)
 (λh=>by cases h) (by decide)
def T92:TI:={ agg:=false,size:=1,bytes:=8,ty:=.bool,zero:=.cons (.lit .nilFunc) .nil,kind:=0,dflt:=false,elem:=0,flds:=[] }
theorem x7p:TIok Tryz.prog 92 T92:=qg2 (z:=.nilFunc) (by kernel_rfl) rfl rfl (λm ρ=>⟨_,_,rfl,rfl,rfl⟩) (λh=>by cases h) (by decide) (by decide) (by decide) rfl Tryz.underlying92 (λh=>by cases h) (λh=>by cases h) (λh=>by cases h)
 (λh=>by cases h)
 (λh=>by cases h) (by decide)
def T95:TI:={ agg:=false,size:=1,bytes:=8,ty:=.bool,zero:=.cons (.lit .nilFunc) .nil,kind:=0,dflt:=false,elem:=0,flds:=[] }
theorem x7q:TIok Tryz.prog 95 T95:=qg2 (z:=.nilFunc) (by kernel_rfl) rfl rfl (λm ρ=>⟨_,_,rfl,rfl,rfl⟩) (λh=>by cases h) (by decide) (by decide) (by decide) rfl Tryz.underlying95 (λh=>by cases h) (λh=>by cases h) (λh=>by cases h)
 (λh=>by cases h)
 (λh=>by cases h) (by decide)
def T99:TI:={ agg:=false,size:=1,bytes:=8,ty:=.bool,zero:=.cons (.lit .nilFunc) .nil,kind:=0,dflt:=false,elem:=0,flds:=[] }
theorem x7r:TIok Tryz.prog 99 T99:=qg2 (z:=.nilFunc) (by kernel_rfl) rfl rfl (λm ρ=>⟨_,_,rfl,rfl,rfl⟩) (λh=>by cases h) (by decide) (by decide) (by decide) rfl Tryz.underlying99 (λh=>by cases h) (λh=>by cases h) (λh=>by cases h)
 (λh=>by cases h)
 (λh=>by cases h) (by decide)
def x5w:TI:={ agg:=false,size:=1,bytes:=8,ty:=.bool,zero:=.cons (.lit .nilFunc) .nil,kind:=0,dflt:=false,elem:=0,flds:=[] }
theorem x21:TIok Tryz.prog 100 x5w:=qg2 (z:=.nilFunc) (by kernel_rfl) rfl rfl (λm ρ=>⟨_,_,rfl,rfl,rfl⟩) (λh=>by cases h) (by decide) (by decide) (by decide) rfl Tryz.underlying100 (λh=>by cases h) (λh=>by cases h) (λh=>by cases h)
 (λh=>by cases h)
 (λh=>by cases h) (by decide)
def x5x:TI:={ agg:=false,size:=1,bytes:=8,ty:=.bool,zero:=.cons (.lit .nilFunc) .nil,kind:=0,dflt:=false,elem:=0,flds:=[] }
theorem x22:TIok Tryz.prog 105 x5x:=qg2 (z:=.nilFunc) (by kernel_rfl) rfl rfl (λm ρ=>⟨_,_,rfl,rfl,rfl⟩) (λh=>by cases h) (by decide) (by decide) (by decide) rfl Tryz.underlying105 (λh=>by cases h) (λh=>by cases h) (λh=>by cases h)
 (λh=>by cases h)
 (λh=>by cases h) (by decide)
def x5y:TI:={ agg:=false,size:=1,bytes:=8,ty:=.bool,zero:=.cons (.lit .nilFunc) .nil,kind:=0,dflt:=false,elem:=0,flds:=[] }
theorem x23:TIok Tryz.prog 107 x5y:=qg2 (z:=.nilFunc) (by kernel_rfl) rfl rfl (λm ρ=>⟨_,_,rfl,rfl,rfl⟩) (λh=>by cases h) (by decide) (by decide) (by decide) rfl Tryz.underlying107 (λh=>by cases h) (λh=>by cases h) (λh=>by cases h)
 (λh=>by cases h)
 (λh=>by cases h) (by decide)
def x5z:TI:={ agg:=false,size:=1,bytes:=8,ty:=.bool,zero:=.cons (.lit .nilFunc) .nil,kind:=0,dflt:=false,elem:=0,flds:=[] }
theorem x26:TIok Tryz.prog 109 x5z:=qg2 (z:=.nilFunc) (by kernel_rfl) rfl rfl (λm ρ=>⟨_,_,rfl,rfl,rfl⟩) (λh=>by cases h) (by decide) (by decide) (by decide) rfl Tryz.underlying109 (λh=>by cases h) (λh=>by cases h) (λh=>by cases h)
 (λh=>by cases h)
 (λh=>by cases h) (by decide)
def x50:TI:={ agg:=false,size:=1,bytes:=8,ty:=.bool,zero:=.cons (.lit .nilFunc) .nil,kind:=0,dflt:=false,elem:=0,flds:=[] }
theorem x3a:TIok Tryz.prog 110 x50:=qg2 (z:=.nilFunc) (by kernel_rfl) rfl rfl (λm ρ=>⟨_,_,rfl,rfl,rfl⟩) (λh=>by cases h) (by decide) (by decide) (by decide) rfl Tryz.underlying110 (λh=>by cases h) (λh=>by cases h) (λh=>by cases h)
 (λh=>by cases h)
 (λh=>by cases h) (by decide)
def x3b:TI:={ agg:=true,size:=2,bytes:=16,ty:=.prod (.int .i64) (.int .i64),zero:=.cons (.lit (.int .i64 0)) (.cons (.lit (.int .i64 0)) .nil),kind:=5,dflt:=true,elem:=0,flds:=[(0,34,2)] }
theorem x3c:TIok Tryz.prog 112 x3b:=qg2 (z:=.agg #[.int .i64 0,.int .i64 0]) (by kernel_rfl) rfl rfl (λm ρ=>⟨_,_,rfl,rfl,⟨_,_,rfl,rfl,rfl⟩⟩) (λ_ m=>⟨[.int .i64 0],[.int .i64 0],rfl,rfl,rfl⟩) (by decide) (by decide) (by decide) rfl Tryz.underlying112 (λh=>by cases h) (λh=>by cases h) (λh=>by cases h)
 (λh=>by cases h)
 (λ_=>⟨_,Tryz.underlying112,rfl,λf hf=>by
  simp only[x3b,List.mem_cons,List.not_mem_nil,or_false] at hf
  rcases hf with rfl
  ·exact⟨qw1 x2z,by decide⟩⟩) (by decide)
def x3d:TI:={ agg:=true,size:=2,bytes:=16,ty:=.prod (.int .i64) (.int .i64),zero:=.cons (.lit (.int .i64 0)) (.cons (.lit (.int .i64 0)) .nil),kind:=5,dflt:=true,elem:=0,flds:=[(0,34,2)] }
theorem x3e:TIok Tryz.prog 113 x3d:=qg2 (z:=.agg #[.int .i64 0,.int .i64 0]) (by kernel_rfl) rfl rfl (λm ρ=>⟨_,_,rfl,rfl,⟨_,_,rfl,rfl,rfl⟩⟩) (λ_ m=>⟨[.int .i64 0],[.int .i64 0],rfl,rfl,rfl⟩) (by decide) (by decide) (by decide) rfl Tryz.underlying113 (λh=>by cases h) (λh=>by cases h) (λh=>by cases h)
 (λh=>by cases h)
 (λ_=>⟨_,Tryz.underlying113,rfl,λf hf=>by
  simp only[x3d,List.mem_cons,List.not_mem_nil,or_false] at hf
  rcases hf with rfl
  ·exact⟨qw1 x2z,by decide⟩⟩) (by decide)
def x51:TI:={ agg:=false,size:=1,bytes:=8,ty:=.bool,zero:=.cons (.lit .nilFunc) .nil,kind:=0,dflt:=false,elem:=0,flds:=[] }
theorem x3f:TIok Tryz.prog 115 x51:=qg2 (z:=.nilFunc) (by kernel_rfl) rfl rfl (λm ρ=>⟨_,_,rfl,rfl,rfl⟩) (λh=>by cases h) (by decide) (by decide) (by decide) rfl Tryz.underlying115 (λh=>by cases h) (λh=>by cases h) (λh=>by cases h)
 (λh=>by cases h)
 (λh=>by cases h) (by decide)
def x52:TI:={ agg:=false,size:=1,bytes:=8,ty:=.bool,zero:=.cons (.lit .nilFunc) .nil,kind:=0,dflt:=false,elem:=0,flds:=[] }
theorem x3g:TIok Tryz.prog 122 x52:=qg2 (z:=.nilFunc) (by kernel_rfl) rfl rfl (λm ρ=>⟨_,_,rfl,rfl,rfl⟩) (λh=>by cases h) (by decide) (by decide) (by decide) rfl Tryz.underlying122 (λh=>by cases h) (λh=>by cases h) (λh=>by cases h)
 (λh=>by cases h)
 (λh=>by cases h) (by decide)
def x53:TI:={ agg:=false,size:=1,bytes:=8,ty:=.bool,zero:=.cons (.lit .nilFunc) .nil,kind:=0,dflt:=false,elem:=0,flds:=[] }
theorem x3h:TIok Tryz.prog 130 x53:=qg2 (z:=.nilFunc) (by kernel_rfl) rfl rfl (λm ρ=>⟨_,_,rfl,rfl,rfl⟩) (λh=>by cases h) (by decide) (by decide) (by decide) rfl Tryz.underlying130 (λh=>by cases h) (λh=>by cases h) (λh=>by cases h)
 (λh=>by cases h)
 (λh=>by cases h) (by decide)
def x56:TI:={ agg:=false,size:=1,bytes:=8,ty:=.int .u64,zero:=.cons (.lit (.int .u64 0)) .nil,kind:=0,dflt:=true,elem:=0,flds:=[],isInt:=true }
theorem x3i:TIok Tryz.prog 131 x56:=qg2 (z:=.int .u64 0) (by kernel_rfl) rfl rfl (λm ρ=>⟨_,_,rfl,rfl,rfl⟩) (λ_ m=>rfl) (by decide) (by decide) (by decide) rfl Tryz.underlying131 (λh=>by cases h) (λh=>by cases h) (λh=>by cases h)
 (λh=>by cases h)
 (λh=>by cases h) (by decide) (h16:=λ_=>⟨.u64,rfl,Tryz.underlying131⟩)
def x57:TI:={ agg:=false,size:=1,bytes:=8,ty:=.bool,zero:=.cons (.lit .nilFunc) .nil,kind:=0,dflt:=false,elem:=0,flds:=[] }
theorem x3j:TIok Tryz.prog 132 x57:=qg2 (z:=.nilFunc) (by kernel_rfl) rfl rfl (λm ρ=>⟨_,_,rfl,rfl,rfl⟩) (λh=>by cases h) (by decide) (by decide) (by decide) rfl Tryz.underlying132 (λh=>by cases h) (λh=>by cases h) (λh=>by cases h)
 (λh=>by cases h)
 (λh=>by cases h) (by decide)
def x58:TI:={ agg:=false,size:=1,bytes:=8,ty:=.bool,zero:=.cons (.lit .nilFunc) .nil,kind:=0,dflt:=false,elem:=0,flds:=[] }
theorem x3k:TIok Tryz.prog 151 x58:=qg2 (z:=.nilFunc) (by kernel_rfl) rfl rfl (λm ρ=>⟨_,_,rfl,rfl,rfl⟩) (λh=>by cases h) (by decide) (by decide) (by decide) rfl Tryz.underlying151 (λh=>by cases h) (λh=>by cases h) (λh=>by cases h)
 (λh=>by cases h)
 (λh=>by cases h) (by decide)
def x59:TI:={ agg:=false,size:=1,bytes:=8,ty:=.int .u64,zero:=.cons (.lit (.int .u64 0)) .nil,kind:=0,dflt:=true,elem:=0,flds:=[],isInt:=true }
theorem xz6:TIok Tryz.prog 160 x59:=qg2 (z:=.int .u64 0) (by kernel_rfl) rfl rfl (λm ρ=>⟨_,_,rfl,rfl,rfl⟩) (λ_ m=>rfl) (by decide) (by decide) (by decide) rfl Tryz.underlying160 (λh=>by cases h) (λh=>by cases h) (λh=>by cases h)
 (λh=>by cases h)
 (λh=>by cases h) (by decide) (h16:=λ_=>⟨.u64,rfl,Tryz.underlying160⟩)
def x3l:TI:={ agg:=true,size:=2,bytes:=16,ty:=.prod (.int .i64) (.int .u64),zero:=.cons (.lit (.int .i64 0)) (.cons (.lit (.int .u64 0)) .nil),kind:=5,dflt:=true,elem:=0,flds:=[(0,2,1),(1,160,1)],eq2:=true }
theorem x3m:TIok Tryz.prog 177 x3l:=qg2 (z:=.agg #[.int .i64 0,.int .u64 0]) (by kernel_rfl) rfl rfl (λm ρ=>⟨_,_,rfl,rfl,⟨_,_,rfl,rfl,rfl⟩⟩) (λ_ m=>⟨[.int .i64 0],[.int .u64 0],rfl,rfl,rfl⟩) (by decide) (by decide) (by decide) rfl Tryz.underlying177 (λh=>by cases h) (λh=>by cases h) (λh=>by cases h)
 (λh=>by cases h)
 (λ_=>⟨_,Tryz.underlying177,rfl,λf hf=>by
  simp only[x3l,List.mem_cons,List.not_mem_nil,or_false] at hf
  rcases hf with rfl | rfl
  ·exact⟨qw1 ti2,by decide⟩
  ·exact⟨qw1 xz6,by decide⟩⟩) (by decide) (λ_=>q39 Tryz.underlying177 (by decide) (by decide) rfl rfl Tryz.underlying2 Tryz.underlying160 (by kernel_rfl) (by kernel_rfl))
def x6a:TI:={ agg:=false,size:=1,bytes:=8,ty:=.bool,zero:=.cons (.lit .nilFunc) .nil,kind:=0,dflt:=false,elem:=0,flds:=[] }
theorem x3n:TIok Tryz.prog 183 x6a:=qg2 (z:=.nilFunc) (by kernel_rfl) rfl rfl (λm ρ=>⟨_,_,rfl,rfl,rfl⟩) (λh=>by cases h) (by decide) (by decide) (by decide) rfl Tryz.underlying183 (λh=>by cases h) (λh=>by cases h) (λh=>by cases h)
 (λh=>by cases h)
 (λh=>by cases h) (by decide)
def tys:List (Nat × TI):=[(1,T1),(2,T2),(3,T3),(4,T4),(5,T5),(6,T6),(7,T7),(8,T8),(9,T9),(10,T10),(11,T11),(12,T12),(14,T14),(15,T15),(16,T16),(17,T17),(18,T18),(19,T19),(21,T21),(22,T22),(23,T23),(24,T24),(25,T25),(26,T26),(27,T27),(29,T29),(31,T31),(32,T32),(33,T33),(34,T34),(37,T37),(38,T38),(39,T39),(42,T42),(44,T44),(49,T49),(51,T51),(52,T52),(54,T54),(56,T56),(62,T62),(63,T63),(71,T71),(76,T76),(79,T79),(85,T85),(92,T92),(95,T95),(99,T99),(100,x5w),(105,x5x),(107,x5y),(109,x5z),(110,x50),(112,x3b),(113,x3d),(115,x51),(122,x52),(130,x53),(131,x56),(132,x57),(151,x58),(160,x59),(177,x3l),(183,x6a)]
theorem qa9 {α:Type} {i j:Nat} {v w:α} {l:List (Nat × α)} (h:find ((j,v) :: l) i=some w):(i=j/\w=v)\/find l i=some w:=by
 simp only[find] at h
 split at h
 ·rename_i e; exact .inl ⟨(Nat.eq_of_beq_eq_true e).symm,by injection h with h; exact h.symm⟩
 ·exact .inr h
theorem q3f:∀t T,find tys t=some T->TIok Tryz.prog t T:=by
 intro t T h
 unfold tys at h
 rcases qa9 h with⟨rfl,rfl⟩ | h
 ·exact ti1
 rcases qa9 h with⟨rfl,rfl⟩ | h
 ·exact ti2
 rcases qa9 h with⟨rfl,rfl⟩ | h
 ·exact ti3
 rcases qa9 h with⟨rfl,rfl⟩ | h
 ·exact ti4
 rcases qa9 h with⟨rfl,rfl⟩ | h
 ·exact ti5
 rcases qa9 h with⟨rfl,rfl⟩ | h
 ·exact ti6
 rcases qa9 h with⟨rfl,rfl⟩ | h
 ·exact ti7
 rcases qa9 h with⟨rfl,rfl⟩ | h
 ·exact ti8
 rcases qa9 h with⟨rfl,rfl⟩ | h
 ·exact ti9
 rcases qa9 h with⟨rfl,rfl⟩ | h
 ·exact x6o
 rcases qa9 h with⟨rfl,rfl⟩ | h
 ·exact x6p
 rcases qa9 h with⟨rfl,rfl⟩ | h
 ·exact x5v
 rcases qa9 h with⟨rfl,rfl⟩ | h
 ·exact x6q
 rcases qa9 h with⟨rfl,rfl⟩ | h
 ·exact x6r
 rcases qa9 h with⟨rfl,rfl⟩ | h
 ·exact x6s
 rcases qa9 h with⟨rfl,rfl⟩ | h
 ·exact x2y
 rcases qa9 h with⟨rfl,rfl⟩ | h
 ·exact x6t
 rcases qa9 h with⟨rfl,rfl⟩ | h
 ·exact x6u
 rcases qa9 h with⟨rfl,rfl⟩ | h
 ·exact x6v
 rcases qa9 h with⟨rfl,rfl⟩ | h
 ·exact x6w
 rcases qa9 h with⟨rfl,rfl⟩ | h
 ·exact x6x
 rcases qa9 h with⟨rfl,rfl⟩ | h
 ·exact x6y
 rcases qa9 h with⟨rfl,rfl⟩ | h
 ·exact x6z
 rcases qa9 h with⟨rfl,rfl⟩ | h
 ·exact x60
 rcases qa9 h with⟨rfl,rfl⟩ | h
 ·exact x61
 rcases qa9 h with⟨rfl,rfl⟩ | h
 ·exact x62
 rcases qa9 h with⟨rfl,rfl⟩ | h
 ·exact x63
 rcases qa9 h with⟨rfl,rfl⟩ | h
 ·exact x64
 rcases qa9 h with⟨rfl,rfl⟩ | h
 ·exact x65
 rcases qa9 h with⟨rfl,rfl⟩ | h
 ·exact x2z
 rcases qa9 h with⟨rfl,rfl⟩ | h
 ·exact x67
 rcases qa9 h with⟨rfl,rfl⟩ | h
 ·exact x68
 rcases qa9 h with⟨rfl,rfl⟩ | h
 ·exact x7a
 rcases qa9 h with⟨rfl,rfl⟩ | h
 ·exact x7b
 rcases qa9 h with⟨rfl,rfl⟩ | h
 ·exact x7c
 rcases qa9 h with⟨rfl,rfl⟩ | h
 ·exact x7d
 rcases qa9 h with⟨rfl,rfl⟩ | h
 ·exact x7e
 rcases qa9 h with⟨rfl,rfl⟩ | h
 ·exact x7g
 rcases qa9 h with⟨rfl,rfl⟩ | h
 ·exact x7h
 rcases qa9 h with⟨rfl,rfl⟩ | h
 ·exact x7i
 rcases qa9 h with⟨rfl,rfl⟩ | h
 ·exact x7j
 rcases qa9 h with⟨rfl,rfl⟩ | h
 ·exact x7k
 rcases qa9 h with⟨rfl,rfl⟩ | h
 ·exact x7l
 rcases qa9 h with⟨rfl,rfl⟩ | h
 ·exact x7m
 rcases qa9 h with⟨rfl,rfl⟩ | h
 ·exact x7n
 rcases qa9 h with⟨rfl,rfl⟩ | h
 ·exact x7o
 rcases qa9 h with⟨rfl,rfl⟩ | h
 ·exact x7p
 rcases qa9 h with⟨rfl,rfl⟩ | h
 ·exact x7q
 rcases qa9 h with⟨rfl,rfl⟩ | h
 ·exact x7r
 rcases qa9 h with⟨rfl,rfl⟩ | h
 ·exact x21
 rcases qa9 h with⟨rfl,rfl⟩ | h
 ·exact x22
 rcases qa9 h with⟨rfl,rfl⟩ | h
 ·exact x23
 rcases qa9 h with⟨rfl,rfl⟩ | h
 ·exact x26
 rcases qa9 h with⟨rfl,rfl⟩ | h
 ·exact x3a
 rcases qa9 h with⟨rfl,rfl⟩ | h
 ·exact x3c
 rcases qa9 h with⟨rfl,rfl⟩ | h
 ·exact x3e
 rcases qa9 h with⟨rfl,rfl⟩ | h
 ·exact x3f
 rcases qa9 h with⟨rfl,rfl⟩ | h
 ·exact x3g
 rcases qa9 h with⟨rfl,rfl⟩ | h
 ·exact x3h
 rcases qa9 h with⟨rfl,rfl⟩ | h
 ·exact x3i
 rcases qa9 h with⟨rfl,rfl⟩ | h
 ·exact x3j
 rcases qa9 h with⟨rfl,rfl⟩ | h
 ·exact x3k
 rcases qa9 h with⟨rfl,rfl⟩ | h
 ·exact xz6
 rcases qa9 h with⟨rfl,rfl⟩ | h
 ·exact x3m
 rcases qa9 h with⟨rfl,rfl⟩ | h
 ·exact x3n
 cases h
end Go.Proofs.YtempacilejhbgaaGreat
