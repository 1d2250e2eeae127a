/- What the table of this seat says of its types, for the engine. Printed by program (gentys.py). No condition. -/
import Derived.Test.YtdibdlelmkcccaaEng3
import Derived.Test.YtdibdlelmkcccaaProg
set_option linter.unusedVariables false
set_option linter.unusedSimpArgs false
namespace Go.Proofs.Ytdibdlelmkcccaa
open Go Go.RowKit Eng
theorem qf5 {P:Program} {t:Nat} {T:TI} {z:Value} {d:TypeDesc} (h1:(P.info? t).map (λi=>(i.size,i.bytes,i.zero))=some (T.size,T.bytes,some z)) (hz:z.cells.size=T.size) (h2:z.cells.toList.all (·.oneCell')=true)
  (h3:∀m ρ,T.zero.ok P m ρ z.cells.toList) (h4:T.dflt=true->∀m,Rd m T.ty T.ty.dflt z.cells.toList) (h5:T.bytes<=1000000) (h6:T.size≠0) (h7:T.size<=10000) (h8:(match d with | .struct _ | .array _ _=>true | _=>false)=T.agg) (hu:P.underlying t=some d)
  (h9:T.kind=1->P.underlying t=some (.slice T.elem)) (h10:T.kind=2->P.underlying t=some .string) (h11:T.kind=3->P.underlying t=some .bool)
  (h12:T.kind=4->∃n sz,P.underlying t=some (.array n T.elem)/\(∃j,P.info? T.elem=some j/\j.size=sz)/\sz≠0/\∀(f:Nat) (fl:Nat × Nat × Nat),T.flds[f]? = some fl->fl=(f*sz,T.elem,sz)/\f<n)
  (h13:T.kind=5->∃fields,P.underlying t=some (.struct fields)/\fields.toList.map (λF=>(F.offset,F.type))=T.flds.map (λf=>(f.1,f.2.1))/\∀f∈T.flds,(∃j,P.info? f.2.1=some j/\j.size=f.2.2)/\f.2.2≠0) (h14:T.kind<=5) (h15:T.eq2=true->Eq2 P t:=by(intro h; cases h)) (h16:T.isInt=true->∃k,T.ty=.int k/\P.underlying t=some (.int k):=by(intro h; cases h))
  (h17:∀eb,T.bld=some eb->∃i,P.info? t=some i/\i.zero=some (.agg #[.pointer none,.slice none 0 0]):=by(intro eb h; cases h)):TIok P t T:=by
 refine⟨?_,h5,h6,h7,⟨d,hu,h8⟩,h9,h10,h11,h12,h13,h14,h15,h16,h17⟩
 cases hi:P.info? t with
 | none=>rw[hi] at h1; cases h1
 | some i=>
  rw[hi] at h1
  simp only[Option.map_some,Option.some.injEq,Prod.mk.injEq] at h1
  exact⟨i,z,rfl,h1.1,h1.2.1,h1.2.2,hz,h2,h3,h4⟩
theorem qq4 {P:Program} {t:Nat} {T:TI} (h:TIok P t T):∃j,P.info? t=some j/\j.size=T.size:=by
 obtain⟨i,z,h1,h2,_⟩:=h.info
 exact⟨i,h1,h2⟩
def T1:TI:={ agg:=false,size:=1,bytes:=8,ty:=.bool,zero:=.cons (.lit .nilFunc) .nil,kind:=0,dflt:=false,elem:=0,flds:=[] }
theorem ti1:TIok Try.prog 1 T1:=qf5 (z:=.nilFunc) (by kernel_rfl) rfl rfl (λm ρ=>⟨_,_,rfl,rfl,rfl⟩) (λh=>by cases h) (by decide) (by decide) (by decide) rfl Try.underlying1 (λh=>by cases h) (λh=>by cases h) (λh=>by cases h)
 (λh=>by cases h)
 (λh=>by cases h) (by decide)
def T2:TI:={ agg:=false,size:=1,bytes:=8,ty:=.int .i64,zero:=.cons (.lit (.int .i64 0)) .nil,kind:=0,dflt:=true,elem:=0,flds:=[],isInt:=true }
theorem ti2:TIok Try.prog 2 T2:=qf5 (z:=.int .i64 0) (by kernel_rfl) rfl rfl (λm ρ=>⟨_,_,rfl,rfl,rfl⟩) (λ_ m=>rfl) (by decide) (by decide) (by decide) rfl Try.underlying2 (λh=>by cases h) (λh=>by cases h) (λh=>by cases h)
 (λh=>by cases h)
 (λh=>by cases h) (by decide) (h16:=λ_=>⟨.i64,rfl,Try.underlying2⟩)
def T3:TI:={ agg:=false,size:=1,bytes:=8,ty:=.int .i64,zero:=.cons (.lit (.int .i64 0)) .nil,kind:=0,dflt:=true,elem:=0,flds:=[],isInt:=true }
theorem ti3:TIok Try.prog 3 T3:=qf5 (z:=.int .i64 0) (by kernel_rfl) rfl rfl (λm ρ=>⟨_,_,rfl,rfl,rfl⟩) (λ_ m=>rfl) (by decide) (by decide) (by decide) rfl Try.underlying3 (λh=>by cases h) (λh=>by cases h) (λh=>by cases h)
 (λh=>by cases h)
 (λh=>by cases h) (by decide) (h16:=λ_=>⟨.i64,rfl,Try.underlying3⟩)
def T4:TI:={ agg:=false,size:=1,bytes:=1,ty:=.bool,zero:=.cons (.ff) .nil,kind:=3,dflt:=true,elem:=0,flds:=[] }
theorem ti4:TIok Try.prog 4 T4:=qf5 (z:=.bool false) (by kernel_rfl) rfl rfl (λm ρ=>⟨_,_,rfl,rfl,rfl⟩) (λ_ m=>rfl) (by decide) (by decide) (by decide) rfl Try.underlying4 (λh=>by cases h) (λh=>by cases h) (λ_=>Try.underlying4)
 (λh=>by cases h)
 (λh=>by cases h) (by decide)
def T5:TI:={ agg:=false,size:=1,bytes:=1,ty:=.int .u8,zero:=.cons (.lit (.int .u8 0)) .nil,kind:=0,dflt:=true,elem:=0,flds:=[],isInt:=true }
theorem ti5:TIok Try.prog 5 T5:=qf5 (z:=.int .u8 0) (by kernel_rfl) rfl rfl (λm ρ=>⟨_,_,rfl,rfl,rfl⟩) (λ_ m=>rfl) (by decide) (by decide) (by decide) rfl Try.underlying5 (λh=>by cases h) (λh=>by cases h) (λh=>by cases h)
 (λh=>by cases h)
 (λh=>by cases h) (by decide) (h16:=λ_=>⟨.u8,rfl,Try.underlying5⟩)
def T6:TI:={ agg:=false,size:=1,bytes:=1,ty:=.int .u8,zero:=.cons (.lit (.int .u8 0)) .nil,kind:=0,dflt:=true,elem:=0,flds:=[],isInt:=true }
theorem ti6:TIok Try.prog 6 T6:=qf5 (z:=.int .u8 0) (by kernel_rfl) rfl rfl (λm ρ=>⟨_,_,rfl,rfl,rfl⟩) (λ_ m=>rfl) (by decide) (by decide) (by decide) rfl Try.underlying6 (λh=>by cases h) (λh=>by cases h) (λh=>by cases h)
 (λh=>by cases h)
 (λh=>by cases h) (by decide) (h16:=λ_=>⟨.u8,rfl,Try.underlying6⟩)
def T7:TI:={ agg:=true,size:=4,bytes:=24,ty:=.prod (.int .i64) (.prod (.int .i64) (.prod (.bool) (.int .u8))),zero:=.cons (.lit (.int .i64 0)) (.cons (.lit (.int .i64 0)) (.cons (.ff) (.cons (.lit (.int .u8 0)) .nil))),kind:=5,dflt:=true,elem:=0,flds:=[(0,2,1),(1,3,1),(2,4,1),(3,6,1)] }
theorem ti7:TIok Try.prog 7 T7:=qf5 (z:=.agg #[.int .i64 0,.int .i64 0,.bool false,.int .u8 0]) (by kernel_rfl) rfl rfl (λm ρ=>⟨_,_,rfl,rfl,⟨_,_,rfl,rfl,⟨_,_,rfl,rfl,⟨_,_,rfl,rfl,rfl⟩⟩⟩⟩) (λ_ m=>⟨[.int .i64 0],[.int .i64 0,.bool false,.int .u8 0],rfl,rfl,⟨[.int .i64 0],[.bool false,.int .u8 0],rfl,rfl,⟨[.bool false],[.int .u8 0],rfl,rfl,rfl⟩⟩⟩) (by decide) (by decide) (by decide) rfl Try.underlying7 (λh=>by cases h) (λh=>by cases h) (λh=>by cases h)
 (λh=>by cases h)
 (λ_=>⟨_,Try.underlying7,rfl,λf hf=>by
  simp only[T7,List.mem_cons,List.not_mem_nil,or_false] at hf
  rcases hf with rfl | rfl | rfl | rfl
  ·exact⟨qq4 ti2,by decide⟩
  ·exact⟨qq4 ti3,by decide⟩
  ·exact⟨qq4 ti4,by decide⟩
  ·exact⟨qq4 ti6,by decide⟩⟩) (by decide)
def T8:TI:={ agg:=true,size:=4,bytes:=24,ty:=.prod (.int .i64) (.prod (.int .i64) (.prod (.bool) (.int .u8))),zero:=.cons (.lit (.int .i64 0)) (.cons (.lit (.int .i64 0)) (.cons (.ff) (.cons (.lit (.int .u8 0)) .nil))),kind:=5,dflt:=true,elem:=0,flds:=[(0,2,1),(1,3,1),(2,4,1),(3,6,1)] }
theorem ti8:TIok Try.prog 8 T8:=qf5 (z:=.agg #[.int .i64 0,.int .i64 0,.bool false,.int .u8 0]) (by kernel_rfl) rfl rfl (λm ρ=>⟨_,_,rfl,rfl,⟨_,_,rfl,rfl,⟨_,_,rfl,rfl,⟨_,_,rfl,rfl,rfl⟩⟩⟩⟩) (λ_ m=>⟨[.int .i64 0],[.int .i64 0,.bool false,.int .u8 0],rfl,rfl,⟨[.int .i64 0],[.bool false,.int .u8 0],rfl,rfl,⟨[.bool false],[.int .u8 0],rfl,rfl,rfl⟩⟩⟩) (by decide) (by decide) (by decide) rfl Try.underlying8 (λh=>by cases h) (λh=>by cases h) (λh=>by cases h)
 (λh=>by cases h)
 (λ_=>⟨_,Try.underlying8,rfl,λf hf=>by
  simp only[T8,List.mem_cons,List.not_mem_nil,or_false] at hf
  rcases hf with rfl | rfl | rfl | rfl
  ·exact⟨qq4 ti2,by decide⟩
  ·exact⟨qq4 ti3,by decide⟩
  ·exact⟨qq4 ti4,by decide⟩
  ·exact⟨qq4 ti6,by decide⟩⟩) (by decide)
def T9:TI:={ agg:=false,size:=1,bytes:=16,ty:=.str,zero:=.cons (.lit (.string ⟨#[]⟩)) .nil,kind:=2,dflt:=true,elem:=0,flds:=[] }
theorem ti9:TIok Try.prog 9 T9:=qf5 (z:=.string ⟨#[]⟩) (by kernel_rfl) rfl rfl (λm ρ=>⟨_,_,rfl,rfl,rfl⟩) (λ_ m=>rfl) (by decide) (by decide) (by decide) rfl Try.underlying9 (λh=>by cases h) (λ_=>Try.underlying9) (λh=>by cases h)
 (λh=>by cases h)
 (λh=>by cases h) (by decide)
def T10:TI:={ agg:=false,size:=1,bytes:=16,ty:=.str,zero:=.cons (.lit (.string ⟨#[]⟩)) .nil,kind:=2,dflt:=true,elem:=0,flds:=[] }
theorem x4y:TIok Try.prog 10 T10:=qf5 (z:=.string ⟨#[]⟩) (by kernel_rfl) rfl rfl (λm ρ=>⟨_,_,rfl,rfl,rfl⟩) (λ_ m=>rfl) (by decide) (by decide) (by decide) rfl Try.underlying10 (λh=>by cases h) (λ_=>Try.underlying10) (λh=>by cases h)
 (λh=>by cases h)
 (λh=>by cases h) (by decide)
def T11:TI:={ agg:=false,size:=1,bytes:=16,ty:=.str,zero:=.cons (.lit (.string ⟨#[]⟩)) .nil,kind:=2,dflt:=true,elem:=0,flds:=[] }
theorem x4z:TIok Try.prog 11 T11:=qf5 (z:=.string ⟨#[]⟩) (by kernel_rfl) rfl rfl (λm ρ=>⟨_,_,rfl,rfl,rfl⟩) (λ_ m=>rfl) (by decide) (by decide) (by decide) rfl Try.underlying11 (λh=>by cases h) (λ_=>Try.underlying11) (λh=>by cases h)
 (λh=>by cases h)
 (λh=>by cases h) (by decide)
def T12:TI:={ agg:=false,size:=1,bytes:=8,ty:=.int .u64,zero:=.cons (.lit (.int .u64 0)) .nil,kind:=0,dflt:=true,elem:=0,flds:=[],isInt:=true }
theorem x0y:TIok Try.prog 12 T12:=qf5 (z:=.int .u64 0) (by kernel_rfl) rfl rfl (λm ρ=>⟨_,_,rfl,rfl,rfl⟩) (λ_ m=>rfl) (by decide) (by decide) (by decide) rfl Try.underlying12 (λh=>by cases h) (λh=>by cases h) (λh=>by cases h)
 (λh=>by cases h)
 (λh=>by cases h) (by decide) (h16:=λ_=>⟨.u64,rfl,Try.underlying12⟩)
def T13:TI:={ agg:=true,size:=2,bytes:=24,ty:=.prod (.str) (.int .u64),zero:=.cons (.lit (.string ⟨#[]⟩)) (.cons (.lit (.int .u64 0)) .nil),kind:=5,dflt:=true,elem:=0,flds:=[(0,9,1),(1,12,1)] }
theorem x42:TIok Try.prog 13 T13:=qf5 (z:=.agg #[.string ⟨#[]⟩,.int .u64 0]) (by kernel_rfl) rfl rfl (λm ρ=>⟨_,_,rfl,rfl,⟨_,_,rfl,rfl,rfl⟩⟩) (λ_ m=>⟨[.string ⟨#[]⟩],[.int .u64 0],rfl,rfl,rfl⟩) (by decide) (by decide) (by decide) rfl Try.underlying13 (λh=>by cases h) (λh=>by cases h) (λh=>by cases h)
 (λh=>by cases h)
 (λ_=>⟨_,Try.underlying13,rfl,λf hf=>by
  simp only[T13,List.mem_cons,List.not_mem_nil,or_false] at hf
  rcases hf with rfl | rfl
  ·exact⟨qq4 ti9,by decide⟩
  ·exact⟨qq4 x0y,by decide⟩⟩) (by decide)
def T14:TI:={ agg:=true,size:=2,bytes:=24,ty:=.prod (.str) (.int .u64),zero:=.cons (.lit (.string ⟨#[]⟩)) (.cons (.lit (.int .u64 0)) .nil),kind:=5,dflt:=true,elem:=0,flds:=[(0,9,1),(1,12,1)] }
theorem x44:TIok Try.prog 14 T14:=qf5 (z:=.agg #[.string ⟨#[]⟩,.int .u64 0]) (by kernel_rfl) rfl rfl (λm ρ=>⟨_,_,rfl,rfl,⟨_,_,rfl,rfl,rfl⟩⟩) (λ_ m=>⟨[.string ⟨#[]⟩],[.int .u64 0],rfl,rfl,rfl⟩) (by decide) (by decide) (by decide) rfl Try.underlying14 (λh=>by cases h) (λh=>by cases h) (λh=>by cases h)
 (λh=>by cases h)
 (λ_=>⟨_,Try.underlying14,rfl,λf hf=>by
  simp only[T14,List.mem_cons,List.not_mem_nil,or_false] at hf
  rcases hf with rfl | rfl
  ·exact⟨qq4 ti9,by decide⟩
  ·exact⟨qq4 x0y,by decide⟩⟩) (by decide)
def T15:TI:={ agg:=false,size:=1,bytes:=8,ty:=.bool,zero:=.cons (.lit (.pointer none)) .nil,kind:=0,dflt:=false,elem:=0,flds:=[] }
theorem x45:TIok Try.prog 15 T15:=qf5 (z:=.pointer none) (by kernel_rfl) rfl rfl (λm ρ=>⟨_,_,rfl,rfl,rfl⟩) (λh=>by cases h) (by decide) (by decide) (by decide) rfl Try.underlying15 (λh=>by cases h) (λh=>by cases h) (λh=>by cases h)
 (λh=>by cases h)
 (λh=>by cases h) (by decide)
def T16:TI:={ agg:=false,size:=1,bytes:=8,ty:=.bool,zero:=.cons (.lit (.pointer none)) .nil,kind:=0,dflt:=false,elem:=0,flds:=[] }
theorem x46:TIok Try.prog 16 T16:=qf5 (z:=.pointer none) (by kernel_rfl) rfl rfl (λm ρ=>⟨_,_,rfl,rfl,rfl⟩) (λh=>by cases h) (by decide) (by decide) (by decide) rfl Try.underlying16 (λh=>by cases h) (λh=>by cases h) (λh=>by cases h)
 (λh=>by cases h)
 (λh=>by cases h) (by decide)
def T17:TI:={ agg:=false,size:=1,bytes:=8,ty:=.bool,zero:=.cons (.lit (.pointer none)) .nil,kind:=0,dflt:=false,elem:=0,flds:=[] }
theorem x0z:TIok Try.prog 17 T17:=qf5 (z:=.pointer none) (by kernel_rfl) rfl rfl (λm ρ=>⟨_,_,rfl,rfl,rfl⟩) (λh=>by cases h) (by decide) (by decide) (by decide) rfl Try.underlying17 (λh=>by cases h) (λh=>by cases h) (λh=>by cases h)
 (λh=>by cases h)
 (λh=>by cases h) (by decide)
def T18:TI:={ agg:=true,size:=1,bytes:=8,ty:=.bool,zero:=.cons (.lit (.pointer none)) .nil,kind:=5,dflt:=false,elem:=0,flds:=[(0,17,1)] }
theorem x47:TIok Try.prog 18 T18:=qf5 (z:=.agg #[.pointer none]) (by kernel_rfl) rfl rfl (λm ρ=>⟨_,_,rfl,rfl,rfl⟩) (λh=>by cases h) (by decide) (by decide) (by decide) rfl Try.underlying18 (λh=>by cases h) (λh=>by cases h) (λh=>by cases h)
 (λh=>by cases h)
 (λ_=>⟨_,Try.underlying18,rfl,λf hf=>by
  simp only[T18,List.mem_cons,List.not_mem_nil,or_false] at hf
  rcases hf with rfl
  ·exact⟨qq4 x0z,by decide⟩⟩) (by decide)
def T19:TI:={ agg:=true,size:=1,bytes:=8,ty:=.bool,zero:=.cons (.lit (.pointer none)) .nil,kind:=5,dflt:=false,elem:=0,flds:=[(0,17,1)] }
theorem x48:TIok Try.prog 19 T19:=qf5 (z:=.agg #[.pointer none]) (by kernel_rfl) rfl rfl (λm ρ=>⟨_,_,rfl,rfl,rfl⟩) (λh=>by cases h) (by decide) (by decide) (by decide) rfl Try.underlying19 (λh=>by cases h) (λh=>by cases h) (λh=>by cases h)
 (λh=>by cases h)
 (λ_=>⟨_,Try.underlying19,rfl,λf hf=>by
  simp only[T19,List.mem_cons,List.not_mem_nil,or_false] at hf
  rcases hf with rfl
  ·exact⟨qq4 x0z,by decide⟩⟩) (by decide)
def T21:TI:={ agg:=false,size:=1,bytes:=4,ty:=.int .i32,zero:=.cons (.lit (.int .i32 0)) .nil,kind:=0,dflt:=true,elem:=0,flds:=[],isInt:=true }
theorem x49:TIok Try.prog 21 T21:=qf5 (z:=.int .i32 0) (by kernel_rfl) rfl rfl (λm ρ=>⟨_,_,rfl,rfl,rfl⟩) (λ_ m=>rfl) (by decide) (by decide) (by decide) rfl Try.underlying21 (λh=>by cases h) (λh=>by cases h) (λh=>by cases h)
 (λh=>by cases h)
 (λh=>by cases h) (by decide) (h16:=λ_=>⟨.i32,rfl,Try.underlying21⟩)
def T22:TI:={ agg:=false,size:=1,bytes:=24,ty:=.list (.list (.int .i64)),zero:=.cons (.lit (.slice none 0 0)) .nil,kind:=1,dflt:=true,elem:=24,flds:=[] }
theorem x5b:TIok Try.prog 22 T22:=qf5 (z:=.slice none 0 0) (by kernel_rfl) rfl rfl (λm ρ=>⟨_,_,rfl,rfl,rfl⟩) (λ_ m=>⟨none,0,rfl,Nat.le_refl _,by unfold maxLen; exact Nat.zero_le _,λh=>absurd h (Nat.lt_irrefl 0)⟩) (by decide) (by decide) (by decide) rfl Try.underlying22 (λ_=>Try.underlying22) (λh=>by cases h) (λh=>by cases h)
 (λh=>by cases h)
 (λh=>by cases h) (by decide)
def T23:TI:={ agg:=false,size:=1,bytes:=24,ty:=.list (.list (.int .i64)),zero:=.cons (.lit (.slice none 0 0)) .nil,kind:=1,dflt:=true,elem:=24,flds:=[] }
theorem x3t:TIok Try.prog 23 T23:=qf5 (z:=.slice none 0 0) (by kernel_rfl) rfl rfl (λm ρ=>⟨_,_,rfl,rfl,rfl⟩) (λ_ m=>⟨none,0,rfl,Nat.le_refl _,by unfold maxLen; exact Nat.zero_le _,λh=>absurd h (Nat.lt_irrefl 0)⟩) (by decide) (by decide) (by decide) rfl Try.underlying23 (λ_=>Try.underlying23) (λh=>by cases h) (λh=>by cases h)
 (λh=>by cases h)
 (λh=>by cases h) (by decide)
def T24:TI:={ agg:=false,size:=1,bytes:=24,ty:=.list (.int .i64),zero:=.cons (.lit (.slice none 0 0)) .nil,kind:=1,dflt:=true,elem:=3,flds:=[] }
theorem x0c:TIok Try.prog 24 T24:=qf5 (z:=.slice none 0 0) (by kernel_rfl) rfl rfl (λm ρ=>⟨_,_,rfl,rfl,rfl⟩) (λ_ m=>⟨none,0,rfl,Nat.le_refl _,by unfold maxLen; exact Nat.zero_le _,λh=>absurd h (Nat.lt_irrefl 0)⟩) (by decide) (by decide) (by decide) rfl Try.underlying24 (λ_=>Try.underlying24) (λh=>by cases h) (λh=>by cases h)
 (λh=>by cases h)
 (λh=>by cases h) (by decide)
def T26:TI:={ agg:=false,size:=1,bytes:=8,ty:=.bool,zero:=.cons (.lit .nilFunc) .nil,kind:=0,dflt:=false,elem:=0,flds:=[] }
theorem x5c:TIok Try.prog 26 T26:=qf5 (z:=.nilFunc) (by kernel_rfl) rfl rfl (λm ρ=>⟨_,_,rfl,rfl,rfl⟩) (λh=>by cases h) (by decide) (by decide) (by decide) rfl Try.underlying26 (λh=>by cases h) (λh=>by cases h) (λh=>by cases h)
 (λh=>by cases h)
 (λh=>by cases h) (by decide)
def T27:TI:={ agg:=false,size:=1,bytes:=8,ty:=.bool,zero:=.cons (.lit .nilFunc) .nil,kind:=0,dflt:=false,elem:=0,flds:=[] }
theorem x5d:TIok Try.prog 27 T27:=qf5 (z:=.nilFunc) (by kernel_rfl) rfl rfl (λm ρ=>⟨_,_,rfl,rfl,rfl⟩) (λh=>by cases h) (by decide) (by decide) (by decide) rfl Try.underlying27 (λh=>by cases h) (λh=>by cases h) (λh=>by cases h)
 (λh=>by cases h)
 (λh=>by cases h) (by decide)
def T28:TI:={ agg:=false,size:=1,bytes:=24,ty:=.list (.prod (.int .i64) (.int .i64)),zero:=.cons (.lit (.slice none 0 0)) .nil,kind:=1,dflt:=true,elem:=60,flds:=[] }
theorem x00:TIok Try.prog 28 T28:=qf5 (z:=.slice none 0 0) (by kernel_rfl) rfl rfl (λm ρ=>⟨_,_,rfl,rfl,rfl⟩) (λ_ m=>⟨none,0,rfl,Nat.le_refl _,by unfold maxLen; exact Nat.zero_le _,λh=>absurd h (Nat.lt_irrefl 0)⟩) (by decide) (by decide) (by decide) rfl Try.underlying28 (λ_=>Try.underlying28) (λh=>by cases h) (λh=>by cases h)
 (λh=>by cases h)
 (λh=>by cases h) (by decide)
def T29:TI:={ agg:=true,size:=2,bytes:=48,ty:=.prod (.list (.int .i64)) (.list (.prod (.int .i64) (.int .i64))),zero:=.cons (.lit (.slice none 0 0)) (.cons (.lit (.slice none 0 0)) .nil),kind:=5,dflt:=true,elem:=0,flds:=[(0,24,1),(1,28,1)] }
theorem x5e:TIok Try.prog 29 T29:=qf5 (z:=.agg #[.slice none 0 0,.slice none 0 0]) (by kernel_rfl) rfl rfl (λm ρ=>⟨_,_,rfl,rfl,⟨_,_,rfl,rfl,rfl⟩⟩) (λ_ m=>⟨[.slice none 0 0],[.slice none 0 0],rfl,⟨none,0,rfl,Nat.le_refl _,by unfold maxLen; exact Nat.zero_le _,λh=>absurd h (Nat.lt_irrefl 0)⟩,⟨none,0,rfl,Nat.le_refl _,by unfold maxLen; exact Nat.zero_le _,λh=>absurd h (Nat.lt_irrefl 0)⟩⟩) (by decide) (by decide) (by decide) rfl Try.underlying29 (λh=>by cases h) (λh=>by cases h) (λh=>by cases h)
 (λh=>by cases h)
 (λ_=>⟨_,Try.underlying29,rfl,λf hf=>by
  simp only[T29,List.mem_cons,List.not_mem_nil,or_false] at hf
  rcases hf with rfl | rfl
  ·exact⟨qq4 x0c,by decide⟩
  ·exact⟨qq4 x00,by decide⟩⟩) (by decide)
def T30:TI:={ agg:=true,size:=2,bytes:=48,ty:=.prod (.list (.int .i64)) (.list (.prod (.int .i64) (.int .i64))),zero:=.cons (.lit (.slice none 0 0)) (.cons (.lit (.slice none 0 0)) .nil),kind:=5,dflt:=true,elem:=0,flds:=[(0,24,1),(1,28,1)] }
theorem x5f:TIok Try.prog 30 T30:=qf5 (z:=.agg #[.slice none 0 0,.slice none 0 0]) (by kernel_rfl) rfl rfl (λm ρ=>⟨_,_,rfl,rfl,⟨_,_,rfl,rfl,rfl⟩⟩) (λ_ m=>⟨[.slice none 0 0],[.slice none 0 0],rfl,⟨none,0,rfl,Nat.le_refl _,by unfold maxLen; exact Nat.zero_le _,λh=>absurd h (Nat.lt_irrefl 0)⟩,⟨none,0,rfl,Nat.le_refl _,by unfold maxLen; exact Nat.zero_le _,λh=>absurd h (Nat.lt_irrefl 0)⟩⟩) (by decide) (by decide) (by decide) rfl Try.underlying30 (λh=>by cases h) (λh=>by cases h) (λh=>by cases h)
 (λh=>by cases h)
 (λ_=>⟨_,Try.underlying30,rfl,λf hf=>by
  simp only[T30,List.mem_cons,List.not_mem_nil,or_false] at hf
  rcases hf with rfl | rfl
  ·exact⟨qq4 x0c,by decide⟩
  ·exact⟨qq4 x00,by decide⟩⟩) (by decide)
def T31:TI:={ agg:=false,size:=1,bytes:=8,ty:=.int .i64,zero:=.cons (.lit (.int .i64 0)) .nil,kind:=0,dflt:=true,elem:=0,flds:=[],isInt:=true }
theorem x5g:TIok Try.prog 31 T31:=qf5 (z:=.int .i64 0) (by kernel_rfl) rfl rfl (λm ρ=>⟨_,_,rfl,rfl,rfl⟩) (λ_ m=>rfl) (by decide) (by decide) (by decide) rfl Try.underlying31 (λh=>by cases h) (λh=>by cases h) (λh=>by cases h)
 (λh=>by cases h)
 (λh=>by cases h) (by decide) (h16:=λ_=>⟨.i64,rfl,Try.underlying31⟩)
def T33:TI:={ agg:=false,size:=1,bytes:=8,ty:=.bool,zero:=.cons (.lit .nilFunc) .nil,kind:=0,dflt:=false,elem:=0,flds:=[] }
theorem x5h:TIok Try.prog 33 T33:=qf5 (z:=.nilFunc) (by kernel_rfl) rfl rfl (λm ρ=>⟨_,_,rfl,rfl,rfl⟩) (λh=>by cases h) (by decide) (by decide) (by decide) rfl Try.underlying33 (λh=>by cases h) (λh=>by cases h) (λh=>by cases h)
 (λh=>by cases h)
 (λh=>by cases h) (by decide)
def T34:TI:={ agg:=false,size:=1,bytes:=8,ty:=.bool,zero:=.cons (.lit .nilFunc) .nil,kind:=0,dflt:=false,elem:=0,flds:=[] }
theorem x5i:TIok Try.prog 34 T34:=qf5 (z:=.nilFunc) (by kernel_rfl) rfl rfl (λm ρ=>⟨_,_,rfl,rfl,rfl⟩) (λh=>by cases h) (by decide) (by decide) (by decide) rfl Try.underlying34 (λh=>by cases h) (λh=>by cases h) (λh=>by cases h)
 (λh=>by cases h)
 (λh=>by cases h) (by decide)
def T37:TI:={ agg:=false,size:=1,bytes:=8,ty:=.bool,zero:=.cons (.lit .nilFunc) .nil,kind:=0,dflt:=false,elem:=0,flds:=[] }
theorem x5j:TIok Try.prog 37 T37:=qf5 (z:=.nilFunc) (by kernel_rfl) rfl rfl (λm ρ=>⟨_,_,rfl,rfl,rfl⟩) (λh=>by cases h) (by decide) (by decide) (by decide) rfl Try.underlying37 (λh=>by cases h) (λh=>by cases h) (λh=>by cases h)
 (λh=>by cases h)
 (λh=>by cases h) (by decide)
def T40:TI:={ agg:=false,size:=1,bytes:=8,ty:=.bool,zero:=.cons (.lit .nilFunc) .nil,kind:=0,dflt:=false,elem:=0,flds:=[] }
theorem x5k:TIok Try.prog 40 T40:=qf5 (z:=.nilFunc) (by kernel_rfl) rfl rfl (λm ρ=>⟨_,_,rfl,rfl,rfl⟩) (λh=>by cases h) (by decide) (by decide) (by decide) rfl Try.underlying40 (λh=>by cases h) (λh=>by cases h) (λh=>by cases h)
 (λh=>by cases h)
 (λh=>by cases h) (by decide)
def T41:TI:={ agg:=false,size:=1,bytes:=8,ty:=.bool,zero:=.cons (.lit .nilFunc) .nil,kind:=0,dflt:=false,elem:=0,flds:=[] }
theorem x5l:TIok Try.prog 41 T41:=qf5 (z:=.nilFunc) (by kernel_rfl) rfl rfl (λm ρ=>⟨_,_,rfl,rfl,rfl⟩) (λh=>by cases h) (by decide) (by decide) (by decide) rfl Try.underlying41 (λh=>by cases h) (λh=>by cases h) (λh=>by cases h)
 (λh=>by cases h)
 (λh=>by cases h) (by decide)
def T44:TI:={ agg:=false,size:=1,bytes:=24,ty:=.list (.prod (.list (.int .i64)) (.list (.prod (.int .i64) (.int .i64)))),zero:=.cons (.lit (.slice none 0 0)) .nil,kind:=1,dflt:=true,elem:=30,flds:=[] }
theorem x5m:TIok Try.prog 44 T44:=qf5 (z:=.slice none 0 0) (by kernel_rfl) rfl rfl (λm ρ=>⟨_,_,rfl,rfl,rfl⟩) (λ_ m=>⟨none,0,rfl,Nat.le_refl _,by unfold maxLen; exact Nat.zero_le _,λh=>absurd h (Nat.lt_irrefl 0)⟩) (by decide) (by decide) (by decide) rfl Try.underlying44 (λ_=>Try.underlying44) (λh=>by cases h) (λh=>by cases h)
 (λh=>by cases h)
 (λh=>by cases h) (by decide)
def T48:TI:={ agg:=false,size:=1,bytes:=8,ty:=.bool,zero:=.cons (.lit .nilFunc) .nil,kind:=0,dflt:=false,elem:=0,flds:=[] }
theorem x5n:TIok Try.prog 48 T48:=qf5 (z:=.nilFunc) (by kernel_rfl) rfl rfl (λm ρ=>⟨_,_,rfl,rfl,rfl⟩) (λh=>by cases h) (by decide) (by decide) (by decide) rfl Try.underlying48 (λh=>by cases h) (λh=>by cases h) (λh=>by cases h)
 (λh=>by cases h)
 (λh=>by cases h) (by decide)
def T49:TI:={ agg:=false,size:=1,bytes:=8,ty:=.bool,zero:=.cons (.lit .nilFunc) .nil,kind:=0,dflt:=false,elem:=0,flds:=[] }
theorem x5o:TIok Try.prog 49 T49:=qf5 (z:=.nilFunc) (by kernel_rfl) rfl rfl (λm ρ=>⟨_,_,rfl,rfl,rfl⟩) (λh=>by cases h) (by decide) (by decide) (by decide) rfl Try.underlying49 (λh=>by cases h) (λh=>by cases h) (λh=>by cases h)
 (λh=>by cases h)
 (λh=>by cases h) (by decide)
def T53:TI:={ agg:=false,size:=1,bytes:=8,ty:=.bool,zero:=.cons (.lit .nilFunc) .nil,kind:=0,dflt:=false,elem:=0,flds:=[] }
theorem x5p:TIok Try.prog 53 T53:=qf5 (z:=.nilFunc) (by kernel_rfl) rfl rfl (λm ρ=>⟨_,_,rfl,rfl,rfl⟩) (λh=>by cases h) (by decide) (by decide) (by decide) rfl Try.underlying53 (λh=>by cases h) (λh=>by cases h) (λh=>by cases h)
 (λh=>by cases h)
 (λh=>by cases h) (by decide)
def T58:TI:={ agg:=false,size:=1,bytes:=8,ty:=.bool,zero:=.cons (.lit .nilFunc) .nil,kind:=0,dflt:=false,elem:=0,flds:=[] }
theorem x5q:TIok Try.prog 58 T58:=qf5 (z:=.nilFunc) (by kernel_rfl) rfl rfl (λm ρ=>⟨_,_,rfl,rfl,rfl⟩) (λh=>by cases h) (by decide) (by decide) (by decide) rfl Try.underlying58 (λh=>by cases h) (λh=>by cases h) (λh=>by cases h)
 (λh=>by cases h)
 (λh=>by cases h) (by decide)
def T60:TI:={ agg:=true,size:=2,bytes:=16,ty:=.prod (.int .i64) (.int .i64),zero:=.cons (.lit (.int .i64 0)) (.cons (.lit (.int .i64 0)) .nil),kind:=5,dflt:=true,elem:=0,flds:=[(0,3,1),(1,3,1)],eq2:=true }
theorem x5r:TIok Try.prog 60 T60:=qf5 (z:=.agg #[.int .i64 0,.int .i64 0]) (by kernel_rfl) rfl rfl (λm ρ=>⟨_,_,rfl,rfl,⟨_,_,rfl,rfl,rfl⟩⟩) (λ_ m=>⟨[.int .i64 0],[.int .i64 0],rfl,rfl,rfl⟩) (by decide) (by decide) (by decide) rfl Try.underlying60 (λh=>by cases h) (λh=>by cases h) (λh=>by cases h)
 (λh=>by cases h)
 (λ_=>⟨_,Try.underlying60,rfl,λf hf=>by
  simp only[T60,List.mem_cons,List.not_mem_nil,or_false] at hf
  rcases hf with rfl | rfl
  ·exact⟨qq4 ti3,by decide⟩
  ·exact⟨qq4 ti3,by decide⟩⟩) (by decide) (λ_=>w07 Try.underlying60 (by decide) (by decide) rfl rfl Try.underlying3 Try.underlying3 (by kernel_rfl) (by kernel_rfl))
def T66:TI:={ agg:=false,size:=1,bytes:=8,ty:=.bool,zero:=.cons (.lit .nilFunc) .nil,kind:=0,dflt:=false,elem:=0,flds:=[] }
theorem x5s:TIok Try.prog 66 T66:=qf5 (z:=.nilFunc) (by kernel_rfl) rfl rfl (λm ρ=>⟨_,_,rfl,rfl,rfl⟩) (λh=>by cases h) (by decide) (by decide) (by decide) rfl Try.underlying66 (λh=>by cases h) (λh=>by cases h) (λh=>by cases h)
 (λh=>by cases h)
 (λh=>by cases h) (by decide)
def T68:TI:={ agg:=false,size:=1,bytes:=8,ty:=.bool,zero:=.cons (.lit .nilFunc) .nil,kind:=0,dflt:=false,elem:=0,flds:=[] }
theorem x5t:TIok Try.prog 68 T68:=qf5 (z:=.nilFunc) (by kernel_rfl) rfl rfl (λm ρ=>⟨_,_,rfl,rfl,rfl⟩) (λh=>by cases h) (by decide) (by decide) (by decide) rfl Try.underlying68 (λh=>by cases h) (λh=>by cases h) (λh=>by cases h)
 (λh=>by cases h)
 (λh=>by cases h) (by decide)
def T70:TI:={ agg:=true,size:=2,bytes:=48,ty:=.prod (.list (.list (.int .i64))) (.list (.int .i64)),zero:=.cons (.lit (.slice none 0 0)) (.cons (.lit (.slice none 0 0)) .nil),kind:=5,dflt:=true,elem:=0,flds:=[(0,23,1),(1,24,1)] }
theorem x5u:TIok Try.prog 70 T70:=qf5 (z:=.agg #[.slice none 0 0,.slice none 0 0]) (by kernel_rfl) rfl rfl (λm ρ=>⟨_,_,rfl,rfl,⟨_,_,rfl,rfl,rfl⟩⟩) (λ_ m=>⟨[.slice none 0 0],[.slice none 0 0],rfl,⟨none,0,rfl,Nat.le_refl _,by unfold maxLen; exact Nat.zero_le _,λh=>absurd h (Nat.lt_irrefl 0)⟩,⟨none,0,rfl,Nat.le_refl _,by unfold maxLen; exact Nat.zero_le _,λh=>absurd h (Nat.lt_irrefl 0)⟩⟩) (by decide) (by decide) (by decide) rfl Try.underlying70 (λh=>by cases h) (λh=>by cases h) (λh=>by cases h)
 (λh=>by cases h)
 (λ_=>⟨_,Try.underlying70,rfl,λf hf=>by
  simp only[T70,List.mem_cons,List.not_mem_nil,or_false] at hf
  rcases hf with rfl | rfl
  ·exact⟨qq4 x3t,by decide⟩
  ·exact⟨qq4 x0c,by decide⟩⟩) (by decide)
def T75:TI:={ agg:=false,size:=1,bytes:=8,ty:=.bool,zero:=.cons (.lit .nilFunc) .nil,kind:=0,dflt:=false,elem:=0,flds:=[] }
theorem x5v:TIok Try.prog 75 T75:=qf5 (z:=.nilFunc) (by kernel_rfl) rfl rfl (λm ρ=>⟨_,_,rfl,rfl,rfl⟩) (λh=>by cases h) (by decide) (by decide) (by decide) rfl Try.underlying75 (λh=>by cases h) (λh=>by cases h) (λh=>by cases h)
 (λh=>by cases h)
 (λh=>by cases h) (by decide)
def T76:TI:={ agg:=false,size:=1,bytes:=8,ty:=.bool,zero:=.cons (.lit .nilFunc) .nil,kind:=0,dflt:=false,elem:=0,flds:=[] }
theorem x5w:TIok Try.prog 76 T76:=qf5 (z:=.nilFunc) (by kernel_rfl) rfl rfl (λm ρ=>⟨_,_,rfl,rfl,rfl⟩) (λh=>by cases h) (by decide) (by decide) (by decide) rfl Try.underlying76 (λh=>by cases h) (λh=>by cases h) (λh=>by cases h)
 (λh=>by cases h)
 (λh=>by cases h) (by decide)
def T79:TI:={ agg:=false,size:=1,bytes:=8,ty:=.bool,zero:=.cons (.lit .nilFunc) .nil,kind:=0,dflt:=false,elem:=0,flds:=[] }
theorem x5x:TIok Try.prog 79 T79:=qf5 (z:=.nilFunc) (by kernel_rfl) rfl rfl (λm ρ=>⟨_,_,rfl,rfl,rfl⟩) (λh=>by cases h) (by decide) (by decide) (by decide) rfl Try.underlying79 (λh=>by cases h) (λh=>by cases h) (λh=>by cases h)
 (λh=>by cases h)
 (λh=>by cases h) (by decide)
def T82:TI:={ agg:=false,size:=1,bytes:=8,ty:=.bool,zero:=.cons (.lit .nilFunc) .nil,kind:=0,dflt:=false,elem:=0,flds:=[] }
theorem x5y:TIok Try.prog 82 T82:=qf5 (z:=.nilFunc) (by kernel_rfl) rfl rfl (λm ρ=>⟨_,_,rfl,rfl,rfl⟩) (λh=>by cases h) (by decide) (by decide) (by decide) rfl Try.underlying82 (λh=>by cases h) (λh=>by cases h) (λh=>by cases h)
 (λh=>by cases h)
 (λh=>by cases h) (by decide)
def T88:TI:={ agg:=false,size:=1,bytes:=24,ty:=.list (.int .i64),zero:=.cons (.lit (.slice none 0 0)) .nil,kind:=1,dflt:=true,elem:=3,flds:=[] }
theorem x01:TIok Try.prog 88 T88:=qf5 (z:=.slice none 0 0) (by kernel_rfl) rfl rfl (λm ρ=>⟨_,_,rfl,rfl,rfl⟩) (λ_ m=>⟨none,0,rfl,Nat.le_refl _,by unfold maxLen; exact Nat.zero_le _,λh=>absurd h (Nat.lt_irrefl 0)⟩) (by decide) (by decide) (by decide) rfl Try.underlying88 (λ_=>Try.underlying88) (λh=>by cases h) (λh=>by cases h)
 (λh=>by cases h)
 (λh=>by cases h) (by decide)
def T90:TI:={ agg:=true,size:=3,bytes:=56,ty:=.prod (.bool) (.prod (.list (.int .i64)) (.list (.int .i64))),zero:=.cons (.ff) (.cons (.lit (.slice none 0 0)) (.cons (.lit (.slice none 0 0)) .nil)),kind:=5,dflt:=true,elem:=0,flds:=[(0,4,1),(1,88,1),(2,88,1)] }
theorem x5z:TIok Try.prog 90 T90:=qf5 (z:=.agg #[.bool false,.slice none 0 0,.slice none 0 0]) (by kernel_rfl) rfl rfl (λm ρ=>⟨_,_,rfl,rfl,⟨_,_,rfl,rfl,⟨_,_,rfl,rfl,rfl⟩⟩⟩) (λ_ m=>⟨[.bool false],[.slice none 0 0,.slice none 0 0],rfl,rfl,⟨[.slice none 0 0],[.slice none 0 0],rfl,⟨none,0,rfl,Nat.le_refl _,by unfold maxLen; exact Nat.zero_le _,λh=>absurd h (Nat.lt_irrefl 0)⟩,⟨none,0,rfl,Nat.le_refl _,by unfold maxLen; exact Nat.zero_le _,λh=>absurd h (Nat.lt_irrefl 0)⟩⟩⟩) (by decide) (by decide) (by decide) rfl Try.underlying90 (λh=>by cases h) (λh=>by cases h) (λh=>by cases h)
 (λh=>by cases h)
 (λ_=>⟨_,Try.underlying90,rfl,λf hf=>by
  simp only[T90,List.mem_cons,List.not_mem_nil,or_false] at hf
  rcases hf with rfl | rfl | rfl
  ·exact⟨qq4 ti4,by decide⟩
  ·exact⟨qq4 x01,by decide⟩
  ·exact⟨qq4 x01,by decide⟩⟩) (by decide)
def T95:TI:={ agg:=false,size:=1,bytes:=8,ty:=.bool,zero:=.cons (.lit .nilFunc) .nil,kind:=0,dflt:=false,elem:=0,flds:=[] }
theorem x50:TIok Try.prog 95 T95:=qf5 (z:=.nilFunc) (by kernel_rfl) rfl rfl (λm ρ=>⟨_,_,rfl,rfl,rfl⟩) (λh=>by cases h) (by decide) (by decide) (by decide) rfl Try.underlying95 (λh=>by cases h) (λh=>by cases h) (λh=>by cases h)
 (λh=>by cases h)
 (λh=>by cases h) (by decide)
def T97:TI:={ agg:=false,size:=1,bytes:=8,ty:=.bool,zero:=.cons (.lit .nilFunc) .nil,kind:=0,dflt:=false,elem:=0,flds:=[] }
theorem x51:TIok Try.prog 97 T97:=qf5 (z:=.nilFunc) (by kernel_rfl) rfl rfl (λm ρ=>⟨_,_,rfl,rfl,rfl⟩) (λh=>by cases h) (by decide) (by decide) (by decide) rfl Try.underlying97 (λh=>by cases h) (λh=>by cases h) (λh=>by cases h)
 (λh=>by cases h)
 (λh=>by cases h) (by decide)
def T98:TI:={ agg:=false,size:=1,bytes:=8,ty:=.bool,zero:=.cons (.lit .nilFunc) .nil,kind:=0,dflt:=false,elem:=0,flds:=[] }
theorem x52:TIok Try.prog 98 T98:=qf5 (z:=.nilFunc) (by kernel_rfl) rfl rfl (λm ρ=>⟨_,_,rfl,rfl,rfl⟩) (λh=>by cases h) (by decide) (by decide) (by decide) rfl Try.underlying98 (λh=>by cases h) (λh=>by cases h) (λh=>by cases h)
 (λh=>by cases h)
 (λh=>by cases h) (by decide)
def T99:TI:={ agg:=false,size:=1,bytes:=8,ty:=.bool,zero:=.cons (.lit .nilFunc) .nil,kind:=0,dflt:=false,elem:=0,flds:=[] }
theorem x53:TIok Try.prog 99 T99:=qf5 (z:=.nilFunc) (by kernel_rfl) rfl rfl (λm ρ=>⟨_,_,rfl,rfl,rfl⟩) (λh=>by cases h) (by decide) (by decide) (by decide) rfl Try.underlying99 (λh=>by cases h) (λh=>by cases h) (λh=>by cases h)
 (λh=>by cases h)
 (λh=>by cases h) (by decide)
def x3u:TI:={ agg:=false,size:=1,bytes:=8,ty:=.bool,zero:=.cons (.lit .nilFunc) .nil,kind:=0,dflt:=false,elem:=0,flds:=[] }
theorem x02:TIok Try.prog 100 x3u:=qf5 (z:=.nilFunc) (by kernel_rfl) rfl rfl (λm ρ=>⟨_,_,rfl,rfl,rfl⟩) (λh=>by cases h) (by decide) (by decide) (by decide) rfl Try.underlying100 (λh=>by cases h) (λh=>by cases h) (λh=>by cases h)
 (λh=>by cases h)
 (λh=>by cases h) (by decide)
def x3v:TI:={ agg:=false,size:=1,bytes:=8,ty:=.bool,zero:=.cons (.lit .nilFunc) .nil,kind:=0,dflt:=false,elem:=0,flds:=[] }
theorem x03:TIok Try.prog 101 x3v:=qf5 (z:=.nilFunc) (by kernel_rfl) rfl rfl (λm ρ=>⟨_,_,rfl,rfl,rfl⟩) (λh=>by cases h) (by decide) (by decide) (by decide) rfl Try.underlying101 (λh=>by cases h) (λh=>by cases h) (λh=>by cases h)
 (λh=>by cases h)
 (λh=>by cases h) (by decide)
def x3w:TI:={ agg:=false,size:=1,bytes:=8,ty:=.bool,zero:=.cons (.lit .nilFunc) .nil,kind:=0,dflt:=false,elem:=0,flds:=[] }
theorem x04:TIok Try.prog 102 x3w:=qf5 (z:=.nilFunc) (by kernel_rfl) rfl rfl (λm ρ=>⟨_,_,rfl,rfl,rfl⟩) (λh=>by cases h) (by decide) (by decide) (by decide) rfl Try.underlying102 (λh=>by cases h) (λh=>by cases h) (λh=>by cases h)
 (λh=>by cases h)
 (λh=>by cases h) (by decide)
def x3x:TI:={ agg:=false,size:=1,bytes:=8,ty:=.bool,zero:=.cons (.lit .nilFunc) .nil,kind:=0,dflt:=false,elem:=0,flds:=[] }
theorem x05:TIok Try.prog 103 x3x:=qf5 (z:=.nilFunc) (by kernel_rfl) rfl rfl (λm ρ=>⟨_,_,rfl,rfl,rfl⟩) (λh=>by cases h) (by decide) (by decide) (by decide) rfl Try.underlying103 (λh=>by cases h) (λh=>by cases h) (λh=>by cases h)
 (λh=>by cases h)
 (λh=>by cases h) (by decide)
def x3y:TI:={ agg:=false,size:=1,bytes:=8,ty:=.bool,zero:=.cons (.lit .nilFunc) .nil,kind:=0,dflt:=false,elem:=0,flds:=[] }
theorem x06:TIok Try.prog 104 x3y:=qf5 (z:=.nilFunc) (by kernel_rfl) rfl rfl (λm ρ=>⟨_,_,rfl,rfl,rfl⟩) (λh=>by cases h) (by decide) (by decide) (by decide) rfl Try.underlying104 (λh=>by cases h) (λh=>by cases h) (λh=>by cases h)
 (λh=>by cases h)
 (λh=>by cases h) (by decide)
def x3z:TI:={ agg:=false,size:=1,bytes:=8,ty:=.bool,zero:=.cons (.lit .nilFunc) .nil,kind:=0,dflt:=false,elem:=0,flds:=[] }
theorem x07:TIok Try.prog 105 x3z:=qf5 (z:=.nilFunc) (by kernel_rfl) rfl rfl (λm ρ=>⟨_,_,rfl,rfl,rfl⟩) (λh=>by cases h) (by decide) (by decide) (by decide) rfl Try.underlying105 (λh=>by cases h) (λh=>by cases h) (λh=>by cases h)
 (λh=>by cases h)
 (λh=>by cases h) (by decide)
def x33:TI:={ agg:=false,size:=1,bytes:=8,ty:=.bool,zero:=.cons (.lit .nilFunc) .nil,kind:=0,dflt:=false,elem:=0,flds:=[] }
theorem x08:TIok Try.prog 108 x33:=qf5 (z:=.nilFunc) (by kernel_rfl) rfl rfl (λm ρ=>⟨_,_,rfl,rfl,rfl⟩) (λh=>by cases h) (by decide) (by decide) (by decide) rfl Try.underlying108 (λh=>by cases h) (λh=>by cases h) (λh=>by cases h)
 (λh=>by cases h)
 (λh=>by cases h) (by decide)
def x35:TI:={ agg:=false,size:=1,bytes:=8,ty:=.bool,zero:=.cons (.lit .nilFunc) .nil,kind:=0,dflt:=false,elem:=0,flds:=[] }
theorem x1a:TIok Try.prog 110 x35:=qf5 (z:=.nilFunc) (by kernel_rfl) rfl rfl (λm ρ=>⟨_,_,rfl,rfl,rfl⟩) (λh=>by cases h) (by decide) (by decide) (by decide) rfl Try.underlying110 (λh=>by cases h) (λh=>by cases h) (λh=>by cases h)
 (λh=>by cases h)
 (λh=>by cases h) (by decide)
def x36:TI:={ agg:=false,size:=1,bytes:=8,ty:=.bool,zero:=.cons (.lit .nilFunc) .nil,kind:=0,dflt:=false,elem:=0,flds:=[] }
theorem x1b:TIok Try.prog 111 x36:=qf5 (z:=.nilFunc) (by kernel_rfl) rfl rfl (λm ρ=>⟨_,_,rfl,rfl,rfl⟩) (λh=>by cases h) (by decide) (by decide) (by decide) rfl Try.underlying111 (λh=>by cases h) (λh=>by cases h) (λh=>by cases h)
 (λh=>by cases h)
 (λh=>by cases h) (by decide)
def x37:TI:={ agg:=false,size:=1,bytes:=8,ty:=.bool,zero:=.cons (.lit .nilFunc) .nil,kind:=0,dflt:=false,elem:=0,flds:=[] }
theorem x1c:TIok Try.prog 113 x37:=qf5 (z:=.nilFunc) (by kernel_rfl) rfl rfl (λm ρ=>⟨_,_,rfl,rfl,rfl⟩) (λh=>by cases h) (by decide) (by decide) (by decide) rfl Try.underlying113 (λh=>by cases h) (λh=>by cases h) (λh=>by cases h)
 (λh=>by cases h)
 (λh=>by cases h) (by decide)
def x4a:TI:={ agg:=false,size:=1,bytes:=8,ty:=.bool,zero:=.cons (.lit .nilFunc) .nil,kind:=0,dflt:=false,elem:=0,flds:=[] }
theorem x1d:TIok Try.prog 114 x4a:=qf5 (z:=.nilFunc) (by kernel_rfl) rfl rfl (λm ρ=>⟨_,_,rfl,rfl,rfl⟩) (λh=>by cases h) (by decide) (by decide) (by decide) rfl Try.underlying114 (λh=>by cases h) (λh=>by cases h) (λh=>by cases h)
 (λh=>by cases h)
 (λh=>by cases h) (by decide)
def x4b:TI:={ agg:=false,size:=1,bytes:=8,ty:=.bool,zero:=.cons (.lit .nilFunc) .nil,kind:=0,dflt:=false,elem:=0,flds:=[] }
theorem x1e:TIok Try.prog 115 x4b:=qf5 (z:=.nilFunc) (by kernel_rfl) rfl rfl (λm ρ=>⟨_,_,rfl,rfl,rfl⟩) (λh=>by cases h) (by decide) (by decide) (by decide) rfl Try.underlying115 (λh=>by cases h) (λh=>by cases h) (λh=>by cases h)
 (λh=>by cases h)
 (λh=>by cases h) (by decide)
def x4c:TI:={ agg:=false,size:=1,bytes:=8,ty:=.bool,zero:=.cons (.lit .nilFunc) .nil,kind:=0,dflt:=false,elem:=0,flds:=[] }
theorem x1f:TIok Try.prog 116 x4c:=qf5 (z:=.nilFunc) (by kernel_rfl) rfl rfl (λm ρ=>⟨_,_,rfl,rfl,rfl⟩) (λh=>by cases h) (by decide) (by decide) (by decide) rfl Try.underlying116 (λh=>by cases h) (λh=>by cases h) (λh=>by cases h)
 (λh=>by cases h)
 (λh=>by cases h) (by decide)
def x4d:TI:={ agg:=false,size:=1,bytes:=8,ty:=.bool,zero:=.cons (.lit .nilFunc) .nil,kind:=0,dflt:=false,elem:=0,flds:=[] }
theorem x1g:TIok Try.prog 117 x4d:=qf5 (z:=.nilFunc) (by kernel_rfl) rfl rfl (λm ρ=>⟨_,_,rfl,rfl,rfl⟩) (λh=>by cases h) (by decide) (by decide) (by decide) rfl Try.underlying117 (λh=>by cases h) (λh=>by cases h) (λh=>by cases h)
 (λh=>by cases h)
 (λh=>by cases h) (by decide)
def x4e:TI:={ agg:=false,size:=1,bytes:=8,ty:=.bool,zero:=.cons (.lit .nilFunc) .nil,kind:=0,dflt:=false,elem:=0,flds:=[] }
theorem x1h:TIok Try.prog 118 x4e:=qf5 (z:=.nilFunc) (by kernel_rfl) rfl rfl (λm ρ=>⟨_,_,rfl,rfl,rfl⟩) (λh=>by cases h) (by decide) (by decide) (by decide) rfl Try.underlying118 (λh=>by cases h) (λh=>by cases h) (λh=>by cases h)
 (λh=>by cases h)
 (λh=>by cases h) (by decide)
def x4f:TI:={ agg:=false,size:=1,bytes:=8,ty:=.bool,zero:=.cons (.lit .nilFunc) .nil,kind:=0,dflt:=false,elem:=0,flds:=[] }
theorem x1i:TIok Try.prog 119 x4f:=qf5 (z:=.nilFunc) (by kernel_rfl) rfl rfl (λm ρ=>⟨_,_,rfl,rfl,rfl⟩) (λh=>by cases h) (by decide) (by decide) (by decide) rfl Try.underlying119 (λh=>by cases h) (λh=>by cases h) (λh=>by cases h)
 (λh=>by cases h)
 (λh=>by cases h) (by decide)
def x4g:TI:={ agg:=false,size:=1,bytes:=8,ty:=.int .u64,zero:=.cons (.lit (.int .u64 0)) .nil,kind:=0,dflt:=true,elem:=0,flds:=[],isInt:=true }
theorem x1j:TIok Try.prog 129 x4g:=qf5 (z:=.int .u64 0) (by kernel_rfl) rfl rfl (λm ρ=>⟨_,_,rfl,rfl,rfl⟩) (λ_ m=>rfl) (by decide) (by decide) (by decide) rfl Try.underlying129 (λh=>by cases h) (λh=>by cases h) (λh=>by cases h)
 (λh=>by cases h)
 (λh=>by cases h) (by decide) (h16:=λ_=>⟨.u64,rfl,Try.underlying129⟩)
def x4h:TI:={ agg:=false,size:=1,bytes:=8,ty:=.bool,zero:=.cons (.lit .nilFunc) .nil,kind:=0,dflt:=false,elem:=0,flds:=[] }
theorem x1k:TIok Try.prog 131 x4h:=qf5 (z:=.nilFunc) (by kernel_rfl) rfl rfl (λm ρ=>⟨_,_,rfl,rfl,rfl⟩) (λh=>by cases h) (by decide) (by decide) (by decide) rfl Try.underlying131 (λh=>by cases h) (λh=>by cases h) (λh=>by cases h)
 (λh=>by cases h)
 (λh=>by cases h) (by decide)
def x4i:TI:={ agg:=false,size:=1,bytes:=8,ty:=.bool,zero:=.cons (.lit .nilFunc) .nil,kind:=0,dflt:=false,elem:=0,flds:=[] }
theorem x1l:TIok Try.prog 133 x4i:=qf5 (z:=.nilFunc) (by kernel_rfl) rfl rfl (λm ρ=>⟨_,_,rfl,rfl,rfl⟩) (λh=>by cases h) (by decide) (by decide) (by decide) rfl Try.underlying133 (λh=>by cases h) (λh=>by cases h) (λh=>by cases h)
 (λh=>by cases h)
 (λh=>by cases h) (by decide)
def x4j:TI:={ agg:=false,size:=1,bytes:=8,ty:=.bool,zero:=.cons (.lit .nilFunc) .nil,kind:=0,dflt:=false,elem:=0,flds:=[] }
theorem x1m:TIok Try.prog 134 x4j:=qf5 (z:=.nilFunc) (by kernel_rfl) rfl rfl (λm ρ=>⟨_,_,rfl,rfl,rfl⟩) (λh=>by cases h) (by decide) (by decide) (by decide) rfl Try.underlying134 (λh=>by cases h) (λh=>by cases h) (λh=>by cases h)
 (λh=>by cases h)
 (λh=>by cases h) (by decide)
def x4k:TI:={ agg:=false,size:=1,bytes:=4,ty:=.int .u32,zero:=.cons (.lit (.int .u32 0)) .nil,kind:=0,dflt:=true,elem:=0,flds:=[],isInt:=true }
theorem x1n:TIok Try.prog 141 x4k:=qf5 (z:=.int .u32 0) (by kernel_rfl) rfl rfl (λm ρ=>⟨_,_,rfl,rfl,rfl⟩) (λ_ m=>rfl) (by decide) (by decide) (by decide) rfl Try.underlying141 (λh=>by cases h) (λh=>by cases h) (λh=>by cases h)
 (λh=>by cases h)
 (λh=>by cases h) (by decide) (h16:=λ_=>⟨.u32,rfl,Try.underlying141⟩)
def x4l:TI:={ agg:=false,size:=1,bytes:=8,ty:=.bool,zero:=.cons (.lit .nilFunc) .nil,kind:=0,dflt:=false,elem:=0,flds:=[] }
theorem x1o:TIok Try.prog 143 x4l:=qf5 (z:=.nilFunc) (by kernel_rfl) rfl rfl (λm ρ=>⟨_,_,rfl,rfl,rfl⟩) (λh=>by cases h) (by decide) (by decide) (by decide) rfl Try.underlying143 (λh=>by cases h) (λh=>by cases h) (λh=>by cases h)
 (λh=>by cases h)
 (λh=>by cases h) (by decide)
def x4m:TI:={ agg:=false,size:=1,bytes:=8,ty:=.int .u64,zero:=.cons (.lit (.int .u64 0)) .nil,kind:=0,dflt:=true,elem:=0,flds:=[],isInt:=true }
theorem x1p:TIok Try.prog 144 x4m:=qf5 (z:=.int .u64 0) (by kernel_rfl) rfl rfl (λm ρ=>⟨_,_,rfl,rfl,rfl⟩) (λ_ m=>rfl) (by decide) (by decide) (by decide) rfl Try.underlying144 (λh=>by cases h) (λh=>by cases h) (λh=>by cases h)
 (λh=>by cases h)
 (λh=>by cases h) (by decide) (h16:=λ_=>⟨.u64,rfl,Try.underlying144⟩)
def tys:List (Nat × TI):=[(1,T1),(2,T2),(3,T3),(4,T4),(5,T5),(6,T6),(7,T7),(8,T8),(9,T9),(10,T10),(11,T11),(12,T12),(13,T13),(14,T14),(15,T15),(16,T16),(17,T17),(18,T18),(19,T19),(21,T21),(22,T22),(23,T23),(24,T24),(26,T26),(27,T27),(28,T28),(29,T29),(30,T30),(31,T31),(33,T33),(34,T34),(37,T37),(40,T40),(41,T41),(44,T44),(48,T48),(49,T49),(53,T53),(58,T58),(60,T60),(66,T66),(68,T68),(70,T70),(75,T75),(76,T76),(79,T79),(82,T82),(88,T88),(90,T90),(95,T95),(97,T97),(98,T98),(99,T99),(100,x3u),(101,x3v),(102,x3w),(103,x3x),(104,x3y),(105,x3z),(108,x33),(110,x35),(111,x36),(113,x37),(114,x4a),(115,x4b),(116,x4c),(117,x4d),(118,x4e),(119,x4f),(129,x4g),(131,x4h),(133,x4i),(134,x4j),(141,x4k),(143,x4l),(144,x4m)]
theorem qa7 {α:Type} {i j:Nat} {v w:α} {l:List (Nat × α)} (h:find ((j,v) :: l) i=some w):(i=j/\w=v)\/find l i=some w:=by
 simp only[find] at h
 split at h
 ·rename_i e; exact .inl ⟨(Nat.eq_of_beq_eq_true e).symm,by injection h with h; exact h.symm⟩
 ·exact .inr h
theorem q2q:∀t T,find tys t=some T->TIok Try.prog t T:=by
 intro t T h
 unfold tys at h
 rcases qa7 h with⟨rfl,rfl⟩ | h
 ·exact ti1
 rcases qa7 h with⟨rfl,rfl⟩ | h
 ·exact ti2
 rcases qa7 h with⟨rfl,rfl⟩ | h
 ·exact ti3
 rcases qa7 h with⟨rfl,rfl⟩ | h
 ·exact ti4
 rcases qa7 h with⟨rfl,rfl⟩ | h
 ·exact ti5
 rcases qa7 h with⟨rfl,rfl⟩ | h
 ·exact ti6
 rcases qa7 h with⟨rfl,rfl⟩ | h
 ·exact ti7
 rcases qa7 h with⟨rfl,rfl⟩ | h
 ·exact ti8
 rcases qa7 h with⟨rfl,rfl⟩ | h
 ·exact ti9
 rcases qa7 h with⟨rfl,rfl⟩ | h
 ·exact x4y
 rcases qa7 h with⟨rfl,rfl⟩ | h
 ·exact x4z
 rcases qa7 h with⟨rfl,rfl⟩ | h
 ·exact x0y
 rcases qa7 h with⟨rfl,rfl⟩ | h
 ·exact x42
 rcases qa7 h with⟨rfl,rfl⟩ | h
 ·exact x44
 rcases qa7 h with⟨rfl,rfl⟩ | h
 ·exact x45
 rcases qa7 h with⟨rfl,rfl⟩ | h
 ·exact x46
 rcases qa7 h with⟨rfl,rfl⟩ | h
 ·exact x0z
 rcases qa7 h with⟨rfl,rfl⟩ | h
 ·exact x47
 rcases qa7 h with⟨rfl,rfl⟩ | h
 ·exact x48
 rcases qa7 h with⟨rfl,rfl⟩ | h
 ·exact x49
 rcases qa7 h with⟨rfl,rfl⟩ | h
 ·exact x5b
 rcases qa7 h with⟨rfl,rfl⟩ | h
 ·exact x3t
 rcases qa7 h with⟨rfl,rfl⟩ | h
 ·exact x0c
 rcases qa7 h with⟨rfl,rfl⟩ | h
 ·exact x5c
 rcases qa7 h with⟨rfl,rfl⟩ | h
 ·exact x5d
 rcases qa7 h with⟨rfl,rfl⟩ | h
 ·exact x00
 rcases qa7 h with⟨rfl,rfl⟩ | h
 ·exact x5e
 rcases qa7 h with⟨rfl,rfl⟩ | h
 ·exact x5f
 rcases qa7 h with⟨rfl,rfl⟩ | h
 ·exact x5g
 rcases qa7 h with⟨rfl,rfl⟩ | h
 ·exact x5h
 rcases qa7 h with⟨rfl,rfl⟩ | h
 ·exact x5i
 rcases qa7 h with⟨rfl,rfl⟩ | h
 ·exact x5j
 rcases qa7 h with⟨rfl,rfl⟩ | h
 ·exact x5k
 rcases qa7 h with⟨rfl,rfl⟩ | h
 ·exact x5l
 rcases qa7 h with⟨rfl,rfl⟩ | h
 ·exact x5m
 rcases qa7 h with⟨rfl,rfl⟩ | h
 ·exact x5n
 rcases qa7 h with⟨rfl,rfl⟩ | h
 ·exact x5o
 rcases qa7 h with⟨rfl,rfl⟩ | h
 ·exact x5p
 rcases qa7 h with⟨rfl,rfl⟩ | h
 ·exact x5q
 rcases qa7 h with⟨rfl,rfl⟩ | h
 ·exact x5r
 rcases qa7 h with⟨rfl,rfl⟩ | h
 ·exact x5s
 rcases qa7 h with⟨rfl,rfl⟩ | h
 ·exact x5t
 rcases qa7 h with⟨rfl,rfl⟩ | h
 ·exact x5u
 rcases qa7 h with⟨rfl,rfl⟩ | h
 ·exact x5v
 rcases qa7 h with⟨rfl,rfl⟩ | h
 ·exact x5w
 rcases qa7 h with⟨rfl,rfl⟩ | h
 ·exact x5x
 rcases qa7 h with⟨rfl,rfl⟩ | h
 ·exact x5y
 rcases qa7 h with⟨rfl,rfl⟩ | h
 ·exact x01
 rcases qa7 h with⟨rfl,rfl⟩ | h
 ·exact x5z
 rcases qa7 h with⟨rfl,rfl⟩ | h
 ·exact x50
 rcases qa7 h with⟨rfl,rfl⟩ | h
 ·exact x51
 rcases qa7 h with⟨rfl,rfl⟩ | h
 ·exact x52
 rcases qa7 h with⟨rfl,rfl⟩ | h
 ·exact x53
 rcases qa7 h with⟨rfl,rfl⟩ | h
 ·exact x02
 rcases qa7 h with⟨rfl,rfl⟩ | h
 ·exact x03
 rcases qa7 h with⟨rfl,rfl⟩ | h
 ·exact x04
 rcases qa7 h with⟨rfl,rfl⟩ | h
 ·exact x05
 rcases qa7 h with⟨rfl,rfl⟩ | h
 ·exact x06
 rcases qa7 h with⟨rfl,rfl⟩ | h
 ·exact x07
 rcases qa7 h with⟨rfl,rfl⟩ | h
 ·exact x08
 rcases qa7 h with⟨rfl,rfl⟩ | h
 ·exact x1a
 rcases qa7 h with⟨rfl,rfl⟩ | h
 ·exact x1b
 rcases qa7 h with⟨rfl,rfl⟩ | h
 ·exact x1c
 rcases qa7 h with⟨rfl,rfl⟩ | h
 ·exact x1d
 rcases qa7 h with⟨rfl,rfl⟩ | h
 ·exact x1e
 rcases qa7 h with⟨rfl,rfl⟩ | h
 ·exact x1f
 rcases qa7 h with⟨rfl,rfl⟩ | h
 ·exact x1g
 rcases qa7 h with⟨rfl,rfl⟩ | h
 ·exact x1h
 rcases qa7 h with⟨rfl,rfl⟩ | h
 ·exact x1i
 rcases qa7 h with⟨rfl,rfl⟩ | h
 ·exact x1j
 rcases qa7 h with⟨rfl,rfl⟩ | h
 ·exact x1k
 rcases qa7 h with⟨rfl,rfl⟩ | h
 ·exact x1l
 rcases qa7 h with⟨rfl,rfl⟩ | h
 ·exact x1m
 rcases qa7 h with⟨rfl,rfl⟩ | h
 ·exact x1n
 rcases qa7 h with⟨rfl,rfl⟩ | h
 ·exact x1o
 rcases qa7 h with⟨rfl,rfl⟩ | h
 ·exact x1p
 cases h
end Go.Proofs.Ytdibdlelmkcccaa
