/- What the table of this seat says of its types, for the engine. Printed by program (gentys.py). No condition. -/
import Derived.Test.YtdibdlelmkcccaaEng3
import Derived.Test.YtdibdlelmkcccaaProg
set_option linter.unusedVariables false
set_option linter.unusedSimpArgs false
namespace Go.Proofs.Ytdibdlelmkcccaa
open Go Go.RowKit Eng
theorem qh4 {P:Program} {t:Nat} {T:TI} {z:Value} {d:TypeDesc} (h1:(P.info? t).map (λi=>(i.size,i.bytes,i.zero))=some (T.size,T.bytes,some z)) (hz:z.cells.size=T.size) (h2:z.cells.toList.all (·.oneCell')=true)
  (h3:∀m ρ,T.zero.ok P m ρ z.cells.toList) (h4:T.dflt=true->∀m,Rd m T.ty T.ty.dflt z.cells.toList) (h5:T.bytes<=1000000) (h6:T.size≠0) (h7:T.size<=10000) (h8:(match d with | .struct _ | .array _ _=>true | _=>false)=T.agg) (hu:P.underlying t=some d)
  (h9:T.kind=1->P.underlying t=some (.slice T.elem)) (h10:T.kind=2->P.underlying t=some .string) (h11:T.kind=3->P.underlying t=some .bool)
  (h12:T.kind=4->∃n sz,P.underlying t=some (.array n T.elem)/\(∃j,P.info? T.elem=some j/\j.size=sz)/\sz≠0/\∀(f:Nat) (fl:Nat × Nat × Nat),T.flds[f]? = some fl->fl=(f*sz,T.elem,sz)/\f<n)
  (h13:T.kind=5->∃fields,P.underlying t=some (.struct fields)/\fields.toList.map (λF=>(F.offset,F.type))=T.flds.map (λf=>(f.1,f.2.1))/\∀f∈T.flds,(∃j,P.info? f.2.1=some j/\j.size=f.2.2)/\f.2.2≠0) (h14:T.kind<=5) (h15:T.eq2=true->Eq2 P t:=by(intro h; cases h)) (h16:T.isInt=true->∃k,T.ty=.int k/\P.underlying t=some (.int k):=by(intro h; cases h))
  (h17:∀eb,T.bld=some eb->∃i,P.info? t=some i/\i.zero=some (.agg #[.pointer none,.slice none 0 0]):=by(intro eb h; cases h)):TIok P t T:=by
 refine⟨?_,h5,h6,h7,⟨d,hu,h8⟩,h9,h10,h11,h12,h13,h14,h15,h16,h17⟩
 cases hi:P.info? t with
 | none=>rw[hi] at h1; cases h1
 | some i=>
  rw[hi] at h1
  simp only[Option.map_some,Option.some.injEq,Prod.mk.injEq] at h1
  exact⟨i,z,rfl,h1.1,h1.2.1,h1.2.2,hz,h2,h3,h4⟩
theorem qw8 {P:Program} {t:Nat} {T:TI} (h:TIok P t T):∃j,P.info? t=some j/\j.size=T.size:=by
 obtain⟨i,z,h1,h2,_⟩:=h.info
 exact⟨i,h1,h2⟩
def T1:TI:={ agg:=false,size:=1,bytes:=8,ty:=.bool,zero:=.cons (.lit .nilFunc) .nil,kind:=0,dflt:=false,elem:=0,flds:=[] }
theorem ti1:TIok Try.prog 1 T1:=qh4 (z:=.nilFunc) (by kernel_rfl) rfl rfl (λm ρ=>⟨_,_,rfl,rfl,rfl⟩) (λh=>by cases h) (by decide) (by decide) (by decide) rfl Try.underlying1 (λh=>by cases h) (λh=>by cases h) (λh=>by cases h)
 (λh=>by cases h)
 (λh=>by cases h) (by decide)
def T2:TI:={ agg:=false,size:=1,bytes:=8,ty:=.int .i64,zero:=.cons (.lit (.int .i64 0)) .nil,kind:=0,dflt:=true,elem:=0,flds:=[],isInt:=true }
theorem ti2:TIok Try.prog 2 T2:=qh4 (z:=.int .i64 0) (by kernel_rfl) rfl rfl (λm ρ=>⟨_,_,rfl,rfl,rfl⟩) (λ_ m=>rfl) (by decide) (by decide) (by decide) rfl Try.underlying2 (λh=>by cases h) (λh=>by cases h) (λh=>by cases h)
 (λh=>by cases h)
 (λh=>by cases h) (by decide) (h16:=λ_=>⟨.i64,rfl,Try.underlying2⟩)
def T3:TI:={ agg:=false,size:=1,bytes:=8,ty:=.int .i64,zero:=.cons (.lit (.int .i64 0)) .nil,kind:=0,dflt:=true,elem:=0,flds:=[],isInt:=true }
theorem ti3:TIok Try.prog 3 T3:=qh4 (z:=.int .i64 0) (by kernel_rfl) rfl rfl (λm ρ=>⟨_,_,rfl,rfl,rfl⟩) (λ_ m=>rfl) (by decide) (by decide) (by decide) rfl Try.underlying3 (λh=>by cases h) (λh=>by cases h) (λh=>by cases h)
 (λh=>by cases h)
 (λh=>by cases h) (by decide) (h16:=λ_=>⟨.i64,rfl,Try.underlying3⟩)
def T4:TI:={ agg:=false,size:=1,bytes:=1,ty:=.bool,zero:=.cons (.ff) .nil,kind:=3,dflt:=true,elem:=0,flds:=[] }
theorem ti4:TIok Try.prog 4 T4:=qh4 (z:=.bool false) (by kernel_rfl) rfl rfl (λm ρ=>⟨_,_,rfl,rfl,rfl⟩) (λ_ m=>rfl) (by decide) (by decide) (by decide) rfl Try.underlying4 (λh=>by cases h) (λh=>by cases h) (λ_=>Try.underlying4)
 (λh=>by cases h)
 (λh=>by cases h) (by decide)
def T5:TI:={ agg:=false,size:=1,bytes:=1,ty:=.int .u8,zero:=.cons (.lit (.int .u8 0)) .nil,kind:=0,dflt:=true,elem:=0,flds:=[],isInt:=true }
theorem ti5:TIok Try.prog 5 T5:=qh4 (z:=.int .u8 0) (by kernel_rfl) rfl rfl (λm ρ=>⟨_,_,rfl,rfl,rfl⟩) (λ_ m=>rfl) (by decide) (by decide) (by decide) rfl Try.underlying5 (λh=>by cases h) (λh=>by cases h) (λh=>by cases h)
 (λh=>by cases h)
 (λh=>by cases h) (by decide) (h16:=λ_=>⟨.u8,rfl,Try.underlying5⟩)
def T6:TI:={ agg:=false,size:=1,bytes:=1,ty:=.int .u8,zero:=.cons (.lit (.int .u8 0)) .nil,kind:=0,dflt:=true,elem:=0,flds:=[],isInt:=true }
theorem ti6:TIok Try.prog 6 T6:=qh4 (z:=.int .u8 0) (by kernel_rfl) rfl rfl (λm ρ=>⟨_,_,rfl,rfl,rfl⟩) (λ_ m=>rfl) (by decide) (by decide) (by decide) rfl Try.underlying6 (λh=>by cases h) (λh=>by cases h) (λh=>by cases h)
 (λh=>by cases h)
 (λh=>by cases h) (by decide) (h16:=λ_=>⟨.u8,rfl,Try.underlying6⟩)
def T7:TI:={ agg:=true,size:=4,bytes:=24,ty:=.prod (.int .i64) (.prod (.int .i64) (.prod (.bool) (.int .u8))),zero:=.cons (.lit (.int .i64 0)) (.cons (.lit (.int .i64 0)) (.cons (.ff) (.cons (.lit (.int .u8 0)) .nil))),kind:=5,dflt:=true,elem:=0,flds:=[(0,2,1),(1,3,1),(2,4,1),(3,6,1)] }
theorem ti7:TIok Try.prog 7 T7:=qh4 (z:=.agg #[.int .i64 0,.int .i64 0,.bool false,.int .u8 0]) (by kernel_rfl) rfl rfl (λm ρ=>⟨_,_,rfl,rfl,⟨_,_,rfl,rfl,⟨_,_,rfl,rfl,⟨_,_,rfl,rfl,rfl⟩⟩⟩⟩) (λ_ m=>⟨[.int .i64 0],[.int .i64 0,.bool false,.int .u8 0],rfl,rfl,⟨[.int .i64 0],[.bool false,.int .u8 0],rfl,rfl,⟨[.bool false],[.int .u8 0],rfl,rfl,rfl⟩⟩⟩) (by decide) (by decide) (by decide) rfl Try.underlying7 (λh=>by cases h) (λh=>by cases h) (λh=>by cases h)
 (λh=>by cases h)
 (λ_=>⟨_,Try.underlying7,rfl,λf hf=>by
  simp only[T7,List.mem_cons,List.not_mem_nil,or_false] at hf
  rcases hf with rfl | rfl | rfl | rfl
  ·exact⟨qw8 ti2,by decide⟩
  ·exact⟨qw8 ti3,by decide⟩
  ·exact⟨qw8 ti4,by decide⟩
  ·exact⟨qw8 ti6,by decide⟩⟩) (by decide)
def T8:TI:={ agg:=true,size:=4,bytes:=24,ty:=.prod (.int .i64) (.prod (.int .i64) (.prod (.bool) (.int .u8))),zero:=.cons (.lit (.int .i64 0)) (.cons (.lit (.int .i64 0)) (.cons (.ff) (.cons (.lit (.int .u8 0)) .nil))),kind:=5,dflt:=true,elem:=0,flds:=[(0,2,1),(1,3,1),(2,4,1),(3,6,1)] }
theorem ti8:TIok Try.prog 8 T8:=qh4 (z:=.agg #[.int .i64 0,.int .i64 0,.bool false,.int .u8 0]) (by kernel_rfl) rfl rfl (λm ρ=>⟨_,_,rfl,rfl,⟨_,_,rfl,rfl,⟨_,_,rfl,rfl,⟨_,_,rfl,rfl,rfl⟩⟩⟩⟩) (λ_ m=>⟨[.int .i64 0],[.int .i64 0,.bool false,.int .u8 0],rfl,rfl,⟨[.int .i64 0],[.bool false,.int .u8 0],rfl,rfl,⟨[.bool false],[.int .u8 0],rfl,rfl,rfl⟩⟩⟩) (by decide) (by decide) (by decide) rfl Try.underlying8 (λh=>by cases h) (λh=>by cases h) (λh=>by cases h)
 (λh=>by cases h)
 (λ_=>⟨_,Try.underlying8,rfl,λf hf=>by
  simp only[T8,List.mem_cons,List.not_mem_nil,or_false] at hf
  rcases hf with rfl | rfl | rfl | rfl
  ·exact⟨qw8 ti2,by decide⟩
  ·exact⟨qw8 ti3,by decide⟩
  ·exact⟨qw8 ti4,by decide⟩
  ·exact⟨qw8 ti6,by decide⟩⟩) (by decide)
def T9:TI:={ agg:=false,size:=1,bytes:=16,ty:=.str,zero:=.cons (.lit (.string ⟨#[]⟩)) .nil,kind:=2,dflt:=true,elem:=0,flds:=[] }
theorem ti9:TIok Try.prog 9 T9:=qh4 (z:=.string ⟨#[]⟩) (by kernel_rfl) rfl rfl (λm ρ=>⟨_,_,rfl,rfl,rfl⟩) (λ_ m=>rfl) (by decide) (by decide) (by decide) rfl Try.underlying9 (λh=>by cases h) (λ_=>Try.underlying9) (λh=>by cases h)
 (λh=>by cases h)
 (λh=>by cases h) (by decide)
def T10:TI:={ agg:=false,size:=1,bytes:=16,ty:=.str,zero:=.cons (.lit (.string ⟨#[]⟩)) .nil,kind:=2,dflt:=true,elem:=0,flds:=[] }
theorem x2h:TIok Try.prog 10 T10:=qh4 (z:=.string ⟨#[]⟩) (by kernel_rfl) rfl rfl (λm ρ=>⟨_,_,rfl,rfl,rfl⟩) (λ_ m=>rfl) (by decide) (by decide) (by decide) rfl Try.underlying10 (λh=>by cases h) (λ_=>Try.underlying10) (λh=>by cases h)
 (λh=>by cases h)
 (λh=>by cases h) (by decide)
def T11:TI:={ agg:=false,size:=1,bytes:=16,ty:=.str,zero:=.cons (.lit (.string ⟨#[]⟩)) .nil,kind:=2,dflt:=true,elem:=0,flds:=[] }
theorem x2i:TIok Try.prog 11 T11:=qh4 (z:=.string ⟨#[]⟩) (by kernel_rfl) rfl rfl (λm ρ=>⟨_,_,rfl,rfl,rfl⟩) (λ_ m=>rfl) (by decide) (by decide) (by decide) rfl Try.underlying11 (λh=>by cases h) (λ_=>Try.underlying11) (λh=>by cases h)
 (λh=>by cases h)
 (λh=>by cases h) (by decide)
def T12:TI:={ agg:=false,size:=1,bytes:=8,ty:=.int .u64,zero:=.cons (.lit (.int .u64 0)) .nil,kind:=0,dflt:=true,elem:=0,flds:=[],isInt:=true }
theorem x1h:TIok Try.prog 12 T12:=qh4 (z:=.int .u64 0) (by kernel_rfl) rfl rfl (λm ρ=>⟨_,_,rfl,rfl,rfl⟩) (λ_ m=>rfl) (by decide) (by decide) (by decide) rfl Try.underlying12 (λh=>by cases h) (λh=>by cases h) (λh=>by cases h)
 (λh=>by cases h)
 (λh=>by cases h) (by decide) (h16:=λ_=>⟨.u64,rfl,Try.underlying12⟩)
def T14:TI:={ agg:=true,size:=2,bytes:=24,ty:=.prod (.str) (.int .u64),zero:=.cons (.lit (.string ⟨#[]⟩)) (.cons (.lit (.int .u64 0)) .nil),kind:=5,dflt:=true,elem:=0,flds:=[(0,9,1),(1,12,1)] }
theorem x2j:TIok Try.prog 14 T14:=qh4 (z:=.agg #[.string ⟨#[]⟩,.int .u64 0]) (by kernel_rfl) rfl rfl (λm ρ=>⟨_,_,rfl,rfl,⟨_,_,rfl,rfl,rfl⟩⟩) (λ_ m=>⟨[.string ⟨#[]⟩],[.int .u64 0],rfl,rfl,rfl⟩) (by decide) (by decide) (by decide) rfl Try.underlying14 (λh=>by cases h) (λh=>by cases h) (λh=>by cases h)
 (λh=>by cases h)
 (λ_=>⟨_,Try.underlying14,rfl,λf hf=>by
  simp only[T14,List.mem_cons,List.not_mem_nil,or_false] at hf
  rcases hf with rfl | rfl
  ·exact⟨qw8 ti9,by decide⟩
  ·exact⟨qw8 x1h,by decide⟩⟩) (by decide)
def T15:TI:={ agg:=false,size:=1,bytes:=8,ty:=.bool,zero:=.cons (.lit (.pointer none)) .nil,kind:=0,dflt:=false,elem:=0,flds:=[] }
theorem x2k:TIok Try.prog 15 T15:=qh4 (z:=.pointer none) (by kernel_rfl) rfl rfl (λm ρ=>⟨_,_,rfl,rfl,rfl⟩) (λh=>by cases h) (by decide) (by decide) (by decide) rfl Try.underlying15 (λh=>by cases h) (λh=>by cases h) (λh=>by cases h)
 (λh=>by cases h)
 (λh=>by cases h) (by decide)
def T16:TI:={ agg:=false,size:=1,bytes:=8,ty:=.bool,zero:=.cons (.lit (.pointer none)) .nil,kind:=0,dflt:=false,elem:=0,flds:=[] }
theorem x2l:TIok Try.prog 16 T16:=qh4 (z:=.pointer none) (by kernel_rfl) rfl rfl (λm ρ=>⟨_,_,rfl,rfl,rfl⟩) (λh=>by cases h) (by decide) (by decide) (by decide) rfl Try.underlying16 (λh=>by cases h) (λh=>by cases h) (λh=>by cases h)
 (λh=>by cases h)
 (λh=>by cases h) (by decide)
def T17:TI:={ agg:=false,size:=1,bytes:=8,ty:=.bool,zero:=.cons (.lit (.pointer none)) .nil,kind:=0,dflt:=false,elem:=0,flds:=[] }
theorem xx0:TIok Try.prog 17 T17:=qh4 (z:=.pointer none) (by kernel_rfl) rfl rfl (λm ρ=>⟨_,_,rfl,rfl,rfl⟩) (λh=>by cases h) (by decide) (by decide) (by decide) rfl Try.underlying17 (λh=>by cases h) (λh=>by cases h) (λh=>by cases h)
 (λh=>by cases h)
 (λh=>by cases h) (by decide)
def T18:TI:={ agg:=true,size:=1,bytes:=8,ty:=.bool,zero:=.cons (.lit (.pointer none)) .nil,kind:=5,dflt:=false,elem:=0,flds:=[(0,17,1)] }
theorem x2m:TIok Try.prog 18 T18:=qh4 (z:=.agg #[.pointer none]) (by kernel_rfl) rfl rfl (λm ρ=>⟨_,_,rfl,rfl,rfl⟩) (λh=>by cases h) (by decide) (by decide) (by decide) rfl Try.underlying18 (λh=>by cases h) (λh=>by cases h) (λh=>by cases h)
 (λh=>by cases h)
 (λ_=>⟨_,Try.underlying18,rfl,λf hf=>by
  simp only[T18,List.mem_cons,List.not_mem_nil,or_false] at hf
  rcases hf with rfl
  ·exact⟨qw8 xx0,by decide⟩⟩) (by decide)
def T19:TI:={ agg:=true,size:=1,bytes:=8,ty:=.bool,zero:=.cons (.lit (.pointer none)) .nil,kind:=5,dflt:=false,elem:=0,flds:=[(0,17,1)] }
theorem x2n:TIok Try.prog 19 T19:=qh4 (z:=.agg #[.pointer none]) (by kernel_rfl) rfl rfl (λm ρ=>⟨_,_,rfl,rfl,rfl⟩) (λh=>by cases h) (by decide) (by decide) (by decide) rfl Try.underlying19 (λh=>by cases h) (λh=>by cases h) (λh=>by cases h)
 (λh=>by cases h)
 (λ_=>⟨_,Try.underlying19,rfl,λf hf=>by
  simp only[T19,List.mem_cons,List.not_mem_nil,or_false] at hf
  rcases hf with rfl
  ·exact⟨qw8 xx0,by decide⟩⟩) (by decide)
def T21:TI:={ agg:=false,size:=1,bytes:=4,ty:=.int .i32,zero:=.cons (.lit (.int .i32 0)) .nil,kind:=0,dflt:=true,elem:=0,flds:=[],isInt:=true }
theorem x2o:TIok Try.prog 21 T21:=qh4 (z:=.int .i32 0) (by kernel_rfl) rfl rfl (λm ρ=>⟨_,_,rfl,rfl,rfl⟩) (λ_ m=>rfl) (by decide) (by decide) (by decide) rfl Try.underlying21 (λh=>by cases h) (λh=>by cases h) (λh=>by cases h)
 (λh=>by cases h)
 (λh=>by cases h) (by decide) (h16:=λ_=>⟨.i32,rfl,Try.underlying21⟩)
def T22:TI:={ agg:=false,size:=1,bytes:=24,ty:=.list (.list (.int .i64)),zero:=.cons (.lit (.slice none 0 0)) .nil,kind:=1,dflt:=true,elem:=24,flds:=[] }
theorem x2p:TIok Try.prog 22 T22:=qh4 (z:=.slice none 0 0) (by kernel_rfl) rfl rfl (λm ρ=>⟨_,_,rfl,rfl,rfl⟩) (λ_ m=>⟨none,0,rfl,Nat.le_refl _,by unfold maxLen; exact Nat.zero_le _,λh=>absurd h (Nat.lt_irrefl 0)⟩) (by decide) (by decide) (by decide) rfl Try.underlying22 (λ_=>Try.underlying22) (λh=>by cases h) (λh=>by cases h)
 (λh=>by cases h)
 (λh=>by cases h) (by decide)
def T23:TI:={ agg:=false,size:=1,bytes:=24,ty:=.list (.list (.int .i64)),zero:=.cons (.lit (.slice none 0 0)) .nil,kind:=1,dflt:=true,elem:=24,flds:=[] }
theorem x1i:TIok Try.prog 23 T23:=qh4 (z:=.slice none 0 0) (by kernel_rfl) rfl rfl (λm ρ=>⟨_,_,rfl,rfl,rfl⟩) (λ_ m=>⟨none,0,rfl,Nat.le_refl _,by unfold maxLen; exact Nat.zero_le _,λh=>absurd h (Nat.lt_irrefl 0)⟩) (by decide) (by decide) (by decide) rfl Try.underlying23 (λ_=>Try.underlying23) (λh=>by cases h) (λh=>by cases h)
 (λh=>by cases h)
 (λh=>by cases h) (by decide)
def T24:TI:={ agg:=false,size:=1,bytes:=24,ty:=.list (.int .i64),zero:=.cons (.lit (.slice none 0 0)) .nil,kind:=1,dflt:=true,elem:=3,flds:=[] }
theorem xu7:TIok Try.prog 24 T24:=qh4 (z:=.slice none 0 0) (by kernel_rfl) rfl rfl (λm ρ=>⟨_,_,rfl,rfl,rfl⟩) (λ_ m=>⟨none,0,rfl,Nat.le_refl _,by unfold maxLen; exact Nat.zero_le _,λh=>absurd h (Nat.lt_irrefl 0)⟩) (by decide) (by decide) (by decide) rfl Try.underlying24 (λ_=>Try.underlying24) (λh=>by cases h) (λh=>by cases h)
 (λh=>by cases h)
 (λh=>by cases h) (by decide)
def T25:TI:={ agg:=false,size:=1,bytes:=8,ty:=.bool,zero:=.cons (.lit .nilFunc) .nil,kind:=0,dflt:=false,elem:=0,flds:=[] }
theorem x2q:TIok Try.prog 25 T25:=qh4 (z:=.nilFunc) (by kernel_rfl) rfl rfl (λm ρ=>⟨_,_,rfl,rfl,rfl⟩) (λh=>by cases h) (by decide) (by decide) (by decide) rfl Try.underlying25 (λh=>by cases h) (λh=>by cases h) (λh=>by cases h)
 (λh=>by cases h)
 (λh=>by cases h) (by decide)
def T26:TI:={ agg:=false,size:=1,bytes:=8,ty:=.bool,zero:=.cons (.lit .nilFunc) .nil,kind:=0,dflt:=false,elem:=0,flds:=[] }
theorem x2r:TIok Try.prog 26 T26:=qh4 (z:=.nilFunc) (by kernel_rfl) rfl rfl (λm ρ=>⟨_,_,rfl,rfl,rfl⟩) (λh=>by cases h) (by decide) (by decide) (by decide) rfl Try.underlying26 (λh=>by cases h) (λh=>by cases h) (λh=>by cases h)
 (λh=>by cases h)
 (λh=>by cases h) (by decide)
def T27:TI:={ agg:=false,size:=1,bytes:=8,ty:=.bool,zero:=.cons (.lit .nilFunc) .nil,kind:=0,dflt:=false,elem:=0,flds:=[] }
theorem x2s:TIok Try.prog 27 T27:=qh4 (z:=.nilFunc) (by kernel_rfl) rfl rfl (λm ρ=>⟨_,_,rfl,rfl,rfl⟩) (λh=>by cases h) (by decide) (by decide) (by decide) rfl Try.underlying27 (λh=>by cases h) (λh=>by cases h) (λh=>by cases h)
 (λh=>by cases h)
 (λh=>by cases h) (by decide)
def T28:TI:={ agg:=false,size:=1,bytes:=24,ty:=.list (.prod (.int .i64) (.int .i64)),zero:=.cons (.lit (.slice none 0 0)) .nil,kind:=1,dflt:=true,elem:=60,flds:=[] }
theorem xx1:TIok Try.prog 28 T28:=qh4 (z:=.slice none 0 0) (by kernel_rfl) rfl rfl (λm ρ=>⟨_,_,rfl,rfl,rfl⟩) (λ_ m=>⟨none,0,rfl,Nat.le_refl _,by unfold maxLen; exact Nat.zero_le _,λh=>absurd h (Nat.lt_irrefl 0)⟩) (by decide) (by decide) (by decide) rfl Try.underlying28 (λ_=>Try.underlying28) (λh=>by cases h) (λh=>by cases h)
 (λh=>by cases h)
 (λh=>by cases h) (by decide)
def T29:TI:={ agg:=true,size:=2,bytes:=48,ty:=.prod (.list (.int .i64)) (.list (.prod (.int .i64) (.int .i64))),zero:=.cons (.lit (.slice none 0 0)) (.cons (.lit (.slice none 0 0)) .nil),kind:=5,dflt:=true,elem:=0,flds:=[(0,24,1),(1,28,1)] }
theorem x2t:TIok Try.prog 29 T29:=qh4 (z:=.agg #[.slice none 0 0,.slice none 0 0]) (by kernel_rfl) rfl rfl (λm ρ=>⟨_,_,rfl,rfl,⟨_,_,rfl,rfl,rfl⟩⟩) (λ_ m=>⟨[.slice none 0 0],[.slice none 0 0],rfl,⟨none,0,rfl,Nat.le_refl _,by unfold maxLen; exact Nat.zero_le _,λh=>absurd h (Nat.lt_irrefl 0)⟩,⟨none,0,rfl,Nat.le_refl _,by unfold maxLen; exact Nat.zero_le _,λh=>absurd h (Nat.lt_irrefl 0)⟩⟩) (by decide) (by decide) (by decide) rfl Try.underlying29 (λh=>by cases h) (λh=>by cases h) (λh=>by cases h)
 (λh=>by cases h)
 (λ_=>⟨_,Try.underlying29,rfl,λf hf=>by
  simp only[T29,List.mem_cons,List.not_mem_nil,or_false] at hf
  rcases hf with rfl | rfl
  ·exact⟨qw8 xu7,by decide⟩
  ·exact⟨qw8 xx1,by decide⟩⟩) (by decide)
def T30:TI:={ agg:=true,size:=2,bytes:=48,ty:=.prod (.list (.int .i64)) (.list (.prod (.int .i64) (.int .i64))),zero:=.cons (.lit (.slice none 0 0)) (.cons (.lit (.slice none 0 0)) .nil),kind:=5,dflt:=true,elem:=0,flds:=[(0,24,1),(1,28,1)] }
theorem x2u:TIok Try.prog 30 T30:=qh4 (z:=.agg #[.slice none 0 0,.slice none 0 0]) (by kernel_rfl) rfl rfl (λm ρ=>⟨_,_,rfl,rfl,⟨_,_,rfl,rfl,rfl⟩⟩) (λ_ m=>⟨[.slice none 0 0],[.slice none 0 0],rfl,⟨none,0,rfl,Nat.le_refl _,by unfold maxLen; exact Nat.zero_le _,λh=>absurd h (Nat.lt_irrefl 0)⟩,⟨none,0,rfl,Nat.le_refl _,by unfold maxLen; exact Nat.zero_le _,λh=>absurd h (Nat.lt_irrefl 0)⟩⟩) (by decide) (by decide) (by decide) rfl Try.underlying30 (λh=>by cases h) (λh=>by cases h) (λh=>by cases h)
 (λh=>by cases h)
 (λ_=>⟨_,Try.underlying30,rfl,λf hf=>by
  simp only[T30,List.mem_cons,List.not_mem_nil,or_false] at hf
  rcases hf with rfl | rfl
  ·exact⟨qw8 xu7,by decide⟩
  ·exact⟨qw8 xx1,by decide⟩⟩) (by decide)
def T31:TI:={ agg:=false,size:=1,bytes:=8,ty:=.int .i64,zero:=.cons (.lit (.int .i64 0)) .nil,kind:=0,dflt:=true,elem:=0,flds:=[],isInt:=true }
theorem x2v:TIok Try.prog 31 T31:=qh4 (z:=.int .i64 0) (by kernel_rfl) rfl rfl (λm ρ=>⟨_,_,rfl,rfl,rfl⟩) (λ_ m=>rfl) (by decide) (by decide) (by decide) rfl Try.underlying31 (λh=>by cases h) (λh=>by cases h) (λh=>by cases h)
 (λh=>by cases h)
 (λh=>by cases h) (by decide) (h16:=λ_=>⟨.i64,rfl,Try.underlying31⟩)
def T33:TI:={ agg:=false,size:=1,bytes:=8,ty:=.bool,zero:=.cons (.lit .nilFunc) .nil,kind:=0,dflt:=false,elem:=0,flds:=[] }
theorem x2w:TIok Try.prog 33 T33:=qh4 (z:=.nilFunc) (by kernel_rfl) rfl rfl (λm ρ=>⟨_,_,rfl,rfl,rfl⟩) (λh=>by cases h) (by decide) (by decide) (by decide) rfl Try.underlying33 (λh=>by cases h) (λh=>by cases h) (λh=>by cases h)
 (λh=>by cases h)
 (λh=>by cases h) (by decide)
def T34:TI:={ agg:=false,size:=1,bytes:=8,ty:=.bool,zero:=.cons (.lit .nilFunc) .nil,kind:=0,dflt:=false,elem:=0,flds:=[] }
theorem x2x:TIok Try.prog 34 T34:=qh4 (z:=.nilFunc) (by kernel_rfl) rfl rfl (λm ρ=>⟨_,_,rfl,rfl,rfl⟩) (λh=>by cases h) (by decide) (by decide) (by decide) rfl Try.underlying34 (λh=>by cases h) (λh=>by cases h) (λh=>by cases h)
 (λh=>by cases h)
 (λh=>by cases h) (by decide)
def T36:TI:={ agg:=false,size:=1,bytes:=8,ty:=.bool,zero:=.cons (.lit .nilFunc) .nil,kind:=0,dflt:=false,elem:=0,flds:=[] }
theorem x2y:TIok Try.prog 36 T36:=qh4 (z:=.nilFunc) (by kernel_rfl) rfl rfl (λm ρ=>⟨_,_,rfl,rfl,rfl⟩) (λh=>by cases h) (by decide) (by decide) (by decide) rfl Try.underlying36 (λh=>by cases h) (λh=>by cases h) (λh=>by cases h)
 (λh=>by cases h)
 (λh=>by cases h) (by decide)
def T39:TI:={ agg:=false,size:=1,bytes:=8,ty:=.bool,zero:=.cons (.lit .nilFunc) .nil,kind:=0,dflt:=false,elem:=0,flds:=[] }
theorem x2z:TIok Try.prog 39 T39:=qh4 (z:=.nilFunc) (by kernel_rfl) rfl rfl (λm ρ=>⟨_,_,rfl,rfl,rfl⟩) (λh=>by cases h) (by decide) (by decide) (by decide) rfl Try.underlying39 (λh=>by cases h) (λh=>by cases h) (λh=>by cases h)
 (λh=>by cases h)
 (λh=>by cases h) (by decide)
def T44:TI:={ agg:=false,size:=1,bytes:=24,ty:=.list (.prod (.list (.int .i64)) (.list (.prod (.int .i64) (.int .i64)))),zero:=.cons (.lit (.slice none 0 0)) .nil,kind:=1,dflt:=true,elem:=30,flds:=[] }
theorem x21:TIok Try.prog 44 T44:=qh4 (z:=.slice none 0 0) (by kernel_rfl) rfl rfl (λm ρ=>⟨_,_,rfl,rfl,rfl⟩) (λ_ m=>⟨none,0,rfl,Nat.le_refl _,by unfold maxLen; exact Nat.zero_le _,λh=>absurd h (Nat.lt_irrefl 0)⟩) (by decide) (by decide) (by decide) rfl Try.underlying44 (λ_=>Try.underlying44) (λh=>by cases h) (λh=>by cases h)
 (λh=>by cases h)
 (λh=>by cases h) (by decide)
def T49:TI:={ agg:=false,size:=1,bytes:=8,ty:=.bool,zero:=.cons (.lit .nilFunc) .nil,kind:=0,dflt:=false,elem:=0,flds:=[] }
theorem x22:TIok Try.prog 49 T49:=qh4 (z:=.nilFunc) (by kernel_rfl) rfl rfl (λm ρ=>⟨_,_,rfl,rfl,rfl⟩) (λh=>by cases h) (by decide) (by decide) (by decide) rfl Try.underlying49 (λh=>by cases h) (λh=>by cases h) (λh=>by cases h)
 (λh=>by cases h)
 (λh=>by cases h) (by decide)
def T58:TI:={ agg:=false,size:=1,bytes:=8,ty:=.bool,zero:=.cons (.lit .nilFunc) .nil,kind:=0,dflt:=false,elem:=0,flds:=[] }
theorem x23:TIok Try.prog 58 T58:=qh4 (z:=.nilFunc) (by kernel_rfl) rfl rfl (λm ρ=>⟨_,_,rfl,rfl,rfl⟩) (λh=>by cases h) (by decide) (by decide) (by decide) rfl Try.underlying58 (λh=>by cases h) (λh=>by cases h) (λh=>by cases h)
 (λh=>by cases h)
 (λh=>by cases h) (by decide)
def T60:TI:={ agg:=true,size:=2,bytes:=16,ty:=.prod (.int .i64) (.int .i64),zero:=.cons (.lit (.int .i64 0)) (.cons (.lit (.int .i64 0)) .nil),kind:=5,dflt:=true,elem:=0,flds:=[(0,3,1),(1,3,1)],eq2:=true }
theorem x26:TIok Try.prog 60 T60:=qh4 (z:=.agg #[.int .i64 0,.int .i64 0]) (by kernel_rfl) rfl rfl (λm ρ=>⟨_,_,rfl,rfl,⟨_,_,rfl,rfl,rfl⟩⟩) (λ_ m=>⟨[.int .i64 0],[.int .i64 0],rfl,rfl,rfl⟩) (by decide) (by decide) (by decide) rfl Try.underlying60 (λh=>by cases h) (λh=>by cases h) (λh=>by cases h)
 (λh=>by cases h)
 (λ_=>⟨_,Try.underlying60,rfl,λf hf=>by
  simp only[T60,List.mem_cons,List.not_mem_nil,or_false] at hf
  rcases hf with rfl | rfl
  ·exact⟨qw8 ti3,by decide⟩
  ·exact⟨qw8 ti3,by decide⟩⟩) (by decide) (λ_=>w0x Try.underlying60 (by decide) (by decide) rfl rfl Try.underlying3 Try.underlying3 (by kernel_rfl) (by kernel_rfl))
def T66:TI:={ agg:=false,size:=1,bytes:=8,ty:=.bool,zero:=.cons (.lit .nilFunc) .nil,kind:=0,dflt:=false,elem:=0,flds:=[] }
theorem x3a:TIok Try.prog 66 T66:=qh4 (z:=.nilFunc) (by kernel_rfl) rfl rfl (λm ρ=>⟨_,_,rfl,rfl,rfl⟩) (λh=>by cases h) (by decide) (by decide) (by decide) rfl Try.underlying66 (λh=>by cases h) (λh=>by cases h) (λh=>by cases h)
 (λh=>by cases h)
 (λh=>by cases h) (by decide)
def T68:TI:={ agg:=false,size:=1,bytes:=8,ty:=.bool,zero:=.cons (.lit .nilFunc) .nil,kind:=0,dflt:=false,elem:=0,flds:=[] }
theorem x3b:TIok Try.prog 68 T68:=qh4 (z:=.nilFunc) (by kernel_rfl) rfl rfl (λm ρ=>⟨_,_,rfl,rfl,rfl⟩) (λh=>by cases h) (by decide) (by decide) (by decide) rfl Try.underlying68 (λh=>by cases h) (λh=>by cases h) (λh=>by cases h)
 (λh=>by cases h)
 (λh=>by cases h) (by decide)
def T70:TI:={ agg:=true,size:=2,bytes:=48,ty:=.prod (.list (.list (.int .i64))) (.list (.int .i64)),zero:=.cons (.lit (.slice none 0 0)) (.cons (.lit (.slice none 0 0)) .nil),kind:=5,dflt:=true,elem:=0,flds:=[(0,23,1),(1,24,1)] }
theorem x3c:TIok Try.prog 70 T70:=qh4 (z:=.agg #[.slice none 0 0,.slice none 0 0]) (by kernel_rfl) rfl rfl (λm ρ=>⟨_,_,rfl,rfl,⟨_,_,rfl,rfl,rfl⟩⟩) (λ_ m=>⟨[.slice none 0 0],[.slice none 0 0],rfl,⟨none,0,rfl,Nat.le_refl _,by unfold maxLen; exact Nat.zero_le _,λh=>absurd h (Nat.lt_irrefl 0)⟩,⟨none,0,rfl,Nat.le_refl _,by unfold maxLen; exact Nat.zero_le _,λh=>absurd h (Nat.lt_irrefl 0)⟩⟩) (by decide) (by decide) (by decide) rfl Try.underlying70 (λh=>by cases h) (λh=>by cases h) (λh=>by cases h)
 (λh=>by cases h)
 (λ_=>⟨_,Try.underlying70,rfl,λf hf=>by
  simp only[T70,List.mem_cons,List.not_mem_nil,or_false] at hf
  rcases hf with rfl | rfl
  ·exact⟨qw8 x1i,by decide⟩
  ·exact⟨qw8 xu7,by decide⟩⟩) (by decide)
def T75:TI:={ agg:=false,size:=1,bytes:=8,ty:=.bool,zero:=.cons (.lit .nilFunc) .nil,kind:=0,dflt:=false,elem:=0,flds:=[] }
theorem x3d:TIok Try.prog 75 T75:=qh4 (z:=.nilFunc) (by kernel_rfl) rfl rfl (λm ρ=>⟨_,_,rfl,rfl,rfl⟩) (λh=>by cases h) (by decide) (by decide) (by decide) rfl Try.underlying75 (λh=>by cases h) (λh=>by cases h) (λh=>by cases h)
 (λh=>by cases h)
 (λh=>by cases h) (by decide)
def T76:TI:={ agg:=false,size:=1,bytes:=8,ty:=.bool,zero:=.cons (.lit .nilFunc) .nil,kind:=0,dflt:=false,elem:=0,flds:=[] }
theorem x3e:TIok Try.prog 76 T76:=qh4 (z:=.nilFunc) (by kernel_rfl) rfl rfl (λm ρ=>⟨_,_,rfl,rfl,rfl⟩) (λh=>by cases h) (by decide) (by decide) (by decide) rfl Try.underlying76 (λh=>by cases h) (λh=>by cases h) (λh=>by cases h)
 (λh=>by cases h)
 (λh=>by cases h) (by decide)
def T79:TI:={ agg:=false,size:=1,bytes:=8,ty:=.bool,zero:=.cons (.lit .nilFunc) .nil,kind:=0,dflt:=false,elem:=0,flds:=[] }
theorem x3f:TIok Try.prog 79 T79:=qh4 (z:=.nilFunc) (by kernel_rfl) rfl rfl (λm ρ=>⟨_,_,rfl,rfl,rfl⟩) (λh=>by cases h) (by decide) (by decide) (by decide) rfl Try.underlying79 (λh=>by cases h) (λh=>by cases h) (λh=>by cases h)
 (λh=>by cases h)
 (λh=>by cases h) (by decide)
def T82:TI:={ agg:=false,size:=1,bytes:=8,ty:=.bool,zero:=.cons (.lit .nilFunc) .nil,kind:=0,dflt:=false,elem:=0,flds:=[] }
theorem x3g:TIok Try.prog 82 T82:=qh4 (z:=.nilFunc) (by kernel_rfl) rfl rfl (λm ρ=>⟨_,_,rfl,rfl,rfl⟩) (λh=>by cases h) (by decide) (by decide) (by decide) rfl Try.underlying82 (λh=>by cases h) (λh=>by cases h) (λh=>by cases h)
 (λh=>by cases h)
 (λh=>by cases h) (by decide)
def T92:TI:={ agg:=false,size:=1,bytes:=8,ty:=.bool,zero:=.cons (.lit .nilFunc) .nil,kind:=0,dflt:=false,elem:=0,flds:=[] }
theorem x3h:TIok Try.prog 92 T92:=qh4 (z:=.nilFunc) (by kernel_rfl) rfl rfl (λm ρ=>⟨_,_,rfl,rfl,rfl⟩) (λh=>by cases h) (by decide) (by decide) (by decide) rfl Try.underlying92 (λh=>by cases h) (λh=>by cases h) (λh=>by cases h)
 (λh=>by cases h)
 (λh=>by cases h) (by decide)
def T93:TI:={ agg:=false,size:=1,bytes:=8,ty:=.bool,zero:=.cons (.lit .nilFunc) .nil,kind:=0,dflt:=false,elem:=0,flds:=[] }
theorem x3i:TIok Try.prog 93 T93:=qh4 (z:=.nilFunc) (by kernel_rfl) rfl rfl (λm ρ=>⟨_,_,rfl,rfl,rfl⟩) (λh=>by cases h) (by decide) (by decide) (by decide) rfl Try.underlying93 (λh=>by cases h) (λh=>by cases h) (λh=>by cases h)
 (λh=>by cases h)
 (λh=>by cases h) (by decide)
def T95:TI:={ agg:=false,size:=1,bytes:=8,ty:=.bool,zero:=.cons (.lit .nilFunc) .nil,kind:=0,dflt:=false,elem:=0,flds:=[] }
theorem x3j:TIok Try.prog 95 T95:=qh4 (z:=.nilFunc) (by kernel_rfl) rfl rfl (λm ρ=>⟨_,_,rfl,rfl,rfl⟩) (λh=>by cases h) (by decide) (by decide) (by decide) rfl Try.underlying95 (λh=>by cases h) (λh=>by cases h) (λh=>by cases h)
 (λh=>by cases h)
 (λh=>by cases h) (by decide)
def T99:TI:={ agg:=false,size:=1,bytes:=8,ty:=.bool,zero:=.cons (.lit .nilFunc) .nil,kind:=0,dflt:=false,elem:=0,flds:=[] }
theorem x3k:TIok Try.prog 99 T99:=qh4 (z:=.nilFunc) (by kernel_rfl) rfl rfl (λm ρ=>⟨_,_,rfl,rfl,rfl⟩) (λh=>by cases h) (by decide) (by decide) (by decide) rfl Try.underlying99 (λh=>by cases h) (λh=>by cases h) (λh=>by cases h)
 (λh=>by cases h)
 (λh=>by cases h) (by decide)
def x1j:TI:={ agg:=false,size:=1,bytes:=8,ty:=.bool,zero:=.cons (.lit .nilFunc) .nil,kind:=0,dflt:=false,elem:=0,flds:=[] }
theorem xx2:TIok Try.prog 100 x1j:=qh4 (z:=.nilFunc) (by kernel_rfl) rfl rfl (λm ρ=>⟨_,_,rfl,rfl,rfl⟩) (λh=>by cases h) (by decide) (by decide) (by decide) rfl Try.underlying100 (λh=>by cases h) (λh=>by cases h) (λh=>by cases h)
 (λh=>by cases h)
 (λh=>by cases h) (by decide)
def x1k:TI:={ agg:=false,size:=1,bytes:=8,ty:=.bool,zero:=.cons (.lit .nilFunc) .nil,kind:=0,dflt:=false,elem:=0,flds:=[] }
theorem xx3:TIok Try.prog 102 x1k:=qh4 (z:=.nilFunc) (by kernel_rfl) rfl rfl (λm ρ=>⟨_,_,rfl,rfl,rfl⟩) (λh=>by cases h) (by decide) (by decide) (by decide) rfl Try.underlying102 (λh=>by cases h) (λh=>by cases h) (λh=>by cases h)
 (λh=>by cases h)
 (λh=>by cases h) (by decide)
def x1l:TI:={ agg:=false,size:=1,bytes:=8,ty:=.bool,zero:=.cons (.lit .nilFunc) .nil,kind:=0,dflt:=false,elem:=0,flds:=[] }
theorem xx4:TIok Try.prog 105 x1l:=qh4 (z:=.nilFunc) (by kernel_rfl) rfl rfl (λm ρ=>⟨_,_,rfl,rfl,rfl⟩) (λh=>by cases h) (by decide) (by decide) (by decide) rfl Try.underlying105 (λh=>by cases h) (λh=>by cases h) (λh=>by cases h)
 (λh=>by cases h)
 (λh=>by cases h) (by decide)
def x1m:TI:={ agg:=false,size:=1,bytes:=8,ty:=.bool,zero:=.cons (.lit .nilFunc) .nil,kind:=0,dflt:=false,elem:=0,flds:=[] }
theorem xx5:TIok Try.prog 110 x1m:=qh4 (z:=.nilFunc) (by kernel_rfl) rfl rfl (λm ρ=>⟨_,_,rfl,rfl,rfl⟩) (λh=>by cases h) (by decide) (by decide) (by decide) rfl Try.underlying110 (λh=>by cases h) (λh=>by cases h) (λh=>by cases h)
 (λh=>by cases h)
 (λh=>by cases h) (by decide)
def x1n:TI:={ agg:=false,size:=1,bytes:=8,ty:=.bool,zero:=.cons (.lit .nilFunc) .nil,kind:=0,dflt:=false,elem:=0,flds:=[] }
theorem xx6:TIok Try.prog 113 x1n:=qh4 (z:=.nilFunc) (by kernel_rfl) rfl rfl (λm ρ=>⟨_,_,rfl,rfl,rfl⟩) (λh=>by cases h) (by decide) (by decide) (by decide) rfl Try.underlying113 (λh=>by cases h) (λh=>by cases h) (λh=>by cases h)
 (λh=>by cases h)
 (λh=>by cases h) (by decide)
def x1o:TI:={ agg:=false,size:=1,bytes:=8,ty:=.bool,zero:=.cons (.lit .nilFunc) .nil,kind:=0,dflt:=false,elem:=0,flds:=[] }
theorem xx7:TIok Try.prog 114 x1o:=qh4 (z:=.nilFunc) (by kernel_rfl) rfl rfl (λm ρ=>⟨_,_,rfl,rfl,rfl⟩) (λh=>by cases h) (by decide) (by decide) (by decide) rfl Try.underlying114 (λh=>by cases h) (λh=>by cases h) (λh=>by cases h)
 (λh=>by cases h)
 (λh=>by cases h) (by decide)
def x1p:TI:={ agg:=false,size:=1,bytes:=8,ty:=.bool,zero:=.cons (.lit .nilFunc) .nil,kind:=0,dflt:=false,elem:=0,flds:=[] }
theorem xx8:TIok Try.prog 115 x1p:=qh4 (z:=.nilFunc) (by kernel_rfl) rfl rfl (λm ρ=>⟨_,_,rfl,rfl,rfl⟩) (λh=>by cases h) (by decide) (by decide) (by decide) rfl Try.underlying115 (λh=>by cases h) (λh=>by cases h) (λh=>by cases h)
 (λh=>by cases h)
 (λh=>by cases h) (by decide)
def x1q:TI:={ agg:=false,size:=1,bytes:=8,ty:=.bool,zero:=.cons (.lit .nilFunc) .nil,kind:=0,dflt:=false,elem:=0,flds:=[] }
theorem xx9:TIok Try.prog 122 x1q:=qh4 (z:=.nilFunc) (by kernel_rfl) rfl rfl (λm ρ=>⟨_,_,rfl,rfl,rfl⟩) (λh=>by cases h) (by decide) (by decide) (by decide) rfl Try.underlying122 (λh=>by cases h) (λh=>by cases h) (λh=>by cases h)
 (λh=>by cases h)
 (λh=>by cases h) (by decide)
def x1r:TI:={ agg:=false,size:=1,bytes:=8,ty:=.bool,zero:=.cons (.lit .nilFunc) .nil,kind:=0,dflt:=false,elem:=0,flds:=[] }
theorem xy0:TIok Try.prog 131 x1r:=qh4 (z:=.nilFunc) (by kernel_rfl) rfl rfl (λm ρ=>⟨_,_,rfl,rfl,rfl⟩) (λh=>by cases h) (by decide) (by decide) (by decide) rfl Try.underlying131 (λh=>by cases h) (λh=>by cases h) (λh=>by cases h)
 (λh=>by cases h)
 (λh=>by cases h) (by decide)
def x1s:TI:={ agg:=false,size:=1,bytes:=8,ty:=.bool,zero:=.cons (.lit .nilFunc) .nil,kind:=0,dflt:=false,elem:=0,flds:=[] }
theorem xy1:TIok Try.prog 134 x1s:=qh4 (z:=.nilFunc) (by kernel_rfl) rfl rfl (λm ρ=>⟨_,_,rfl,rfl,rfl⟩) (λh=>by cases h) (by decide) (by decide) (by decide) rfl Try.underlying134 (λh=>by cases h) (λh=>by cases h) (λh=>by cases h)
 (λh=>by cases h)
 (λh=>by cases h) (by decide)
def x1t:TI:={ agg:=false,size:=1,bytes:=8,ty:=.bool,zero:=.cons (.lit .nilFunc) .nil,kind:=0,dflt:=false,elem:=0,flds:=[] }
theorem xy2:TIok Try.prog 143 x1t:=qh4 (z:=.nilFunc) (by kernel_rfl) rfl rfl (λm ρ=>⟨_,_,rfl,rfl,rfl⟩) (λh=>by cases h) (by decide) (by decide) (by decide) rfl Try.underlying143 (λh=>by cases h) (λh=>by cases h) (λh=>by cases h)
 (λh=>by cases h)
 (λh=>by cases h) (by decide)
def x1u:TI:={ agg:=false,size:=1,bytes:=8,ty:=.bool,zero:=.cons (.lit .nilFunc) .nil,kind:=0,dflt:=false,elem:=0,flds:=[] }
theorem xy3:TIok Try.prog 147 x1u:=qh4 (z:=.nilFunc) (by kernel_rfl) rfl rfl (λm ρ=>⟨_,_,rfl,rfl,rfl⟩) (λh=>by cases h) (by decide) (by decide) (by decide) rfl Try.underlying147 (λh=>by cases h) (λh=>by cases h) (λh=>by cases h)
 (λh=>by cases h)
 (λh=>by cases h) (by decide)
def x1v:TI:={ agg:=false,size:=1,bytes:=4,ty:=.int .i32,zero:=.cons (.lit (.int .i32 0)) .nil,kind:=0,dflt:=true,elem:=0,flds:=[],isInt:=true }
theorem xy4:TIok Try.prog 160 x1v:=qh4 (z:=.int .i32 0) (by kernel_rfl) rfl rfl (λm ρ=>⟨_,_,rfl,rfl,rfl⟩) (λ_ m=>rfl) (by decide) (by decide) (by decide) rfl Try.underlying160 (λh=>by cases h) (λh=>by cases h) (λh=>by cases h)
 (λh=>by cases h)
 (λh=>by cases h) (by decide) (h16:=λ_=>⟨.i32,rfl,Try.underlying160⟩)
def tys:List (Nat × TI):=[(1,T1),(2,T2),(3,T3),(4,T4),(5,T5),(6,T6),(7,T7),(8,T8),(9,T9),(10,T10),(11,T11),(12,T12),(14,T14),(15,T15),(16,T16),(17,T17),(18,T18),(19,T19),(21,T21),(22,T22),(23,T23),(24,T24),(25,T25),(26,T26),(27,T27),(28,T28),(29,T29),(30,T30),(31,T31),(33,T33),(34,T34),(36,T36),(39,T39),(44,T44),(49,T49),(58,T58),(60,T60),(66,T66),(68,T68),(70,T70),(75,T75),(76,T76),(79,T79),(82,T82),(92,T92),(93,T93),(95,T95),(99,T99),(100,x1j),(102,x1k),(105,x1l),(110,x1m),(113,x1n),(114,x1o),(115,x1p),(122,x1q),(131,x1r),(134,x1s),(143,x1t),(147,x1u),(160,x1v)]
theorem qb7 {α:Type} {i j:Nat} {v w:α} {l:List (Nat × α)} (h:find ((j,v) :: l) i=some w):(i=j/\w=v)\/find l i=some w:=by
 simp only[find] at h
 split at h
 ·rename_i e; exact .inl ⟨(Nat.eq_of_beq_eq_true e).symm,by injection h with h; exact h.symm⟩
 ·exact .inr h
theorem q3d:∀t T,find tys t=some T->TIok Try.prog t T:=by
 intro t T h
 unfold tys at h
 rcases qb7 h with⟨rfl,rfl⟩ | h
 ·exact ti1
 rcases qb7 h with⟨rfl,rfl⟩ | h
 ·exact ti2
 rcases qb7 h with⟨rfl,rfl⟩ | h
 ·exact ti3
 rcases qb7 h with⟨rfl,rfl⟩ | h
 ·exact ti4
 rcases qb7 h with⟨rfl,rfl⟩ | h
 ·exact ti5
 rcases qb7 h with⟨rfl,rfl⟩ | h
 ·exact ti6
 rcases qb7 h with⟨rfl,rfl⟩ | h
 ·exact ti7
 rcases qb7 h with⟨rfl,rfl⟩ | h
 ·exact ti8
 rcases qb7 h with⟨rfl,rfl⟩ | h
 ·exact ti9
 rcases qb7 h with⟨rfl,rfl⟩ | h
 ·exact x2h
 rcases qb7 h with⟨rfl,rfl⟩ | h
 ·exact x2i
 rcases qb7 h with⟨rfl,rfl⟩ | h
 ·exact x1h
 rcases qb7 h with⟨rfl,rfl⟩ | h
 ·exact x2j
 rcases qb7 h with⟨rfl,rfl⟩ | h
 ·exact x2k
 rcases qb7 h with⟨rfl,rfl⟩ | h
 ·exact x2l
 rcases qb7 h with⟨rfl,rfl⟩ | h
 ·exact xx0
 rcases qb7 h with⟨rfl,rfl⟩ | h
 ·exact x2m
 rcases qb7 h with⟨rfl,rfl⟩ | h
 ·exact x2n
 rcases qb7 h with⟨rfl,rfl⟩ | h
 ·exact x2o
 rcases qb7 h with⟨rfl,rfl⟩ | h
 ·exact x2p
 rcases qb7 h with⟨rfl,rfl⟩ | h
 ·exact x1i
 rcases qb7 h with⟨rfl,rfl⟩ | h
 ·exact xu7
 rcases qb7 h with⟨rfl,rfl⟩ | h
 ·exact x2q
 rcases qb7 h with⟨rfl,rfl⟩ | h
 ·exact x2r
 rcases qb7 h with⟨rfl,rfl⟩ | h
 ·exact x2s
 rcases qb7 h with⟨rfl,rfl⟩ | h
 ·exact xx1
 rcases qb7 h with⟨rfl,rfl⟩ | h
 ·exact x2t
 rcases qb7 h with⟨rfl,rfl⟩ | h
 ·exact x2u
 rcases qb7 h with⟨rfl,rfl⟩ | h
 ·exact x2v
 rcases qb7 h with⟨rfl,rfl⟩ | h
 ·exact x2w
 rcases qb7 h with⟨rfl,rfl⟩ | h
 ·exact x2x
 rcases qb7 h with⟨rfl,rfl⟩ | h
 ·exact x2y
 rcases qb7 h with⟨rfl,rfl⟩ | h
 ·exact x2z
 rcases qb7 h with⟨rfl,rfl⟩ | h
 ·exact x21
 rcases qb7 h with⟨rfl,rfl⟩ | h
 ·exact x22
 rcases qb7 h with⟨rfl,rfl⟩ | h
 ·exact x23
 rcases qb7 h with⟨rfl,rfl⟩ | h
 ·exact x26
 rcases qb7 h with⟨rfl,rfl⟩ | h
 ·exact x3a
 rcases qb7 h with⟨rfl,rfl⟩ | h
 ·exact x3b
 rcases qb7 h with⟨rfl,rfl⟩ | h
 ·exact x3c
 rcases qb7 h with⟨rfl,rfl⟩ | h
 ·exact x3d
 rcases qb7 h with⟨rfl,rfl⟩ | h
 ·exact x3e
 rcases qb7 h with⟨rfl,rfl⟩ | h
 ·exact x3f
 rcases qb7 h with⟨rfl,rfl⟩ | h
 ·exact x3g
 rcases qb7 h with⟨rfl,rfl⟩ | h
 ·exact x3h
 rcases qb7 h with⟨rfl,rfl⟩ | h
 ·exact x3i
 rcases qb7 h with⟨rfl,rfl⟩ | h
 ·exact x3j
 rcases qb7 h with⟨rfl,rfl⟩ | h
 ·exact x3k
 rcases qb7 h with⟨rfl,rfl⟩ | h
 ·exact xx2
 rcases qb7 h with⟨rfl,rfl⟩ | h
 ·exact xx3
 rcases qb7 h with⟨rfl,rfl⟩ | h
 ·exact xx4
 rcases qb7 h with⟨rfl,rfl⟩ | h
 ·exact xx5
 rcases qb7 h with⟨rfl,rfl⟩ | h
 ·exact xx6
 rcases qb7 h with⟨rfl,rfl⟩ | h
 ·exact xx7
 rcases qb7 h with⟨rfl,rfl⟩ | h
 ·exact xx8
 rcases qb7 h with⟨rfl,rfl⟩ | h
 ·exact xx9
 rcases qb7 h with⟨rfl,rfl⟩ | h
 ·exact xy0
 rcases qb7 h with⟨rfl,rfl⟩ | h
 ·exact xy1
 rcases qb7 h with⟨rfl,rfl⟩ | h
 ·exact xy2
 rcases qb7 h with⟨rfl,rfl⟩ | h
 ·exact xy3
 rcases qb7 h with⟨rfl,rfl⟩ | h
 ·exact xy4
 cases h
end Go.Proofs.Ytdibdlelmkcccaa
