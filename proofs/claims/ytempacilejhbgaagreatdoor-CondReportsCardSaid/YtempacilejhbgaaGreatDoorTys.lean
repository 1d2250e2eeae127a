/- What the table of this seat says of its types, for the engine. Printed by program (gentys.py). No condition. -/
import Derived.Test.YtempacilejhbgaaGreatDoorEng3
import Derived.Test.YtempacilejhbgaaGreatDoorProg
set_option linter.unusedVariables false
set_option linter.unusedSimpArgs false
namespace Go.Proofs.YtempacilejhbgaaGreatDoor
open Go Go.RowKit Eng
theorem xi9 {P:Program} {t:Nat} {z:Value} (h:(P.info? t).map (λi=>i.zero)=some (some z)):∃i,P.info? t=some i/\i.zero=some z:=by
 cases hi:P.info? t with
 | none=>rw[hi] at h; cases h
 | some i=>rw[hi] at h; exact⟨i,rfl,Option.some.inj h⟩
theorem qg2 {P:Program} {t:Nat} {T:TI} {z:Value} {d:TypeDesc} (h1:(P.info? t).map (λi=>(i.size,i.bytes,i.zero))=some (T.size,T.bytes,some z)) (hz:z.cells.size=T.size) (h2:z.cells.toList.all (·.oneCell')=true)
  (h3:∀m ρ,T.zero.ok P m ρ z.cells.toList) (h4:T.dflt=true->∀m,Rd m T.ty T.ty.dflt z.cells.toList) (h5:T.bytes<=1000000) (h6:T.size≠0) (h7:T.size<=10000) (h8:(match d with | .struct _ | .array _ _=>true | _=>false)=T.agg) (hu:P.underlying t=some d)
  (h9:T.kind=1->P.underlying t=some (.slice T.elem)) (h10:T.kind=2->P.underlying t=some .string) (h11:T.kind=3->P.underlying t=some .bool)
  (h12:T.kind=4->∃n sz,P.underlying t=some (.array n T.elem)/\(∃j,P.info? T.elem=some j/\j.size=sz)/\sz≠0/\∀(f:Nat) (fl:Nat × Nat × Nat),T.flds[f]? = some fl->fl=(f*sz,T.elem,sz)/\f<n)
  (h13:T.kind=5->∃fields,P.underlying t=some (.struct fields)/\fields.toList.map (λF=>(F.offset,F.type))=T.flds.map (λf=>(f.1,f.2.1))/\∀f∈T.flds,(∃j,P.info? f.2.1=some j/\j.size=f.2.2)/\f.2.2≠0) (h14:T.kind<=5) (h15:T.eq2=true->Eq2 P t:=by(intro h; cases h)) (h16:T.isInt=true->∃k,T.ty=.int k/\P.underlying t=some (.int k):=by(intro h; cases h))
  (h17:∀eb,T.bld=some eb->∃i,P.info? t=some i/\i.zero=some (.agg #[.pointer none,.slice none 0 0]):=by(intro eb h; cases h)):TIok P t T:=by
 refine⟨?_,h5,h6,h7,⟨d,hu,h8⟩,h9,h10,h11,h12,h13,h14,h15,h16,h17⟩
 cases hi:P.info? t with
 | none=>rw[hi] at h1; cases h1
 | some i=>
  rw[hi] at h1
  simp only[Option.map_some,Option.some.injEq,Prod.mk.injEq] at h1
  exact⟨i,z,rfl,h1.1,h1.2.1,h1.2.2,hz,h2,h3,h4⟩
theorem qs7 {P:Program} {t:Nat} {T:TI} (h:TIok P t T):∃j,P.info? t=some j/\j.size=T.size:=by
 obtain⟨i,z,h1,h2,_⟩:=h.info
 exact⟨i,h1,h2⟩
def T1:TI:={ agg:=false,size:=1,bytes:=8,ty:=.bool,zero:=.cons (.lit .nilFunc) .nil,kind:=0,dflt:=false,elem:=0,flds:=[] }
theorem ti1:TIok Tryz.prog 1 T1:=qg2 (z:=.nilFunc) (by kernel_rfl) rfl rfl (λm ρ=>⟨_,_,rfl,rfl,rfl⟩) (λh=>by cases h) (by decide) (by decide) (by decide) rfl Tryz.underlying1 (λh=>by cases h) (λh=>by cases h) (λh=>by cases h)
 (λh=>by cases h)
 (λh=>by cases h) (by decide)
def T2:TI:={ agg:=false,size:=1,bytes:=8,ty:=.int .i64,zero:=.cons (.lit (.int .i64 0)) .nil,kind:=0,dflt:=true,elem:=0,flds:=[],isInt:=true }
theorem ti2:TIok Tryz.prog 2 T2:=qg2 (z:=.int .i64 0) (by kernel_rfl) rfl rfl (λm ρ=>⟨_,_,rfl,rfl,rfl⟩) (λ_ m=>rfl) (by decide) (by decide) (by decide) rfl Tryz.underlying2 (λh=>by cases h) (λh=>by cases h) (λh=>by cases h)
 (λh=>by cases h)
 (λh=>by cases h) (by decide) (h16:=λ_=>⟨.i64,rfl,Tryz.underlying2⟩)
def T3:TI:={ agg:=false,size:=1,bytes:=8,ty:=.int .i64,zero:=.cons (.lit (.int .i64 0)) .nil,kind:=0,dflt:=true,elem:=0,flds:=[],isInt:=true }
theorem ti3:TIok Tryz.prog 3 T3:=qg2 (z:=.int .i64 0) (by kernel_rfl) rfl rfl (λm ρ=>⟨_,_,rfl,rfl,rfl⟩) (λ_ m=>rfl) (by decide) (by decide) (by decide) rfl Tryz.underlying3 (λh=>by cases h) (λh=>by cases h) (λh=>by cases h)
 (λh=>by cases h)
 (λh=>by cases h) (by decide) (h16:=λ_=>⟨.i64,rfl,Tryz.underlying3⟩)
def T4:TI:={ agg:=false,size:=1,bytes:=1,ty:=.bool,zero:=.cons (.ff) .nil,kind:=3,dflt:=true,elem:=0,flds:=[] }
theorem ti4:TIok Tryz.prog 4 T4:=qg2 (z:=.bool false) (by kernel_rfl) rfl rfl (λm ρ=>⟨_,_,rfl,rfl,rfl⟩) (λ_ m=>rfl) (by decide) (by decide) (by decide) rfl Tryz.underlying4 (λh=>by cases h) (λh=>by cases h) (λ_=>Tryz.underlying4)
 (λh=>by cases h)
 (λh=>by cases h) (by decide)
def T5:TI:={ agg:=false,size:=1,bytes:=1,ty:=.int .u8,zero:=.cons (.lit (.int .u8 0)) .nil,kind:=0,dflt:=true,elem:=0,flds:=[],isInt:=true }
theorem ti5:TIok Tryz.prog 5 T5:=qg2 (z:=.int .u8 0) (by kernel_rfl) rfl rfl (λm ρ=>⟨_,_,rfl,rfl,rfl⟩) (λ_ m=>rfl) (by decide) (by decide) (by decide) rfl Tryz.underlying5 (λh=>by cases h) (λh=>by cases h) (λh=>by cases h)
 (λh=>by cases h)
 (λh=>by cases h) (by decide) (h16:=λ_=>⟨.u8,rfl,Tryz.underlying5⟩)
def T6:TI:={ agg:=false,size:=1,bytes:=1,ty:=.int .u8,zero:=.cons (.lit (.int .u8 0)) .nil,kind:=0,dflt:=true,elem:=0,flds:=[],isInt:=true }
theorem ti6:TIok Tryz.prog 6 T6:=qg2 (z:=.int .u8 0) (by kernel_rfl) rfl rfl (λm ρ=>⟨_,_,rfl,rfl,rfl⟩) (λ_ m=>rfl) (by decide) (by decide) (by decide) rfl Tryz.underlying6 (λh=>by cases h) (λh=>by cases h) (λh=>by cases h)
 (λh=>by cases h)
 (λh=>by cases h) (by decide) (h16:=λ_=>⟨.u8,rfl,Tryz.underlying6⟩)
def T7:TI:={ agg:=true,size:=4,bytes:=24,ty:=.prod (.int .i64) (.prod (.int .i64) (.prod (.bool) (.int .u8))),zero:=.cons (.lit (.int .i64 0)) (.cons (.lit (.int .i64 0)) (.cons (.ff) (.cons (.lit (.int .u8 0)) .nil))),kind:=5,dflt:=true,elem:=0,flds:=[(0,2,1),(1,3,1),(2,4,1),(3,6,1)] }
theorem ti7:TIok Tryz.prog 7 T7:=qg2 (z:=.agg #[.int .i64 0,.int .i64 0,.bool false,.int .u8 0]) (by kernel_rfl) rfl rfl (λm ρ=>⟨_,_,rfl,rfl,⟨_,_,rfl,rfl,⟨_,_,rfl,rfl,⟨_,_,rfl,rfl,rfl⟩⟩⟩⟩) (λ_ m=>⟨[.int .i64 0],[.int .i64 0,.bool false,.int .u8 0],rfl,rfl,⟨[.int .i64 0],[.bool false,.int .u8 0],rfl,rfl,⟨[.bool false],[.int .u8 0],rfl,rfl,rfl⟩⟩⟩) (by decide) (by decide) (by decide) rfl Tryz.underlying7 (λh=>by cases h) (λh=>by cases h) (λh=>by cases h)
 (λh=>by cases h)
 (λ_=>⟨_,Tryz.underlying7,rfl,λf hf=>by
  simp only[T7,List.mem_cons,List.not_mem_nil,or_false] at hf
  rcases hf with rfl | rfl | rfl | rfl
  ·exact⟨qs7 ti2,by decide⟩
  ·exact⟨qs7 ti3,by decide⟩
  ·exact⟨qs7 ti4,by decide⟩
  ·exact⟨qs7 ti6,by decide⟩⟩) (by decide)
def T8:TI:={ agg:=true,size:=4,bytes:=24,ty:=.prod (.int .i64) (.prod (.int .i64) (.prod (.bool) (.int .u8))),zero:=.cons (.lit (.int .i64 0)) (.cons (.lit (.int .i64 0)) (.cons (.ff) (.cons (.lit (.int .u8 0)) .nil))),kind:=5,dflt:=true,elem:=0,flds:=[(0,2,1),(1,3,1),(2,4,1),(3,6,1)] }
theorem ti8:TIok Tryz.prog 8 T8:=qg2 (z:=.agg #[.int .i64 0,.int .i64 0,.bool false,.int .u8 0]) (by kernel_rfl) rfl rfl (λm ρ=>⟨_,_,rfl,rfl,⟨_,_,rfl,rfl,⟨_,_,rfl,rfl,⟨_,_,rfl,rfl,rfl⟩⟩⟩⟩) (λ_ m=>⟨[.int .i64 0],[.int .i64 0,.bool false,.int .u8 0],rfl,rfl,⟨[.int .i64 0],[.bool false,.int .u8 0],rfl,rfl,⟨[.bool false],[.int .u8 0],rfl,rfl,rfl⟩⟩⟩) (by decide) (by decide) (by decide) rfl Tryz.underlying8 (λh=>by cases h) (λh=>by cases h) (λh=>by cases h)
 (λh=>by cases h)
 (λ_=>⟨_,Tryz.underlying8,rfl,λf hf=>by
  simp only[T8,List.mem_cons,List.not_mem_nil,or_false] at hf
  rcases hf with rfl | rfl | rfl | rfl
  ·exact⟨qs7 ti2,by decide⟩
  ·exact⟨qs7 ti3,by decide⟩
  ·exact⟨qs7 ti4,by decide⟩
  ·exact⟨qs7 ti6,by decide⟩⟩) (by decide)
def T9:TI:={ agg:=false,size:=1,bytes:=16,ty:=.str,zero:=.cons (.lit (.string ⟨#[]⟩)) .nil,kind:=2,dflt:=true,elem:=0,flds:=[] }
theorem ti9:TIok Tryz.prog 9 T9:=qg2 (z:=.string ⟨#[]⟩) (by kernel_rfl) rfl rfl (λm ρ=>⟨_,_,rfl,rfl,rfl⟩) (λ_ m=>rfl) (by decide) (by decide) (by decide) rfl Tryz.underlying9 (λh=>by cases h) (λ_=>Tryz.underlying9) (λh=>by cases h)
 (λh=>by cases h)
 (λh=>by cases h) (by decide)
def T10:TI:={ agg:=false,size:=1,bytes:=16,ty:=.str,zero:=.cons (.lit (.string ⟨#[]⟩)) .nil,kind:=2,dflt:=true,elem:=0,flds:=[] }
theorem x26:TIok Tryz.prog 10 T10:=qg2 (z:=.string ⟨#[]⟩) (by kernel_rfl) rfl rfl (λm ρ=>⟨_,_,rfl,rfl,rfl⟩) (λ_ m=>rfl) (by decide) (by decide) (by decide) rfl Tryz.underlying10 (λh=>by cases h) (λ_=>Tryz.underlying10) (λh=>by cases h)
 (λh=>by cases h)
 (λh=>by cases h) (by decide)
def T11:TI:={ agg:=false,size:=1,bytes:=16,ty:=.str,zero:=.cons (.lit (.string ⟨#[]⟩)) .nil,kind:=2,dflt:=true,elem:=0,flds:=[] }
theorem x3a:TIok Tryz.prog 11 T11:=qg2 (z:=.string ⟨#[]⟩) (by kernel_rfl) rfl rfl (λm ρ=>⟨_,_,rfl,rfl,rfl⟩) (λ_ m=>rfl) (by decide) (by decide) (by decide) rfl Tryz.underlying11 (λh=>by cases h) (λ_=>Tryz.underlying11) (λh=>by cases h)
 (λh=>by cases h)
 (λh=>by cases h) (by decide)
def T12:TI:={ agg:=false,size:=1,bytes:=8,ty:=.int .u64,zero:=.cons (.lit (.int .u64 0)) .nil,kind:=0,dflt:=true,elem:=0,flds:=[],isInt:=true }
theorem x2k:TIok Tryz.prog 12 T12:=qg2 (z:=.int .u64 0) (by kernel_rfl) rfl rfl (λm ρ=>⟨_,_,rfl,rfl,rfl⟩) (λ_ m=>rfl) (by decide) (by decide) (by decide) rfl Tryz.underlying12 (λh=>by cases h) (λh=>by cases h) (λh=>by cases h)
 (λh=>by cases h)
 (λh=>by cases h) (by decide) (h16:=λ_=>⟨.u64,rfl,Tryz.underlying12⟩)
def T14:TI:={ agg:=true,size:=2,bytes:=24,ty:=.prod (.str) (.int .u64),zero:=.cons (.lit (.string ⟨#[]⟩)) (.cons (.lit (.int .u64 0)) .nil),kind:=5,dflt:=true,elem:=0,flds:=[(0,9,1),(1,12,1)] }
theorem x3b:TIok Tryz.prog 14 T14:=qg2 (z:=.agg #[.string ⟨#[]⟩,.int .u64 0]) (by kernel_rfl) rfl rfl (λm ρ=>⟨_,_,rfl,rfl,⟨_,_,rfl,rfl,rfl⟩⟩) (λ_ m=>⟨[.string ⟨#[]⟩],[.int .u64 0],rfl,rfl,rfl⟩) (by decide) (by decide) (by decide) rfl Tryz.underlying14 (λh=>by cases h) (λh=>by cases h) (λh=>by cases h)
 (λh=>by cases h)
 (λ_=>⟨_,Tryz.underlying14,rfl,λf hf=>by
  simp only[T14,List.mem_cons,List.not_mem_nil,or_false] at hf
  rcases hf with rfl | rfl
  ·exact⟨qs7 ti9,by decide⟩
  ·exact⟨qs7 x2k,by decide⟩⟩) (by decide)
def T15:TI:={ agg:=false,size:=1,bytes:=8,ty:=.bool,zero:=.cons (.lit (.pointer none)) .nil,kind:=0,dflt:=false,elem:=0,flds:=[] }
theorem x3c:TIok Tryz.prog 15 T15:=qg2 (z:=.pointer none) (by kernel_rfl) rfl rfl (λm ρ=>⟨_,_,rfl,rfl,rfl⟩) (λh=>by cases h) (by decide) (by decide) (by decide) rfl Tryz.underlying15 (λh=>by cases h) (λh=>by cases h) (λh=>by cases h)
 (λh=>by cases h)
 (λh=>by cases h) (by decide)
def T16:TI:={ agg:=false,size:=1,bytes:=8,ty:=.bool,zero:=.cons (.lit (.pointer none)) .nil,kind:=0,dflt:=false,elem:=0,flds:=[] }
theorem x3d:TIok Tryz.prog 16 T16:=qg2 (z:=.pointer none) (by kernel_rfl) rfl rfl (λm ρ=>⟨_,_,rfl,rfl,rfl⟩) (λh=>by cases h) (by decide) (by decide) (by decide) rfl Tryz.underlying16 (λh=>by cases h) (λh=>by cases h) (λh=>by cases h)
 (λh=>by cases h)
 (λh=>by cases h) (by decide)
def T17:TI:={ agg:=false,size:=1,bytes:=8,ty:=.bool,zero:=.cons (.lit (.pointer none)) .nil,kind:=0,dflt:=false,elem:=0,flds:=[] }
theorem xz5:TIok Tryz.prog 17 T17:=qg2 (z:=.pointer none) (by kernel_rfl) rfl rfl (λm ρ=>⟨_,_,rfl,rfl,rfl⟩) (λh=>by cases h) (by decide) (by decide) (by decide) rfl Tryz.underlying17 (λh=>by cases h) (λh=>by cases h) (λh=>by cases h)
 (λh=>by cases h)
 (λh=>by cases h) (by decide)
def T18:TI:={ agg:=true,size:=1,bytes:=8,ty:=.bool,zero:=.cons (.lit (.pointer none)) .nil,kind:=5,dflt:=false,elem:=0,flds:=[(0,17,1)] }
theorem x3e:TIok Tryz.prog 18 T18:=qg2 (z:=.agg #[.pointer none]) (by kernel_rfl) rfl rfl (λm ρ=>⟨_,_,rfl,rfl,rfl⟩) (λh=>by cases h) (by decide) (by decide) (by decide) rfl Tryz.underlying18 (λh=>by cases h) (λh=>by cases h) (λh=>by cases h)
 (λh=>by cases h)
 (λ_=>⟨_,Tryz.underlying18,rfl,λf hf=>by
  simp only[T18,List.mem_cons,List.not_mem_nil,or_false] at hf
  rcases hf with rfl
  ·exact⟨qs7 xz5,by decide⟩⟩) (by decide)
def T19:TI:={ agg:=true,size:=1,bytes:=8,ty:=.bool,zero:=.cons (.lit (.pointer none)) .nil,kind:=5,dflt:=false,elem:=0,flds:=[(0,17,1)] }
theorem x3f:TIok Tryz.prog 19 T19:=qg2 (z:=.agg #[.pointer none]) (by kernel_rfl) rfl rfl (λm ρ=>⟨_,_,rfl,rfl,rfl⟩) (λh=>by cases h) (by decide) (by decide) (by decide) rfl Tryz.underlying19 (λh=>by cases h) (λh=>by cases h) (λh=>by cases h)
 (λh=>by cases h)
 (λ_=>⟨_,Tryz.underlying19,rfl,λf hf=>by
  simp only[T19,List.mem_cons,List.not_mem_nil,or_false] at hf
  rcases hf with rfl
  ·exact⟨qs7 xz5,by decide⟩⟩) (by decide)
def T21:TI:={ agg:=false,size:=1,bytes:=4,ty:=.int .i32,zero:=.cons (.lit (.int .i32 0)) .nil,kind:=0,dflt:=true,elem:=0,flds:=[],isInt:=true }
theorem x3g:TIok Tryz.prog 21 T21:=qg2 (z:=.int .i32 0) (by kernel_rfl) rfl rfl (λm ρ=>⟨_,_,rfl,rfl,rfl⟩) (λ_ m=>rfl) (by decide) (by decide) (by decide) rfl Tryz.underlying21 (λh=>by cases h) (λh=>by cases h) (λh=>by cases h)
 (λh=>by cases h)
 (λh=>by cases h) (by decide) (h16:=λ_=>⟨.i32,rfl,Tryz.underlying21⟩)
def T22:TI:={ agg:=false,size:=1,bytes:=24,ty:=.list (.list (.int .i64)),zero:=.cons (.lit (.slice none 0 0)) .nil,kind:=1,dflt:=true,elem:=27,flds:=[] }
theorem x3h:TIok Tryz.prog 22 T22:=qg2 (z:=.slice none 0 0) (by kernel_rfl) rfl rfl (λm ρ=>⟨_,_,rfl,rfl,rfl⟩) (λ_ m=>⟨none,0,rfl,Nat.le_refl _,by unfold maxLen; exact Nat.zero_le _,λh=>absurd h (Nat.lt_irrefl 0)⟩) (by decide) (by decide) (by decide) rfl Tryz.underlying22 (λ_=>Tryz.underlying22) (λh=>by cases h) (λh=>by cases h)
 (λh=>by cases h)
 (λh=>by cases h) (by decide)
def T23:TI:={ agg:=false,size:=1,bytes:=24,ty:=.list (.list (.int .i64)),zero:=.cons (.lit (.slice none 0 0)) .nil,kind:=1,dflt:=true,elem:=27,flds:=[] }
theorem x3i:TIok Tryz.prog 23 T23:=qg2 (z:=.slice none 0 0) (by kernel_rfl) rfl rfl (λm ρ=>⟨_,_,rfl,rfl,rfl⟩) (λ_ m=>⟨none,0,rfl,Nat.le_refl _,by unfold maxLen; exact Nat.zero_le _,λh=>absurd h (Nat.lt_irrefl 0)⟩) (by decide) (by decide) (by decide) rfl Tryz.underlying23 (λ_=>Tryz.underlying23) (λh=>by cases h) (λh=>by cases h)
 (λh=>by cases h)
 (λh=>by cases h) (by decide)
def T24:TI:={ agg:=false,size:=1,bytes:=8,ty:=.bool,zero:=.cons (.lit .nilFunc) .nil,kind:=0,dflt:=false,elem:=0,flds:=[] }
theorem x3j:TIok Tryz.prog 24 T24:=qg2 (z:=.nilFunc) (by kernel_rfl) rfl rfl (λm ρ=>⟨_,_,rfl,rfl,rfl⟩) (λh=>by cases h) (by decide) (by decide) (by decide) rfl Tryz.underlying24 (λh=>by cases h) (λh=>by cases h) (λh=>by cases h)
 (λh=>by cases h)
 (λh=>by cases h) (by decide)
def T26:TI:={ agg:=false,size:=1,bytes:=8,ty:=.bool,zero:=.cons (.lit .nilFunc) .nil,kind:=0,dflt:=false,elem:=0,flds:=[] }
theorem x3k:TIok Tryz.prog 26 T26:=qg2 (z:=.nilFunc) (by kernel_rfl) rfl rfl (λm ρ=>⟨_,_,rfl,rfl,rfl⟩) (λh=>by cases h) (by decide) (by decide) (by decide) rfl Tryz.underlying26 (λh=>by cases h) (λh=>by cases h) (λh=>by cases h)
 (λh=>by cases h)
 (λh=>by cases h) (by decide)
def T27:TI:={ agg:=false,size:=1,bytes:=24,ty:=.list (.int .i64),zero:=.cons (.lit (.slice none 0 0)) .nil,kind:=1,dflt:=true,elem:=3,flds:=[] }
theorem x3l:TIok Tryz.prog 27 T27:=qg2 (z:=.slice none 0 0) (by kernel_rfl) rfl rfl (λm ρ=>⟨_,_,rfl,rfl,rfl⟩) (λ_ m=>⟨none,0,rfl,Nat.le_refl _,by unfold maxLen; exact Nat.zero_le _,λh=>absurd h (Nat.lt_irrefl 0)⟩) (by decide) (by decide) (by decide) rfl Tryz.underlying27 (λ_=>Tryz.underlying27) (λh=>by cases h) (λh=>by cases h)
 (λh=>by cases h)
 (λh=>by cases h) (by decide)
def T28:TI:={ agg:=true,size:=2,bytes:=16,ty:=.prod (.int .i64) (.int .i64),zero:=.cons (.lit (.int .i64 0)) (.cons (.lit (.int .i64 0)) .nil),kind:=5,dflt:=true,elem:=0,flds:=[(0,3,1),(1,3,1)],eq2:=true }
theorem x3m:TIok Tryz.prog 28 T28:=qg2 (z:=.agg #[.int .i64 0,.int .i64 0]) (by kernel_rfl) rfl rfl (λm ρ=>⟨_,_,rfl,rfl,⟨_,_,rfl,rfl,rfl⟩⟩) (λ_ m=>⟨[.int .i64 0],[.int .i64 0],rfl,rfl,rfl⟩) (by decide) (by decide) (by decide) rfl Tryz.underlying28 (λh=>by cases h) (λh=>by cases h) (λh=>by cases h)
 (λh=>by cases h)
 (λ_=>⟨_,Tryz.underlying28,rfl,λf hf=>by
  simp only[T28,List.mem_cons,List.not_mem_nil,or_false] at hf
  rcases hf with rfl | rfl
  ·exact⟨qs7 ti3,by decide⟩
  ·exact⟨qs7 ti3,by decide⟩⟩) (by decide) (λ_=>q0u Tryz.underlying28 (by decide) (by decide) rfl rfl Tryz.underlying3 Tryz.underlying3 (by kernel_rfl) (by kernel_rfl))
def T29:TI:={ agg:=true,size:=2,bytes:=16,ty:=.prod (.int .i64) (.int .i64),zero:=.cons (.lit (.int .i64 0)) (.cons (.lit (.int .i64 0)) .nil),kind:=5,dflt:=true,elem:=0,flds:=[(0,3,1),(1,3,1)],eq2:=true }
theorem x2l:TIok Tryz.prog 29 T29:=qg2 (z:=.agg #[.int .i64 0,.int .i64 0]) (by kernel_rfl) rfl rfl (λm ρ=>⟨_,_,rfl,rfl,⟨_,_,rfl,rfl,rfl⟩⟩) (λ_ m=>⟨[.int .i64 0],[.int .i64 0],rfl,rfl,rfl⟩) (by decide) (by decide) (by decide) rfl Tryz.underlying29 (λh=>by cases h) (λh=>by cases h) (λh=>by cases h)
 (λh=>by cases h)
 (λ_=>⟨_,Tryz.underlying29,rfl,λf hf=>by
  simp only[T29,List.mem_cons,List.not_mem_nil,or_false] at hf
  rcases hf with rfl | rfl
  ·exact⟨qs7 ti3,by decide⟩
  ·exact⟨qs7 ti3,by decide⟩⟩) (by decide) (λ_=>q0u Tryz.underlying29 (by decide) (by decide) rfl rfl Tryz.underlying3 Tryz.underlying3 (by kernel_rfl) (by kernel_rfl))
def T30:TI:={ agg:=false,size:=1,bytes:=8,ty:=.int .i64,zero:=.cons (.lit (.int .i64 0)) .nil,kind:=0,dflt:=true,elem:=0,flds:=[],isInt:=true }
theorem x3n:TIok Tryz.prog 30 T30:=qg2 (z:=.int .i64 0) (by kernel_rfl) rfl rfl (λm ρ=>⟨_,_,rfl,rfl,rfl⟩) (λ_ m=>rfl) (by decide) (by decide) (by decide) rfl Tryz.underlying30 (λh=>by cases h) (λh=>by cases h) (λh=>by cases h)
 (λh=>by cases h)
 (λh=>by cases h) (by decide) (h16:=λ_=>⟨.i64,rfl,Tryz.underlying30⟩)
def T32:TI:={ agg:=false,size:=1,bytes:=8,ty:=.bool,zero:=.cons (.lit .nilFunc) .nil,kind:=0,dflt:=false,elem:=0,flds:=[] }
theorem x3o:TIok Tryz.prog 32 T32:=qg2 (z:=.nilFunc) (by kernel_rfl) rfl rfl (λm ρ=>⟨_,_,rfl,rfl,rfl⟩) (λh=>by cases h) (by decide) (by decide) (by decide) rfl Tryz.underlying32 (λh=>by cases h) (λh=>by cases h) (λh=>by cases h)
 (λh=>by cases h)
 (λh=>by cases h) (by decide)
def T34:TI:={ agg:=false,size:=1,bytes:=8,ty:=.bool,zero:=.cons (.lit .nilFunc) .nil,kind:=0,dflt:=false,elem:=0,flds:=[] }
theorem x3p:TIok Tryz.prog 34 T34:=qg2 (z:=.nilFunc) (by kernel_rfl) rfl rfl (λm ρ=>⟨_,_,rfl,rfl,rfl⟩) (λh=>by cases h) (by decide) (by decide) (by decide) rfl Tryz.underlying34 (λh=>by cases h) (λh=>by cases h) (λh=>by cases h)
 (λh=>by cases h)
 (λh=>by cases h) (by decide)
def T35:TI:={ agg:=false,size:=1,bytes:=8,ty:=.bool,zero:=.cons (.lit (.pointer none)) .nil,kind:=0,dflt:=false,elem:=0,flds:=[] }
theorem x2m:TIok Tryz.prog 35 T35:=qg2 (z:=.pointer none) (by kernel_rfl) rfl rfl (λm ρ=>⟨_,_,rfl,rfl,rfl⟩) (λh=>by cases h) (by decide) (by decide) (by decide) rfl Tryz.underlying35 (λh=>by cases h) (λh=>by cases h) (λh=>by cases h)
 (λh=>by cases h)
 (λh=>by cases h) (by decide)
def T36:TI:={ agg:=false,size:=1,bytes:=24,ty:=.list (.int .u8),zero:=.cons (.lit (.slice none 0 0)) .nil,kind:=1,dflt:=true,elem:=5,flds:=[] }
theorem x3q:TIok Tryz.prog 36 T36:=qg2 (z:=.slice none 0 0) (by kernel_rfl) rfl rfl (λm ρ=>⟨_,_,rfl,rfl,rfl⟩) (λ_ m=>⟨none,0,rfl,Nat.le_refl _,by unfold maxLen; exact Nat.zero_le _,λh=>absurd h (Nat.lt_irrefl 0)⟩) (by decide) (by decide) (by decide) rfl Tryz.underlying36 (λ_=>Tryz.underlying36) (λh=>by cases h) (λh=>by cases h)
 (λh=>by cases h)
 (λh=>by cases h) (by decide)
def T38:TI:={ agg:=true,size:=2,bytes:=32,ty:=.bool,zero:=.cons (.lit (.pointer none)) (.cons (.lit (.slice none 0 0)) .nil),kind:=5,dflt:=false,elem:=0,flds:=[(0,35,1),(1,36,1)],bld:=some 5 }
theorem x3r:TIok Tryz.prog 38 T38:=qg2 (z:=.agg #[.pointer none,.slice none 0 0]) (by kernel_rfl) rfl rfl (λm ρ=>⟨_,_,rfl,rfl,⟨_,_,rfl,rfl,rfl⟩⟩) (λh=>by cases h) (by decide) (by decide) (by decide) rfl Tryz.underlying38 (λh=>by cases h) (λh=>by cases h) (λh=>by cases h)
 (λh=>by cases h)
 (λ_=>⟨_,Tryz.underlying38,rfl,λf hf=>by
  simp only[T38,List.mem_cons,List.not_mem_nil,or_false] at hf
  rcases hf with rfl | rfl
  ·exact⟨qs7 x2m,by decide⟩
  ·exact⟨qs7 x3q,by decide⟩⟩) (by decide) (h17:=λ_ _=>xi9 (by kernel_rfl))
def T39:TI:={ agg:=false,size:=1,bytes:=8,ty:=.bool,zero:=.cons (.lit .nilFunc) .nil,kind:=0,dflt:=false,elem:=0,flds:=[] }
theorem x3s:TIok Tryz.prog 39 T39:=qg2 (z:=.nilFunc) (by kernel_rfl) rfl rfl (λm ρ=>⟨_,_,rfl,rfl,rfl⟩) (λh=>by cases h) (by decide) (by decide) (by decide) rfl Tryz.underlying39 (λh=>by cases h) (λh=>by cases h) (λh=>by cases h)
 (λh=>by cases h)
 (λh=>by cases h) (by decide)
def T44:TI:={ agg:=false,size:=1,bytes:=8,ty:=.bool,zero:=.cons (.lit .nilFunc) .nil,kind:=0,dflt:=false,elem:=0,flds:=[] }
theorem x3t:TIok Tryz.prog 44 T44:=qg2 (z:=.nilFunc) (by kernel_rfl) rfl rfl (λm ρ=>⟨_,_,rfl,rfl,rfl⟩) (λh=>by cases h) (by decide) (by decide) (by decide) rfl Tryz.underlying44 (λh=>by cases h) (λh=>by cases h) (λh=>by cases h)
 (λh=>by cases h)
 (λh=>by cases h) (by decide)
def T45:TI:={ agg:=false,size:=1,bytes:=8,ty:=.bool,zero:=.cons (.lit .nilFunc) .nil,kind:=0,dflt:=false,elem:=0,flds:=[] }
theorem x3u:TIok Tryz.prog 45 T45:=qg2 (z:=.nilFunc) (by kernel_rfl) rfl rfl (λm ρ=>⟨_,_,rfl,rfl,rfl⟩) (λh=>by cases h) (by decide) (by decide) (by decide) rfl Tryz.underlying45 (λh=>by cases h) (λh=>by cases h) (λh=>by cases h)
 (λh=>by cases h)
 (λh=>by cases h) (by decide)
def T47:TI:={ agg:=false,size:=1,bytes:=8,ty:=.bool,zero:=.cons (.lit .nilFunc) .nil,kind:=0,dflt:=false,elem:=0,flds:=[] }
theorem x3v:TIok Tryz.prog 47 T47:=qg2 (z:=.nilFunc) (by kernel_rfl) rfl rfl (λm ρ=>⟨_,_,rfl,rfl,rfl⟩) (λh=>by cases h) (by decide) (by decide) (by decide) rfl Tryz.underlying47 (λh=>by cases h) (λh=>by cases h) (λh=>by cases h)
 (λh=>by cases h)
 (λh=>by cases h) (by decide)
def T49:TI:={ agg:=false,size:=1,bytes:=8,ty:=.bool,zero:=.cons (.lit .nilFunc) .nil,kind:=0,dflt:=false,elem:=0,flds:=[] }
theorem x3w:TIok Tryz.prog 49 T49:=qg2 (z:=.nilFunc) (by kernel_rfl) rfl rfl (λm ρ=>⟨_,_,rfl,rfl,rfl⟩) (λh=>by cases h) (by decide) (by decide) (by decide) rfl Tryz.underlying49 (λh=>by cases h) (λh=>by cases h) (λh=>by cases h)
 (λh=>by cases h)
 (λh=>by cases h) (by decide)
def T50:TI:={ agg:=false,size:=1,bytes:=8,ty:=.bool,zero:=.cons (.lit .nilFunc) .nil,kind:=0,dflt:=false,elem:=0,flds:=[] }
theorem x3x:TIok Tryz.prog 50 T50:=qg2 (z:=.nilFunc) (by kernel_rfl) rfl rfl (λm ρ=>⟨_,_,rfl,rfl,rfl⟩) (λh=>by cases h) (by decide) (by decide) (by decide) rfl Tryz.underlying50 (λh=>by cases h) (λh=>by cases h) (λh=>by cases h)
 (λh=>by cases h)
 (λh=>by cases h) (by decide)
def T51:TI:={ agg:=false,size:=1,bytes:=8,ty:=.bool,zero:=.cons (.lit .nilFunc) .nil,kind:=0,dflt:=false,elem:=0,flds:=[] }
theorem x3y:TIok Tryz.prog 51 T51:=qg2 (z:=.nilFunc) (by kernel_rfl) rfl rfl (λm ρ=>⟨_,_,rfl,rfl,rfl⟩) (λh=>by cases h) (by decide) (by decide) (by decide) rfl Tryz.underlying51 (λh=>by cases h) (λh=>by cases h) (λh=>by cases h)
 (λh=>by cases h)
 (λh=>by cases h) (by decide)
def T53:TI:={ agg:=false,size:=1,bytes:=8,ty:=.bool,zero:=.cons (.lit .nilFunc) .nil,kind:=0,dflt:=false,elem:=0,flds:=[] }
theorem x3z:TIok Tryz.prog 53 T53:=qg2 (z:=.nilFunc) (by kernel_rfl) rfl rfl (λm ρ=>⟨_,_,rfl,rfl,rfl⟩) (λh=>by cases h) (by decide) (by decide) (by decide) rfl Tryz.underlying53 (λh=>by cases h) (λh=>by cases h) (λh=>by cases h)
 (λh=>by cases h)
 (λh=>by cases h) (by decide)
def T56:TI:={ agg:=false,size:=1,bytes:=8,ty:=.bool,zero:=.cons (.lit .nilFunc) .nil,kind:=0,dflt:=false,elem:=0,flds:=[] }
theorem x33:TIok Tryz.prog 56 T56:=qg2 (z:=.nilFunc) (by kernel_rfl) rfl rfl (λm ρ=>⟨_,_,rfl,rfl,rfl⟩) (λh=>by cases h) (by decide) (by decide) (by decide) rfl Tryz.underlying56 (λh=>by cases h) (λh=>by cases h) (λh=>by cases h)
 (λh=>by cases h)
 (λh=>by cases h) (by decide)
def T57:TI:={ agg:=false,size:=1,bytes:=8,ty:=.bool,zero:=.cons (.lit .nilFunc) .nil,kind:=0,dflt:=false,elem:=0,flds:=[] }
theorem x35:TIok Tryz.prog 57 T57:=qg2 (z:=.nilFunc) (by kernel_rfl) rfl rfl (λm ρ=>⟨_,_,rfl,rfl,rfl⟩) (λh=>by cases h) (by decide) (by decide) (by decide) rfl Tryz.underlying57 (λh=>by cases h) (λh=>by cases h) (λh=>by cases h)
 (λh=>by cases h)
 (λh=>by cases h) (by decide)
def T61:TI:={ agg:=false,size:=1,bytes:=8,ty:=.bool,zero:=.cons (.lit .nilFunc) .nil,kind:=0,dflt:=false,elem:=0,flds:=[] }
theorem x36:TIok Tryz.prog 61 T61:=qg2 (z:=.nilFunc) (by kernel_rfl) rfl rfl (λm ρ=>⟨_,_,rfl,rfl,rfl⟩) (λh=>by cases h) (by decide) (by decide) (by decide) rfl Tryz.underlying61 (λh=>by cases h) (λh=>by cases h) (λh=>by cases h)
 (λh=>by cases h)
 (λh=>by cases h) (by decide)
def T62:TI:={ agg:=false,size:=1,bytes:=8,ty:=.bool,zero:=.cons (.lit .nilFunc) .nil,kind:=0,dflt:=false,elem:=0,flds:=[] }
theorem x37:TIok Tryz.prog 62 T62:=qg2 (z:=.nilFunc) (by kernel_rfl) rfl rfl (λm ρ=>⟨_,_,rfl,rfl,rfl⟩) (λh=>by cases h) (by decide) (by decide) (by decide) rfl Tryz.underlying62 (λh=>by cases h) (λh=>by cases h) (λh=>by cases h)
 (λh=>by cases h)
 (λh=>by cases h) (by decide)
def T63:TI:={ agg:=false,size:=1,bytes:=8,ty:=.bool,zero:=.cons (.lit (.pointer none)) .nil,kind:=0,dflt:=false,elem:=0,flds:=[] }
theorem x4a:TIok Tryz.prog 63 T63:=qg2 (z:=.pointer none) (by kernel_rfl) rfl rfl (λm ρ=>⟨_,_,rfl,rfl,rfl⟩) (λh=>by cases h) (by decide) (by decide) (by decide) rfl Tryz.underlying63 (λh=>by cases h) (λh=>by cases h) (λh=>by cases h)
 (λh=>by cases h)
 (λh=>by cases h) (by decide)
def T67:TI:={ agg:=false,size:=1,bytes:=8,ty:=.bool,zero:=.cons (.lit .nilFunc) .nil,kind:=0,dflt:=false,elem:=0,flds:=[] }
theorem x4b:TIok Tryz.prog 67 T67:=qg2 (z:=.nilFunc) (by kernel_rfl) rfl rfl (λm ρ=>⟨_,_,rfl,rfl,rfl⟩) (λh=>by cases h) (by decide) (by decide) (by decide) rfl Tryz.underlying67 (λh=>by cases h) (λh=>by cases h) (λh=>by cases h)
 (λh=>by cases h)
 (λh=>by cases h) (by decide)
def T68:TI:={ agg:=false,size:=1,bytes:=8,ty:=.bool,zero:=.cons (.lit .nilFunc) .nil,kind:=0,dflt:=false,elem:=0,flds:=[] }
theorem x4c:TIok Tryz.prog 68 T68:=qg2 (z:=.nilFunc) (by kernel_rfl) rfl rfl (λm ρ=>⟨_,_,rfl,rfl,rfl⟩) (λh=>by cases h) (by decide) (by decide) (by decide) rfl Tryz.underlying68 (λh=>by cases h) (λh=>by cases h) (λh=>by cases h)
 (λh=>by cases h)
 (λh=>by cases h) (by decide)
def T70:TI:={ agg:=false,size:=1,bytes:=8,ty:=.bool,zero:=.cons (.lit .nilFunc) .nil,kind:=0,dflt:=false,elem:=0,flds:=[] }
theorem x4d:TIok Tryz.prog 70 T70:=qg2 (z:=.nilFunc) (by kernel_rfl) rfl rfl (λm ρ=>⟨_,_,rfl,rfl,rfl⟩) (λh=>by cases h) (by decide) (by decide) (by decide) rfl Tryz.underlying70 (λh=>by cases h) (λh=>by cases h) (λh=>by cases h)
 (λh=>by cases h)
 (λh=>by cases h) (by decide)
def T76:TI:={ agg:=true,size:=2,bytes:=16,ty:=.prod (.int .i64) (.int .i64),zero:=.cons (.lit (.int .i64 0)) (.cons (.lit (.int .i64 0)) .nil),kind:=5,dflt:=true,elem:=0,flds:=[(0,29,2)] }
theorem x4e:TIok Tryz.prog 76 T76:=qg2 (z:=.agg #[.int .i64 0,.int .i64 0]) (by kernel_rfl) rfl rfl (λm ρ=>⟨_,_,rfl,rfl,⟨_,_,rfl,rfl,rfl⟩⟩) (λ_ m=>⟨[.int .i64 0],[.int .i64 0],rfl,rfl,rfl⟩) (by decide) (by decide) (by decide) rfl Tryz.underlying76 (λh=>by cases h) (λh=>by cases h) (λh=>by cases h)
 (λh=>by cases h)
 (λ_=>⟨_,Tryz.underlying76,rfl,λf hf=>by
  simp only[T76,List.mem_cons,List.not_mem_nil,or_false] at hf
  rcases hf with rfl
  ·exact⟨qs7 x2l,by decide⟩⟩) (by decide)
def T77:TI:={ agg:=false,size:=1,bytes:=8,ty:=.bool,zero:=.cons (.lit .nilFunc) .nil,kind:=0,dflt:=false,elem:=0,flds:=[] }
theorem x4f:TIok Tryz.prog 77 T77:=qg2 (z:=.nilFunc) (by kernel_rfl) rfl rfl (λm ρ=>⟨_,_,rfl,rfl,rfl⟩) (λh=>by cases h) (by decide) (by decide) (by decide) rfl Tryz.underlying77 (λh=>by cases h) (λh=>by cases h) (λh=>by cases h)
 (λh=>by cases h)
 (λh=>by cases h) (by decide)
def T87:TI:={ agg:=false,size:=1,bytes:=8,ty:=.bool,zero:=.cons (.lit .nilFunc) .nil,kind:=0,dflt:=false,elem:=0,flds:=[] }
theorem x4g:TIok Tryz.prog 87 T87:=qg2 (z:=.nilFunc) (by kernel_rfl) rfl rfl (λm ρ=>⟨_,_,rfl,rfl,rfl⟩) (λh=>by cases h) (by decide) (by decide) (by decide) rfl Tryz.underlying87 (λh=>by cases h) (λh=>by cases h) (λh=>by cases h)
 (λh=>by cases h)
 (λh=>by cases h) (by decide)
def T88:TI:={ agg:=false,size:=1,bytes:=8,ty:=.bool,zero:=.cons (.lit .nilFunc) .nil,kind:=0,dflt:=false,elem:=0,flds:=[] }
theorem x4h:TIok Tryz.prog 88 T88:=qg2 (z:=.nilFunc) (by kernel_rfl) rfl rfl (λm ρ=>⟨_,_,rfl,rfl,rfl⟩) (λh=>by cases h) (by decide) (by decide) (by decide) rfl Tryz.underlying88 (λh=>by cases h) (λh=>by cases h) (λh=>by cases h)
 (λh=>by cases h)
 (λh=>by cases h) (by decide)
def T92:TI:={ agg:=false,size:=1,bytes:=8,ty:=.bool,zero:=.cons (.lit .nilFunc) .nil,kind:=0,dflt:=false,elem:=0,flds:=[] }
theorem x4i:TIok Tryz.prog 92 T92:=qg2 (z:=.nilFunc) (by kernel_rfl) rfl rfl (λm ρ=>⟨_,_,rfl,rfl,rfl⟩) (λh=>by cases h) (by decide) (by decide) (by decide) rfl Tryz.underlying92 (λh=>by cases h) (λh=>by cases h) (λh=>by cases h)
 (λh=>by cases h)
 (λh=>by cases h) (by decide)
def T96:TI:={ agg:=false,size:=1,bytes:=8,ty:=.int .u64,zero:=.cons (.lit (.int .u64 0)) .nil,kind:=0,dflt:=true,elem:=0,flds:=[],isInt:=true }
theorem xz6:TIok Tryz.prog 96 T96:=qg2 (z:=.int .u64 0) (by kernel_rfl) rfl rfl (λm ρ=>⟨_,_,rfl,rfl,rfl⟩) (λ_ m=>rfl) (by decide) (by decide) (by decide) rfl Tryz.underlying96 (λh=>by cases h) (λh=>by cases h) (λh=>by cases h)
 (λh=>by cases h)
 (λh=>by cases h) (by decide) (h16:=λ_=>⟨.u64,rfl,Tryz.underlying96⟩)
def x2n:TI:={ agg:=false,size:=1,bytes:=8,ty:=.bool,zero:=.cons (.lit .nilFunc) .nil,kind:=0,dflt:=false,elem:=0,flds:=[] }
theorem xz7:TIok Tryz.prog 100 x2n:=qg2 (z:=.nilFunc) (by kernel_rfl) rfl rfl (λm ρ=>⟨_,_,rfl,rfl,rfl⟩) (λh=>by cases h) (by decide) (by decide) (by decide) rfl Tryz.underlying100 (λh=>by cases h) (λh=>by cases h) (λh=>by cases h)
 (λh=>by cases h)
 (λh=>by cases h) (by decide)
def x2o:TI:={ agg:=false,size:=1,bytes:=8,ty:=.bool,zero:=.cons (.lit .nilFunc) .nil,kind:=0,dflt:=false,elem:=0,flds:=[] }
theorem xz8:TIok Tryz.prog 101 x2o:=qg2 (z:=.nilFunc) (by kernel_rfl) rfl rfl (λm ρ=>⟨_,_,rfl,rfl,rfl⟩) (λh=>by cases h) (by decide) (by decide) (by decide) rfl Tryz.underlying101 (λh=>by cases h) (λh=>by cases h) (λh=>by cases h)
 (λh=>by cases h)
 (λh=>by cases h) (by decide)
def x2p:TI:={ agg:=false,size:=1,bytes:=8,ty:=.bool,zero:=.cons (.lit .nilFunc) .nil,kind:=0,dflt:=false,elem:=0,flds:=[] }
theorem xz9:TIok Tryz.prog 105 x2p:=qg2 (z:=.nilFunc) (by kernel_rfl) rfl rfl (λm ρ=>⟨_,_,rfl,rfl,rfl⟩) (λh=>by cases h) (by decide) (by decide) (by decide) rfl Tryz.underlying105 (λh=>by cases h) (λh=>by cases h) (λh=>by cases h)
 (λh=>by cases h)
 (λh=>by cases h) (by decide)
def x2q:TI:={ agg:=false,size:=1,bytes:=8,ty:=.int .u64,zero:=.cons (.lit (.int .u64 0)) .nil,kind:=0,dflt:=true,elem:=0,flds:=[],isInt:=true }
theorem x0b:TIok Tryz.prog 108 x2q:=qg2 (z:=.int .u64 0) (by kernel_rfl) rfl rfl (λm ρ=>⟨_,_,rfl,rfl,rfl⟩) (λ_ m=>rfl) (by decide) (by decide) (by decide) rfl Tryz.underlying108 (λh=>by cases h) (λh=>by cases h) (λh=>by cases h)
 (λh=>by cases h)
 (λh=>by cases h) (by decide) (h16:=λ_=>⟨.u64,rfl,Tryz.underlying108⟩)
def x2r:TI:={ agg:=false,size:=1,bytes:=4,ty:=.int .u32,zero:=.cons (.lit (.int .u32 0)) .nil,kind:=0,dflt:=true,elem:=0,flds:=[],isInt:=true }
theorem x0c:TIok Tryz.prog 111 x2r:=qg2 (z:=.int .u32 0) (by kernel_rfl) rfl rfl (λm ρ=>⟨_,_,rfl,rfl,rfl⟩) (λ_ m=>rfl) (by decide) (by decide) (by decide) rfl Tryz.underlying111 (λh=>by cases h) (λh=>by cases h) (λh=>by cases h)
 (λh=>by cases h)
 (λh=>by cases h) (by decide) (h16:=λ_=>⟨.u32,rfl,Tryz.underlying111⟩)
def x2s:TI:={ agg:=false,size:=1,bytes:=8,ty:=.bool,zero:=.cons (.lit .nilFunc) .nil,kind:=0,dflt:=false,elem:=0,flds:=[] }
theorem x0d:TIok Tryz.prog 114 x2s:=qg2 (z:=.nilFunc) (by kernel_rfl) rfl rfl (λm ρ=>⟨_,_,rfl,rfl,rfl⟩) (λh=>by cases h) (by decide) (by decide) (by decide) rfl Tryz.underlying114 (λh=>by cases h) (λh=>by cases h) (λh=>by cases h)
 (λh=>by cases h)
 (λh=>by cases h) (by decide)
def x0e:TI:={ agg:=true,size:=2,bytes:=16,ty:=.prod (.int .i64) (.int .u64),zero:=.cons (.lit (.int .i64 0)) (.cons (.lit (.int .u64 0)) .nil),kind:=5,dflt:=true,elem:=0,flds:=[(0,2,1),(1,96,1)],eq2:=true }
theorem x0f:TIok Tryz.prog 115 x0e:=qg2 (z:=.agg #[.int .i64 0,.int .u64 0]) (by kernel_rfl) rfl rfl (λm ρ=>⟨_,_,rfl,rfl,⟨_,_,rfl,rfl,rfl⟩⟩) (λ_ m=>⟨[.int .i64 0],[.int .u64 0],rfl,rfl,rfl⟩) (by decide) (by decide) (by decide) rfl Tryz.underlying115 (λh=>by cases h) (λh=>by cases h) (λh=>by cases h)
 (λh=>by cases h)
 (λ_=>⟨_,Tryz.underlying115,rfl,λf hf=>by
  simp only[x0e,List.mem_cons,List.not_mem_nil,or_false] at hf
  rcases hf with rfl | rfl
  ·exact⟨qs7 ti2,by decide⟩
  ·exact⟨qs7 xz6,by decide⟩⟩) (by decide) (λ_=>q0u Tryz.underlying115 (by decide) (by decide) rfl rfl Tryz.underlying2 Tryz.underlying96 (by kernel_rfl) (by kernel_rfl))
def x0g:TI:={ agg:=true,size:=2,bytes:=16,ty:=.prod (.int .i64) (.int .u64),zero:=.cons (.lit (.int .i64 0)) (.cons (.lit (.int .u64 0)) .nil),kind:=5,dflt:=true,elem:=0,flds:=[(0,2,1),(1,96,1)],eq2:=true }
theorem x0h:TIok Tryz.prog 116 x0g:=qg2 (z:=.agg #[.int .i64 0,.int .u64 0]) (by kernel_rfl) rfl rfl (λm ρ=>⟨_,_,rfl,rfl,⟨_,_,rfl,rfl,rfl⟩⟩) (λ_ m=>⟨[.int .i64 0],[.int .u64 0],rfl,rfl,rfl⟩) (by decide) (by decide) (by decide) rfl Tryz.underlying116 (λh=>by cases h) (λh=>by cases h) (λh=>by cases h)
 (λh=>by cases h)
 (λ_=>⟨_,Tryz.underlying116,rfl,λf hf=>by
  simp only[x0g,List.mem_cons,List.not_mem_nil,or_false] at hf
  rcases hf with rfl | rfl
  ·exact⟨qs7 ti2,by decide⟩
  ·exact⟨qs7 xz6,by decide⟩⟩) (by decide) (λ_=>q0u Tryz.underlying116 (by decide) (by decide) rfl rfl Tryz.underlying2 Tryz.underlying96 (by kernel_rfl) (by kernel_rfl))
def tys:List (Nat × TI):=[(1,T1),(2,T2),(3,T3),(4,T4),(5,T5),(6,T6),(7,T7),(8,T8),(9,T9),(10,T10),(11,T11),(12,T12),(14,T14),(15,T15),(16,T16),(17,T17),(18,T18),(19,T19),(21,T21),(22,T22),(23,T23),(24,T24),(26,T26),(27,T27),(28,T28),(29,T29),(30,T30),(32,T32),(34,T34),(35,T35),(38,T38),(39,T39),(44,T44),(45,T45),(47,T47),(49,T49),(50,T50),(51,T51),(53,T53),(56,T56),(57,T57),(61,T61),(62,T62),(63,T63),(67,T67),(68,T68),(70,T70),(76,T76),(77,T77),(87,T87),(88,T88),(92,T92),(96,T96),(100,x2n),(101,x2o),(105,x2p),(108,x2q),(111,x2r),(114,x2s),(115,x0e),(116,x0g)]
theorem qb3 {α:Type} {i j:Nat} {v w:α} {l:List (Nat × α)} (h:find ((j,v) :: l) i=some w):(i=j/\w=v)\/find l i=some w:=by
 simp only[find] at h
 split at h
 ·rename_i e; exact .inl ⟨(Nat.eq_of_beq_eq_true e).symm,by injection h with h; exact h.symm⟩
 ·exact .inr h
theorem q0h:∀t T,find tys t=some T->TIok Tryz.prog t T:=by
 intro t T h
 unfold tys at h
 rcases qb3 h with⟨rfl,rfl⟩ | h
 ·exact ti1
 rcases qb3 h with⟨rfl,rfl⟩ | h
 ·exact ti2
 rcases qb3 h with⟨rfl,rfl⟩ | h
 ·exact ti3
 rcases qb3 h with⟨rfl,rfl⟩ | h
 ·exact ti4
 rcases qb3 h with⟨rfl,rfl⟩ | h
 ·exact ti5
 rcases qb3 h with⟨rfl,rfl⟩ | h
 ·exact ti6
 rcases qb3 h with⟨rfl,rfl⟩ | h
 ·exact ti7
 rcases qb3 h with⟨rfl,rfl⟩ | h
 ·exact ti8
 rcases qb3 h with⟨rfl,rfl⟩ | h
 ·exact ti9
 rcases qb3 h with⟨rfl,rfl⟩ | h
 ·exact x26
 rcases qb3 h with⟨rfl,rfl⟩ | h
 ·exact x3a
 rcases qb3 h with⟨rfl,rfl⟩ | h
 ·exact x2k
 rcases qb3 h with⟨rfl,rfl⟩ | h
 ·exact x3b
 rcases qb3 h with⟨rfl,rfl⟩ | h
 ·exact x3c
 rcases qb3 h with⟨rfl,rfl⟩ | h
 ·exact x3d
 rcases qb3 h with⟨rfl,rfl⟩ | h
 ·exact xz5
 rcases qb3 h with⟨rfl,rfl⟩ | h
 ·exact x3e
 rcases qb3 h with⟨rfl,rfl⟩ | h
 ·exact x3f
 rcases qb3 h with⟨rfl,rfl⟩ | h
 ·exact x3g
 rcases qb3 h with⟨rfl,rfl⟩ | h
 ·exact x3h
 rcases qb3 h with⟨rfl,rfl⟩ | h
 ·exact x3i
 rcases qb3 h with⟨rfl,rfl⟩ | h
 ·exact x3j
 rcases qb3 h with⟨rfl,rfl⟩ | h
 ·exact x3k
 rcases qb3 h with⟨rfl,rfl⟩ | h
 ·exact x3l
 rcases qb3 h with⟨rfl,rfl⟩ | h
 ·exact x3m
 rcases qb3 h with⟨rfl,rfl⟩ | h
 ·exact x2l
 rcases qb3 h with⟨rfl,rfl⟩ | h
 ·exact x3n
 rcases qb3 h with⟨rfl,rfl⟩ | h
 ·exact x3o
 rcases qb3 h with⟨rfl,rfl⟩ | h
 ·exact x3p
 rcases qb3 h with⟨rfl,rfl⟩ | h
 ·exact x2m
 rcases qb3 h with⟨rfl,rfl⟩ | h
 ·exact x3r
 rcases qb3 h with⟨rfl,rfl⟩ | h
 ·exact x3s
 rcases qb3 h with⟨rfl,rfl⟩ | h
 ·exact x3t
 rcases qb3 h with⟨rfl,rfl⟩ | h
 ·exact x3u
 rcases qb3 h with⟨rfl,rfl⟩ | h
 ·exact x3v
 rcases qb3 h with⟨rfl,rfl⟩ | h
 ·exact x3w
 rcases qb3 h with⟨rfl,rfl⟩ | h
 ·exact x3x
 rcases qb3 h with⟨rfl,rfl⟩ | h
 ·exact x3y
 rcases qb3 h with⟨rfl,rfl⟩ | h
 ·exact x3z
 rcases qb3 h with⟨rfl,rfl⟩ | h
 ·exact x33
 rcases qb3 h with⟨rfl,rfl⟩ | h
 ·exact x35
 rcases qb3 h with⟨rfl,rfl⟩ | h
 ·exact x36
 rcases qb3 h with⟨rfl,rfl⟩ | h
 ·exact x37
 rcases qb3 h with⟨rfl,rfl⟩ | h
 ·exact x4a
 rcases qb3 h with⟨rfl,rfl⟩ | h
 ·exact x4b
 rcases qb3 h with⟨rfl,rfl⟩ | h
 ·exact x4c
 rcases qb3 h with⟨rfl,rfl⟩ | h
 ·exact x4d
 rcases qb3 h with⟨rfl,rfl⟩ | h
 ·exact x4e
 rcases qb3 h with⟨rfl,rfl⟩ | h
 ·exact x4f
 rcases qb3 h with⟨rfl,rfl⟩ | h
 ·exact x4g
 rcases qb3 h with⟨rfl,rfl⟩ | h
 ·exact x4h
 rcases qb3 h with⟨rfl,rfl⟩ | h
 ·exact x4i
 rcases qb3 h with⟨rfl,rfl⟩ | h
 ·exact xz6
 rcases qb3 h with⟨rfl,rfl⟩ | h
 ·exact xz7
 rcases qb3 h with⟨rfl,rfl⟩ | h
 ·exact xz8
 rcases qb3 h with⟨rfl,rfl⟩ | h
 ·exact xz9
 rcases qb3 h with⟨rfl,rfl⟩ | h
 ·exact x0b
 rcases qb3 h with⟨rfl,rfl⟩ | h
 ·exact x0c
 rcases qb3 h with⟨rfl,rfl⟩ | h
 ·exact x0d
 rcases qb3 h with⟨rfl,rfl⟩ | h
 ·exact x0f
 rcases qb3 h with⟨rfl,rfl⟩ | h
 ·exact x0h
 cases h
end Go.Proofs.YtempacilejhbgaaGreatDoor
