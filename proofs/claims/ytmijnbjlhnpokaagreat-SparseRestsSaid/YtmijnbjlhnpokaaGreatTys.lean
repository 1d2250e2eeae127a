/- What the table of this seat says of its types, for the engine. Printed by program (gentys.py). No condition. -/
import Derived.Test.YtmijnbjlhnpokaaGreatEng3
import Derived.Test.YtmijnbjlhnpokaaGreatProg
set_option linter.unusedVariables false
set_option linter.unusedSimpArgs false
namespace Go.Proofs.YtmijnbjlhnpokaaGreat
open Go Go.RowKit Eng
theorem qg1 {P:Program} {t:Nat} {T:TI} {z:Value} {d:TypeDesc} (h1:(P.info? t).map (λi=>(i.size,i.bytes,i.zero))=some (T.size,T.bytes,some z)) (hz:z.cells.size=T.size) (h2:z.cells.toList.all (·.oneCell')=true)
  (h3:∀m ρ,T.zero.ok P m ρ z.cells.toList) (h4:T.dflt=true->∀m,Rd m T.ty T.ty.dflt z.cells.toList) (h5:T.bytes<=1000000) (h6:T.size≠0) (h7:T.size<=10000) (h8:(match d with | .struct _ | .array _ _=>true | _=>false)=T.agg) (hu:P.underlying t=some d)
  (h9:T.kind=1->P.underlying t=some (.slice T.elem)) (h10:T.kind=2->P.underlying t=some .string) (h11:T.kind=3->P.underlying t=some .bool)
  (h12:T.kind=4->∃n sz,P.underlying t=some (.array n T.elem)/\(∃j,P.info? T.elem=some j/\j.size=sz)/\sz≠0/\∀(f:Nat) (fl:Nat × Nat × Nat),T.flds[f]? = some fl->fl=(f*sz,T.elem,sz)/\f<n)
  (h13:T.kind=5->∃fields,P.underlying t=some (.struct fields)/\fields.toList.map (λF=>(F.offset,F.type))=T.flds.map (λf=>(f.1,f.2.1))/\∀f∈T.flds,(∃j,P.info? f.2.1=some j/\j.size=f.2.2)/\f.2.2≠0) (h14:T.kind<=5) (h15:T.eq2=true->Eq2 P t:=by(intro h; cases h)) (h16:T.isInt=true->∃k,T.ty=.int k/\P.underlying t=some (.int k):=by(intro h; cases h))
  (h17:∀eb,T.bld=some eb->∃i,P.info? t=some i/\i.zero=some (.agg #[.pointer none,.slice none 0 0]):=by(intro eb h; cases h)):TIok P t T:=by
 refine⟨?_,h5,h6,h7,⟨d,hu,h8⟩,h9,h10,h11,h12,h13,h14,h15,h16,h17⟩
 cases hi:P.info? t with
 | none=>rw[hi] at h1; cases h1
 | some i=>
  rw[hi] at h1
  simp only[Option.map_some,Option.some.injEq,Prod.mk.injEq] at h1
  exact⟨i,z,rfl,h1.1,h1.2.1,h1.2.2,hz,h2,h3,h4⟩
theorem qk6 {P:Program} {t:Nat} {T:TI} (h:TIok P t T):∃j,P.info? t=some j/\j.size=T.size:=by
 obtain⟨i,z,h1,h2,_⟩:=h.info
 exact⟨i,h1,h2⟩
def T1:TI:={ agg:=false,size:=1,bytes:=8,ty:=.bool,zero:=.cons (.lit .nilFunc) .nil,kind:=0,dflt:=false,elem:=0,flds:=[] }
theorem ti1:TIok Tryz.prog 1 T1:=qg1 (z:=.nilFunc) (by kernel_rfl) rfl rfl (λm ρ=>⟨_,_,rfl,rfl,rfl⟩) (λh=>by cases h) (by decide) (by decide) (by decide) rfl Tryz.underlying1 (λh=>by cases h) (λh=>by cases h) (λh=>by cases h)
 (λh=>by cases h)
 (λh=>by cases h) (by decide)
def T2:TI:={ agg:=false,size:=1,bytes:=8,ty:=.int .i64,zero:=.cons (.lit (.int .i64 0)) .nil,kind:=0,dflt:=true,elem:=0,flds:=[],isInt:=true }
theorem ti2:TIok Tryz.prog 2 T2:=qg1 (z:=.int .i64 0) (by kernel_rfl) rfl rfl (λm ρ=>⟨_,_,rfl,rfl,rfl⟩) (λ_ m=>rfl) (by decide) (by decide) (by decide) rfl Tryz.underlying2 (λh=>by cases h) (λh=>by cases h) (λh=>by cases h)
 (λh=>by cases h)
 (λh=>by cases h) (by decide) (h16:=λ_=>⟨.i64,rfl,Tryz.underlying2⟩)
def T3:TI:={ agg:=false,size:=1,bytes:=8,ty:=.int .i64,zero:=.cons (.lit (.int .i64 0)) .nil,kind:=0,dflt:=true,elem:=0,flds:=[],isInt:=true }
theorem ti3:TIok Tryz.prog 3 T3:=qg1 (z:=.int .i64 0) (by kernel_rfl) rfl rfl (λm ρ=>⟨_,_,rfl,rfl,rfl⟩) (λ_ m=>rfl) (by decide) (by decide) (by decide) rfl Tryz.underlying3 (λh=>by cases h) (λh=>by cases h) (λh=>by cases h)
 (λh=>by cases h)
 (λh=>by cases h) (by decide) (h16:=λ_=>⟨.i64,rfl,Tryz.underlying3⟩)
def T4:TI:={ agg:=false,size:=1,bytes:=1,ty:=.bool,zero:=.cons (.ff) .nil,kind:=3,dflt:=true,elem:=0,flds:=[] }
theorem ti4:TIok Tryz.prog 4 T4:=qg1 (z:=.bool false) (by kernel_rfl) rfl rfl (λm ρ=>⟨_,_,rfl,rfl,rfl⟩) (λ_ m=>rfl) (by decide) (by decide) (by decide) rfl Tryz.underlying4 (λh=>by cases h) (λh=>by cases h) (λ_=>Tryz.underlying4)
 (λh=>by cases h)
 (λh=>by cases h) (by decide)
def T5:TI:={ agg:=false,size:=1,bytes:=1,ty:=.int .u8,zero:=.cons (.lit (.int .u8 0)) .nil,kind:=0,dflt:=true,elem:=0,flds:=[],isInt:=true }
theorem ti5:TIok Tryz.prog 5 T5:=qg1 (z:=.int .u8 0) (by kernel_rfl) rfl rfl (λm ρ=>⟨_,_,rfl,rfl,rfl⟩) (λ_ m=>rfl) (by decide) (by decide) (by decide) rfl Tryz.underlying5 (λh=>by cases h) (λh=>by cases h) (λh=>by cases h)
 (λh=>by cases h)
 (λh=>by cases h) (by decide) (h16:=λ_=>⟨.u8,rfl,Tryz.underlying5⟩)
def T6:TI:={ agg:=false,size:=1,bytes:=1,ty:=.int .u8,zero:=.cons (.lit (.int .u8 0)) .nil,kind:=0,dflt:=true,elem:=0,flds:=[],isInt:=true }
theorem ti6:TIok Tryz.prog 6 T6:=qg1 (z:=.int .u8 0) (by kernel_rfl) rfl rfl (λm ρ=>⟨_,_,rfl,rfl,rfl⟩) (λ_ m=>rfl) (by decide) (by decide) (by decide) rfl Tryz.underlying6 (λh=>by cases h) (λh=>by cases h) (λh=>by cases h)
 (λh=>by cases h)
 (λh=>by cases h) (by decide) (h16:=λ_=>⟨.u8,rfl,Tryz.underlying6⟩)
def T7:TI:={ agg:=true,size:=4,bytes:=24,ty:=.prod (.int .i64) (.prod (.int .i64) (.prod (.bool) (.int .u8))),zero:=.cons (.lit (.int .i64 0)) (.cons (.lit (.int .i64 0)) (.cons (.ff) (.cons (.lit (.int .u8 0)) .nil))),kind:=5,dflt:=true,elem:=0,flds:=[(0,2,1),(1,3,1),(2,4,1),(3,6,1)] }
theorem ti7:TIok Tryz.prog 7 T7:=qg1 (z:=.agg #[.int .i64 0,.int .i64 0,.bool false,.int .u8 0]) (by kernel_rfl) rfl rfl (λm ρ=>⟨_,_,rfl,rfl,⟨_,_,rfl,rfl,⟨_,_,rfl,rfl,⟨_,_,rfl,rfl,rfl⟩⟩⟩⟩) (λ_ m=>⟨[.int .i64 0],[.int .i64 0,.bool false,.int .u8 0],rfl,rfl,⟨[.int .i64 0],[.bool false,.int .u8 0],rfl,rfl,⟨[.bool false],[.int .u8 0],rfl,rfl,rfl⟩⟩⟩) (by decide) (by decide) (by decide) rfl Tryz.underlying7 (λh=>by cases h) (λh=>by cases h) (λh=>by cases h)
 (λh=>by cases h)
 (λ_=>⟨_,Tryz.underlying7,rfl,λf hf=>by
  simp only[T7,List.mem_cons,List.not_mem_nil,or_false] at hf
  rcases hf with rfl | rfl | rfl | rfl
  ·exact⟨qk6 ti2,by decide⟩
  ·exact⟨qk6 ti3,by decide⟩
  ·exact⟨qk6 ti4,by decide⟩
  ·exact⟨qk6 ti6,by decide⟩⟩) (by decide)
def T8:TI:={ agg:=true,size:=4,bytes:=24,ty:=.prod (.int .i64) (.prod (.int .i64) (.prod (.bool) (.int .u8))),zero:=.cons (.lit (.int .i64 0)) (.cons (.lit (.int .i64 0)) (.cons (.ff) (.cons (.lit (.int .u8 0)) .nil))),kind:=5,dflt:=true,elem:=0,flds:=[(0,2,1),(1,3,1),(2,4,1),(3,6,1)] }
theorem ti8:TIok Tryz.prog 8 T8:=qg1 (z:=.agg #[.int .i64 0,.int .i64 0,.bool false,.int .u8 0]) (by kernel_rfl) rfl rfl (λm ρ=>⟨_,_,rfl,rfl,⟨_,_,rfl,rfl,⟨_,_,rfl,rfl,⟨_,_,rfl,rfl,rfl⟩⟩⟩⟩) (λ_ m=>⟨[.int .i64 0],[.int .i64 0,.bool false,.int .u8 0],rfl,rfl,⟨[.int .i64 0],[.bool false,.int .u8 0],rfl,rfl,⟨[.bool false],[.int .u8 0],rfl,rfl,rfl⟩⟩⟩) (by decide) (by decide) (by decide) rfl Tryz.underlying8 (λh=>by cases h) (λh=>by cases h) (λh=>by cases h)
 (λh=>by cases h)
 (λ_=>⟨_,Tryz.underlying8,rfl,λf hf=>by
  simp only[T8,List.mem_cons,List.not_mem_nil,or_false] at hf
  rcases hf with rfl | rfl | rfl | rfl
  ·exact⟨qk6 ti2,by decide⟩
  ·exact⟨qk6 ti3,by decide⟩
  ·exact⟨qk6 ti4,by decide⟩
  ·exact⟨qk6 ti6,by decide⟩⟩) (by decide)
def T9:TI:={ agg:=false,size:=1,bytes:=16,ty:=.str,zero:=.cons (.lit (.string ⟨#[]⟩)) .nil,kind:=2,dflt:=true,elem:=0,flds:=[] }
theorem ti9:TIok Tryz.prog 9 T9:=qg1 (z:=.string ⟨#[]⟩) (by kernel_rfl) rfl rfl (λm ρ=>⟨_,_,rfl,rfl,rfl⟩) (λ_ m=>rfl) (by decide) (by decide) (by decide) rfl Tryz.underlying9 (λh=>by cases h) (λ_=>Tryz.underlying9) (λh=>by cases h)
 (λh=>by cases h)
 (λh=>by cases h) (by decide)
def T10:TI:={ agg:=false,size:=1,bytes:=16,ty:=.str,zero:=.cons (.lit (.string ⟨#[]⟩)) .nil,kind:=2,dflt:=true,elem:=0,flds:=[] }
theorem x5c:TIok Tryz.prog 10 T10:=qg1 (z:=.string ⟨#[]⟩) (by kernel_rfl) rfl rfl (λm ρ=>⟨_,_,rfl,rfl,rfl⟩) (λ_ m=>rfl) (by decide) (by decide) (by decide) rfl Tryz.underlying10 (λh=>by cases h) (λ_=>Tryz.underlying10) (λh=>by cases h)
 (λh=>by cases h)
 (λh=>by cases h) (by decide)
def T11:TI:={ agg:=false,size:=1,bytes:=16,ty:=.str,zero:=.cons (.lit (.string ⟨#[]⟩)) .nil,kind:=2,dflt:=true,elem:=0,flds:=[] }
theorem x5d:TIok Tryz.prog 11 T11:=qg1 (z:=.string ⟨#[]⟩) (by kernel_rfl) rfl rfl (λm ρ=>⟨_,_,rfl,rfl,rfl⟩) (λ_ m=>rfl) (by decide) (by decide) (by decide) rfl Tryz.underlying11 (λh=>by cases h) (λ_=>Tryz.underlying11) (λh=>by cases h)
 (λh=>by cases h)
 (λh=>by cases h) (by decide)
def T12:TI:={ agg:=false,size:=1,bytes:=8,ty:=.int .u64,zero:=.cons (.lit (.int .u64 0)) .nil,kind:=0,dflt:=true,elem:=0,flds:=[],isInt:=true }
theorem x0z:TIok Tryz.prog 12 T12:=qg1 (z:=.int .u64 0) (by kernel_rfl) rfl rfl (λm ρ=>⟨_,_,rfl,rfl,rfl⟩) (λ_ m=>rfl) (by decide) (by decide) (by decide) rfl Tryz.underlying12 (λh=>by cases h) (λh=>by cases h) (λh=>by cases h)
 (λh=>by cases h)
 (λh=>by cases h) (by decide) (h16:=λ_=>⟨.u64,rfl,Tryz.underlying12⟩)
def T13:TI:={ agg:=true,size:=2,bytes:=24,ty:=.prod (.str) (.int .u64),zero:=.cons (.lit (.string ⟨#[]⟩)) (.cons (.lit (.int .u64 0)) .nil),kind:=5,dflt:=true,elem:=0,flds:=[(0,9,1),(1,12,1)] }
theorem x5e:TIok Tryz.prog 13 T13:=qg1 (z:=.agg #[.string ⟨#[]⟩,.int .u64 0]) (by kernel_rfl) rfl rfl (λm ρ=>⟨_,_,rfl,rfl,⟨_,_,rfl,rfl,rfl⟩⟩) (λ_ m=>⟨[.string ⟨#[]⟩],[.int .u64 0],rfl,rfl,rfl⟩) (by decide) (by decide) (by decide) rfl Tryz.underlying13 (λh=>by cases h) (λh=>by cases h) (λh=>by cases h)
 (λh=>by cases h)
 (λ_=>⟨_,Tryz.underlying13,rfl,λf hf=>by
  simp only[T13,List.mem_cons,List.not_mem_nil,or_false] at hf
  rcases hf with rfl | rfl
  ·exact⟨qk6 ti9,by decide⟩
  ·exact⟨qk6 x0z,by decide⟩⟩) (by decide)
def T14:TI:={ agg:=true,size:=2,bytes:=24,ty:=.prod (.str) (.int .u64),zero:=.cons (.lit (.string ⟨#[]⟩)) (.cons (.lit (.int .u64 0)) .nil),kind:=5,dflt:=true,elem:=0,flds:=[(0,9,1),(1,12,1)] }
theorem x5f:TIok Tryz.prog 14 T14:=qg1 (z:=.agg #[.string ⟨#[]⟩,.int .u64 0]) (by kernel_rfl) rfl rfl (λm ρ=>⟨_,_,rfl,rfl,⟨_,_,rfl,rfl,rfl⟩⟩) (λ_ m=>⟨[.string ⟨#[]⟩],[.int .u64 0],rfl,rfl,rfl⟩) (by decide) (by decide) (by decide) rfl Tryz.underlying14 (λh=>by cases h) (λh=>by cases h) (λh=>by cases h)
 (λh=>by cases h)
 (λ_=>⟨_,Tryz.underlying14,rfl,λf hf=>by
  simp only[T14,List.mem_cons,List.not_mem_nil,or_false] at hf
  rcases hf with rfl | rfl
  ·exact⟨qk6 ti9,by decide⟩
  ·exact⟨qk6 x0z,by decide⟩⟩) (by decide)
def T15:TI:={ agg:=false,size:=1,bytes:=8,ty:=.bool,zero:=.cons (.lit (.pointer none)) .nil,kind:=0,dflt:=false,elem:=0,flds:=[] }
theorem x5g:TIok Tryz.prog 15 T15:=qg1 (z:=.pointer none) (by kernel_rfl) rfl rfl (λm ρ=>⟨_,_,rfl,rfl,rfl⟩) (λh=>by cases h) (by decide) (by decide) (by decide) rfl Tryz.underlying15 (λh=>by cases h) (λh=>by cases h) (λh=>by cases h)
 (λh=>by cases h)
 (λh=>by cases h) (by decide)
def T16:TI:={ agg:=false,size:=1,bytes:=8,ty:=.bool,zero:=.cons (.lit (.pointer none)) .nil,kind:=0,dflt:=false,elem:=0,flds:=[] }
theorem x5h:TIok Tryz.prog 16 T16:=qg1 (z:=.pointer none) (by kernel_rfl) rfl rfl (λm ρ=>⟨_,_,rfl,rfl,rfl⟩) (λh=>by cases h) (by decide) (by decide) (by decide) rfl Tryz.underlying16 (λh=>by cases h) (λh=>by cases h) (λh=>by cases h)
 (λh=>by cases h)
 (λh=>by cases h) (by decide)
def T17:TI:={ agg:=false,size:=1,bytes:=8,ty:=.bool,zero:=.cons (.lit (.pointer none)) .nil,kind:=0,dflt:=false,elem:=0,flds:=[] }
theorem x00:TIok Tryz.prog 17 T17:=qg1 (z:=.pointer none) (by kernel_rfl) rfl rfl (λm ρ=>⟨_,_,rfl,rfl,rfl⟩) (λh=>by cases h) (by decide) (by decide) (by decide) rfl Tryz.underlying17 (λh=>by cases h) (λh=>by cases h) (λh=>by cases h)
 (λh=>by cases h)
 (λh=>by cases h) (by decide)
def T18:TI:={ agg:=true,size:=1,bytes:=8,ty:=.bool,zero:=.cons (.lit (.pointer none)) .nil,kind:=5,dflt:=false,elem:=0,flds:=[(0,17,1)] }
theorem x5i:TIok Tryz.prog 18 T18:=qg1 (z:=.agg #[.pointer none]) (by kernel_rfl) rfl rfl (λm ρ=>⟨_,_,rfl,rfl,rfl⟩) (λh=>by cases h) (by decide) (by decide) (by decide) rfl Tryz.underlying18 (λh=>by cases h) (λh=>by cases h) (λh=>by cases h)
 (λh=>by cases h)
 (λ_=>⟨_,Tryz.underlying18,rfl,λf hf=>by
  simp only[T18,List.mem_cons,List.not_mem_nil,or_false] at hf
  rcases hf with rfl
  ·exact⟨qk6 x00,by decide⟩⟩) (by decide)
def T19:TI:={ agg:=true,size:=1,bytes:=8,ty:=.bool,zero:=.cons (.lit (.pointer none)) .nil,kind:=5,dflt:=false,elem:=0,flds:=[(0,17,1)] }
theorem x5j:TIok Tryz.prog 19 T19:=qg1 (z:=.agg #[.pointer none]) (by kernel_rfl) rfl rfl (λm ρ=>⟨_,_,rfl,rfl,rfl⟩) (λh=>by cases h) (by decide) (by decide) (by decide) rfl Tryz.underlying19 (λh=>by cases h) (λh=>by cases h) (λh=>by cases h)
 (λh=>by cases h)
 (λ_=>⟨_,Tryz.underlying19,rfl,λf hf=>by
  simp only[T19,List.mem_cons,List.not_mem_nil,or_false] at hf
  rcases hf with rfl
  ·exact⟨qk6 x00,by decide⟩⟩) (by decide)
def T21:TI:={ agg:=false,size:=1,bytes:=4,ty:=.int .i32,zero:=.cons (.lit (.int .i32 0)) .nil,kind:=0,dflt:=true,elem:=0,flds:=[],isInt:=true }
theorem x5k:TIok Tryz.prog 21 T21:=qg1 (z:=.int .i32 0) (by kernel_rfl) rfl rfl (λm ρ=>⟨_,_,rfl,rfl,rfl⟩) (λ_ m=>rfl) (by decide) (by decide) (by decide) rfl Tryz.underlying21 (λh=>by cases h) (λh=>by cases h) (λh=>by cases h)
 (λh=>by cases h)
 (λh=>by cases h) (by decide) (h16:=λ_=>⟨.i32,rfl,Tryz.underlying21⟩)
def T22:TI:={ agg:=false,size:=1,bytes:=24,ty:=.list (.list (.int .i64)),zero:=.cons (.lit (.slice none 0 0)) .nil,kind:=1,dflt:=true,elem:=34,flds:=[] }
theorem x5l:TIok Tryz.prog 22 T22:=qg1 (z:=.slice none 0 0) (by kernel_rfl) rfl rfl (λm ρ=>⟨_,_,rfl,rfl,rfl⟩) (λ_ m=>⟨none,0,rfl,Nat.le_refl _,by unfold maxLen; exact Nat.zero_le _,λh=>absurd h (Nat.lt_irrefl 0)⟩) (by decide) (by decide) (by decide) rfl Tryz.underlying22 (λ_=>Tryz.underlying22) (λh=>by cases h) (λh=>by cases h)
 (λh=>by cases h)
 (λh=>by cases h) (by decide)
def T23:TI:={ agg:=false,size:=1,bytes:=24,ty:=.list (.list (.int .i64)),zero:=.cons (.lit (.slice none 0 0)) .nil,kind:=1,dflt:=true,elem:=34,flds:=[] }
theorem x33:TIok Tryz.prog 23 T23:=qg1 (z:=.slice none 0 0) (by kernel_rfl) rfl rfl (λm ρ=>⟨_,_,rfl,rfl,rfl⟩) (λ_ m=>⟨none,0,rfl,Nat.le_refl _,by unfold maxLen; exact Nat.zero_le _,λh=>absurd h (Nat.lt_irrefl 0)⟩) (by decide) (by decide) (by decide) rfl Tryz.underlying23 (λ_=>Tryz.underlying23) (λh=>by cases h) (λh=>by cases h)
 (λh=>by cases h)
 (λh=>by cases h) (by decide)
def T24:TI:={ agg:=true,size:=3,bytes:=24,ty:=.prod (.int .i64) (.prod (.int .i64) (.int .i64)),zero:=.cons (.lit (.int .i64 0)) (.cons (.lit (.int .i64 0)) (.cons (.lit (.int .i64 0)) .nil)),kind:=5,dflt:=true,elem:=0,flds:=[(0,3,1),(1,3,1),(2,3,1)] }
theorem x5m:TIok Tryz.prog 24 T24:=qg1 (z:=.agg #[.int .i64 0,.int .i64 0,.int .i64 0]) (by kernel_rfl) rfl rfl (λm ρ=>⟨_,_,rfl,rfl,⟨_,_,rfl,rfl,⟨_,_,rfl,rfl,rfl⟩⟩⟩) (λ_ m=>⟨[.int .i64 0],[.int .i64 0,.int .i64 0],rfl,rfl,⟨[.int .i64 0],[.int .i64 0],rfl,rfl,rfl⟩⟩) (by decide) (by decide) (by decide) rfl Tryz.underlying24 (λh=>by cases h) (λh=>by cases h) (λh=>by cases h)
 (λh=>by cases h)
 (λ_=>⟨_,Tryz.underlying24,rfl,λf hf=>by
  simp only[T24,List.mem_cons,List.not_mem_nil,or_false] at hf
  rcases hf with rfl | rfl | rfl
  ·exact⟨qk6 ti3,by decide⟩
  ·exact⟨qk6 ti3,by decide⟩
  ·exact⟨qk6 ti3,by decide⟩⟩) (by decide)
def T25:TI:={ agg:=true,size:=3,bytes:=24,ty:=.prod (.int .i64) (.prod (.int .i64) (.int .i64)),zero:=.cons (.lit (.int .i64 0)) (.cons (.lit (.int .i64 0)) (.cons (.lit (.int .i64 0)) .nil)),kind:=5,dflt:=true,elem:=0,flds:=[(0,3,1),(1,3,1),(2,3,1)] }
theorem x5n:TIok Tryz.prog 25 T25:=qg1 (z:=.agg #[.int .i64 0,.int .i64 0,.int .i64 0]) (by kernel_rfl) rfl rfl (λm ρ=>⟨_,_,rfl,rfl,⟨_,_,rfl,rfl,⟨_,_,rfl,rfl,rfl⟩⟩⟩) (λ_ m=>⟨[.int .i64 0],[.int .i64 0,.int .i64 0],rfl,rfl,⟨[.int .i64 0],[.int .i64 0],rfl,rfl,rfl⟩⟩) (by decide) (by decide) (by decide) rfl Tryz.underlying25 (λh=>by cases h) (λh=>by cases h) (λh=>by cases h)
 (λh=>by cases h)
 (λ_=>⟨_,Tryz.underlying25,rfl,λf hf=>by
  simp only[T25,List.mem_cons,List.not_mem_nil,or_false] at hf
  rcases hf with rfl | rfl | rfl
  ·exact⟨qk6 ti3,by decide⟩
  ·exact⟨qk6 ti3,by decide⟩
  ·exact⟨qk6 ti3,by decide⟩⟩) (by decide)
def T26:TI:={ agg:=false,size:=1,bytes:=8,ty:=.bool,zero:=.cons (.lit .nilFunc) .nil,kind:=0,dflt:=false,elem:=0,flds:=[] }
theorem x5o:TIok Tryz.prog 26 T26:=qg1 (z:=.nilFunc) (by kernel_rfl) rfl rfl (λm ρ=>⟨_,_,rfl,rfl,rfl⟩) (λh=>by cases h) (by decide) (by decide) (by decide) rfl Tryz.underlying26 (λh=>by cases h) (λh=>by cases h) (λh=>by cases h)
 (λh=>by cases h)
 (λh=>by cases h) (by decide)
def T27:TI:={ agg:=false,size:=1,bytes:=8,ty:=.bool,zero:=.cons (.lit .nilFunc) .nil,kind:=0,dflt:=false,elem:=0,flds:=[] }
theorem x5p:TIok Tryz.prog 27 T27:=qg1 (z:=.nilFunc) (by kernel_rfl) rfl rfl (λm ρ=>⟨_,_,rfl,rfl,rfl⟩) (λh=>by cases h) (by decide) (by decide) (by decide) rfl Tryz.underlying27 (λh=>by cases h) (λh=>by cases h) (λh=>by cases h)
 (λh=>by cases h)
 (λh=>by cases h) (by decide)
def T28:TI:={ agg:=false,size:=1,bytes:=8,ty:=.int .i64,zero:=.cons (.lit (.int .i64 0)) .nil,kind:=0,dflt:=true,elem:=0,flds:=[],isInt:=true }
theorem x5q:TIok Tryz.prog 28 T28:=qg1 (z:=.int .i64 0) (by kernel_rfl) rfl rfl (λm ρ=>⟨_,_,rfl,rfl,rfl⟩) (λ_ m=>rfl) (by decide) (by decide) (by decide) rfl Tryz.underlying28 (λh=>by cases h) (λh=>by cases h) (λh=>by cases h)
 (λh=>by cases h)
 (λh=>by cases h) (by decide) (h16:=λ_=>⟨.i64,rfl,Tryz.underlying28⟩)
def T30:TI:={ agg:=false,size:=1,bytes:=8,ty:=.bool,zero:=.cons (.lit .nilFunc) .nil,kind:=0,dflt:=false,elem:=0,flds:=[] }
theorem x5r:TIok Tryz.prog 30 T30:=qg1 (z:=.nilFunc) (by kernel_rfl) rfl rfl (λm ρ=>⟨_,_,rfl,rfl,rfl⟩) (λh=>by cases h) (by decide) (by decide) (by decide) rfl Tryz.underlying30 (λh=>by cases h) (λh=>by cases h) (λh=>by cases h)
 (λh=>by cases h)
 (λh=>by cases h) (by decide)
def T31:TI:={ agg:=false,size:=1,bytes:=24,ty:=.list (.prod (.bool) (.list (.int .i64))),zero:=.cons (.lit (.slice none 0 0)) .nil,kind:=1,dflt:=true,elem:=39,flds:=[] }
theorem x5s:TIok Tryz.prog 31 T31:=qg1 (z:=.slice none 0 0) (by kernel_rfl) rfl rfl (λm ρ=>⟨_,_,rfl,rfl,rfl⟩) (λ_ m=>⟨none,0,rfl,Nat.le_refl _,by unfold maxLen; exact Nat.zero_le _,λh=>absurd h (Nat.lt_irrefl 0)⟩) (by decide) (by decide) (by decide) rfl Tryz.underlying31 (λ_=>Tryz.underlying31) (λh=>by cases h) (λh=>by cases h)
 (λh=>by cases h)
 (λh=>by cases h) (by decide)
def T33:TI:={ agg:=false,size:=1,bytes:=8,ty:=.bool,zero:=.cons (.lit .nilFunc) .nil,kind:=0,dflt:=false,elem:=0,flds:=[] }
theorem x5t:TIok Tryz.prog 33 T33:=qg1 (z:=.nilFunc) (by kernel_rfl) rfl rfl (λm ρ=>⟨_,_,rfl,rfl,rfl⟩) (λh=>by cases h) (by decide) (by decide) (by decide) rfl Tryz.underlying33 (λh=>by cases h) (λh=>by cases h) (λh=>by cases h)
 (λh=>by cases h)
 (λh=>by cases h) (by decide)
def T34:TI:={ agg:=false,size:=1,bytes:=24,ty:=.list (.int .i64),zero:=.cons (.lit (.slice none 0 0)) .nil,kind:=1,dflt:=true,elem:=3,flds:=[] }
theorem xe8:TIok Tryz.prog 34 T34:=qg1 (z:=.slice none 0 0) (by kernel_rfl) rfl rfl (λm ρ=>⟨_,_,rfl,rfl,rfl⟩) (λ_ m=>⟨none,0,rfl,Nat.le_refl _,by unfold maxLen; exact Nat.zero_le _,λh=>absurd h (Nat.lt_irrefl 0)⟩) (by decide) (by decide) (by decide) rfl Tryz.underlying34 (λ_=>Tryz.underlying34) (λh=>by cases h) (λh=>by cases h)
 (λh=>by cases h)
 (λh=>by cases h) (by decide)
def T38:TI:={ agg:=true,size:=2,bytes:=32,ty:=.prod (.bool) (.list (.int .i64)),zero:=.cons (.ff) (.cons (.lit (.slice none 0 0)) .nil),kind:=5,dflt:=true,elem:=0,flds:=[(0,4,1),(1,34,1)] }
theorem x5u:TIok Tryz.prog 38 T38:=qg1 (z:=.agg #[.bool false,.slice none 0 0]) (by kernel_rfl) rfl rfl (λm ρ=>⟨_,_,rfl,rfl,⟨_,_,rfl,rfl,rfl⟩⟩) (λ_ m=>⟨[.bool false],[.slice none 0 0],rfl,rfl,⟨none,0,rfl,Nat.le_refl _,by unfold maxLen; exact Nat.zero_le _,λh=>absurd h (Nat.lt_irrefl 0)⟩⟩) (by decide) (by decide) (by decide) rfl Tryz.underlying38 (λh=>by cases h) (λh=>by cases h) (λh=>by cases h)
 (λh=>by cases h)
 (λ_=>⟨_,Tryz.underlying38,rfl,λf hf=>by
  simp only[T38,List.mem_cons,List.not_mem_nil,or_false] at hf
  rcases hf with rfl | rfl
  ·exact⟨qk6 ti4,by decide⟩
  ·exact⟨qk6 xe8,by decide⟩⟩) (by decide)
def T39:TI:={ agg:=true,size:=2,bytes:=32,ty:=.prod (.bool) (.list (.int .i64)),zero:=.cons (.ff) (.cons (.lit (.slice none 0 0)) .nil),kind:=5,dflt:=true,elem:=0,flds:=[(0,4,1),(1,34,1)] }
theorem x5v:TIok Tryz.prog 39 T39:=qg1 (z:=.agg #[.bool false,.slice none 0 0]) (by kernel_rfl) rfl rfl (λm ρ=>⟨_,_,rfl,rfl,⟨_,_,rfl,rfl,rfl⟩⟩) (λ_ m=>⟨[.bool false],[.slice none 0 0],rfl,rfl,⟨none,0,rfl,Nat.le_refl _,by unfold maxLen; exact Nat.zero_le _,λh=>absurd h (Nat.lt_irrefl 0)⟩⟩) (by decide) (by decide) (by decide) rfl Tryz.underlying39 (λh=>by cases h) (λh=>by cases h) (λh=>by cases h)
 (λh=>by cases h)
 (λ_=>⟨_,Tryz.underlying39,rfl,λf hf=>by
  simp only[T39,List.mem_cons,List.not_mem_nil,or_false] at hf
  rcases hf with rfl | rfl
  ·exact⟨qk6 ti4,by decide⟩
  ·exact⟨qk6 xe8,by decide⟩⟩) (by decide)
def T42:TI:={ agg:=true,size:=2,bytes:=48,ty:=.prod (.list (.int .i64)) (.list (.int .i64)),zero:=.cons (.lit (.slice none 0 0)) (.cons (.lit (.slice none 0 0)) .nil),kind:=5,dflt:=true,elem:=0,flds:=[(0,34,1),(1,34,1)] }
theorem x5w:TIok Tryz.prog 42 T42:=qg1 (z:=.agg #[.slice none 0 0,.slice none 0 0]) (by kernel_rfl) rfl rfl (λm ρ=>⟨_,_,rfl,rfl,⟨_,_,rfl,rfl,rfl⟩⟩) (λ_ m=>⟨[.slice none 0 0],[.slice none 0 0],rfl,⟨none,0,rfl,Nat.le_refl _,by unfold maxLen; exact Nat.zero_le _,λh=>absurd h (Nat.lt_irrefl 0)⟩,⟨none,0,rfl,Nat.le_refl _,by unfold maxLen; exact Nat.zero_le _,λh=>absurd h (Nat.lt_irrefl 0)⟩⟩) (by decide) (by decide) (by decide) rfl Tryz.underlying42 (λh=>by cases h) (λh=>by cases h) (λh=>by cases h)
 (λh=>by cases h)
 (λ_=>⟨_,Tryz.underlying42,rfl,λf hf=>by
  simp only[T42,List.mem_cons,List.not_mem_nil,or_false] at hf
  rcases hf with rfl | rfl
  ·exact⟨qk6 xe8,by decide⟩
  ·exact⟨qk6 xe8,by decide⟩⟩) (by decide)
def T44:TI:={ agg:=false,size:=1,bytes:=24,ty:=.list (.prod (.list (.int .i64)) (.list (.int .i64))),zero:=.cons (.lit (.slice none 0 0)) .nil,kind:=1,dflt:=true,elem:=43,flds:=[] }
theorem x5x:TIok Tryz.prog 44 T44:=qg1 (z:=.slice none 0 0) (by kernel_rfl) rfl rfl (λm ρ=>⟨_,_,rfl,rfl,rfl⟩) (λ_ m=>⟨none,0,rfl,Nat.le_refl _,by unfold maxLen; exact Nat.zero_le _,λh=>absurd h (Nat.lt_irrefl 0)⟩) (by decide) (by decide) (by decide) rfl Tryz.underlying44 (λ_=>Tryz.underlying44) (λh=>by cases h) (λh=>by cases h)
 (λh=>by cases h)
 (λh=>by cases h) (by decide)
def T49:TI:={ agg:=false,size:=1,bytes:=8,ty:=.bool,zero:=.cons (.lit .nilFunc) .nil,kind:=0,dflt:=false,elem:=0,flds:=[] }
theorem x5y:TIok Tryz.prog 49 T49:=qg1 (z:=.nilFunc) (by kernel_rfl) rfl rfl (λm ρ=>⟨_,_,rfl,rfl,rfl⟩) (λh=>by cases h) (by decide) (by decide) (by decide) rfl Tryz.underlying49 (λh=>by cases h) (λh=>by cases h) (λh=>by cases h)
 (λh=>by cases h)
 (λh=>by cases h) (by decide)
def T51:TI:={ agg:=false,size:=1,bytes:=8,ty:=.bool,zero:=.cons (.lit .nilFunc) .nil,kind:=0,dflt:=false,elem:=0,flds:=[] }
theorem x5z:TIok Tryz.prog 51 T51:=qg1 (z:=.nilFunc) (by kernel_rfl) rfl rfl (λm ρ=>⟨_,_,rfl,rfl,rfl⟩) (λh=>by cases h) (by decide) (by decide) (by decide) rfl Tryz.underlying51 (λh=>by cases h) (λh=>by cases h) (λh=>by cases h)
 (λh=>by cases h)
 (λh=>by cases h) (by decide)
def T53:TI:={ agg:=false,size:=1,bytes:=24,ty:=.list (.prod (.int .i64) (.int .i64)),zero:=.cons (.lit (.slice none 0 0)) .nil,kind:=1,dflt:=true,elem:=60,flds:=[] }
theorem x35:TIok Tryz.prog 53 T53:=qg1 (z:=.slice none 0 0) (by kernel_rfl) rfl rfl (λm ρ=>⟨_,_,rfl,rfl,rfl⟩) (λ_ m=>⟨none,0,rfl,Nat.le_refl _,by unfold maxLen; exact Nat.zero_le _,λh=>absurd h (Nat.lt_irrefl 0)⟩) (by decide) (by decide) (by decide) rfl Tryz.underlying53 (λ_=>Tryz.underlying53) (λh=>by cases h) (λh=>by cases h)
 (λh=>by cases h)
 (λh=>by cases h) (by decide)
def T56:TI:={ agg:=false,size:=1,bytes:=8,ty:=.bool,zero:=.cons (.lit .nilFunc) .nil,kind:=0,dflt:=false,elem:=0,flds:=[] }
theorem x50:TIok Tryz.prog 56 T56:=qg1 (z:=.nilFunc) (by kernel_rfl) rfl rfl (λm ρ=>⟨_,_,rfl,rfl,rfl⟩) (λh=>by cases h) (by decide) (by decide) (by decide) rfl Tryz.underlying56 (λh=>by cases h) (λh=>by cases h) (λh=>by cases h)
 (λh=>by cases h)
 (λh=>by cases h) (by decide)
def T58:TI:={ agg:=false,size:=1,bytes:=8,ty:=.bool,zero:=.cons (.lit .nilFunc) .nil,kind:=0,dflt:=false,elem:=0,flds:=[] }
theorem x51:TIok Tryz.prog 58 T58:=qg1 (z:=.nilFunc) (by kernel_rfl) rfl rfl (λm ρ=>⟨_,_,rfl,rfl,rfl⟩) (λh=>by cases h) (by decide) (by decide) (by decide) rfl Tryz.underlying58 (λh=>by cases h) (λh=>by cases h) (λh=>by cases h)
 (λh=>by cases h)
 (λh=>by cases h) (by decide)
def T60:TI:={ agg:=true,size:=2,bytes:=16,ty:=.prod (.int .i64) (.int .i64),zero:=.cons (.lit (.int .i64 0)) (.cons (.lit (.int .i64 0)) .nil),kind:=5,dflt:=true,elem:=0,flds:=[(0,3,1),(1,3,1)],eq2:=true }
theorem x52:TIok Tryz.prog 60 T60:=qg1 (z:=.agg #[.int .i64 0,.int .i64 0]) (by kernel_rfl) rfl rfl (λm ρ=>⟨_,_,rfl,rfl,⟨_,_,rfl,rfl,rfl⟩⟩) (λ_ m=>⟨[.int .i64 0],[.int .i64 0],rfl,rfl,rfl⟩) (by decide) (by decide) (by decide) rfl Tryz.underlying60 (λh=>by cases h) (λh=>by cases h) (λh=>by cases h)
 (λh=>by cases h)
 (λ_=>⟨_,Tryz.underlying60,rfl,λf hf=>by
  simp only[T60,List.mem_cons,List.not_mem_nil,or_false] at hf
  rcases hf with rfl | rfl
  ·exact⟨qk6 ti3,by decide⟩
  ·exact⟨qk6 ti3,by decide⟩⟩) (by decide) (λ_=>q79 Tryz.underlying60 (by decide) (by decide) rfl rfl Tryz.underlying3 Tryz.underlying3 (by kernel_rfl) (by kernel_rfl))
def T70:TI:={ agg:=false,size:=1,bytes:=8,ty:=.bool,zero:=.cons (.lit .nilFunc) .nil,kind:=0,dflt:=false,elem:=0,flds:=[] }
theorem x53:TIok Tryz.prog 70 T70:=qg1 (z:=.nilFunc) (by kernel_rfl) rfl rfl (λm ρ=>⟨_,_,rfl,rfl,rfl⟩) (λh=>by cases h) (by decide) (by decide) (by decide) rfl Tryz.underlying70 (λh=>by cases h) (λh=>by cases h) (λh=>by cases h)
 (λh=>by cases h)
 (λh=>by cases h) (by decide)
def T72:TI:={ agg:=true,size:=2,bytes:=48,ty:=.prod (.list (.int .i64)) (.list (.prod (.int .i64) (.int .i64))),zero:=.cons (.lit (.slice none 0 0)) (.cons (.lit (.slice none 0 0)) .nil),kind:=5,dflt:=true,elem:=0,flds:=[(0,34,1),(1,53,1)] }
theorem x56:TIok Tryz.prog 72 T72:=qg1 (z:=.agg #[.slice none 0 0,.slice none 0 0]) (by kernel_rfl) rfl rfl (λm ρ=>⟨_,_,rfl,rfl,⟨_,_,rfl,rfl,rfl⟩⟩) (λ_ m=>⟨[.slice none 0 0],[.slice none 0 0],rfl,⟨none,0,rfl,Nat.le_refl _,by unfold maxLen; exact Nat.zero_le _,λh=>absurd h (Nat.lt_irrefl 0)⟩,⟨none,0,rfl,Nat.le_refl _,by unfold maxLen; exact Nat.zero_le _,λh=>absurd h (Nat.lt_irrefl 0)⟩⟩) (by decide) (by decide) (by decide) rfl Tryz.underlying72 (λh=>by cases h) (λh=>by cases h) (λh=>by cases h)
 (λh=>by cases h)
 (λ_=>⟨_,Tryz.underlying72,rfl,λf hf=>by
  simp only[T72,List.mem_cons,List.not_mem_nil,or_false] at hf
  rcases hf with rfl | rfl
  ·exact⟨qk6 xe8,by decide⟩
  ·exact⟨qk6 x35,by decide⟩⟩) (by decide)
def T76:TI:={ agg:=false,size:=1,bytes:=8,ty:=.bool,zero:=.cons (.lit .nilFunc) .nil,kind:=0,dflt:=false,elem:=0,flds:=[] }
theorem x57:TIok Tryz.prog 76 T76:=qg1 (z:=.nilFunc) (by kernel_rfl) rfl rfl (λm ρ=>⟨_,_,rfl,rfl,rfl⟩) (λh=>by cases h) (by decide) (by decide) (by decide) rfl Tryz.underlying76 (λh=>by cases h) (λh=>by cases h) (λh=>by cases h)
 (λh=>by cases h)
 (λh=>by cases h) (by decide)
def T79:TI:={ agg:=false,size:=1,bytes:=24,ty:=.list (.prod (.int .i64) (.prod (.int .i64) (.int .i64))),zero:=.cons (.lit (.slice none 0 0)) .nil,kind:=1,dflt:=true,elem:=25,flds:=[] }
theorem x58:TIok Tryz.prog 79 T79:=qg1 (z:=.slice none 0 0) (by kernel_rfl) rfl rfl (λm ρ=>⟨_,_,rfl,rfl,rfl⟩) (λ_ m=>⟨none,0,rfl,Nat.le_refl _,by unfold maxLen; exact Nat.zero_le _,λh=>absurd h (Nat.lt_irrefl 0)⟩) (by decide) (by decide) (by decide) rfl Tryz.underlying79 (λ_=>Tryz.underlying79) (λh=>by cases h) (λh=>by cases h)
 (λh=>by cases h)
 (λh=>by cases h) (by decide)
def T95:TI:={ agg:=false,size:=1,bytes:=8,ty:=.bool,zero:=.cons (.lit .nilFunc) .nil,kind:=0,dflt:=false,elem:=0,flds:=[] }
theorem x59:TIok Tryz.prog 95 T95:=qg1 (z:=.nilFunc) (by kernel_rfl) rfl rfl (λm ρ=>⟨_,_,rfl,rfl,rfl⟩) (λh=>by cases h) (by decide) (by decide) (by decide) rfl Tryz.underlying95 (λh=>by cases h) (λh=>by cases h) (λh=>by cases h)
 (λh=>by cases h)
 (λh=>by cases h) (by decide)
def x36:TI:={ agg:=false,size:=1,bytes:=8,ty:=.bool,zero:=.cons (.lit .nilFunc) .nil,kind:=0,dflt:=false,elem:=0,flds:=[] }
theorem x01:TIok Tryz.prog 100 x36:=qg1 (z:=.nilFunc) (by kernel_rfl) rfl rfl (λm ρ=>⟨_,_,rfl,rfl,rfl⟩) (λh=>by cases h) (by decide) (by decide) (by decide) rfl Tryz.underlying100 (λh=>by cases h) (λh=>by cases h) (λh=>by cases h)
 (λh=>by cases h)
 (λh=>by cases h) (by decide)
def x37:TI:={ agg:=false,size:=1,bytes:=8,ty:=.bool,zero:=.cons (.lit .nilFunc) .nil,kind:=0,dflt:=false,elem:=0,flds:=[] }
theorem x02:TIok Tryz.prog 101 x37:=qg1 (z:=.nilFunc) (by kernel_rfl) rfl rfl (λm ρ=>⟨_,_,rfl,rfl,rfl⟩) (λh=>by cases h) (by decide) (by decide) (by decide) rfl Tryz.underlying101 (λh=>by cases h) (λh=>by cases h) (λh=>by cases h)
 (λh=>by cases h)
 (λh=>by cases h) (by decide)
def x4a:TI:={ agg:=false,size:=1,bytes:=8,ty:=.bool,zero:=.cons (.lit .nilFunc) .nil,kind:=0,dflt:=false,elem:=0,flds:=[] }
theorem x03:TIok Tryz.prog 102 x4a:=qg1 (z:=.nilFunc) (by kernel_rfl) rfl rfl (λm ρ=>⟨_,_,rfl,rfl,rfl⟩) (λh=>by cases h) (by decide) (by decide) (by decide) rfl Tryz.underlying102 (λh=>by cases h) (λh=>by cases h) (λh=>by cases h)
 (λh=>by cases h)
 (λh=>by cases h) (by decide)
def x04:TI:={ agg:=true,size:=2,bytes:=48,ty:=.prod (.list (.list (.int .i64))) (.list (.int .i64)),zero:=.cons (.lit (.slice none 0 0)) (.cons (.lit (.slice none 0 0)) .nil),kind:=5,dflt:=true,elem:=0,flds:=[(0,23,1),(1,34,1)] }
theorem xs9:TIok Tryz.prog 107 x04:=qg1 (z:=.agg #[.slice none 0 0,.slice none 0 0]) (by kernel_rfl) rfl rfl (λm ρ=>⟨_,_,rfl,rfl,⟨_,_,rfl,rfl,rfl⟩⟩) (λ_ m=>⟨[.slice none 0 0],[.slice none 0 0],rfl,⟨none,0,rfl,Nat.le_refl _,by unfold maxLen; exact Nat.zero_le _,λh=>absurd h (Nat.lt_irrefl 0)⟩,⟨none,0,rfl,Nat.le_refl _,by unfold maxLen; exact Nat.zero_le _,λh=>absurd h (Nat.lt_irrefl 0)⟩⟩) (by decide) (by decide) (by decide) rfl Tryz.underlying107 (λh=>by cases h) (λh=>by cases h) (λh=>by cases h)
 (λh=>by cases h)
 (λ_=>⟨_,Tryz.underlying107,rfl,λf hf=>by
  simp only[x04,List.mem_cons,List.not_mem_nil,or_false] at hf
  rcases hf with rfl | rfl
  ·exact⟨qk6 x33,by decide⟩
  ·exact⟨qk6 xe8,by decide⟩⟩) (by decide)
def x05:TI:={ agg:=true,size:=3,bytes:=72,ty:=.prod (.prod (.list (.list (.int .i64))) (.list (.int .i64))) (.list (.int .i64)),zero:=.cons (.lit (.slice none 0 0)) (.cons (.lit (.slice none 0 0)) (.cons (.lit (.slice none 0 0)) .nil)),kind:=5,dflt:=true,elem:=0,flds:=[(0,107,2),(2,34,1)] }
theorem x06:TIok Tryz.prog 109 x05:=qg1 (z:=.agg #[.slice none 0 0,.slice none 0 0,.slice none 0 0]) (by kernel_rfl) rfl rfl (λm ρ=>⟨_,_,rfl,rfl,⟨_,_,rfl,rfl,⟨_,_,rfl,rfl,rfl⟩⟩⟩) (λ_ m=>⟨[.slice none 0 0,.slice none 0 0],[.slice none 0 0],rfl,⟨[.slice none 0 0],[.slice none 0 0],rfl,⟨none,0,rfl,Nat.le_refl _,by unfold maxLen; exact Nat.zero_le _,λh=>absurd h (Nat.lt_irrefl 0)⟩,⟨none,0,rfl,Nat.le_refl _,by unfold maxLen; exact Nat.zero_le _,λh=>absurd h (Nat.lt_irrefl 0)⟩⟩,⟨none,0,rfl,Nat.le_refl _,by unfold maxLen; exact Nat.zero_le _,λh=>absurd h (Nat.lt_irrefl 0)⟩⟩) (by decide) (by decide) (by decide) rfl Tryz.underlying109 (λh=>by cases h) (λh=>by cases h) (λh=>by cases h)
 (λh=>by cases h)
 (λ_=>⟨_,Tryz.underlying109,rfl,λf hf=>by
  simp only[x05,List.mem_cons,List.not_mem_nil,or_false] at hf
  rcases hf with rfl | rfl
  ·exact⟨qk6 xs9,by decide⟩
  ·exact⟨qk6 xe8,by decide⟩⟩) (by decide)
def x4b:TI:={ agg:=false,size:=1,bytes:=8,ty:=.bool,zero:=.cons (.lit .nilFunc) .nil,kind:=0,dflt:=false,elem:=0,flds:=[] }
theorem x07:TIok Tryz.prog 113 x4b:=qg1 (z:=.nilFunc) (by kernel_rfl) rfl rfl (λm ρ=>⟨_,_,rfl,rfl,rfl⟩) (λh=>by cases h) (by decide) (by decide) (by decide) rfl Tryz.underlying113 (λh=>by cases h) (λh=>by cases h) (λh=>by cases h)
 (λh=>by cases h)
 (λh=>by cases h) (by decide)
def x4c:TI:={ agg:=false,size:=1,bytes:=8,ty:=.bool,zero:=.cons (.lit .nilFunc) .nil,kind:=0,dflt:=false,elem:=0,flds:=[] }
theorem x08:TIok Tryz.prog 115 x4c:=qg1 (z:=.nilFunc) (by kernel_rfl) rfl rfl (λm ρ=>⟨_,_,rfl,rfl,rfl⟩) (λh=>by cases h) (by decide) (by decide) (by decide) rfl Tryz.underlying115 (λh=>by cases h) (λh=>by cases h) (λh=>by cases h)
 (λh=>by cases h)
 (λh=>by cases h) (by decide)
def x4d:TI:={ agg:=false,size:=1,bytes:=8,ty:=.bool,zero:=.cons (.lit .nilFunc) .nil,kind:=0,dflt:=false,elem:=0,flds:=[] }
theorem x1a:TIok Tryz.prog 123 x4d:=qg1 (z:=.nilFunc) (by kernel_rfl) rfl rfl (λm ρ=>⟨_,_,rfl,rfl,rfl⟩) (λh=>by cases h) (by decide) (by decide) (by decide) rfl Tryz.underlying123 (λh=>by cases h) (λh=>by cases h) (λh=>by cases h)
 (λh=>by cases h)
 (λh=>by cases h) (by decide)
def x4e:TI:={ agg:=false,size:=1,bytes:=24,ty:=.list (.prod (.list (.int .i64)) (.list (.prod (.int .i64) (.int .i64)))),zero:=.cons (.lit (.slice none 0 0)) .nil,kind:=1,dflt:=true,elem:=72,flds:=[] }
theorem x1b:TIok Tryz.prog 127 x4e:=qg1 (z:=.slice none 0 0) (by kernel_rfl) rfl rfl (λm ρ=>⟨_,_,rfl,rfl,rfl⟩) (λ_ m=>⟨none,0,rfl,Nat.le_refl _,by unfold maxLen; exact Nat.zero_le _,λh=>absurd h (Nat.lt_irrefl 0)⟩) (by decide) (by decide) (by decide) rfl Tryz.underlying127 (λ_=>Tryz.underlying127) (λh=>by cases h) (λh=>by cases h)
 (λh=>by cases h)
 (λh=>by cases h) (by decide)
def x4f:TI:={ agg:=false,size:=1,bytes:=8,ty:=.bool,zero:=.cons (.lit .nilFunc) .nil,kind:=0,dflt:=false,elem:=0,flds:=[] }
theorem x1c:TIok Tryz.prog 144 x4f:=qg1 (z:=.nilFunc) (by kernel_rfl) rfl rfl (λm ρ=>⟨_,_,rfl,rfl,rfl⟩) (λh=>by cases h) (by decide) (by decide) (by decide) rfl Tryz.underlying144 (λh=>by cases h) (λh=>by cases h) (λh=>by cases h)
 (λh=>by cases h)
 (λh=>by cases h) (by decide)
def x4g:TI:={ agg:=false,size:=1,bytes:=8,ty:=.bool,zero:=.cons (.lit .nilFunc) .nil,kind:=0,dflt:=false,elem:=0,flds:=[] }
theorem x1d:TIok Tryz.prog 157 x4g:=qg1 (z:=.nilFunc) (by kernel_rfl) rfl rfl (λm ρ=>⟨_,_,rfl,rfl,rfl⟩) (λh=>by cases h) (by decide) (by decide) (by decide) rfl Tryz.underlying157 (λh=>by cases h) (λh=>by cases h) (λh=>by cases h)
 (λh=>by cases h)
 (λh=>by cases h) (by decide)
def x4h:TI:={ agg:=false,size:=1,bytes:=24,ty:=.list (.prod (.int .i64) (.prod (.int .i64) (.int .i64))),zero:=.cons (.lit (.slice none 0 0)) .nil,kind:=1,dflt:=true,elem:=163,flds:=[] }
theorem x1e:TIok Tryz.prog 160 x4h:=qg1 (z:=.slice none 0 0) (by kernel_rfl) rfl rfl (λm ρ=>⟨_,_,rfl,rfl,rfl⟩) (λ_ m=>⟨none,0,rfl,Nat.le_refl _,by unfold maxLen; exact Nat.zero_le _,λh=>absurd h (Nat.lt_irrefl 0)⟩) (by decide) (by decide) (by decide) rfl Tryz.underlying160 (λ_=>Tryz.underlying160) (λh=>by cases h) (λh=>by cases h)
 (λh=>by cases h)
 (λh=>by cases h) (by decide)
def x1f:TI:={ agg:=true,size:=3,bytes:=24,ty:=.prod (.int .i64) (.prod (.int .i64) (.int .i64)),zero:=.cons (.lit (.int .i64 0)) (.cons (.lit (.int .i64 0)) (.cons (.lit (.int .i64 0)) .nil)),kind:=5,dflt:=true,elem:=0,flds:=[(0,3,1),(1,3,1),(2,3,1)] }
theorem x1g:TIok Tryz.prog 163 x1f:=qg1 (z:=.agg #[.int .i64 0,.int .i64 0,.int .i64 0]) (by kernel_rfl) rfl rfl (λm ρ=>⟨_,_,rfl,rfl,⟨_,_,rfl,rfl,⟨_,_,rfl,rfl,rfl⟩⟩⟩) (λ_ m=>⟨[.int .i64 0],[.int .i64 0,.int .i64 0],rfl,rfl,⟨[.int .i64 0],[.int .i64 0],rfl,rfl,rfl⟩⟩) (by decide) (by decide) (by decide) rfl Tryz.underlying163 (λh=>by cases h) (λh=>by cases h) (λh=>by cases h)
 (λh=>by cases h)
 (λ_=>⟨_,Tryz.underlying163,rfl,λf hf=>by
  simp only[x1f,List.mem_cons,List.not_mem_nil,or_false] at hf
  rcases hf with rfl | rfl | rfl
  ·exact⟨qk6 ti3,by decide⟩
  ·exact⟨qk6 ti3,by decide⟩
  ·exact⟨qk6 ti3,by decide⟩⟩) (by decide)
def x4i:TI:={ agg:=false,size:=1,bytes:=8,ty:=.bool,zero:=.cons (.lit .nilFunc) .nil,kind:=0,dflt:=false,elem:=0,flds:=[] }
theorem x1h:TIok Tryz.prog 166 x4i:=qg1 (z:=.nilFunc) (by kernel_rfl) rfl rfl (λm ρ=>⟨_,_,rfl,rfl,rfl⟩) (λh=>by cases h) (by decide) (by decide) (by decide) rfl Tryz.underlying166 (λh=>by cases h) (λh=>by cases h) (λh=>by cases h)
 (λh=>by cases h)
 (λh=>by cases h) (by decide)
def x4j:TI:={ agg:=false,size:=1,bytes:=8,ty:=.int .u64,zero:=.cons (.lit (.int .u64 0)) .nil,kind:=0,dflt:=true,elem:=0,flds:=[],isInt:=true }
theorem x1i:TIok Tryz.prog 176 x4j:=qg1 (z:=.int .u64 0) (by kernel_rfl) rfl rfl (λm ρ=>⟨_,_,rfl,rfl,rfl⟩) (λ_ m=>rfl) (by decide) (by decide) (by decide) rfl Tryz.underlying176 (λh=>by cases h) (λh=>by cases h) (λh=>by cases h)
 (λh=>by cases h)
 (λh=>by cases h) (by decide) (h16:=λ_=>⟨.u64,rfl,Tryz.underlying176⟩)
def x4k:TI:={ agg:=false,size:=1,bytes:=8,ty:=.bool,zero:=.cons (.lit .nilFunc) .nil,kind:=0,dflt:=false,elem:=0,flds:=[] }
theorem x1j:TIok Tryz.prog 180 x4k:=qg1 (z:=.nilFunc) (by kernel_rfl) rfl rfl (λm ρ=>⟨_,_,rfl,rfl,rfl⟩) (λh=>by cases h) (by decide) (by decide) (by decide) rfl Tryz.underlying180 (λh=>by cases h) (λh=>by cases h) (λh=>by cases h)
 (λh=>by cases h)
 (λh=>by cases h) (by decide)
def x4l:TI:={ agg:=false,size:=1,bytes:=8,ty:=.bool,zero:=.cons (.lit .nilFunc) .nil,kind:=0,dflt:=false,elem:=0,flds:=[] }
theorem x1k:TIok Tryz.prog 181 x4l:=qg1 (z:=.nilFunc) (by kernel_rfl) rfl rfl (λm ρ=>⟨_,_,rfl,rfl,rfl⟩) (λh=>by cases h) (by decide) (by decide) (by decide) rfl Tryz.underlying181 (λh=>by cases h) (λh=>by cases h) (λh=>by cases h)
 (λh=>by cases h)
 (λh=>by cases h) (by decide)
def x4m:TI:={ agg:=false,size:=1,bytes:=8,ty:=.bool,zero:=.cons (.lit .nilFunc) .nil,kind:=0,dflt:=false,elem:=0,flds:=[] }
theorem x1l:TIok Tryz.prog 190 x4m:=qg1 (z:=.nilFunc) (by kernel_rfl) rfl rfl (λm ρ=>⟨_,_,rfl,rfl,rfl⟩) (λh=>by cases h) (by decide) (by decide) (by decide) rfl Tryz.underlying190 (λh=>by cases h) (λh=>by cases h) (λh=>by cases h)
 (λh=>by cases h)
 (λh=>by cases h) (by decide)
def x4n:TI:={ agg:=false,size:=1,bytes:=8,ty:=.bool,zero:=.cons (.lit .nilFunc) .nil,kind:=0,dflt:=false,elem:=0,flds:=[] }
theorem x1m:TIok Tryz.prog 192 x4n:=qg1 (z:=.nilFunc) (by kernel_rfl) rfl rfl (λm ρ=>⟨_,_,rfl,rfl,rfl⟩) (λh=>by cases h) (by decide) (by decide) (by decide) rfl Tryz.underlying192 (λh=>by cases h) (λh=>by cases h) (λh=>by cases h)
 (λh=>by cases h)
 (λh=>by cases h) (by decide)
def x4o:TI:={ agg:=false,size:=1,bytes:=8,ty:=.bool,zero:=.cons (.lit .nilFunc) .nil,kind:=0,dflt:=false,elem:=0,flds:=[] }
theorem x1n:TIok Tryz.prog 200 x4o:=qg1 (z:=.nilFunc) (by kernel_rfl) rfl rfl (λm ρ=>⟨_,_,rfl,rfl,rfl⟩) (λh=>by cases h) (by decide) (by decide) (by decide) rfl Tryz.underlying200 (λh=>by cases h) (λh=>by cases h) (λh=>by cases h)
 (λh=>by cases h)
 (λh=>by cases h) (by decide)
def x4p:TI:={ agg:=false,size:=1,bytes:=8,ty:=.int .u64,zero:=.cons (.lit (.int .u64 0)) .nil,kind:=0,dflt:=true,elem:=0,flds:=[],isInt:=true }
theorem xt0:TIok Tryz.prog 204 x4p:=qg1 (z:=.int .u64 0) (by kernel_rfl) rfl rfl (λm ρ=>⟨_,_,rfl,rfl,rfl⟩) (λ_ m=>rfl) (by decide) (by decide) (by decide) rfl Tryz.underlying204 (λh=>by cases h) (λh=>by cases h) (λh=>by cases h)
 (λh=>by cases h)
 (λh=>by cases h) (by decide) (h16:=λ_=>⟨.u64,rfl,Tryz.underlying204⟩)
def x1o:TI:={ agg:=true,size:=2,bytes:=16,ty:=.prod (.int .i64) (.int .u64),zero:=.cons (.lit (.int .i64 0)) (.cons (.lit (.int .u64 0)) .nil),kind:=5,dflt:=true,elem:=0,flds:=[(0,2,1),(1,204,1)],eq2:=true }
theorem x1p:TIok Tryz.prog 206 x1o:=qg1 (z:=.agg #[.int .i64 0,.int .u64 0]) (by kernel_rfl) rfl rfl (λm ρ=>⟨_,_,rfl,rfl,⟨_,_,rfl,rfl,rfl⟩⟩) (λ_ m=>⟨[.int .i64 0],[.int .u64 0],rfl,rfl,rfl⟩) (by decide) (by decide) (by decide) rfl Tryz.underlying206 (λh=>by cases h) (λh=>by cases h) (λh=>by cases h)
 (λh=>by cases h)
 (λ_=>⟨_,Tryz.underlying206,rfl,λf hf=>by
  simp only[x1o,List.mem_cons,List.not_mem_nil,or_false] at hf
  rcases hf with rfl | rfl
  ·exact⟨qk6 ti2,by decide⟩
  ·exact⟨qk6 xt0,by decide⟩⟩) (by decide) (λ_=>q79 Tryz.underlying206 (by decide) (by decide) rfl rfl Tryz.underlying2 Tryz.underlying204 (by kernel_rfl) (by kernel_rfl))
def x4q:TI:={ agg:=false,size:=1,bytes:=8,ty:=.bool,zero:=.cons (.lit .nilFunc) .nil,kind:=0,dflt:=false,elem:=0,flds:=[] }
theorem x1q:TIok Tryz.prog 214 x4q:=qg1 (z:=.nilFunc) (by kernel_rfl) rfl rfl (λm ρ=>⟨_,_,rfl,rfl,rfl⟩) (λh=>by cases h) (by decide) (by decide) (by decide) rfl Tryz.underlying214 (λh=>by cases h) (λh=>by cases h) (λh=>by cases h)
 (λh=>by cases h)
 (λh=>by cases h) (by decide)
def x4r:TI:={ agg:=false,size:=1,bytes:=8,ty:=.bool,zero:=.cons (.lit .nilFunc) .nil,kind:=0,dflt:=false,elem:=0,flds:=[] }
theorem x1r:TIok Tryz.prog 226 x4r:=qg1 (z:=.nilFunc) (by kernel_rfl) rfl rfl (λm ρ=>⟨_,_,rfl,rfl,rfl⟩) (λh=>by cases h) (by decide) (by decide) (by decide) rfl Tryz.underlying226 (λh=>by cases h) (λh=>by cases h) (λh=>by cases h)
 (λh=>by cases h)
 (λh=>by cases h) (by decide)
def x4s:TI:={ agg:=false,size:=1,bytes:=8,ty:=.bool,zero:=.cons (.lit .nilFunc) .nil,kind:=0,dflt:=false,elem:=0,flds:=[] }
theorem x1s:TIok Tryz.prog 229 x4s:=qg1 (z:=.nilFunc) (by kernel_rfl) rfl rfl (λm ρ=>⟨_,_,rfl,rfl,rfl⟩) (λh=>by cases h) (by decide) (by decide) (by decide) rfl Tryz.underlying229 (λh=>by cases h) (λh=>by cases h) (λh=>by cases h)
 (λh=>by cases h)
 (λh=>by cases h) (by decide)
def x4t:TI:={ agg:=false,size:=1,bytes:=8,ty:=.int .u64,zero:=.cons (.lit (.int .u64 0)) .nil,kind:=0,dflt:=true,elem:=0,flds:=[],isInt:=true }
theorem x1t:TIok Tryz.prog 249 x4t:=qg1 (z:=.int .u64 0) (by kernel_rfl) rfl rfl (λm ρ=>⟨_,_,rfl,rfl,rfl⟩) (λ_ m=>rfl) (by decide) (by decide) (by decide) rfl Tryz.underlying249 (λh=>by cases h) (λh=>by cases h) (λh=>by cases h)
 (λh=>by cases h)
 (λh=>by cases h) (by decide) (h16:=λ_=>⟨.u64,rfl,Tryz.underlying249⟩)
def tys:List (Nat × TI):=[(1,T1),(2,T2),(3,T3),(4,T4),(5,T5),(6,T6),(7,T7),(8,T8),(9,T9),(10,T10),(11,T11),(12,T12),(13,T13),(14,T14),(15,T15),(16,T16),(17,T17),(18,T18),(19,T19),(21,T21),(22,T22),(23,T23),(24,T24),(25,T25),(26,T26),(27,T27),(28,T28),(30,T30),(31,T31),(33,T33),(34,T34),(38,T38),(39,T39),(42,T42),(44,T44),(49,T49),(51,T51),(53,T53),(56,T56),(58,T58),(60,T60),(70,T70),(72,T72),(76,T76),(79,T79),(95,T95),(100,x36),(101,x37),(102,x4a),(107,x04),(109,x05),(113,x4b),(115,x4c),(123,x4d),(127,x4e),(144,x4f),(157,x4g),(160,x4h),(163,x1f),(166,x4i),(176,x4j),(180,x4k),(181,x4l),(190,x4m),(192,x4n),(200,x4o),(204,x4p),(206,x1o),(214,x4q),(226,x4r),(229,x4s),(249,x4t)]
theorem qb3 {α:Type} {i j:Nat} {v w:α} {l:List (Nat × α)} (h:find ((j,v) :: l) i=some w):(i=j/\w=v)\/find l i=some w:=by
 simp only[find] at h
 split at h
 ·rename_i e; exact .inl ⟨(Nat.eq_of_beq_eq_true e).symm,by injection h with h; exact h.symm⟩
 ·exact .inr h
theorem q28:∀t T,find tys t=some T->TIok Tryz.prog t T:=by
 intro t T h
 unfold tys at h
 rcases qb3 h with⟨rfl,rfl⟩ | h
 ·exact ti1
 rcases qb3 h with⟨rfl,rfl⟩ | h
 ·exact ti2
 rcases qb3 h with⟨rfl,rfl⟩ | h
 ·exact ti3
 rcases qb3 h with⟨rfl,rfl⟩ | h
 ·exact ti4
 rcases qb3 h with⟨rfl,rfl⟩ | h
 ·exact ti5
 rcases qb3 h with⟨rfl,rfl⟩ | h
 ·exact ti6
 rcases qb3 h with⟨rfl,rfl⟩ | h
 ·exact ti7
 rcases qb3 h with⟨rfl,rfl⟩ | h
 ·exact ti8
 rcases qb3 h with⟨rfl,rfl⟩ | h
 ·exact ti9
 rcases qb3 h with⟨rfl,rfl⟩ | h
 ·exact x5c
 rcases qb3 h with⟨rfl,rfl⟩ | h
 ·exact x5d
 rcases qb3 h with⟨rfl,rfl⟩ | h
 ·exact x0z
 rcases qb3 h with⟨rfl,rfl⟩ | h
 ·exact x5e
 rcases qb3 h with⟨rfl,rfl⟩ | h
 ·exact x5f
 rcases qb3 h with⟨rfl,rfl⟩ | h
 ·exact x5g
 rcases qb3 h with⟨rfl,rfl⟩ | h
 ·exact x5h
 rcases qb3 h with⟨rfl,rfl⟩ | h
 ·exact x00
 rcases qb3 h with⟨rfl,rfl⟩ | h
 ·exact x5i
 rcases qb3 h with⟨rfl,rfl⟩ | h
 ·exact x5j
 rcases qb3 h with⟨rfl,rfl⟩ | h
 ·exact x5k
 rcases qb3 h with⟨rfl,rfl⟩ | h
 ·exact x5l
 rcases qb3 h with⟨rfl,rfl⟩ | h
 ·exact x33
 rcases qb3 h with⟨rfl,rfl⟩ | h
 ·exact x5m
 rcases qb3 h with⟨rfl,rfl⟩ | h
 ·exact x5n
 rcases qb3 h with⟨rfl,rfl⟩ | h
 ·exact x5o
 rcases qb3 h with⟨rfl,rfl⟩ | h
 ·exact x5p
 rcases qb3 h with⟨rfl,rfl⟩ | h
 ·exact x5q
 rcases qb3 h with⟨rfl,rfl⟩ | h
 ·exact x5r
 rcases qb3 h with⟨rfl,rfl⟩ | h
 ·exact x5s
 rcases qb3 h with⟨rfl,rfl⟩ | h
 ·exact x5t
 rcases qb3 h with⟨rfl,rfl⟩ | h
 ·exact xe8
 rcases qb3 h with⟨rfl,rfl⟩ | h
 ·exact x5u
 rcases qb3 h with⟨rfl,rfl⟩ | h
 ·exact x5v
 rcases qb3 h with⟨rfl,rfl⟩ | h
 ·exact x5w
 rcases qb3 h with⟨rfl,rfl⟩ | h
 ·exact x5x
 rcases qb3 h with⟨rfl,rfl⟩ | h
 ·exact x5y
 rcases qb3 h with⟨rfl,rfl⟩ | h
 ·exact x5z
 rcases qb3 h with⟨rfl,rfl⟩ | h
 ·exact x35
 rcases qb3 h with⟨rfl,rfl⟩ | h
 ·exact x50
 rcases qb3 h with⟨rfl,rfl⟩ | h
 ·exact x51
 rcases qb3 h with⟨rfl,rfl⟩ | h
 ·exact x52
 rcases qb3 h with⟨rfl,rfl⟩ | h
 ·exact x53
 rcases qb3 h with⟨rfl,rfl⟩ | h
 ·exact x56
 rcases qb3 h with⟨rfl,rfl⟩ | h
 ·exact x57
 rcases qb3 h with⟨rfl,rfl⟩ | h
 ·exact x58
 rcases qb3 h with⟨rfl,rfl⟩ | h
 ·exact x59
 rcases qb3 h with⟨rfl,rfl⟩ | h
 ·exact x01
 rcases qb3 h with⟨rfl,rfl⟩ | h
 ·exact x02
 rcases qb3 h with⟨rfl,rfl⟩ | h
 ·exact x03
 rcases qb3 h with⟨rfl,rfl⟩ | h
 ·exact xs9
 rcases qb3 h with⟨rfl,rfl⟩ | h
 ·exact x06
 rcases qb3 h with⟨rfl,rfl⟩ | h
 ·exact x07
 rcases qb3 h with⟨rfl,rfl⟩ | h
 ·exact x08
 rcases qb3 h with⟨rfl,rfl⟩ | h
 ·exact x1a
 rcases qb3 h with⟨rfl,rfl⟩ | h
 ·exact x1b
 rcases qb3 h with⟨rfl,rfl⟩ | h
 ·exact x1c
 rcases qb3 h with⟨rfl,rfl⟩ | h
 ·exact x1d
 rcases qb3 h with⟨rfl,rfl⟩ | h
 ·exact x1e
 rcases qb3 h with⟨rfl,rfl⟩ | h
 ·exact x1g
 rcases qb3 h with⟨rfl,rfl⟩ | h
 ·exact x1h
 rcases qb3 h with⟨rfl,rfl⟩ | h
 ·exact x1i
 rcases qb3 h with⟨rfl,rfl⟩ | h
 ·exact x1j
 rcases qb3 h with⟨rfl,rfl⟩ | h
 ·exact x1k
 rcases qb3 h with⟨rfl,rfl⟩ | h
 ·exact x1l
 rcases qb3 h with⟨rfl,rfl⟩ | h
 ·exact x1m
 rcases qb3 h with⟨rfl,rfl⟩ | h
 ·exact x1n
 rcases qb3 h with⟨rfl,rfl⟩ | h
 ·exact xt0
 rcases qb3 h with⟨rfl,rfl⟩ | h
 ·exact x1p
 rcases qb3 h with⟨rfl,rfl⟩ | h
 ·exact x1q
 rcases qb3 h with⟨rfl,rfl⟩ | h
 ·exact x1r
 rcases qb3 h with⟨rfl,rfl⟩ | h
 ·exact x1s
 rcases qb3 h with⟨rfl,rfl⟩ | h
 ·exact x1t
 cases h
end Go.Proofs.YtmijnbjlhnpokaaGreat
