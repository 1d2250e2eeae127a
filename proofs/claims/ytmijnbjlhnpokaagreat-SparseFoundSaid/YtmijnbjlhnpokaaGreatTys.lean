/- What the table of this seat says of its types, for the engine. Printed by program (gentys.py). No condition. -/
import Derived.Test.YtmijnbjlhnpokaaGreatEng3
import Derived.Test.YtmijnbjlhnpokaaGreatProg
set_option linter.unusedVariables false
set_option linter.unusedSimpArgs false
namespace Go.Proofs.YtmijnbjlhnpokaaGreat
open Go Go.RowKit Eng
theorem q5p {P:Program} {t:Nat} {T:TI} {z:Value} {d:TypeDesc} (h1:(P.info? t).map (λi=>(i.size,i.bytes,i.zero))=some (T.size,T.bytes,some z)) (hz:z.cells.size=T.size) (h2:z.cells.toList.all (·.oneCell')=true)
  (h3:∀m ρ,T.zero.ok P m ρ z.cells.toList) (h4:T.dflt=true->∀m,Rd m T.ty T.ty.dflt z.cells.toList) (h5:T.bytes<=1000000) (h6:T.size≠0) (h7:T.size<=10000) (h8:(match d with | .struct _ | .array _ _=>true | _=>false)=T.agg) (hu:P.underlying t=some d)
  (h9:T.kind=1->P.underlying t=some (.slice T.elem)) (h10:T.kind=2->P.underlying t=some .string) (h11:T.kind=3->P.underlying t=some .bool)
  (h12:T.kind=4->∃n sz,P.underlying t=some (.array n T.elem)/\(∃j,P.info? T.elem=some j/\j.size=sz)/\sz≠0/\∀(f:Nat) (fl:Nat × Nat × Nat),T.flds[f]? = some fl->fl=(f*sz,T.elem,sz)/\f<n)
  (h13:T.kind=5->∃fields,P.underlying t=some (.struct fields)/\fields.toList.map (λF=>(F.offset,F.type))=T.flds.map (λf=>(f.1,f.2.1))/\∀f∈T.flds,(∃j,P.info? f.2.1=some j/\j.size=f.2.2)/\f.2.2≠0) (h14:T.kind<=5) (h15:T.eq2=true->Eq2 P t:=by(intro h; cases h)) (h16:T.isInt=true->∃k,T.ty=.int k/\P.underlying t=some (.int k):=by(intro h; cases h))
  (h17:∀eb,T.bld=some eb->∃i,P.info? t=some i/\i.zero=some (.agg #[.pointer none,.slice none 0 0]):=by(intro eb h; cases h)):TIok P t T:=by
 refine⟨?_,h5,h6,h7,⟨d,hu,h8⟩,h9,h10,h11,h12,h13,h14,h15,h16,h17⟩
 cases hi:P.info? t with
 | none=>rw[hi] at h1; cases h1
 | some i=>
  rw[hi] at h1
  simp only[Option.map_some,Option.some.injEq,Prod.mk.injEq] at h1
  exact⟨i,z,rfl,h1.1,h1.2.1,h1.2.2,hz,h2,h3,h4⟩
def tiI (k:IntKind) (b:Nat):TI:={ agg:=false,size:=1,bytes:=b,ty:=.int k,zero:=.cons (.lit (.int k 0)) .nil,kind:=0,dflt:=true,elem:=0,flds:=[],isInt:=true }
def tiS (b e:Nat) (y:Ty):TI:={ agg:=false,size:=1,bytes:=b,ty:=.list y,zero:=.cons (.lit (.slice none 0 0)) .nil,kind:=1,dflt:=true,elem:=e,flds:=[] }
def tiZ (z:Value) (b:Nat):TI:={ agg:=false,size:=1,bytes:=b,ty:=.bool,zero:=.cons (.lit z) .nil,kind:=0,dflt:=false,elem:=0,flds:=[] }
theorem k_ne {a b:Nat} {p:Prop} (h:a=b) (hn:Nat.beq a b=false):p:=absurd h (Nat.ne_of_beq_eq_false hn)
theorem q9m {P:Program} {t:Nat} {k:IntKind} {b:Nat} (h1:(P.info? t).map (λi=>(i.size,i.bytes,i.zero))=some (1,b,some (.int k 0))) (hu:P.underlying t=some (.int k)) (hb:b<=1000000):TIok P t (tiI k b):=
 q5p (z:=.int k 0) h1 rfl rfl (λm ρ=>⟨_,_,rfl,rfl,rfl⟩) (λ_ m=>rfl) hb (Nat.succ_ne_zero 0) (show 1<=10000 by decide) rfl hu (λh=>k_ne h rfl) (λh=>k_ne h rfl) (λh=>k_ne h rfl) (λh=>k_ne h rfl) (λh=>k_ne h rfl) (Nat.zero_le 5) (h16:=λ_=>⟨k,rfl,hu⟩)
theorem q9n {P:Program} {t b e:Nat} {y:Ty} (h1:(P.info? t).map (λi=>(i.size,i.bytes,i.zero))=some (1,b,some (.slice none 0 0))) (hu:P.underlying t=some (.slice e)) (hb:b<=1000000):TIok P t (tiS b e y):=
 q5p (z:=.slice none 0 0) h1 rfl rfl (λm ρ=>⟨_,_,rfl,rfl,rfl⟩) (λ_ m=>⟨none,0,rfl,Nat.le_refl _,by unfold maxLen; exact Nat.zero_le _,λh=>absurd h (Nat.lt_irrefl 0)⟩) hb (Nat.succ_ne_zero 0) (show 1<=10000 by decide) rfl hu (λ_=>hu) (λh=>k_ne h rfl) (λh=>k_ne h rfl) (λh=>k_ne h rfl) (λh=>k_ne h rfl) (show 1<=5 by decide)
theorem qw7 {P:Program} {t b:Nat} {z:Value} {d:TypeDesc} (hz:z.cells=#[z]) (ho:z.oneCell'=true) (h1:(P.info? t).map (λi=>(i.size,i.bytes,i.zero))=some (1,b,some z)) (hu:P.underlying t=some d) (h8:(match(generalizing:=false) d with | .struct _ | .array _ _=>true | _=>false)=false) (hb:b<=1000000):TIok P t (tiZ z b):=
 q5p (z:=z) h1 (by rw[hz]; rfl) (by rw[hz]; show(z.oneCell' && true)=true; rw[ho]; rfl) (λm ρ=>by rw[hz]; exact⟨_,_,rfl,rfl,rfl⟩) (λh=>by cases h) hb (Nat.succ_ne_zero 0) (show 1<=10000 by decide) h8 hu (λh=>k_ne h rfl) (λh=>k_ne h rfl) (λh=>k_ne h rfl) (λh=>k_ne h rfl) (λh=>k_ne h rfl) (Nat.zero_le 5)
def tiB (b:Nat):TI:={ agg:=false,size:=1,bytes:=b,ty:=.bool,zero:=.cons .ff .nil,kind:=3,dflt:=true,elem:=0,flds:=[] }
theorem x2r {P:Program} {t b:Nat} (h1:(P.info? t).map (λi=>(i.size,i.bytes,i.zero))=some (1,b,some (.bool false))) (hu:P.underlying t=some .bool) (hb:b<=1000000):TIok P t (tiB b):=
 q5p (z:=.bool false) h1 rfl rfl (λm ρ=>⟨_,_,rfl,rfl,rfl⟩) (λ_ m=>rfl) hb (Nat.succ_ne_zero 0) (show 1<=10000 by decide) rfl hu (λh=>k_ne h rfl) (λh=>k_ne h rfl) (λ_=>hu) (λh=>k_ne h rfl) (λh=>k_ne h rfl) (show 3<=5 by decide)
theorem q2e {P:Program} {t:Nat} {T:TI} (h:TIok P t T):∃j,P.info? t=some j/\j.size=T.size:=by
 obtain⟨i,z,h1,h2,_⟩:=h.info
 exact⟨i,h1,h2⟩
def T2:TI:=tiI .i64 8
theorem ti2:TIok Tryz.prog 2 T2:=q9m (by kernel_rfl) Tryz.underlying2 (by decide)
def T3:TI:=tiI .i64 8
theorem ti3:TIok Tryz.prog 3 T3:=q9m (by kernel_rfl) Tryz.underlying3 (by decide)
def T4:TI:=tiB 1
theorem ti4:TIok Tryz.prog 4 T4:=x2r (by kernel_rfl) Tryz.underlying4 (by decide)
def T22:TI:=tiS 24 34 (.list (.int .i64))
theorem yb6:TIok Tryz.prog 22 T22:=q9n (by kernel_rfl) Tryz.underlying22 (by decide)
def T23:TI:=tiS 24 34 (.list (.int .i64))
theorem x9h:TIok Tryz.prog 23 T23:=q9n (by kernel_rfl) Tryz.underlying23 (by decide)
def T28:TI:=tiI .i64 8
theorem yb7:TIok Tryz.prog 28 T28:=q9m (by kernel_rfl) Tryz.underlying28 (by decide)
def T34:TI:=tiS 24 3 (.int .i64)
theorem x2s:TIok Tryz.prog 34 T34:=q9n (by kernel_rfl) Tryz.underlying34 (by decide)
def T53:TI:=tiS 24 60 (.prod (.int .i64) (.int .i64))
theorem x9i:TIok Tryz.prog 53 T53:=q9n (by kernel_rfl) Tryz.underlying53 (by decide)
def T60:TI:={ agg:=true,size:=2,bytes:=16,ty:=.prod (.int .i64) (.int .i64),zero:=.cons (.lit (.int .i64 0)) (.cons (.lit (.int .i64 0)) .nil),kind:=5,dflt:=true,elem:=0,flds:=[(0,3,1),(1,3,1)],eq2:=true }
theorem yb8:TIok Tryz.prog 60 T60:=q5p (z:=.agg #[.int .i64 0,.int .i64 0]) (by kernel_rfl) rfl rfl (λm ρ=>⟨_,_,rfl,rfl,⟨_,_,rfl,rfl,rfl⟩⟩) (λ_ m=>⟨[.int .i64 0],[.int .i64 0],rfl,rfl,rfl⟩) (by decide) (by decide) (by decide) rfl Tryz.underlying60 (λh=>by cases h) (λh=>by cases h) (λh=>by cases h)
 (λh=>by cases h)
 (λ_=>⟨_,Tryz.underlying60,rfl,λf hf=>by
  simp only[T60,List.mem_cons,List.not_mem_nil,or_false] at hf
  rcases hf with rfl | rfl
  ·exact⟨q2e ti3,by decide⟩
  ·exact⟨q2e ti3,by decide⟩⟩) (by decide) (λ_=>q81 Tryz.underlying60 (by decide) (by decide) rfl rfl Tryz.underlying3 Tryz.underlying3 (by kernel_rfl) (by kernel_rfl))
def T72:TI:={ agg:=true,size:=2,bytes:=48,ty:=.prod (.list (.int .i64)) (.list (.prod (.int .i64) (.int .i64))),zero:=.cons (.lit (.slice none 0 0)) (.cons (.lit (.slice none 0 0)) .nil),kind:=5,dflt:=true,elem:=0,flds:=[(0,34,1),(1,53,1)] }
theorem yb9:TIok Tryz.prog 72 T72:=q5p (z:=.agg #[.slice none 0 0,.slice none 0 0]) (by kernel_rfl) rfl rfl (λm ρ=>⟨_,_,rfl,rfl,⟨_,_,rfl,rfl,rfl⟩⟩) (λ_ m=>⟨[.slice none 0 0],[.slice none 0 0],rfl,⟨none,0,rfl,Nat.le_refl _,by unfold maxLen; exact Nat.zero_le _,λh=>absurd h (Nat.lt_irrefl 0)⟩,⟨none,0,rfl,Nat.le_refl _,by unfold maxLen; exact Nat.zero_le _,λh=>absurd h (Nat.lt_irrefl 0)⟩⟩) (by decide) (by decide) (by decide) rfl Tryz.underlying72 (λh=>by cases h) (λh=>by cases h) (λh=>by cases h)
 (λh=>by cases h)
 (λ_=>⟨_,Tryz.underlying72,rfl,λf hf=>by
  simp only[T72,List.mem_cons,List.not_mem_nil,or_false] at hf
  rcases hf with rfl | rfl
  ·exact⟨q2e x2s,by decide⟩
  ·exact⟨q2e x9i,by decide⟩⟩) (by decide)
def T95:TI:=tiZ (.nilFunc) 8
theorem yc0:TIok Tryz.prog 95 T95:=qw7 rfl rfl (by kernel_rfl) Tryz.underlying95 rfl (by decide)
def x9j:TI:=tiZ (.nilFunc) 8
theorem x5z:TIok Tryz.prog 101 x9j:=qw7 rfl rfl (by kernel_rfl) Tryz.underlying101 rfl (by decide)
def x9k:TI:=tiZ (.nilFunc) 8
theorem x50:TIok Tryz.prog 102 x9k:=qw7 rfl rfl (by kernel_rfl) Tryz.underlying102 rfl (by decide)
def x51:TI:={ agg:=true,size:=2,bytes:=48,ty:=.prod (.list (.list (.int .i64))) (.list (.int .i64)),zero:=.cons (.lit (.slice none 0 0)) (.cons (.lit (.slice none 0 0)) .nil),kind:=5,dflt:=true,elem:=0,flds:=[(0,23,1),(1,34,1)] }
theorem x2t:TIok Tryz.prog 107 x51:=q5p (z:=.agg #[.slice none 0 0,.slice none 0 0]) (by kernel_rfl) rfl rfl (λm ρ=>⟨_,_,rfl,rfl,⟨_,_,rfl,rfl,rfl⟩⟩) (λ_ m=>⟨[.slice none 0 0],[.slice none 0 0],rfl,⟨none,0,rfl,Nat.le_refl _,by unfold maxLen; exact Nat.zero_le _,λh=>absurd h (Nat.lt_irrefl 0)⟩,⟨none,0,rfl,Nat.le_refl _,by unfold maxLen; exact Nat.zero_le _,λh=>absurd h (Nat.lt_irrefl 0)⟩⟩) (by decide) (by decide) (by decide) rfl Tryz.underlying107 (λh=>by cases h) (λh=>by cases h) (λh=>by cases h)
 (λh=>by cases h)
 (λ_=>⟨_,Tryz.underlying107,rfl,λf hf=>by
  simp only[x51,List.mem_cons,List.not_mem_nil,or_false] at hf
  rcases hf with rfl | rfl
  ·exact⟨q2e x9h,by decide⟩
  ·exact⟨q2e x2s,by decide⟩⟩) (by decide)
def x52:TI:={ agg:=true,size:=3,bytes:=72,ty:=.prod (.prod (.list (.list (.int .i64))) (.list (.int .i64))) (.list (.int .i64)),zero:=.cons (.lit (.slice none 0 0)) (.cons (.lit (.slice none 0 0)) (.cons (.lit (.slice none 0 0)) .nil)),kind:=5,dflt:=true,elem:=0,flds:=[(0,107,2),(2,34,1)] }
theorem x53:TIok Tryz.prog 109 x52:=q5p (z:=.agg #[.slice none 0 0,.slice none 0 0,.slice none 0 0]) (by kernel_rfl) rfl rfl (λm ρ=>⟨_,_,rfl,rfl,⟨_,_,rfl,rfl,⟨_,_,rfl,rfl,rfl⟩⟩⟩) (λ_ m=>⟨[.slice none 0 0,.slice none 0 0],[.slice none 0 0],rfl,⟨[.slice none 0 0],[.slice none 0 0],rfl,⟨none,0,rfl,Nat.le_refl _,by unfold maxLen; exact Nat.zero_le _,λh=>absurd h (Nat.lt_irrefl 0)⟩,⟨none,0,rfl,Nat.le_refl _,by unfold maxLen; exact Nat.zero_le _,λh=>absurd h (Nat.lt_irrefl 0)⟩⟩,⟨none,0,rfl,Nat.le_refl _,by unfold maxLen; exact Nat.zero_le _,λh=>absurd h (Nat.lt_irrefl 0)⟩⟩) (by decide) (by decide) (by decide) rfl Tryz.underlying109 (λh=>by cases h) (λh=>by cases h) (λh=>by cases h)
 (λh=>by cases h)
 (λ_=>⟨_,Tryz.underlying109,rfl,λf hf=>by
  simp only[x52,List.mem_cons,List.not_mem_nil,or_false] at hf
  rcases hf with rfl | rfl
  ·exact⟨q2e x2t,by decide⟩
  ·exact⟨q2e x2s,by decide⟩⟩) (by decide)
def x9l:TI:=tiZ (.nilFunc) 8
theorem x56:TIok Tryz.prog 123 x9l:=qw7 rfl rfl (by kernel_rfl) Tryz.underlying123 rfl (by decide)
def x9m:TI:=tiS 24 72 (.prod (.list (.int .i64)) (.list (.prod (.int .i64) (.int .i64))))
theorem x57:TIok Tryz.prog 127 x9m:=q9n (by kernel_rfl) Tryz.underlying127 (by decide)
def x9o:TI:=tiZ (.nilFunc) 8
theorem x58:TIok Tryz.prog 144 x9o:=qw7 rfl rfl (by kernel_rfl) Tryz.underlying144 rfl (by decide)
def x9p:TI:=tiZ (.nilFunc) 8
theorem x59:TIok Tryz.prog 157 x9p:=qw7 rfl rfl (by kernel_rfl) Tryz.underlying157 rfl (by decide)
def x9q:TI:=tiS 24 163 (.prod (.int .i64) (.prod (.int .i64) (.int .i64)))
theorem x6a:TIok Tryz.prog 160 x9q:=q9n (by kernel_rfl) Tryz.underlying160 (by decide)
def x6b:TI:={ agg:=true,size:=3,bytes:=24,ty:=.prod (.int .i64) (.prod (.int .i64) (.int .i64)),zero:=.cons (.lit (.int .i64 0)) (.cons (.lit (.int .i64 0)) (.cons (.lit (.int .i64 0)) .nil)),kind:=5,dflt:=true,elem:=0,flds:=[(0,3,1),(1,3,1),(2,3,1)] }
theorem x6c:TIok Tryz.prog 163 x6b:=q5p (z:=.agg #[.int .i64 0,.int .i64 0,.int .i64 0]) (by kernel_rfl) rfl rfl (λm ρ=>⟨_,_,rfl,rfl,⟨_,_,rfl,rfl,⟨_,_,rfl,rfl,rfl⟩⟩⟩) (λ_ m=>⟨[.int .i64 0],[.int .i64 0,.int .i64 0],rfl,rfl,⟨[.int .i64 0],[.int .i64 0],rfl,rfl,rfl⟩⟩) (by decide) (by decide) (by decide) rfl Tryz.underlying163 (λh=>by cases h) (λh=>by cases h) (λh=>by cases h)
 (λh=>by cases h)
 (λ_=>⟨_,Tryz.underlying163,rfl,λf hf=>by
  simp only[x6b,List.mem_cons,List.not_mem_nil,or_false] at hf
  rcases hf with rfl | rfl | rfl
  ·exact⟨q2e ti3,by decide⟩
  ·exact⟨q2e ti3,by decide⟩
  ·exact⟨q2e ti3,by decide⟩⟩) (by decide)
def x9r:TI:=tiZ (.nilFunc) 8
theorem x6d:TIok Tryz.prog 166 x9r:=qw7 rfl rfl (by kernel_rfl) Tryz.underlying166 rfl (by decide)
def x9s:TI:=tiI .u64 8
theorem x6e:TIok Tryz.prog 176 x9s:=q9m (by kernel_rfl) Tryz.underlying176 (by decide)
def x9t:TI:=tiZ (.nilFunc) 8
theorem x6f:TIok Tryz.prog 180 x9t:=qw7 rfl rfl (by kernel_rfl) Tryz.underlying180 rfl (by decide)
def x9u:TI:=tiZ (.nilFunc) 8
theorem x6g:TIok Tryz.prog 182 x9u:=qw7 rfl rfl (by kernel_rfl) Tryz.underlying182 rfl (by decide)
def x9v:TI:={ agg:=true,size:=2,bytes:=16,ty:=.prod (.int .i64) (.int .i64),zero:=.cons (.lit (.int .i64 0)) (.cons (.lit (.int .i64 0)) .nil),kind:=4,dflt:=true,elem:=3,flds:=[(0,3,1),(1,3,1)],eq2:=true }
theorem x6h:TIok Tryz.prog 184 x9v:=q5p (z:=.agg #[.int .i64 0,.int .i64 0]) (by kernel_rfl) rfl rfl (λm ρ=>⟨_,_,rfl,rfl,⟨_,_,rfl,rfl,rfl⟩⟩) (λ_ m=>⟨[.int .i64 0],[.int .i64 0],rfl,rfl,rfl⟩) (by decide) (by decide) (by decide) rfl Tryz.underlying184 (λh=>by cases h) (λh=>by cases h) (λh=>by cases h)
 (λ_=>⟨2,1,Tryz.underlying184,q2e ti3,by decide,λf fl h=>by
  match f,h with
  | 0,h=>injection h with h; exact⟨h.symm,by decide⟩
  | 1,h=>injection h with h; exact⟨h.symm,by decide⟩⟩)
 (λh=>by cases h) (by decide) (λ_=>(q2e ti3).elim λj hj=>xt9 Tryz.underlying184 hj.1 (by kernel_rfl) Tryz.underlying3 (by kernel_rfl))
def x9w:TI:={ agg:=true,size:=2,bytes:=48,ty:=.prod (.list (.int .i64)) (.list (.int .i64)),zero:=.cons (.lit (.slice none 0 0)) (.cons (.lit (.slice none 0 0)) .nil),kind:=4,dflt:=true,elem:=34,flds:=[(0,34,1),(1,34,1)] }
theorem x6i:TIok Tryz.prog 185 x9w:=q5p (z:=.agg #[.slice none 0 0,.slice none 0 0]) (by kernel_rfl) rfl rfl (λm ρ=>⟨_,_,rfl,rfl,⟨_,_,rfl,rfl,rfl⟩⟩) (λ_ m=>⟨[.slice none 0 0],[.slice none 0 0],rfl,⟨none,0,rfl,Nat.le_refl _,by unfold maxLen; exact Nat.zero_le _,λh=>absurd h (Nat.lt_irrefl 0)⟩,⟨none,0,rfl,Nat.le_refl _,by unfold maxLen; exact Nat.zero_le _,λh=>absurd h (Nat.lt_irrefl 0)⟩⟩) (by decide) (by decide) (by decide) rfl Tryz.underlying185 (λh=>by cases h) (λh=>by cases h) (λh=>by cases h)
 (λ_=>⟨2,1,Tryz.underlying185,q2e x2s,by decide,λf fl h=>by
  match f,h with
  | 0,h=>injection h with h; exact⟨h.symm,by decide⟩
  | 1,h=>injection h with h; exact⟨h.symm,by decide⟩⟩)
 (λh=>by cases h) (by decide)
def x9y:TI:=tiZ (.nilFunc) 8
theorem x6j:TIok Tryz.prog 190 x9y:=qw7 rfl rfl (by kernel_rfl) Tryz.underlying190 rfl (by decide)
def x9z:TI:=tiI .u64 8
theorem x2u:TIok Tryz.prog 204 x9z:=q9m (by kernel_rfl) Tryz.underlying204 (by decide)
def x6k:TI:={ agg:=true,size:=2,bytes:=16,ty:=.prod (.int .i64) (.int .u64),zero:=.cons (.lit (.int .i64 0)) (.cons (.lit (.int .u64 0)) .nil),kind:=5,dflt:=true,elem:=0,flds:=[(0,2,1),(1,204,1)],eq2:=true }
theorem x6l:TIok Tryz.prog 206 x6k:=q5p (z:=.agg #[.int .i64 0,.int .u64 0]) (by kernel_rfl) rfl rfl (λm ρ=>⟨_,_,rfl,rfl,⟨_,_,rfl,rfl,rfl⟩⟩) (λ_ m=>⟨[.int .i64 0],[.int .u64 0],rfl,rfl,rfl⟩) (by decide) (by decide) (by decide) rfl Tryz.underlying206 (λh=>by cases h) (λh=>by cases h) (λh=>by cases h)
 (λh=>by cases h)
 (λ_=>⟨_,Tryz.underlying206,rfl,λf hf=>by
  simp only[x6k,List.mem_cons,List.not_mem_nil,or_false] at hf
  rcases hf with rfl | rfl
  ·exact⟨q2e ti2,by decide⟩
  ·exact⟨q2e x2u,by decide⟩⟩) (by decide) (λ_=>q81 Tryz.underlying206 (by decide) (by decide) rfl rfl Tryz.underlying2 Tryz.underlying204 (by kernel_rfl) (by kernel_rfl))
def x92:TI:=tiZ (.nilFunc) 8
theorem x6m:TIok Tryz.prog 214 x92:=qw7 rfl rfl (by kernel_rfl) Tryz.underlying214 rfl (by decide)
def x94:TI:=tiZ (.nilFunc) 8
theorem x6n:TIok Tryz.prog 226 x94:=qw7 rfl rfl (by kernel_rfl) Tryz.underlying226 rfl (by decide)
def x97:TI:=tiZ (.nilFunc) 8
theorem x6o:TIok Tryz.prog 229 x97:=qw7 rfl rfl (by kernel_rfl) Tryz.underlying229 rfl (by decide)
def ya0:TI:=tiI .u64 8
theorem x6p:TIok Tryz.prog 249 ya0:=q9m (by kernel_rfl) Tryz.underlying249 (by decide)
def tys:List (Nat × TI):=[(2,T2),(3,T3),(4,T4),(22,T22),(23,T23),(28,T28),(34,T34),(53,T53),(60,T60),(72,T72),(95,T95),(101,x9j),(102,x9k),(107,x51),(109,x52),(123,x9l),(127,x9m),(144,x9o),(157,x9p),(160,x9q),(163,x6b),(166,x9r),(176,x9s),(180,x9t),(182,x9u),(184,x9v),(185,x9w),(190,x9y),(204,x9z),(206,x6k),(214,x92),(226,x94),(229,x97),(249,ya0)]
theorem w7s {α:Type} {i j:Nat} {v w:α} {l:List (Nat × α)} (h:find ((j,v) :: l) i=some w):(i=j/\w=v)\/find l i=some w:=by
 simp only[find] at h
 split at h
 ·rename_i e; exact .inl ⟨(Nat.eq_of_beq_eq_true e).symm,by injection h with h; exact h.symm⟩
 ·exact .inr h
theorem xx0 {P:Program}:∀t T,find ([]:List (Nat × TI)) t=some T->TIok P t T:=λ_ _ h=>by cases h
theorem qe9 {P:Program} {j:Nat} {U:TI} {l:List (Nat × TI)} (h:TIok P j U) (r:∀t T,find l t=some T->TIok P t T):∀t T,find ((j,U) :: l) t=some T->TIok P t T:=λt T e=>by
 rcases w7s e with⟨rfl,rfl⟩ | e
 ·exact h
 ·exact r t T e
set_option maxRecDepth 100000 in
theorem q2h:∀t T,find tys t=some T->TIok Tryz.prog t T:=by
 unfold tys
 exact qe9 ti2 <| qe9 ti3 <| qe9 ti4 <| qe9 yb6 <| qe9 x9h <| qe9 yb7 <| qe9 x2s <| qe9 x9i <| qe9 yb8 <| qe9 yb9 <| qe9 yc0 <| qe9 x5z <| qe9 x50 <| qe9 x2t <| qe9 x53 <| qe9 x56 <| qe9 x57 <| qe9 x58 <| qe9 x59 <| qe9 x6a <| qe9 x6c <| qe9 x6d <| qe9 x6e <| qe9 x6f <| qe9 x6g <| qe9 x6h <| qe9 x6i <| qe9 x6j <| qe9 x2u <| qe9 x6l <| qe9 x6m <| qe9 x6n <| qe9 x6o <| qe9 x6p <| xx0
end Go.Proofs.YtmijnbjlhnpokaaGreat
