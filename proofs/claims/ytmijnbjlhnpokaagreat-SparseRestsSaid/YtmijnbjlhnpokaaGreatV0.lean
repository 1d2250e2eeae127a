/- Types and contexts for the engine at this seat. No condition. -/
import Derived.Test.YtmijnbjlhnpokaaGreatTys
set_option linter.unusedVariables false
namespace Go.Proofs.YtmijnbjlhnpokaaGreat
open Go Go.RowKit Eng
abbrev qf8:Ty:=.int .i64
abbrev qd4:Ty:=.list (.int .i64)
set_option linter.defProp false
def z0:=@ne_eq
def z1:=@true_and
def z2:=@and_true
def z3:=@eq_self
def z4:=@Bool.not_eq_true'
def z5:=@Bool.not_eq_false'
def z6:=@decide_eq_true_eq
def z7:=@decide_eq_false_iff_not
def z8:=@Nat.le_eq
def z9:=@Int.not_lt
def z10:=@Int.not_le
def z11:=@not_false_eq_true
def z12:=@Bool.not_eq_eq_eq_not
def z13:=@Bool.not_true
def z14:=@Bool.not_false
def z15:=@Int.ofNat_lt
def z16:=@Int.ofNat_le
def z17:=@Int.toNat_natCast
def z18:=@Int.natCast_nonneg
def z19:=@beq_iff_eq
def z20:=@bne_iff_ne
def z21:=@beq_eq_false_iff_ne
def z22:=@bne_eq_false_iff_eq
def z23:=@Classical.not_not
def z24:=@List.length_cons
def z25:=@List.length_nil
def z26:=@Nat.zero_add
def z27:=@List.nil_append
def z28:=@true_implies
def z29:=@Nat.lt_add_one
def z30:=@Nat.zero_lt_succ
def z31:=@List.set_cons_zero
def z32:=@List.cons.injEq
def z33:=@implies_true
def z34:=@dite_eq_ite
abbrev qk2:Ty:=.list (.list (.int .i64))
abbrev xz8:Ty:=.prod (.int .i64) (.int .i64)
abbrev xk9:Ty:=.list (.prod (.int .i64) (.int .i64))
abbrev wn8:Ty:=.prod (.list (.int .i64)) (.list (.prod (.int .i64) (.int .i64)))
def nI (l:List Int) (i:Nat):Int:=qf2 (.int .i64) l i
def nL (m:List (List Int)) (i:Nat):List Int:=qf2 (.list (.int .i64)) m i
theorem qb4 (l:List Int) (i:Nat):qf2 (.int .i64) l i=nI l i:=rfl
theorem qb5 (m:List (List Int)) (i:Nat):qf2 (.list (.int .i64)) m i=nL m i:=rfl
theorem qh2 (l:List Int) (i:Nat) (h:i<l.length):nI l i=l[i]:=qk4 (t:=.int .i64) l i h
theorem ql7 (m:List (List Int)) (i:Nat) (h:i<m.length):nL m i=m[i]:=qk4 (t:=.list (.int .i64)) m i h
theorem qc8 (l:List Int):nL [l] 0=l:=rfl
def ctx (specs:List (Nat × qc7)):Ctx:={ specs:=specs,tys:=tys,wr:=[] }
theorem snd {specs:List (Nat × qc7)} (h:SpecsOk Tryz.prog specs):Sound Tryz.prog (ctx specs):=SpecsOk.sound h q28 (by kernel_rfl)
def xt1 (mats em:List Nat) (specs:List (Nat × qc7)):Ctx:={ specs:=specs,tys:=tys,wr:=[],mats:=mats,em:=em }
theorem xt2 (mats em:List Nat) {specs:List (Nat × qc7)} (h:SpecsOk Tryz.prog specs):Sound Tryz.prog (xt1 mats em specs):=SpecsOk.sound h q28 (by kernel_rfl)
theorem x4u (mats:List Nat) {specs:List (Nat × qc7)} (h:SpecsOk Tryz.prog specs):Sound Tryz.prog (xt1 mats [] specs):=SpecsOk.sound h q28 (by kernel_rfl)
def MutsOk (muts:List (Nat × qr8)):Prop:=∀f M,find muts f=some M->qw2 Tryz.prog f M
theorem MutsOk.nil:MutsOk []:=λf M h=>by cases h
theorem MutsOk.cons {f:Nat} {M:qr8} {l:List (Nat × qr8)} (h:qw2 Tryz.prog f M) (k:MutsOk l):MutsOk ((f,M) :: l):=by
 intro g S hg
 simp only[find] at hg
 split at hg
 ·rename_i e; obtain rfl:=Nat.eq_of_beq_eq_true e; injection hg with hg; rw[<- hg]; exact h
 ·exact k g S hg
def x6a (specs:List (Nat × qc7)) (muts:List (Nat × qr8)):Ctx:={ specs:=specs,tys:=tys,wr:=[],muts:=muts }
theorem x4v {specs:List (Nat × qc7)} {muts:List (Nat × qr8)} (h:SpecsOk Tryz.prog specs) (hm:MutsOk muts):Sound Tryz.prog (x6a specs muts):=SpecsOk.sound h q28 (by kernel_rfl) (hmu:=hm)
def x1u (nm:List Nat) (specs:List (Nat × qc7)) (muts:List (Nat × qr8)):Ctx:={ specs:=specs,tys:=tys,wr:=[],muts:=muts,nm:=nm }
theorem x1v (nm:List Nat) {specs:List (Nat × qc7)} {muts:List (Nat × qr8)} (h:SpecsOk Tryz.prog specs) (hm:MutsOk muts):Sound Tryz.prog (x1u nm specs muts):=SpecsOk.sound h q28 (by kernel_rfl) (hmu:=hm)
def ItsOk (its:List (Nat × q1w)):Prop:=∀F S,find its F=some S->q0o Tryz.prog F S
theorem ItsOk.nil:ItsOk []:=λf M h=>by cases h
theorem ItsOk.cons {f:Nat} {M:q1w} {l:List (Nat × q1w)} (h:q0o Tryz.prog f M) (k:ItsOk l):ItsOk ((f,M) :: l):=by
 intro g S hg
 simp only[find] at hg
 split at hg
 ·rename_i e; obtain rfl:=Nat.eq_of_beq_eq_true e; injection hg with hg; rw[<- hg]; exact h
 ·exact k g S hg
def x6b (specs:List (Nat × qc7)) (its:List (Nat × q1w)):Ctx:={ specs:=specs,tys:=tys,wr:=[],its:=its }
theorem x4w {specs:List (Nat × qc7)} {its:List (Nat × q1w)} (h:SpecsOk Tryz.prog specs) (hi:ItsOk its):Sound Tryz.prog (x6b specs its):=SpecsOk.sound h q28 (by kernel_rfl) hi
def ovr (t:Ty) (g:Nat->t.den) (l:List t.den) (k:Nat):List t.den:=(List.range l.length).map λi=>if i<k then g i else qf2 t l i
theorem qq0 (t:Ty) (g:Nat->t.den) (l:List t.den) (k:Nat):(ovr t g l k).length=l.length:=by simp[ovr]
theorem qu5 (t:Ty) (g:Nat->t.den) (l:List t.den):ovr t g l 0=l:=by
 apply List.ext_getElem (qq0 t g l 0)
 intro i h1 h2
 simp only[ovr,List.getElem_map,List.getElem_range,Nat.not_lt_zero,if_false]
 exact qk4 l i h2
theorem q0u (t:Ty) (g:Nat->t.den) (l:List t.den) (k:Nat) (hk:l.length<=k):ovr t g l k=(List.range l.length).map g:=by
 unfold ovr
 apply List.map_congr_left
 intro i hi
 have:=List.mem_range.1 hi
 rw[if_pos (by omega)]
theorem q29 (t:Ty) (g:Nat->t.den) (l:List t.den) (k i:Nat) (hi:i<l.length):qf2 t (ovr t g l k) i=if i<k then g i else qf2 t l i:=by
 rw[qk4 _ _ (by rw[qq0]; exact hi)]
 simp[ovr]
theorem qs7 (t:Ty) (g:Nat->t.den) (l:List t.den) (k:Nat):(ovr t g l k).set k (g k)=ovr t g l (k+1):=by
 apply List.ext_getElem (by rw[List.length_set,qq0,qq0])
 intro i h1 h2
 rw[List.getElem_set]
 simp only[ovr,List.getElem_map,List.getElem_range]
 by_cases e:k=i
 ·subst e; simp
 ·rw[if_neg e]
  by_cases h:i<k
  ·rw[if_pos h,if_pos (by omega)]
  ·rw[if_neg h,if_neg (by omega)]
end Go.Proofs.YtmijnbjlhnpokaaGreat
