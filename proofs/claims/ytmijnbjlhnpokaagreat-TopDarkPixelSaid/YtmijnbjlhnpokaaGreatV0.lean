/- Types and contexts for the engine at this seat. No condition. -/
import Derived.Test.YtmijnbjlhnpokaaGreatTys
set_option linter.unusedVariables false
namespace Go.Proofs.YtmijnbjlhnpokaaGreat
open Go Go.RowKit Eng
abbrev qc8:Ty:=.int .i64
abbrev qe9:Ty:=.list (.int .i64)
set_option linter.defProp false
def z0:=@ne_eq
def z1:=@true_and
def z2:=@and_true
def z3:=@eq_self
def z4:=@Bool.not_eq_true'
def z5:=@Bool.not_eq_false'
def z6:=@decide_eq_true_eq
def z7:=@decide_eq_false_iff_not
def z8:=@Nat.le_eq
def z9:=@Int.not_lt
def z10:=@Int.not_le
def z11:=@not_false_eq_true
def z12:=@Bool.not_eq_eq_eq_not
def z13:=@Bool.not_true
def z14:=@Bool.not_false
def z15:=@Int.ofNat_lt
def z16:=@Int.ofNat_le
def z17:=@Int.toNat_natCast
def z18:=@Int.natCast_nonneg
def z19:=@beq_iff_eq
def z20:=@bne_iff_ne
def z21:=@beq_eq_false_iff_ne
def z22:=@bne_eq_false_iff_eq
def z23:=@Classical.not_not
def z24:=@List.length_cons
def z25:=@List.length_nil
def z26:=@Nat.zero_add
def z27:=@List.nil_append
def z28:=@true_implies
def z29:=@Nat.lt_add_one
def z30:=@Nat.zero_lt_succ
def z31:=@List.set_cons_zero
def z32:=@List.cons.injEq
def z33:=@implies_true
def z34:=@dite_eq_ite
abbrev qg0:Ty:=.list (.list (.int .i64))
abbrev q0e:Ty:=.prod (.int .i64) (.int .i64)
abbrev x7v:Ty:=.list (.prod (.int .i64) (.int .i64))
abbrev x0e:Ty:=.prod (.list (.int .i64)) (.list (.prod (.int .i64) (.int .i64)))
def nI (l:List Int) (i:Nat):Int:=qf2 (.int .i64) l i
def nL (m:List (List Int)) (i:Nat):List Int:=qf2 (.list (.int .i64)) m i
theorem qa7 (l:List Int) (i:Nat):qf2 (.int .i64) l i=nI l i:=rfl
theorem qa8 (m:List (List Int)) (i:Nat):qf2 (.list (.int .i64)) m i=nL m i:=rfl
theorem qg5 (l:List Int) (i:Nat) (h:i<l.length):nI l i=l[i]:=qq4 (t:=.int .i64) l i h
theorem qj8 (m:List (List Int)) (i:Nat) (h:i<m.length):nL m i=m[i]:=qq4 (t:=.list (.int .i64)) m i h
theorem qb8 (l:List Int):nL [l] 0=l:=rfl
def ctx (specs:List (Nat × qb7)):Ctx:={ specs:=specs,tys:=tys,wr:=[] }
theorem snd {specs:List (Nat × qb7)} (h:SpecsOk Tryz.prog specs):Sound Tryz.prog (ctx specs):=SpecsOk.sound h q05 (by kernel_rfl)
def x3t (mats em:List Nat) (specs:List (Nat × qb7)):Ctx:={ specs:=specs,tys:=tys,wr:=[],mats:=mats,em:=em }
theorem x7w (mats em:List Nat) {specs:List (Nat × qb7)} (h:SpecsOk Tryz.prog specs):Sound Tryz.prog (x3t mats em specs):=SpecsOk.sound h q05 (by kernel_rfl)
theorem yh9 (mats:List Nat) {specs:List (Nat × qb7)} (h:SpecsOk Tryz.prog specs):Sound Tryz.prog (x3t mats [] specs):=SpecsOk.sound h q05 (by kernel_rfl)
def MutsOk (muts:List (Nat × qm0)):Prop:=∀f M,find muts f=some M->qo0 Tryz.prog f M
theorem MutsOk.nil:MutsOk []:=λf M h=>by cases h
theorem MutsOk.cons {f:Nat} {M:qm0} {l:List (Nat × qm0)} (h:qo0 Tryz.prog f M) (k:MutsOk l):MutsOk ((f,M) :: l):=by
 intro g S hg
 simp only[find] at hg
 split at hg
 ·rename_i e; obtain rfl:=Nat.eq_of_beq_eq_true e; injection hg with hg; rw[<- hg]; exact h
 ·exact k g S hg
def yi0 (specs:List (Nat × qb7)) (muts:List (Nat × qm0)):Ctx:={ specs:=specs,tys:=tys,wr:=[],muts:=muts }
theorem x3u {specs:List (Nat × qb7)} {muts:List (Nat × qm0)} (h:SpecsOk Tryz.prog specs) (hm:MutsOk muts):Sound Tryz.prog (yi0 specs muts):=SpecsOk.sound h q05 (by kernel_rfl) (hmu:=hm)
def x7x (nm:List Nat) (specs:List (Nat × qb7)) (muts:List (Nat × qm0)):Ctx:={ specs:=specs,tys:=tys,wr:=[],muts:=muts,nm:=nm }
theorem x7y (nm:List Nat) {specs:List (Nat × qb7)} {muts:List (Nat × qm0)} (h:SpecsOk Tryz.prog specs) (hm:MutsOk muts):Sound Tryz.prog (x7x nm specs muts):=SpecsOk.sound h q05 (by kernel_rfl) (hmu:=hm)
def ItsOk (its:List (Nat × qw4)):Prop:=∀F S,find its F=some S->qu0 Tryz.prog F S
theorem ItsOk.nil:ItsOk []:=λf M h=>by cases h
theorem ItsOk.cons {f:Nat} {M:qw4} {l:List (Nat × qw4)} (h:qu0 Tryz.prog f M) (k:ItsOk l):ItsOk ((f,M) :: l):=by
 intro g S hg
 simp only[find] at hg
 split at hg
 ·rename_i e; obtain rfl:=Nat.eq_of_beq_eq_true e; injection hg with hg; rw[<- hg]; exact h
 ·exact k g S hg
def yi1 (specs:List (Nat × qb7)) (its:List (Nat × qw4)):Ctx:={ specs:=specs,tys:=tys,wr:=[],its:=its }
theorem x7z {specs:List (Nat × qb7)} {its:List (Nat × qw4)} (h:SpecsOk Tryz.prog specs) (hi:ItsOk its):Sound Tryz.prog (yi1 specs its):=SpecsOk.sound h q05 (by kernel_rfl) hi
def ovr (t:Ty) (g:Nat->t.den) (l:List t.den) (k:Nat):List t.den:=(List.range l.length).map λi=>if i<k then g i else qf2 t l i
theorem qv4 (t:Ty) (g:Nat->t.den) (l:List t.den) (k:Nat):(ovr t g l k).length=l.length:=by simp[ovr]
theorem q3n (t:Ty) (g:Nat->t.den) (l:List t.den):ovr t g l 0=l:=by
 apply List.ext_getElem (qv4 t g l 0)
 intro i h1 h2
 simp only[ovr,List.getElem_map,List.getElem_range,Nat.not_lt_zero,if_false]
 exact qq4 l i h2
theorem q69 (t:Ty) (g:Nat->t.den) (l:List t.den) (k:Nat) (hk:l.length<=k):ovr t g l k=(List.range l.length).map g:=by
 unfold ovr
 apply List.map_congr_left
 intro i hi
 have:=List.mem_range.1 hi
 rw[if_pos (by omega)]
theorem q9p (t:Ty) (g:Nat->t.den) (l:List t.den) (k i:Nat) (hi:i<l.length):qf2 t (ovr t g l k) i=if i<k then g i else qf2 t l i:=by
 rw[qq4 _ _ (by rw[qv4]; exact hi)]
 simp[ovr]
theorem q1p (t:Ty) (g:Nat->t.den) (l:List t.den) (k:Nat):(ovr t g l k).set k (g k)=ovr t g l (k+1):=by
 apply List.ext_getElem (by rw[List.length_set,qv4,qv4])
 intro i h1 h2
 rw[List.getElem_set]
 simp only[ovr,List.getElem_map,List.getElem_range]
 by_cases e:k=i
 ·subst e; simp
 ·rw[if_neg e]
  by_cases h:i<k
  ·rw[if_pos h,if_pos (by omega)]
  ·rw[if_neg h,if_neg (by omega)]
end Go.Proofs.YtmijnbjlhnpokaaGreat
