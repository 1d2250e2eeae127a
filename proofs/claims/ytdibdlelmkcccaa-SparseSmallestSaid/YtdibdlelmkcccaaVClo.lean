/- The contract of slices.Clone at integers. No condition. -/
import Derived.Test.YtdibdlelmkcccaaProg
import Derived.Test.YtdibdlelmkcccaaApp
import Derived.Test.YtdibdlelmkcccaaEng3
set_option linter.unusedVariables false
namespace Go.Proofs.Ytdibdlelmkcccaa
open Go Go.RowKit Ls Eng
theorem x6u:Elt Try.prog 24 3 (.int .i64 0) 1 8:=⟨Try.underlying24,by kernel_rfl⟩
theorem w57 (w:World) (t:TypeId):(w.alloc (.cells #[] t)).ownsRow w.heap.size t 1 (.slice (some ⟨w.heap.size,0,none⟩) 0 0) 0 []:=
 ⟨rfl,.inr ⟨w.heap.size,0,#[],rfl,Nat.le_refl _,heap_alloc_new w _,Nat.le_refl _,by unfold maxLen; omega,rfl,rfl⟩⟩
set_option maxRecDepth 100000 in
set_option maxHeartbeats 400000 in
theorem clone_any (X:Option Addr) (k d:Nat) (l:List Int) (w:World) (hl:SI w X k d l) (hk:k<=100000) :
  Calls Try.prog 84 #[.slice X k d] w λe w'=>∃A' c',e=.returned (.slice A' k c')/\w'.ownsRow w.heap.size 3 1 (.slice A' k c') k (ints l)/\Below w.heap.size w w':=by
 have hll:=hidx hl.len
 cases X with
 | none=>
  have h0:k=0:=by
   rcases Nat.eq_zero_or_pos k with h | h
   ·exact h
   ·obtain⟨ad,e,_⟩:=hl.at_ h; cases e
  subst h0
  have hl0:l=[]:=List.eq_nil_of_length_eq_zero hll.out
  subst hl0
  have hq:=λw=>Lib.run_eql_slice_nil (P:=Try.prog) w 24 3 none 0 d 0 0 Try.underlying24
  go_enter Try.func84,Try.ntmps84
  go_wp2
  go_ret
  exact⟨none,0,rfl,World.ownsRow_nil _ _ _ _,Below.refl _ _⟩
 | some ad=>
  have sv:=hl.values
  have o1:=w9x l
  have hq:=λw=>Lib.run_eql_slice_nil (P:=Try.prog) w 24 3 (some ad) k d 0 0 Try.underlying24
  go_enter Try.func84,Try.ntmps84
  go_wp2_with (at_builtin; refine x6t _ x6u rfl rfl _ _ rfl rfl rfl (w57 _ _) (below_alloc _ _) (Nat.le_refl _) (sv.below (below_alloc _ _)) o1 (by omega) (by omega) ?_; intro A2 c2 w2 hown2 hb2 _; rw[Nat.zero_add] at hown2)
  go_ret
  exact⟨A2,c2,rfl,by simpa using hown2,hb2⟩
abbrev xv0:qc7:=qg3 true (some 3) [.list (.int .i64)] [.list (.int .i64)] (λx=>x.1.length<=100000) (λx=>(x.1,()))
theorem rdL_ints (m:View):∀l:List Int,RdL m (.int .i64) l (ints l)
 | []=>rfl
 | x :: l=>⟨[.int .i64 x],ints l,rfl,rfl,rdL_ints m l⟩
theorem wo9:qd8 Try.prog 84 xv0:=by
 refine⟨⟨_,_,Try.func84,rfl,rfl⟩,λw m args vs k hm hargs hrun=>?_⟩
 obtain⟨⟨l,⟨⟩⟩,⟨hp,hk⟩,hx⟩:=qs3 hrun hargs
 have hp:l.length<=100000:=hp
 obtain⟨u,us,rfl,h1,h2⟩:=hx
 obtain rfl:us=[]:=h2
 obtain⟨A,c,rfl,hSI⟩:=x0x hm (show Rd m (.list (.int .i64)) l [u] from h1)
 refine(clone_any A l.length c l w hSI hp).mono λe w' ⟨A',c',e1,e2,e3⟩=>?_
 exact⟨_,λ_=>none,e1,e3,(λb o h=>by cases h),(λb o h=>by cases h),.inl ⟨.int .i64,l,ints l,hk,e2,rdL_ints _ l,λ_ _=>rfl⟩⟩
end Go.Proofs.Ytdibdlelmkcccaa
