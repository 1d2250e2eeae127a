/- Circuits: contract by the engine. No condition. -/
import Derived.Test.YtdibdlelmkcccaaV17
set_option linter.unusedVariables false
set_option linter.unusedSimpArgs false
namespace Go.Proofs.Ytdibdlelmkcccaa
open Go Go.RowKit Eng
end Go.Proofs.Ytdibdlelmkcccaa
set_option linter.unusedVariables false
set_option linter.unusedSimpArgs false
namespace Go.Proofs.Ytdibdlelmkcccaa
open Go Go.RowKit Eng
def qi4 (n : Nat) (set v : List Int) : Nat -> List Int
  | 0 => List.replicate n 0
  | j + 1 => (qi4 n set v j).set (nI set j).toNat (nI v j)
def w37 (l : List (List Int)) : Bool := decide (l.length = 1) && !((nL l 0).any fun e => (0 : Int) == e)
def x04 (m : List (List Int)) (n : Nat) (set : List Int) : List Int := q6x (qi4 n set (nL (qn3 m set) 0) set.length)
def qr2 (m : List (List Int)) (n : Nat) (L : List (List Int)) : Nat -> List (List Int)
  | 0 => []
  | c + 1 => if w37 (qn3 m (nL L c)) then qr2 m n L c ++ [x04 m n (nL L c)] else qr2 m n L c
def q36 (m : List (List Int)) (n : Nat) : Nat -> List (List Int)
  | 0 => []
  | k + 1 => q36 m n k ++ qr2 m n (qe8 n (k + 1 : Nat)) (qe8 n (k + 1 : Nat)).length
def w38 (m : List (List Int)) : Nat := min ((qb3 m (q1v (nL m 0).length)).2.length + 1) (nL m 0).length
def q56 (m : List (List Int)) : List (List Int) × Int := if qe6 m = false then ([], 1) else (q36 m (nL m 0).length (w38 m), 0)
structure wj6 (m : List (List Int)) : Prop where
  rank : wc8 m
  ker : ∀ k, k < (nL m 0).length -> ∀ set ∈ qe8 (nL m 0).length (k + 1 : Nat), wz5 m set
abbrev x05 : qc7 := qg2 true none [qh5] [qh5, qf9] (fun x => qe6 x.1 = true -> wj6 x.1) (fun x => ((q56 x.1).1, (q56 x.1).2, ()))
def xr6 (m : List (List Int)) (n : Nat) : Nat -> Option Inv
  | 0 => some (Inv.of [30] 4 (fun k : Nat => [(30, .lit (.int .i64 k))]) (fun k => [.box 23 (.cons (.dat (.list (.int .i64)) m) .nil), .box 3 (.cons (.lit (.int .i64 n)) .nil), .box 22 (.cons (.msl 3 .none) .nil), .mat 24 3 (.int .i64) (q36 m n k) .none .none]) (fun k => k <= w38 m) (fun k => w38 m - k))
  | 1 => some (Eng.Inv.mk Nat Nat [] 4 (fun _ _ => []) (fun k c => [.box 23 (.cons (.dat (.list (.int .i64)) m) .nil), .box 3 (.cons (.lit (.int .i64 n)) .nil), .box 22 (.cons (.msl 3 .none) .nil), .mat 24 3 (.int .i64) (q36 m n k ++ qr2 m n (qe8 n (k + 1 : Nat)) c) .none .none]) (fun k c => c <= (qe8 n (k + 1 : Nat)).length) (fun k c => c))
  | 2 => some (Eng.Inv.mk (q6p × Nat × Nat × List Int) Nat [9, 11, 52, 54] 6 (fun q j => [(9, .msl 4 (some 0)), (11, .own 5), (52, .msl 4 (some 0)), (54, .lit (.int .i64 j))]) (fun q j => [.box 23 (.cons (.dat (.list (.int .i64)) m) .nil), .box 3 (.cons (.lit (.int .i64 n)) .nil), .box 22 (.cons (.msl 3 .none) .nil), .mat 24 3 (.int .i64) (q36 m n q.2.1 ++ qr2 m n (qe8 n (q.2.1 + 1 : Nat)) q.2.2.1) .none .none, .mat 3 3 (.int .i64) [q.2.2.2] (some []) (some q.1), .vec 3 (.int .i64) (qi4 n q.2.2.2 (nL (qn3 m q.2.2.2) 0) j)]) (fun q j => j <= q.2.2.2.length) (fun q j => q.2.2.2.length - j))
  | _ => none
def xr7 (mats em : List Nat) (specs : List (Nat × qc7)) (muts : List (Nat × ql3)) (its : List (Nat × q06)) : Ctx := { specs := specs, tys := tys, wr := [], muts := muts, mats := mats, em := em, its := its }
theorem xr8 (mats em : List Nat) {specs : List (Nat × qc7)} {muts : List (Nat × ql3)} {its : List (Nat × q06)} (h : SpecsOk Try.prog specs) (hm : MutsOk muts) (hi : ItsOk its) : Sound Try.prog (xr7 mats em specs muts its) := SpecsOk.sound h q2l (by kernel_rfl) hi (hmu := hm)
theorem q57 (m : List (List Int)) (n : Nat) (L : List (List Int)) : ∀ c, (qr2 m n L c).length <= c
  | 0 => Nat.le_refl _
  | c + 1 => by
    have := q57 m n L c
    rw [qr2]
    split
    · simp; omega
    · omega
theorem wj7 : ((List.range 11).all fun n => (List.range 12).all fun k => decide ((qe8 (n : Nat) (k : Nat)).length <= 1000)) = true := by decide +kernel
theorem wd5 (n k : Nat) (hn : n <= 10) (hk : k <= 11) : (qe8 (n : Nat) (k : Nat)).length <= 1000 :=
  of_decide_eq_true (List.all_eq_true.1 (List.all_eq_true.1 wj7 n (List.mem_range.2 (by omega))) k (List.mem_range.2 (by omega)))
theorem ws0 (m : List (List Int)) (n : Nat) (hn : n <= 10) : ∀ k, k <= 11 -> (q36 m n k).length <= 1000 * k
  | 0, _ => Nat.le_refl _
  | k + 1, hk => by
    have h1 := ws0 m n hn k (by omega)
    have h2 := wd5 n (k + 1) hn hk
    have h3 := q57 m n (qe8 (n : Nat) (k + 1 : Nat)) (qe8 (n : Nat) (k + 1 : Nat)).length
    rw [q36, List.length_append]
    omega
theorem q58 {R : List (List Int)} {P : List Int} {n : Nat} (h : w61 R P n) (hn : n <= 1000) : ∀ f, f <= n -> ∀ x ∈ qo6 R P n f, x.length = n /\ q5l x
  | 0, _, x, hx => by cases hx
  | f + 1, hf, x, hx => by
    rw [qo6] at hx
    split at hx
    · exact q58 h hn f (by omega) x hx
    · rename_i hfree
      rcases List.mem_append.1 hx with hx | hx
      · exact q58 h hn f (by omega) x hx
      · obtain rfl := List.mem_singleton.1 hx
        have hb : q5l (hTo R P n f P.length) := ⟨by rw [q50]; exact hn, wi9 h (by omega) (Bool.eq_false_iff.2 hfree) _ (Nat.le_refl _)⟩
        exact ⟨by rw [q7j, q50], q7p hb⟩
theorem q59 {m : List (List Int)} {set : List Int} (h : wz5 m set) (x : List Int) (hx : x ∈ qn3 m set) : x.length = set.length /\ set.length <= 1000 /\ q5l x := by
  have hw := h.red.w
  have := q58 h.ar hw _ (Nat.le_refl _) x hx
  exact ⟨this.1, hw, this.2⟩
theorem qz7 (n : Nat) (set v : List Int) : ∀ j, (qi4 n set v j).length = n
  | 0 => by simp [qi4]
  | j + 1 => by rw [qi4, List.length_set]; exact qz7 n set v j
theorem q3w {n : Nat} {set v : List Int} (hv : q5l v) (hn : n <= 1000) (hl : v.length = set.length) : ∀ j, j <= set.length -> q5l (qi4 n set v j)
  | 0, _ => ⟨by simp [qi4]; omega, fun x hx => by
    obtain rfl := (List.mem_replicate.1 hx).2
    unfold BIG; omega⟩
  | j + 1, hj => by
    have h1 := q3w hv hn hl j (by omega)
    refine ⟨by rw [qz7]; exact hn, fun x hx => ?_⟩
    rw [qi4] at hx
    rcases List.mem_or_eq_of_mem_set hx with hx | rfl
    · exact h1.2 x hx
    · exact q1i hv (by omega)
theorem w39 : qd6 Try.prog 96 x05 := by
  refine meets (xr8 [72] [] (SpecsOk.cons wz6 (SpecsOk.cons q7o (SpecsOk.cons w3u (SpecsOk.cons wc6 (SpecsOk.nil _))))) (MutsOk.cons wz4 MutsOk.nil) (ItsOk.cons q7n ItsOk.nil)) Try.func96 rfl rfl (fun x => xr6 x.1 (nL x.1 0).length) (fun _ => by kernel_rfl) (by decide) ?_
  rintro ⟨m, ⟨⟩⟩ h
  revert m
  intro (m : List (List Int)) (h : qe6 m = true -> wj6 m)
  refine qd7 (B := (qe6 m=true->wc8 m)/\((Prod.snd (qu7 m) != (0:Int))=true->Prod.fst (q56 m)=[]/\Prod.snd (qu7 m)=Prod.snd (q56 m)/\True)/\((Prod.snd (qu7 m) != (0:Int))=false->((0:Int) <= (0:Int)/\(0:Int) < (↑(List.length m):Int))/\fits .i64 (Prod.fst (qu7 m) + (1:Int))/\∃ (v1:Unit),∃ (v2:Nat),Nat.le v2 (w38 m)/\(((0:Int)=(↑v2:Int)/\True)/\(m=m/\True)/\((↑(List.length (qa1 (Ty.list (Ty.int .i64)) m (0:Nat))):Int)=(↑(List.length (nL m (0:Nat))):Int)/\True)/\(True/\True)/\q36 m (List.length (nL m (0:Nat))) v2=[]/\True)/\∀ (v3:Nat),Nat.le v3 (w38 m)->(decide ((↑v3:Int) < max2 false (Prod.fst (qu7 m) + (1:Int)) (↑(List.length (qa1 (Ty.list (Ty.int .i64)) m (0:Nat))):Int))=true->fits .i64 ((↑v3:Int) + (1:Int))/\True/\(((0 : Ty.den qf9) <= (↑v3:Int) + (1:Int)/\(↑v3:Int) + (1:Int) <= (1000 : Ty.den qf9))/\(0 : Ty.den qf9) <= (↑(List.length (nL m (0:Nat))):Int)/\(↑(List.length (nL m (0:Nat))):Int) <= (1000 : Ty.den qf9))/\∃ (v6:Nat),∃ (v7:Nat),Nat.le v7 (List.length (qe8 (↑(List.length (nL m (0:Nat))):Int) (↑(v6 + (1:Nat)):Int)))/\v7=(0:Nat)/\((m=m/\True)/\((↑(List.length (nL m (0:Nat))):Int)=(↑(List.length (nL m (0:Nat))):Int)/\True)/\(True/\True)/\(q36 m (List.length (nL m (0:Nat))) v3=q36 m (List.length (nL m (0:Nat))) v6 ++ qr2 m (List.length (nL m (0:Nat))) (qe8 (↑(List.length (nL m (0:Nat))):Int) (↑(v6 + (1:Nat)):Int)) v7/\True/\True)/\True)/\∀ (v8:Nat),Nat.le v8 (List.length (qe8 (↑(List.length (nL m (0:Nat))):Int) (↑(v6 + (1:Nat)):Int)))->(∀ (v10 : List Int × qa6._f [] PUnit.unit),(List.map (fun (v12 : List Int) => (v12,())) (qe8 (↑(List.length (nL m (0:Nat))):Int) ((↑v3:Int) + (1:Int))))[v8]?=some v10->∀ (v12 : q6p),wz5 m (qa1 (Ty.list (Ty.int .i64)) [Prod.fst v10] (0:Nat))/\(((↑(List.length (qn3 m (qa1 (Ty.list (Ty.int .i64)) [Prod.fst v10] (0:Nat)))):Int) != (1:Int))=true->[Prod.fst v10]=[Prod.fst v10]/\v12=v12/\True/\∃ (v14:Nat),Nat.le v14 (List.length (qe8 (↑(List.length (nL m (0:Nat))):Int) (↑(v6 + (1:Nat)):Int)))/\v14=v8 + (1:Nat)/\(m=m/\True)/\((↑(List.length (nL m (0:Nat))):Int)=(↑(List.length (nL m (0:Nat))):Int)/\True)/\(True/\True)/\(q36 m (List.length (nL m (0:Nat))) v6 ++ qr2 m (List.length (nL m (0:Nat))) (qe8 (↑(List.length (nL m (0:Nat))):Int) (↑(v6 + (1:Nat)):Int)) v8=q36 m (List.length (nL m (0:Nat))) v6 ++ qr2 m (List.length (nL m (0:Nat))) (qe8 (↑(List.length (nL m (0:Nat))):Int) (↑(v6 + (1:Nat)):Int)) v14/\True/\True)/\True)/\(((↑(List.length (qn3 m (qa1 (Ty.list (Ty.int .i64)) [Prod.fst v10] (0:Nat)))):Int) != (1:Int))=false->((0:Int) <= (0:Int)/\(0:Int) < (↑(List.length (qn3 m (qa1 (Ty.list (Ty.int .i64)) [Prod.fst v10] (0:Nat)))):Int))/\List.length (qa1 (Ty.list (Ty.int .i64)) (qn3 m (qa1 (Ty.list (Ty.int .i64)) [Prod.fst v10] (0:Nat))) (0:Nat)) <= (1000000:Nat)/\((List.any (qa1 (Ty.list (Ty.int .i64)) (qn3 m (qa1 (Ty.list (Ty.int .i64)) [Prod.fst v10] (0:Nat))) (0:Nat)) fun (v15:Int) => (0:Int) == v15)=true->[Prod.fst v10]=[Prod.fst v10]/\v12=v12/\True/\∃ (v15:Nat),Nat.le v15 (List.length (qe8 (↑(List.length (nL m (0:Nat))):Int) (↑(v6 + (1:Nat)):Int)))/\v15=v8 + (1:Nat)/\(m=m/\True)/\((↑(List.length (nL m (0:Nat))):Int)=(↑(List.length (nL m (0:Nat))):Int)/\True)/\(True/\True)/\(q36 m (List.length (nL m (0:Nat))) v6 ++ qr2 m (List.length (nL m (0:Nat))) (qe8 (↑(List.length (nL m (0:Nat))):Int) (↑(v6 + (1:Nat)):Int)) v8=q36 m (List.length (nL m (0:Nat))) v6 ++ qr2 m (List.length (nL m (0:Nat))) (qe8 (↑(List.length (nL m (0:Nat))):Int) (↑(v6 + (1:Nat)):Int)) v15/\True/\True)/\True)/\((List.any (qa1 (Ty.list (Ty.int .i64)) (qn3 m (qa1 (Ty.list (Ty.int .i64)) [Prod.fst v10] (0:Nat))) (0:Nat)) fun (v15:Int) => (0:Int) == v15)=false->((↑(List.length (nL m (0:Nat))):Int)=(↑(List.length (nL m (0:Nat))):Int)/\(0:Int) <= (↑(List.length (nL m (0:Nat))):Int)/\(↑(List.length (nL m (0:Nat))):Int) <= (1000000:Int))/\∃ (v15 : q6p × Nat × Nat × List Int),∃ (v16:Nat),Nat.le v16 (List.length (Prod.snd (Prod.snd (Prod.snd v15))))/\((some (0:Nat)=some (0:Nat)/\True/\some (0:Nat)=some (0:Nat)/\(0:Int)=(↑v16:Int)/\True)/\(m=m/\True)/\((↑(List.length (nL m (0:Nat))):Int)=(↑(List.length (nL m (0:Nat))):Int)/\True)/\(True/\True)/\(q36 m (List.length (nL m (0:Nat))) v6 ++ qr2 m (List.length (nL m (0:Nat))) (qe8 (↑(List.length (nL m (0:Nat))):Int) (↑(v6 + (1:Nat)):Int)) v8=q36 m (List.length (nL m (0:Nat))) (Prod.fst (Prod.snd v15)) ++ qr2 m (List.length (nL m (0:Nat))) (qe8 (↑(List.length (nL m (0:Nat))):Int) (↑(Prod.fst (Prod.snd v15) + (1:Nat)):Int)) (Prod.fst (Prod.snd (Prod.snd v15)))/\True/\True)/\([Prod.fst v10]=[Prod.snd (Prod.snd (Prod.snd v15))]/\True/\v12=Prod.fst v15)/\List.replicate (Int.toNat (↑(List.length (nL m (0:Nat))):Int)) (Ty.dflt (TI.ty T3))=qi4 (List.length (nL m (0:Nat))) (Prod.snd (Prod.snd (Prod.snd v15))) (nL (qn3 m (Prod.snd (Prod.snd (Prod.snd v15)))) (0:Nat)) v16/\True)/\∀ (v17:Nat),Nat.le v17 (List.length (Prod.snd (Prod.snd (Prod.snd v15))))->(decide ((↑v17:Int) < (↑(List.length (qa1 (Ty.list (Ty.int .i64)) [Prod.fst v10] (0:Nat))):Int))=true->((0:Int) <= (↑v17:Int)/\(↑v17:Int) < (↑(List.length (qa1 (Ty.list (Ty.int .i64)) [Prod.snd (Prod.snd (Prod.snd v15))] (0:Nat))):Int))/\Int.toNat (↑v17:Int) < List.length (qa1 (Ty.list (Ty.int .i64)) [Prod.snd (Prod.snd (Prod.snd v15))] (0:Nat))/\((0:Int) <= (0:Int)/\(0:Int) < (↑(List.length (qn3 m (qa1 (Ty.list (Ty.int .i64)) [Prod.fst v10] (0:Nat)))):Int))/\((0:Int) <= (↑v17:Int)/\(↑v17:Int) < (↑(List.length (qa1 (Ty.list (Ty.int .i64)) (qn3 m (qa1 (Ty.list (Ty.int .i64)) [Prod.fst v10] (0:Nat))) (0:Nat))):Int))/\((0:Int) <= qa1 (Ty.int .i64) (qa1 (Ty.list (Ty.int .i64)) [Prod.snd (Prod.snd (Prod.snd v15))] (0:Nat)) (Int.toNat (↑v17:Int))/\qa1 (Ty.int .i64) (qa1 (Ty.list (Ty.int .i64)) [Prod.snd (Prod.snd (Prod.snd v15))] (0:Nat)) (Int.toNat (↑v17:Int)) < (↑(List.length (qi4 (List.length (nL m (0:Nat))) (Prod.snd (Prod.snd (Prod.snd v15))) (nL (qn3 m (Prod.snd (Prod.snd (Prod.snd v15)))) (0:Nat)) v17)):Int))/\Int.toNat (qa1 (Ty.int .i64) (qa1 (Ty.list (Ty.int .i64)) [Prod.snd (Prod.snd (Prod.snd v15))] (0:Nat)) (Int.toNat (↑v17:Int))) < List.length (qi4 (List.length (nL m (0:Nat))) (Prod.snd (Prod.snd (Prod.snd v15))) (nL (qn3 m (Prod.snd (Prod.snd (Prod.snd v15)))) (0:Nat)) v17)/\fits .i64 ((↑v17:Int) + (1:Int))/\∃ (v20:Nat),Nat.le v20 (List.length (Prod.snd (Prod.snd (Prod.snd v15))))/\List.length (Prod.snd (Prod.snd (Prod.snd v15))) - v20 < List.length (Prod.snd (Prod.snd (Prod.snd v15))) - v17/\(some (0:Nat)=some (0:Nat)/\True/\some (0:Nat)=some (0:Nat)/\(↑v17:Int) + (1:Int)=(↑v20:Int)/\True)/\(m=m/\True)/\((↑(List.length (nL m (0:Nat))):Int)=(↑(List.length (nL m (0:Nat))):Int)/\True)/\(True/\True)/\(q36 m (List.length (nL m (0:Nat))) (Prod.fst (Prod.snd v15)) ++ qr2 m (List.length (nL m (0:Nat))) (qe8 (↑(List.length (nL m (0:Nat))):Int) (↑(Prod.fst (Prod.snd v15) + (1:Nat)):Int)) (Prod.fst (Prod.snd (Prod.snd v15)))=q36 m (List.length (nL m (0:Nat))) (Prod.fst (Prod.snd v15)) ++ qr2 m (List.length (nL m (0:Nat))) (qe8 (↑(List.length (nL m (0:Nat))):Int) (↑(Prod.fst (Prod.snd v15) + (1:Nat)):Int)) (Prod.fst (Prod.snd (Prod.snd v15)))/\True/\True)/\([Prod.snd (Prod.snd (Prod.snd v15))]=[Prod.snd (Prod.snd (Prod.snd v15))]/\True/\Prod.fst v15=Prod.fst v15)/\List.set (qi4 (List.length (nL m (0:Nat))) (Prod.snd (Prod.snd (Prod.snd v15))) (nL (qn3 m (Prod.snd (Prod.snd (Prod.snd v15)))) (0:Nat)) v17) (Int.toNat (qa1 (Ty.int .i64) (qa1 (Ty.list (Ty.int .i64)) [Prod.snd (Prod.snd (Prod.snd v15))] (0:Nat)) (Int.toNat (↑v17:Int)))) (qa1 (Ty.int .i64) (qa1 (Ty.list (Ty.int .i64)) (qn3 m (qa1 (Ty.list (Ty.int .i64)) [Prod.fst v10] (0:Nat))) (0:Nat)) (Int.toNat (↑v17:Int)))=qi4 (List.length (nL m (0:Nat))) (Prod.snd (Prod.snd (Prod.snd v15))) (nL (qn3 m (Prod.snd (Prod.snd (Prod.snd v15)))) (0:Nat)) v20/\True)/\(decide ((↑v17:Int) < (↑(List.length (qa1 (Ty.list (Ty.int .i64)) [Prod.fst v10] (0:Nat))):Int))=false->q5l (nL [qi4 (List.length (nL m (0:Nat))) (Prod.snd (Prod.snd (Prod.snd v15))) (nL (qn3 m (Prod.snd (Prod.snd (Prod.snd v15)))) (0:Nat)) v17] (0:Nat))/\((0:Nat) < (0:Nat) + (1:Nat)/\List.length (q36 m (List.length (nL m (0:Nat))) (Prod.fst (Prod.snd v15)) ++ qr2 m (List.length (nL m (0:Nat))) (qe8 (↑(List.length (nL m (0:Nat))):Int) (↑(Prod.fst (Prod.snd v15) + (1:Nat)):Int)) (Prod.fst (Prod.snd (Prod.snd v15)))) + ((0:Nat) + (1:Nat)) <= (1000000:Nat))/\[Prod.snd (Prod.snd (Prod.snd v15))]=[Prod.fst v10]/\Prod.fst v15=v12/\True/\∃ (v20:Nat),Nat.le v20 (List.length (qe8 (↑(List.length (nL m (0:Nat))):Int) (↑(v6 + (1:Nat)):Int)))/\v20=v8 + (1:Nat)/\(m=m/\True)/\((↑(List.length (nL m (0:Nat))):Int)=(↑(List.length (nL m (0:Nat))):Int)/\True)/\(True/\True)/\(q36 m (List.length (nL m (0:Nat))) (Prod.fst (Prod.snd v15)) ++ qr2 m (List.length (nL m (0:Nat))) (qe8 (↑(List.length (nL m (0:Nat))):Int) (↑(Prod.fst (Prod.snd v15) + (1:Nat)):Int)) (Prod.fst (Prod.snd (Prod.snd v15))) ++ [qa1 (Ty.list (Ty.int .i64)) [q6x (nL [qi4 (List.length (nL m (0:Nat))) (Prod.snd (Prod.snd (Prod.snd v15))) (nL (qn3 m (Prod.snd (Prod.snd (Prod.snd v15)))) (0:Nat)) v17] (0:Nat))] (0:Nat)]=q36 m (List.length (nL m (0:Nat))) v6 ++ qr2 m (List.length (nL m (0:Nat))) (qe8 (↑(List.length (nL m (0:Nat))):Int) (↑(v6 + (1:Nat)):Int)) v20/\True/\True)/\True))))/\(v8=List.length (List.map (fun (v11 : List Int) => (v11,())) (qe8 (↑(List.length (nL m (0:Nat))):Int) ((↑v3:Int) + (1:Int))))->fits .i64 ((↑v3:Int) + (1:Int))/\∃ (v11:Nat),Nat.le v11 (w38 m)/\w38 m - v11 < w38 m - v3/\((↑v3:Int) + (1:Int)=(↑v11:Int)/\True)/\(m=m/\True)/\((↑(List.length (nL m (0:Nat))):Int)=(↑(List.length (nL m (0:Nat))):Int)/\True)/\(True/\True)/\(q36 m (List.length (nL m (0:Nat))) v6 ++ qr2 m (List.length (nL m (0:Nat))) (qe8 (↑(List.length (nL m (0:Nat))):Int) (↑(v6 + (1:Nat)):Int)) v8=q36 m (List.length (nL m (0:Nat))) v11/\True/\True)/\True))/\(decide ((↑v3:Int) < max2 false (Prod.fst (qu7 m) + (1:Int)) (↑(List.length (qa1 (Ty.list (Ty.int .i64)) m (0:Nat))):Int))=false->q20 (Ty.int .i64) (q36 m (List.length (nL m (0:Nat))) v3) none=Prod.fst (q56 m)/\(0:Int)=Prod.snd (q56 m)/\True))) (by kernel_rfl) ?_
  try simp only [z0,z1,z2,z3,z4,z5,z6,z7,z8,z9,z10,Int.reduceEq,z11,z12,z13,z14,z15,z16,z17,z18,z19,z20,z21,z22,z23,z24,z25,z26,z27,z28,z29,z30,Int.reduceLE,Int.reduceLT,z31,z32,z33,z34,qa3]
  try simp only [qb4, qb5, qc9, List.set_cons_zero, List.cons.injEq, and_true, true_and]
  refine ⟨fun hv => (h hv).rank, fun he => ?_, fun he => ?_⟩
  · have hv : qe6 m = false := by
      cases e : qe6 m with
      | false => rfl
      | true => exact absurd (by simp [qu7, e]) he
    simp [qu7, q56, hv]
  have hv : qe6 m = true := by
    cases e : qe6 m with
    | true => rfl
    | false => simp [qu7, e] at he
  have hO := h hv
  have hM := Mk.of hv
  have hm1 := hM.rows1
  have hn1 := hM.pix1
  have hn10 := hM.pix10
  have hrank : (qb3 m (q1v (nL m 0).length)).2.length <= 10 := by
    have := (q0s hO.rank.red (nL m 0).length).pivj
    unfold qb3
    rw [qr0]
    exact Nat.le_trans this hn10
  have hr : qu7 m = (((qb3 m (q1v (nL m 0).length)).2.length : Int), 0) := by simp [qu7, hv]
  have hcN : w38 m = min ((qb3 m (q1v (nL m 0).length)).2.length + 1) (nL m 0).length := rfl
  have hcR : q56 m = (q36 m (nL m 0).length (w38 m), 0) := by simp [q56, hv]
  rw [hr, hcR]
  generalize (qb3 m (q1v (nL m 0).length)).2.length = r at *
  have hker := hO.ker
  generalize hnn : (nL m 0).length = n at *
  dsimp only
  refine ⟨by omega, qa8 (by omega) (by omega), (), 0, Nat.zero_le _, ⟨rfl, rfl⟩, fun k hk => ⟨fun hlt => ?_, fun hge => ?_⟩⟩
  · have hlt : (k : Int) < min ((r : Int) + 1) n := hlt
    have hkn : k < n := by omega
    have hca : ((k : Int) + 1) = ((k + 1 : Nat) : Int) := by omega
    have hkl := ws0 m n hn10 k (by omega)
    have hsl := wd5 n (k + 1) hn10 (by omega)
    rw [hca]
    have hb1 : (0 : Int) <= ((k + 1 : Nat) : Int) /\ ((k + 1 : Nat) : Int) <= 1000 := by omega
    refine ⟨qa8 (by omega) (by omega), ⟨hb1, by omega⟩, k, 0, Nat.zero_le _, rfl, by simp [qr2], fun c hc => ⟨?_, fun hce => ?_⟩⟩
    · rintro ⟨set, ⟨⟩⟩ hset T
      dsimp only
      have hs : (qe8 n (k + 1 : Nat))[c]? = some set := by
        rw [List.getElem?_map] at hset
        obtain ⟨x, hx, hx2⟩ := Option.map_eq_some_iff.1 hset
        injection hx2 with hx2
        rw [<- hx2]; exact hx
      have hcl : c < (qe8 n (k + 1 : Nat)).length := (List.getElem?_eq_some_iff.1 hs).1
      have hnl : nL (qe8 n (k + 1 : Nat)) c = set := by rw [qj9 _ c hcl]; exact (List.getElem?_eq_some_iff.1 hs).2
      have hK : wz5 m set := hker k hkn set (List.mem_of_getElem? hs)
      have hctl := q57 m n (qe8 n (k + 1 : Nat)) c
      refine ⟨hK, fun h1 => ⟨c + 1, hcl, rfl, ?_⟩, fun h1 => ⟨by omega, ?_, fun h2 => ⟨c + 1, hcl, rfl, ?_⟩, fun h2 => ⟨by omega, (T, k, c, set), 0, Nat.zero_le _, ⟨rfl, rfl, ⟨rfl, rfl⟩, rfl⟩, fun j hj => ⟨fun hjl => ?_, fun hjl => ?_⟩⟩⟩⟩
      · rw [qr2, hnl, if_neg]
        intro q
        unfold w37 at q
        rw [Bool.and_eq_true, decide_eq_true_eq] at q
        exact h1 (by omega)
      · have h0 := q59 hK (nL (qn3 m set) 0) (qu9 _ 0 (by omega))
        omega
      · rw [qr2, hnl, if_neg]
        intro q
        unfold w37 at q
        rw [Bool.and_eq_true, h2] at q
        cases q.2
      · dsimp only at hj ⊢
        have hat := hK.cho.at_ 0 (by omega) j hjl
        rw [hnn] at hat
        have hkm := q59 hK (nL (qn3 m set) 0) (qu9 _ 0 (by omega))
        have hsp := qz7 n set (nL (qn3 m set) 0) j
        have hat' : 0 <= nI set j /\ nI set j < ((qi4 n set (nL (qn3 m set) 0) j).length : Int) := ⟨hat.1, by omega⟩
        exact ⟨hjl, hjl, by omega, by omega, hat', by omega, qa8 (by omega) (by omega), j + 1, hjl, by omega, by omega, rfl⟩
      · dsimp only at hj ⊢
        obtain rfl : j = set.length := by omega
        have hkm := q59 hK (nL (qn3 m set) 0) (qu9 _ 0 (by omega))
        refine ⟨q3w hkm.2.2 (by omega) hkm.1 _ (Nat.le_refl _), by rw [List.length_append]; omega, rfl, rfl, c + 1, hcl, rfl, ?_⟩
        have hg : w37 (qn3 m set) = true := by
          unfold w37
          rw [h2, Bool.and_eq_true, decide_eq_true_eq]
          exact ⟨by omega, rfl⟩
        rw [qr2, hnl, if_pos hg, List.append_assoc]
        rfl
    · rw [List.length_map] at hce
      subst hce
      exact ⟨qa8 (by omega) (by omega), k + 1, by omega, by omega, rfl, rfl⟩
  · have hge : min ((r : Int) + 1) n <= k := hge
    obtain rfl : k = w38 m := by omega
    exact ⟨rfl, rfl⟩
end Go.Proofs.Ytdibdlelmkcccaa
