/- Circuits: contract by the engine. No condition. -/
import Derived.Test.YtdibdlelmkcccaaV18
set_option linter.unusedVariables false
set_option linter.unusedSimpArgs false
namespace Go.Proofs.Ytdibdlelmkcccaa
open Go Go.RowKit Eng
def qd7 (n : Nat) (set v : List Int) : Nat → List Int
  | 0 => List.replicate n 0
  | j + 1 => (qd7 n set v j).set (nI set j).toNat (nI v j)
def q36 (l : List (List Int)) : Bool := decide (l.length = 1) && !((nL l 0).any fun e => (0 : Int) == e)
def cirV (m : List (List Int)) (n : Nat) (set : List Int) : List Int := qs6 (qd7 n set (nL (qf2 m set) 0) set.length)
def qg9 (m : List (List Int)) (n : Nat) (L : List (List Int)) : Nat → List (List Int)
  | 0 => []
  | c + 1 => if q36 (qf2 m (nL L c)) then qg9 m n L c ++ [cirV m n (nL L c)] else qg9 m n L c
def cirK (m : List (List Int)) (n : Nat) : Nat → List (List Int)
  | 0 => []
  | k + 1 => cirK m n k ++ qg9 m n (qb9 n (k + 1 : Nat)) (qb9 n (k + 1 : Nat)).length
def cirN (m : List (List Int)) : Nat := min ((qa3 m (idxL (nL m 0).length)).2.length + 1) (nL m 0).length
def cirR (m : List (List Int)) : List (List Int) × Int := if qb5 m = false then ([], 1) else (cirK m (nL m 0).length (cirN m), 0)
structure q0m (m : List (List Int)) : Prop where
  rank : qy4 m
  ker : ∀ k, k < (nL m 0).length → ∀ set ∈ qb9 (nL m 0).length (k + 1 : Nat), q2e m set
abbrev sCir : FSpec := tspec true none [qd2] [qd2, tInt] (fun x => qb5 x.1 = true → q0m x.1) (fun x => ((cirR x.1).1, (cirR x.1).2, ()))
def ivCir (m : List (List Int)) (n : Nat) : Nat → Option Inv
  | 0 => some (Inv.of [30] 4 (fun k : Nat => [(30, .lit (.int .i64 k))]) (fun k => [.box 23 (.cons (.dat (.list (.int .i64)) m) .nil), .box 3 (.cons (.lit (.int .i64 n)) .nil), .box 22 (.cons (.msl 3 .none) .nil), .mat 24 3 (.int .i64) (cirK m n k) .none .none]) (fun k => k ≤ cirN m) (fun k => cirN m - k))
  | 1 => some (Eng.Inv.mk Nat Nat [] 4 (fun _ _ => []) (fun k c => [.box 23 (.cons (.dat (.list (.int .i64)) m) .nil), .box 3 (.cons (.lit (.int .i64 n)) .nil), .box 22 (.cons (.msl 3 .none) .nil), .mat 24 3 (.int .i64) (cirK m n k ++ qg9 m n (qb9 n (k + 1 : Nat)) c) .none .none]) (fun k c => c ≤ (qb9 n (k + 1 : Nat)).length) (fun k c => c))
  | 2 => some (Eng.Inv.mk (Lent × Nat × Nat × List Int) Nat [9, 11, 52, 54] 6 (fun q j => [(9, .msl 4 (some 0)), (11, .own 5), (52, .msl 4 (some 0)), (54, .lit (.int .i64 j))]) (fun q j => [.box 23 (.cons (.dat (.list (.int .i64)) m) .nil), .box 3 (.cons (.lit (.int .i64 n)) .nil), .box 22 (.cons (.msl 3 .none) .nil), .mat 24 3 (.int .i64) (cirK m n q.2.1 ++ qg9 m n (qb9 n (q.2.1 + 1 : Nat)) q.2.2.1) .none .none, .mat 3 3 (.int .i64) [q.2.2.2] (some []) (some q.1), .vec 3 (.int .i64) (qd7 n q.2.2.2 (nL (qf2 m q.2.2.2) 0) j)]) (fun q j => j ≤ q.2.2.2.length) (fun q j => q.2.2.2.length - j))
  | _ => none
def ctxLI (mats em : List Nat) (specs : List (Nat × FSpec)) (muts : List (Nat × MSpec)) (its : List (Nat × ISpec)) : Ctx := { specs := specs, tys := tys, wr := [], muts := muts, mats := mats, em := em, its := its }
theorem sndLI (mats em : List Nat) {specs : List (Nat × FSpec)} {muts : List (Nat × MSpec)} {its : List (Nat × ISpec)} (h : SpecsOk Try.prog specs) (hm : MutsOk muts) (hi : ItsOk its) : Sound Try.prog (ctxLI mats em specs muts its) := SpecsOk.sound h tys_ok (by kernel_rfl) hi (hmu := hm)
theorem qr0 (m : List (List Int)) (n : Nat) (L : List (List Int)) : ∀ c, (qg9 m n L c).length ≤ c
  | 0 => Nat.le_refl _
  | c + 1 => by
    have := qr0 m n L c
    rw [qg9]
    split
    · simp; omega
    · omega
theorem q0o : ((List.range 11).all fun n => (List.range 12).all fun k => decide ((qb9 (n : Nat) (k : Nat)).length ≤ 1000)) = true := by decide +kernel
theorem qy6 (n k : Nat) (hn : n ≤ 10) (hk : k ≤ 11) : (qb9 (n : Nat) (k : Nat)).length ≤ 1000 :=
  of_decide_eq_true (List.all_eq_true.1 (List.all_eq_true.1 q0o n (List.mem_range.2 (by omega))) k (List.mem_range.2 (by omega)))
theorem q1b (m : List (List Int)) (n : Nat) (hn : n ≤ 10) : ∀ k, k ≤ 11 → (cirK m n k).length ≤ 1000 * k
  | 0, _ => Nat.le_refl _
  | k + 1, hk => by
    have h1 := q1b m n hn k (by omega)
    have h2 := qy6 n (k + 1) hn hk
    have h3 := qr0 m n (qb9 (n : Nat) (k + 1 : Nat)) (qb9 (n : Nat) (k + 1 : Nat)).length
    rw [cirK, List.length_append]
    omega
theorem qr1 {R : List (List Int)} {P : List Int} {n : Nat} (h : q5h R P n) (hn : n ≤ 1000) : ∀ f, f ≤ n → ∀ x ∈ qf6 R P n f, x.length = n ∧ bigL x
  | 0, _, x, hx => by cases hx
  | f + 1, hf, x, hx => by
    rw [qf6] at hx
    split at hx
    · exact qr1 h hn f (by omega) x hx
    · rename_i hfree
      rcases List.mem_append.1 hx with hx | hx
      · exact qr1 h hn f (by omega) x hx
      · obtain rfl := List.mem_singleton.1 hx
        have hb : bigL (hTo R P n f P.length) := ⟨by rw [qq6]; exact hn, q0h h (by omega) (Bool.eq_false_iff.2 hfree) _ (Nat.le_refl _)⟩
        exact ⟨by rw [qt0, qq6], qt6 hb⟩
theorem qr2 {m : List (List Int)} {set : List Int} (h : q2e m set) (x : List Int) (hx : x ∈ qf2 m set) : x.length = set.length ∧ set.length ≤ 1000 ∧ bigL x := by
  have hw := h.red.w
  have := qr1 h.ar hw _ (Nat.le_refl _) x hx
  exact ⟨this.1, hw, this.2⟩
theorem qj5 (n : Nat) (set v : List Int) : ∀ j, (qd7 n set v j).length = n
  | 0 => by simp [qd7]
  | j + 1 => by rw [qd7, List.length_set]; exact qj5 n set v j
theorem qn9 {n : Nat} {set v : List Int} (hv : bigL v) (hn : n ≤ 1000) (hl : v.length = set.length) : ∀ j, j ≤ set.length → bigL (qd7 n set v j)
  | 0, _ => ⟨by simp [qd7]; omega, fun x hx => by
    obtain rfl := (List.mem_replicate.1 hx).2
    unfold BIG; omega⟩
  | j + 1, hj => by
    have h1 := qn9 hv hn hl j (by omega)
    refine ⟨by rw [qj5]; exact hn, fun x hx => ?_⟩
    rw [qd7] at hx
    rcases List.mem_or_eq_of_mem_set hx with hx | rfl
    · exact h1.2 x hx
    · exact qk9 hv (by omega)
theorem q38 : Meets Try.prog 96 sCir := by
  refine meets (sndLI [72] [] (SpecsOk.cons q2f (SpecsOk.cons qt5 (SpecsOk.cons q3r (SpecsOk.cons qy2 (SpecsOk.nil _))))) (MutsOk.cons q2d MutsOk.nil) (ItsOk.cons qt4 ItsOk.nil)) Try.func96 rfl rfl (fun x => ivCir x.1 (nL x.1 0).length) (fun _ => by kernel_rfl) (by decide) ?_
  rintro ⟨m, ⟨⟩⟩ h
  revert m
  intro (m : List (List Int)) (h : qb5 m = true → q0m m)
  refine by_vc (B := (qb5 m = true->qy4 m)/\((Prod.snd (qi3 m) != (0 : Int)) = true->Prod.fst (cirR m) = []/\Prod.snd (qi3 m) = Prod.snd (cirR m)/\True)/\((Prod.snd (qi3 m) != (0 : Int)) = false->((0 : Int) <= (0 : Int)/\(0 : Int) < (↑(List.length m) : Int))/\fits .i64 (Prod.fst (qi3 m) + (1 : Int))/\∃ (v1 : Unit), ∃ (v2 : Nat), Nat.le v2 (cirN m)/\(((0 : Int) = (↑v2 : Int)/\True)/\(m = m/\True)/\((↑(List.length (nthD (Ty.list (Ty.int .i64)) m (0 : Nat))) : Int) = (↑(List.length (nL m (0 : Nat))) : Int)/\True)/\(True/\True)/\cirK m (List.length (nL m (0 : Nat))) v2 = []/\True)/\∀ (v3 : Nat), Nat.le v3 (cirN m)->(decide ((↑v3 : Int) < max2 false (Prod.fst (qi3 m) + (1 : Int)) (↑(List.length (nthD (Ty.list (Ty.int .i64)) m (0 : Nat))) : Int)) = true->fits .i64 ((↑v3 : Int) + (1 : Int))/\True/\(((0 : Ty.den tInt) <= (↑v3 : Int) + (1 : Int)/\(↑v3 : Int) + (1 : Int) <= (1000 : Ty.den tInt))/\(0 : Ty.den tInt) <= (↑(List.length (nL m (0 : Nat))) : Int)/\(↑(List.length (nL m (0 : Nat))) : Int) <= (1000 : Ty.den tInt))/\∃ (v6 : Nat), ∃ (v7 : Nat), Nat.le v7 (List.length (qb9 (↑(List.length (nL m (0 : Nat))) : Int) (↑(v6 + (1 : Nat)) : Int)))/\v7 = (0 : Nat)/\((m = m/\True)/\((↑(List.length (nL m (0 : Nat))) : Int) = (↑(List.length (nL m (0 : Nat))) : Int)/\True)/\(True/\True)/\(cirK m (List.length (nL m (0 : Nat))) v3 = cirK m (List.length (nL m (0 : Nat))) v6 ++ qg9 m (List.length (nL m (0 : Nat))) (qb9 (↑(List.length (nL m (0 : Nat))) : Int) (↑(v6 + (1 : Nat)) : Int)) v7/\True/\True)/\True)/\∀ (v8 : Nat), Nat.le v8 (List.length (qb9 (↑(List.length (nL m (0 : Nat))) : Int) (↑(v6 + (1 : Nat)) : Int)))->(∀ (v10 : List Int × argsTy._f [] PUnit.unit), (List.map (fun (v12 : List Int) => (v12, ())) (qb9 (↑(List.length (nL m (0 : Nat))) : Int) ((↑v3 : Int) + (1 : Int))))[v8]? = some v10->∀ (v12 : Lent), q2e m (nthD (Ty.list (Ty.int .i64)) [Prod.fst v10] (0 : Nat))/\(((↑(List.length (qf2 m (nthD (Ty.list (Ty.int .i64)) [Prod.fst v10] (0 : Nat)))) : Int) != (1 : Int)) = true->[Prod.fst v10] = [Prod.fst v10]/\v12 = v12/\True/\∃ (v14 : Nat), Nat.le v14 (List.length (qb9 (↑(List.length (nL m (0 : Nat))) : Int) (↑(v6 + (1 : Nat)) : Int)))/\v14 = v8 + (1 : Nat)/\(m = m/\True)/\((↑(List.length (nL m (0 : Nat))) : Int) = (↑(List.length (nL m (0 : Nat))) : Int)/\True)/\(True/\True)/\(cirK m (List.length (nL m (0 : Nat))) v6 ++ qg9 m (List.length (nL m (0 : Nat))) (qb9 (↑(List.length (nL m (0 : Nat))) : Int) (↑(v6 + (1 : Nat)) : Int)) v8 = cirK m (List.length (nL m (0 : Nat))) v6 ++ qg9 m (List.length (nL m (0 : Nat))) (qb9 (↑(List.length (nL m (0 : Nat))) : Int) (↑(v6 + (1 : Nat)) : Int)) v14/\True/\True)/\True)/\(((↑(List.length (qf2 m (nthD (Ty.list (Ty.int .i64)) [Prod.fst v10] (0 : Nat)))) : Int) != (1 : Int)) = false->((0 : Int) <= (0 : Int)/\(0 : Int) < (↑(List.length (qf2 m (nthD (Ty.list (Ty.int .i64)) [Prod.fst v10] (0 : Nat)))) : Int))/\List.length (nthD (Ty.list (Ty.int .i64)) (qf2 m (nthD (Ty.list (Ty.int .i64)) [Prod.fst v10] (0 : Nat))) (0 : Nat)) <= (1000000 : Nat)/\((List.any (nthD (Ty.list (Ty.int .i64)) (qf2 m (nthD (Ty.list (Ty.int .i64)) [Prod.fst v10] (0 : Nat))) (0 : Nat)) fun (v15 : Int) => (0 : Int) == v15) = true->[Prod.fst v10] = [Prod.fst v10]/\v12 = v12/\True/\∃ (v15 : Nat), Nat.le v15 (List.length (qb9 (↑(List.length (nL m (0 : Nat))) : Int) (↑(v6 + (1 : Nat)) : Int)))/\v15 = v8 + (1 : Nat)/\(m = m/\True)/\((↑(List.length (nL m (0 : Nat))) : Int) = (↑(List.length (nL m (0 : Nat))) : Int)/\True)/\(True/\True)/\(cirK m (List.length (nL m (0 : Nat))) v6 ++ qg9 m (List.length (nL m (0 : Nat))) (qb9 (↑(List.length (nL m (0 : Nat))) : Int) (↑(v6 + (1 : Nat)) : Int)) v8 = cirK m (List.length (nL m (0 : Nat))) v6 ++ qg9 m (List.length (nL m (0 : Nat))) (qb9 (↑(List.length (nL m (0 : Nat))) : Int) (↑(v6 + (1 : Nat)) : Int)) v15/\True/\True)/\True)/\((List.any (nthD (Ty.list (Ty.int .i64)) (qf2 m (nthD (Ty.list (Ty.int .i64)) [Prod.fst v10] (0 : Nat))) (0 : Nat)) fun (v15 : Int) => (0 : Int) == v15) = false->((↑(List.length (nL m (0 : Nat))) : Int) = (↑(List.length (nL m (0 : Nat))) : Int)/\(0 : Int) <= (↑(List.length (nL m (0 : Nat))) : Int)/\(↑(List.length (nL m (0 : Nat))) : Int) <= (1000000 : Int))/\∃ (v15 : Lent × Nat × Nat × List Int), ∃ (v16 : Nat), Nat.le v16 (List.length (Prod.snd (Prod.snd (Prod.snd v15))))/\((some (0 : Nat) = some (0 : Nat)/\True/\some (0 : Nat) = some (0 : Nat)/\(0 : Int) = (↑v16 : Int)/\True)/\(m = m/\True)/\((↑(List.length (nL m (0 : Nat))) : Int) = (↑(List.length (nL m (0 : Nat))) : Int)/\True)/\(True/\True)/\(cirK m (List.length (nL m (0 : Nat))) v6 ++ qg9 m (List.length (nL m (0 : Nat))) (qb9 (↑(List.length (nL m (0 : Nat))) : Int) (↑(v6 + (1 : Nat)) : Int)) v8 = cirK m (List.length (nL m (0 : Nat))) (Prod.fst (Prod.snd v15)) ++ qg9 m (List.length (nL m (0 : Nat))) (qb9 (↑(List.length (nL m (0 : Nat))) : Int) (↑(Prod.fst (Prod.snd v15) + (1 : Nat)) : Int)) (Prod.fst (Prod.snd (Prod.snd v15)))/\True/\True)/\([Prod.fst v10] = [Prod.snd (Prod.snd (Prod.snd v15))]/\True/\v12 = Prod.fst v15)/\List.replicate (Int.toNat (↑(List.length (nL m (0 : Nat))) : Int)) (Ty.dflt (TI.ty T3)) = qd7 (List.length (nL m (0 : Nat))) (Prod.snd (Prod.snd (Prod.snd v15))) (nL (qf2 m (Prod.snd (Prod.snd (Prod.snd v15)))) (0 : Nat)) v16/\True)/\∀ (v17 : Nat), Nat.le v17 (List.length (Prod.snd (Prod.snd (Prod.snd v15))))->(decide ((↑v17 : Int) < (↑(List.length (nthD (Ty.list (Ty.int .i64)) [Prod.fst v10] (0 : Nat))) : Int)) = true->((0 : Int) <= (↑v17 : Int)/\(↑v17 : Int) < (↑(List.length (nthD (Ty.list (Ty.int .i64)) [Prod.snd (Prod.snd (Prod.snd v15))] (0 : Nat))) : Int))/\Int.toNat (↑v17 : Int) < List.length (nthD (Ty.list (Ty.int .i64)) [Prod.snd (Prod.snd (Prod.snd v15))] (0 : Nat))/\((0 : Int) <= (0 : Int)/\(0 : Int) < (↑(List.length (qf2 m (nthD (Ty.list (Ty.int .i64)) [Prod.fst v10] (0 : Nat)))) : Int))/\((0 : Int) <= (↑v17 : Int)/\(↑v17 : Int) < (↑(List.length (nthD (Ty.list (Ty.int .i64)) (qf2 m (nthD (Ty.list (Ty.int .i64)) [Prod.fst v10] (0 : Nat))) (0 : Nat))) : Int))/\((0 : Int) <= nthD (Ty.int .i64) (nthD (Ty.list (Ty.int .i64)) [Prod.snd (Prod.snd (Prod.snd v15))] (0 : Nat)) (Int.toNat (↑v17 : Int))/\nthD (Ty.int .i64) (nthD (Ty.list (Ty.int .i64)) [Prod.snd (Prod.snd (Prod.snd v15))] (0 : Nat)) (Int.toNat (↑v17 : Int)) < (↑(List.length (qd7 (List.length (nL m (0 : Nat))) (Prod.snd (Prod.snd (Prod.snd v15))) (nL (qf2 m (Prod.snd (Prod.snd (Prod.snd v15)))) (0 : Nat)) v17)) : Int))/\Int.toNat (nthD (Ty.int .i64) (nthD (Ty.list (Ty.int .i64)) [Prod.snd (Prod.snd (Prod.snd v15))] (0 : Nat)) (Int.toNat (↑v17 : Int))) < List.length (qd7 (List.length (nL m (0 : Nat))) (Prod.snd (Prod.snd (Prod.snd v15))) (nL (qf2 m (Prod.snd (Prod.snd (Prod.snd v15)))) (0 : Nat)) v17)/\fits .i64 ((↑v17 : Int) + (1 : Int))/\∃ (v20 : Nat), Nat.le v20 (List.length (Prod.snd (Prod.snd (Prod.snd v15))))/\List.length (Prod.snd (Prod.snd (Prod.snd v15))) - v20 < List.length (Prod.snd (Prod.snd (Prod.snd v15))) - v17/\(some (0 : Nat) = some (0 : Nat)/\True/\some (0 : Nat) = some (0 : Nat)/\(↑v17 : Int) + (1 : Int) = (↑v20 : Int)/\True)/\(m = m/\True)/\((↑(List.length (nL m (0 : Nat))) : Int) = (↑(List.length (nL m (0 : Nat))) : Int)/\True)/\(True/\True)/\(cirK m (List.length (nL m (0 : Nat))) (Prod.fst (Prod.snd v15)) ++ qg9 m (List.length (nL m (0 : Nat))) (qb9 (↑(List.length (nL m (0 : Nat))) : Int) (↑(Prod.fst (Prod.snd v15) + (1 : Nat)) : Int)) (Prod.fst (Prod.snd (Prod.snd v15))) = cirK m (List.length (nL m (0 : Nat))) (Prod.fst (Prod.snd v15)) ++ qg9 m (List.length (nL m (0 : Nat))) (qb9 (↑(List.length (nL m (0 : Nat))) : Int) (↑(Prod.fst (Prod.snd v15) + (1 : Nat)) : Int)) (Prod.fst (Prod.snd (Prod.snd v15)))/\True/\True)/\([Prod.snd (Prod.snd (Prod.snd v15))] = [Prod.snd (Prod.snd (Prod.snd v15))]/\True/\Prod.fst v15 = Prod.fst v15)/\List.set (qd7 (List.length (nL m (0 : Nat))) (Prod.snd (Prod.snd (Prod.snd v15))) (nL (qf2 m (Prod.snd (Prod.snd (Prod.snd v15)))) (0 : Nat)) v17) (Int.toNat (nthD (Ty.int .i64) (nthD (Ty.list (Ty.int .i64)) [Prod.snd (Prod.snd (Prod.snd v15))] (0 : Nat)) (Int.toNat (↑v17 : Int)))) (nthD (Ty.int .i64) (nthD (Ty.list (Ty.int .i64)) (qf2 m (nthD (Ty.list (Ty.int .i64)) [Prod.fst v10] (0 : Nat))) (0 : Nat)) (Int.toNat (↑v17 : Int))) = qd7 (List.length (nL m (0 : Nat))) (Prod.snd (Prod.snd (Prod.snd v15))) (nL (qf2 m (Prod.snd (Prod.snd (Prod.snd v15)))) (0 : Nat)) v20/\True)/\(decide ((↑v17 : Int) < (↑(List.length (nthD (Ty.list (Ty.int .i64)) [Prod.fst v10] (0 : Nat))) : Int)) = false->bigL (nL [qd7 (List.length (nL m (0 : Nat))) (Prod.snd (Prod.snd (Prod.snd v15))) (nL (qf2 m (Prod.snd (Prod.snd (Prod.snd v15)))) (0 : Nat)) v17] (0 : Nat))/\((0 : Nat) < (0 : Nat) + (1 : Nat)/\List.length (cirK m (List.length (nL m (0 : Nat))) (Prod.fst (Prod.snd v15)) ++ qg9 m (List.length (nL m (0 : Nat))) (qb9 (↑(List.length (nL m (0 : Nat))) : Int) (↑(Prod.fst (Prod.snd v15) + (1 : Nat)) : Int)) (Prod.fst (Prod.snd (Prod.snd v15)))) + ((0 : Nat) + (1 : Nat)) <= (1000000 : Nat))/\[Prod.snd (Prod.snd (Prod.snd v15))] = [Prod.fst v10]/\Prod.fst v15 = v12/\True/\∃ (v20 : Nat), Nat.le v20 (List.length (qb9 (↑(List.length (nL m (0 : Nat))) : Int) (↑(v6 + (1 : Nat)) : Int)))/\v20 = v8 + (1 : Nat)/\(m = m/\True)/\((↑(List.length (nL m (0 : Nat))) : Int) = (↑(List.length (nL m (0 : Nat))) : Int)/\True)/\(True/\True)/\(cirK m (List.length (nL m (0 : Nat))) (Prod.fst (Prod.snd v15)) ++ qg9 m (List.length (nL m (0 : Nat))) (qb9 (↑(List.length (nL m (0 : Nat))) : Int) (↑(Prod.fst (Prod.snd v15) + (1 : Nat)) : Int)) (Prod.fst (Prod.snd (Prod.snd v15))) ++ [nthD (Ty.list (Ty.int .i64)) [qs6 (nL [qd7 (List.length (nL m (0 : Nat))) (Prod.snd (Prod.snd (Prod.snd v15))) (nL (qf2 m (Prod.snd (Prod.snd (Prod.snd v15)))) (0 : Nat)) v17] (0 : Nat))] (0 : Nat)] = cirK m (List.length (nL m (0 : Nat))) v6 ++ qg9 m (List.length (nL m (0 : Nat))) (qb9 (↑(List.length (nL m (0 : Nat))) : Int) (↑(v6 + (1 : Nat)) : Int)) v20/\True/\True)/\True))))/\(v8 = List.length (List.map (fun (v11 : List Int) => (v11, ())) (qb9 (↑(List.length (nL m (0 : Nat))) : Int) ((↑v3 : Int) + (1 : Int))))->fits .i64 ((↑v3 : Int) + (1 : Int))/\∃ (v11 : Nat), Nat.le v11 (cirN m)/\cirN m - v11 < cirN m - v3/\((↑v3 : Int) + (1 : Int) = (↑v11 : Int)/\True)/\(m = m/\True)/\((↑(List.length (nL m (0 : Nat))) : Int) = (↑(List.length (nL m (0 : Nat))) : Int)/\True)/\(True/\True)/\(cirK m (List.length (nL m (0 : Nat))) v6 ++ qg9 m (List.length (nL m (0 : Nat))) (qb9 (↑(List.length (nL m (0 : Nat))) : Int) (↑(v6 + (1 : Nat)) : Int)) v8 = cirK m (List.length (nL m (0 : Nat))) v11/\True/\True)/\True))/\(decide ((↑v3 : Int) < max2 false (Prod.fst (qi3 m) + (1 : Int)) (↑(List.length (nthD (Ty.list (Ty.int .i64)) m (0 : Nat))) : Int)) = false->matL (Ty.int .i64) (cirK m (List.length (nL m (0 : Nat))) v3) none = Prod.fst (cirR m)/\(0 : Int) = Prod.snd (cirR m)/\True))) (by kernel_rfl) ?_
  try simp only [z0,z1,z2,z3,z4,z5,z6,z7,z8,z9,z10,Int.reduceEq,z11,z12,z13,z14,z15,z16,z17,z18,z19,z20,z21,z22,z23,z24,z25,z26,z27,z28,z29,z30,Int.reduceLE,Int.reduceLT,z31,z32,z33,z34,nilEq_true]
  try simp only [qa4, qa5, qa8, List.set_cons_zero, List.cons.injEq, and_true, true_and]
  refine ⟨fun hv => (h hv).rank, fun he => ?_, fun he => ?_⟩
  · have hv : qb5 m = false := by
      cases e : qb5 m with
      | false => rfl
      | true => exact absurd (by simp [qi3, e]) he
    simp [qi3, cirR, hv]
  have hv : qb5 m = true := by
    cases e : qb5 m with
    | true => rfl
    | false => simp [qi3, e] at he
  have hO := h hv
  have hM := Mk.of hv
  have hm1 := hM.rows1
  have hn1 := hM.pix1
  have hn10 := hM.pix10
  have hrank : (qa3 m (idxL (nL m 0).length)).2.length ≤ 10 := by
    have := (qk3 hO.rank.red (nL m 0).length).pivj
    unfold qa3
    rw [qg7]
    exact Nat.le_trans this hn10
  have hr : qi3 m = (((qa3 m (idxL (nL m 0).length)).2.length : Int), 0) := by simp [qi3, hv]
  have hcN : cirN m = min ((qa3 m (idxL (nL m 0).length)).2.length + 1) (nL m 0).length := rfl
  have hcR : cirR m = (cirK m (nL m 0).length (cirN m), 0) := by simp [cirR, hv]
  rw [hr, hcR]
  generalize (qa3 m (idxL (nL m 0).length)).2.length = r at *
  have hker := hO.ker
  generalize hnn : (nL m 0).length = n at *
  dsimp only
  refine ⟨by omega, fits64 (by omega) (by omega), (), 0, Nat.zero_le _, ⟨rfl, rfl⟩, fun k hk => ⟨fun hlt => ?_, fun hge => ?_⟩⟩
  · have hlt : (k : Int) < min ((r : Int) + 1) n := hlt
    have hkn : k < n := by omega
    have hca : ((k : Int) + 1) = ((k + 1 : Nat) : Int) := by omega
    have hkl := q1b m n hn10 k (by omega)
    have hsl := qy6 n (k + 1) hn10 (by omega)
    rw [hca]
    have hb1 : (0 : Int) ≤ ((k + 1 : Nat) : Int) ∧ ((k + 1 : Nat) : Int) ≤ 1000 := by omega
    refine ⟨fits64 (by omega) (by omega), ⟨hb1, by omega⟩, k, 0, Nat.zero_le _, rfl, by simp [qg9], fun c hc => ⟨?_, fun hce => ?_⟩⟩
    · rintro ⟨set, ⟨⟩⟩ hset T
      dsimp only
      have hs : (qb9 n (k + 1 : Nat))[c]? = some set := by
        rw [List.getElem?_map] at hset
        obtain ⟨x, hx, hx2⟩ := Option.map_eq_some_iff.1 hset
        injection hx2 with hx2
        rw [← hx2]; exact hx
      have hcl : c < (qb9 n (k + 1 : Nat)).length := (List.getElem?_eq_some_iff.1 hs).1
      have hnl : nL (qb9 n (k + 1 : Nat)) c = set := by rw [qe3 _ c hcl]; exact (List.getElem?_eq_some_iff.1 hs).2
      have hK : q2e m set := hker k hkn set (List.mem_of_getElem? hs)
      have hctl := qr0 m n (qb9 n (k + 1 : Nat)) c
      refine ⟨hK, fun h1 => ⟨c + 1, hcl, rfl, ?_⟩, fun h1 => ⟨by omega, ?_, fun h2 => ⟨c + 1, hcl, rfl, ?_⟩, fun h2 => ⟨by omega, (T, k, c, set), 0, Nat.zero_le _, ⟨rfl, rfl, ⟨rfl, rfl⟩, rfl⟩, fun j hj => ⟨fun hjl => ?_, fun hjl => ?_⟩⟩⟩⟩
      · rw [qg9, hnl, if_neg]
        intro q
        unfold q36 at q
        rw [Bool.and_eq_true, decide_eq_true_eq] at q
        exact h1 (by omega)
      · have h0 := qr2 hK (nL (qf2 m set) 0) (qh7 _ 0 (by omega))
        omega
      · rw [qg9, hnl, if_neg]
        intro q
        unfold q36 at q
        rw [Bool.and_eq_true, h2] at q
        cases q.2
      · dsimp only at hj ⊢
        have hat := hK.cho.at_ 0 (by omega) j hjl
        rw [hnn] at hat
        have hkm := qr2 hK (nL (qf2 m set) 0) (qh7 _ 0 (by omega))
        have hsp := qj5 n set (nL (qf2 m set) 0) j
        have hat' : 0 ≤ nI set j ∧ nI set j < ((qd7 n set (nL (qf2 m set) 0) j).length : Int) := ⟨hat.1, by omega⟩
        exact ⟨hjl, hjl, by omega, by omega, hat', by omega, fits64 (by omega) (by omega), j + 1, hjl, by omega, by omega, rfl⟩
      · dsimp only at hj ⊢
        obtain rfl : j = set.length := by omega
        have hkm := qr2 hK (nL (qf2 m set) 0) (qh7 _ 0 (by omega))
        refine ⟨qn9 hkm.2.2 (by omega) hkm.1 _ (Nat.le_refl _), by rw [List.length_append]; omega, rfl, rfl, c + 1, hcl, rfl, ?_⟩
        have hg : q36 (qf2 m set) = true := by
          unfold q36
          rw [h2, Bool.and_eq_true, decide_eq_true_eq]
          exact ⟨by omega, rfl⟩
        rw [qg9, hnl, if_pos hg, List.append_assoc]
        rfl
    · rw [List.length_map] at hce
      subst hce
      exact ⟨fits64 (by omega) (by omega), k + 1, by omega, by omega, rfl, rfl⟩
  · have hge : min ((r : Int) + 1) n ≤ k := hge
    obtain rfl : k = cirN m := by omega
    exact ⟨rfl, rfl⟩
end Go.Proofs.Ytdibdlelmkcccaa
