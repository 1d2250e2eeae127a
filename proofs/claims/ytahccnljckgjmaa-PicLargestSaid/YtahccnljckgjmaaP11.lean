/- Contracts of pic's motions and of the five functions that it makes. No condition. -/
import Derived.Test.YtahccnljckgjmaaPBox
namespace Go.Proofs.Ytahccnljckgjmaa
open Go.RowKit Ls

theorem ret2_ii {a b c d : Int} (h : a = c) (k : b = d) : Ending.returned (.tuple #[.int .i64 a, .int .i64 b]) = .returned (.tuple #[.int .i64 c, .int .i64 d]) := by rw [h, k]

theorem cell_two (W : World) (p q : Value) (t t' : TypeId) (k : Nat) (hk : W.heap.size = k) : ((W.alloc (.cells #[p] t)).alloc (.cells #[q] t')).cell? ⟨k, 0, none⟩ = some p ∧ ((W.alloc (.cells #[p] t)).alloc (.cells #[q] t')).cell? ⟨k + 1, 0, none⟩ = some q := by
  subst hk
  refine ⟨Below.cell_of (below_alloc _ _) (by simp), ?_⟩
  have := cell_new (W.alloc (.cells #[p] t)) #[q] t' 0 q rfl
  rw [World.size_alloc, add_zero] at this
  exact this
theorem quiet_drew {P : Program} {f : FuncId} {args : Array Value} {w : World} {n : Nat} {v : Value}
    (h : Calls P f args (w.drewN n) fun e w' => e = .returned v ∧ ∃ q, w' = (w.drewN n).drewN q) : Calls P f args (w.drewN n) fun e w'' => e = .returned v ∧ ∃ m, w'' = w.drewN m :=
  h.mono fun _ _ ⟨he, q, hq⟩ => ⟨he, n + q, by rw [hq]; simp [World.drewN, Nat.add_assoc]⟩

theorem mot1_any (x y : Int) (w : World) :
    Calls Try.prog 87 #[.int .i64 x, .int .i64 y] w fun e w' => e = .returned (.tuple #[.int .i64 x, .int .i64 y]) ∧ ∃ q, w' = w.drewN q := by
  go_enter Try.func87, Try.ntmps87
  go_wp2
  go_ret2
  exact ⟨rfl, 0, rfl⟩
theorem mot2_any (N : Addr) (h x y : Nat) (w : World) (hN : w.cell? N = some (.int .i64 ((h : Int) - 1))) (hy : y < h) (hh : h ≤ 100) :
    Calls Try.prog 88 #[.int .i64 x, .int .i64 y, .pointer (some N)] w fun e w' => e = .returned (.tuple #[.int .i64 ((h - 1 - y : Nat) : Int), .int .i64 (x : Int)]) ∧ ∃ q, w' = w.drewN q := by
  have e1 : ((h - 1 - y : Nat) : Int) = (h : Int) - 1 - y := by omega
  rw [e1]
  have hy' : (y : Int) < h := by omega
  clear e1
  go_enter Try.func88, Try.ntmps88
  go_wp2
  go_ret2
  exact ⟨rfl, 0, rfl⟩
theorem mot3_any (E N : Addr) (a h x y : Nat) (w : World) (hE : w.cell? E = some (.int .i64 ((a : Int) - 1))) (hN : w.cell? N = some (.int .i64 ((h : Int) - 1))) (hx : x < a) (ha : a ≤ 100) (hy : y < h) (hh : h ≤ 100) :
    Calls Try.prog 89 #[.int .i64 x, .int .i64 y, .pointer (some E), .pointer (some N)] w fun e w' => e = .returned (.tuple #[.int .i64 ((a - 1 - x : Nat) : Int), .int .i64 ((h - 1 - y : Nat) : Int)]) ∧ ∃ q, w' = w.drewN q := by
  have e1 : ((h - 1 - y : Nat) : Int) = (h : Int) - 1 - y := by omega
  have e2 : ((a - 1 - x : Nat) : Int) = (a : Int) - 1 - x := by omega
  rw [e1, e2]
  have hy' : (y : Int) < h := by omega
  have hx' : (x : Int) < a := by omega
  clear e1 e2
  go_enter Try.func89, Try.ntmps89
  go_wp2
  go_quiet (fail)
  go_wp2
  go_ret2
  exact ⟨rfl, _, rfl⟩
theorem mot4_any (E : Addr) (a x y : Nat) (w : World) (hE : w.cell? E = some (.int .i64 ((a : Int) - 1))) (hx : x < a) (ha : a ≤ 100) :
    Calls Try.prog 90 #[.int .i64 x, .int .i64 y, .pointer (some E)] w fun e w' => e = .returned (.tuple #[.int .i64 (y : Int), .int .i64 ((a - 1 - x : Nat) : Int)]) ∧ ∃ q, w' = w.drewN q := by
  have e2 : ((a - 1 - x : Nat) : Int) = (a : Int) - 1 - x := by omega
  rw [e2]
  have hx' : (x : Int) < a := by omega
  clear e2
  go_enter Try.func90, Try.ntmps90
  go_wp2
  go_quiet (fail)
  go_wp2
  go_ret2
  exact ⟨rfl, _, rfl⟩
theorem mot5_any (E : Addr) (a x y : Nat) (w : World) (hE : w.cell? E = some (.int .i64 ((a : Int) - 1))) (hx : x < a) (ha : a ≤ 100) :
    Calls Try.prog 91 #[.int .i64 x, .int .i64 y, .pointer (some E)] w fun e w' => e = .returned (.tuple #[.int .i64 ((a - 1 - x : Nat) : Int), .int .i64 (y : Int)]) ∧ ∃ q, w' = w.drewN q := by
  have e2 : ((a - 1 - x : Nat) : Int) = (a : Int) - 1 - x := by omega
  rw [e2]
  have hx' : (x : Int) < a := by omega
  clear e2
  go_enter Try.func91, Try.ntmps91
  go_wp2
  go_ret2
  exact ⟨rfl, 0, rfl⟩

set_option maxRecDepth 100000 in
set_option maxHeartbeats 2000000 in
theorem motions_any (a b : Nat) (v : Value) (w : World) (ha : a ≤ 100) (hb : b ≤ 100) (ha1 : 1 ≤ a) (hb1 : 1 ≤ b) :
    Calls Try.prog 78 #[.agg #[.int .i64 a, .int .i64 b, v]] w fun e w' => ∃ E N : Addr, e = .returned (.agg #[.func (.func 87) #[] #[], .func (.func 88) #[] #[.pointer (some N)], .func (.func 89) #[] #[.pointer (some E), .pointer (some N)], .func (.func 90) #[] #[.pointer (some E)], .func (.func 91) #[] #[.pointer (some E)]]) ∧
      w'.cell? E = some (.int .i64 ((a : Int) - 1)) ∧ w'.cell? N = some (.int .i64 ((b : Int) - 1)) ∧ w.heap.size ≤ E.block ∧ w.heap.size ≤ N.block ∧ Below w.heap.size w w' := by
  have h1 : (1:Int) ≤ a := by omega
  have h2 : (1:Int) ≤ b := by omega
  go_enter Try.func78, Try.ntmps78
  go_wp2
  go_region
  all_goals go_wp2
  all_goals
    first
      | (refine bodyPost_ret (v := .agg #[.func (.func 87) #[] #[], .func (.func 88) #[] #[.pointer (some ⟨w.heap.size + 1 + 1 + 1, 0, none⟩)], .func (.func 89) #[] #[.pointer (some ⟨w.heap.size + 1 + 1, 0, none⟩), .pointer (some ⟨w.heap.size + 1 + 1 + 1, 0, none⟩)], .func (.func 90) #[] #[.pointer (some ⟨w.heap.size + 1 + 1, 0, none⟩)], .func (.func 91) #[] #[.pointer (some ⟨w.heap.size + 1 + 1, 0, none⟩)]]) (by simp [results, Try.results78, go_sem]; done) rfl ⟨⟨w.heap.size + 1 + 1, 0, none⟩, ⟨w.heap.size + 1 + 1 + 1, 0, none⟩, rfl, ?_, ?_, ?_, ?_, ?_⟩
         · exact (cell_two _ _ _ _ _ _ (by simp)).1
         · exact (cell_two _ _ _ _ _ _ (by simp)).2
         · (first | (simp; done) | (simp; omega))
         · (first | (simp; done) | (simp; omega))
         · exact below_drewN (step_trans (step_trans (step_trans (below_alloc _ _) (below_alloc _ _)) (below_alloc _ _)) (below_alloc _ _)) 1)
      | (refine bodyPost_ret (v := .agg #[.func (.func 87) #[] #[], .func (.func 88) #[] #[.pointer (some ⟨w.heap.size + 1 + 1, 0, none⟩)], .func (.func 89) #[] #[.pointer (some ⟨w.heap.size + 1 + 1 + 1, 0, none⟩), .pointer (some ⟨w.heap.size + 1 + 1, 0, none⟩)], .func (.func 90) #[] #[.pointer (some ⟨w.heap.size + 1 + 1 + 1, 0, none⟩)], .func (.func 91) #[] #[.pointer (some ⟨w.heap.size + 1 + 1 + 1, 0, none⟩)]]) (by simp [results, Try.results78, go_sem]; done) rfl ⟨⟨w.heap.size + 1 + 1 + 1, 0, none⟩, ⟨w.heap.size + 1 + 1, 0, none⟩, rfl, ?_, ?_, ?_, ?_, ?_⟩
         · exact (cell_two _ _ _ _ _ _ (by simp)).2
         · exact (cell_two _ _ _ _ _ _ (by simp)).1
         · (first | (simp; done) | (simp; omega))
         · (first | (simp; done) | (simp; omega))
         · exact below_drewN (step_trans (step_trans (step_trans (below_alloc _ _) (below_alloc _ _)) (below_alloc _ _)) (below_alloc _ _)) 1)

end Go.Proofs.Ytahccnljckgjmaa
