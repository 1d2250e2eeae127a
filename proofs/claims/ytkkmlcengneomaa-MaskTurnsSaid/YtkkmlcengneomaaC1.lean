/- The contract of mask's copied: a mask in new memory, each number told by a function of its row and pixel. No condition. -/
import Derived.Test.YtkkmlcengneomaaM7
import Derived.Test.YtkkmlcengneomaaOwn
namespace Go.Proofs.Ytkkmlcengneomaa
open Go.RowKit Ls

/-- What is asked of the function that tells the numbers. -/
def FokT (P : Program) (g : Nat) (lb : Array Value) (n pix : Nat) (f : Nat → Nat → Int) (w : World) : Prop :=
  (∀ args W, (callFunc g args).run P W = .ok (.enter g args) W) ∧
  ∀ (i j : Nat) (W : World), i < n → j < pix → Below w.heap.size w W → Calls P g (#[.int .i64 i, .int .i64 j] ++ lb) W fun e W' => e = .returned (.int .i64 (f i j)) ∧ Below W.heap.size W W'

theorem FokT.later {P : Program} {g : Nat} {lb : Array Value} {n pix : Nat} {f : Nat → Nat → Int} {w w' : World} (h : FokT P g lb n pix f w) (hb : Below w.heap.size w w') : FokT P g lb n pix f w' :=
  ⟨h.1, fun i j W hi hj hW => h.2 i j W hi hj (step_trans hb hW)⟩

def rowF (f : Nat → Nat → Int) (pix i : Nat) : List Int := (List.range pix).map (f i)
def rowsF (f : Nat → Nat → Int) (pix n : Nat) : List (List Int) := (List.range n).map (rowF f pix)
theorem rowF_len (f : Nat → Nat → Int) (pix i : Nat) : (rowF f pix i).length = pix := by simp [rowF]
theorem rowF_snoc (f : Nat → Nat → Int) (j i : Nat) : rowF f (j + 1) i = rowF f j i ++ [f i j] := by simp [rowF, List.range_succ]
theorem rowsF_len (f : Nat → Nat → Int) (pix n : Nat) : (rowsF f pix n).length = n := by simp [rowsF]
theorem rowsF_snoc (f : Nat → Nat → Int) (pix i : Nat) : rowsF f pix (i + 1) = rowsF f pix i ++ [rowF f pix i] := by simp [rowsF, List.range_succ]

def nils (n : Nat) : List Value := List.replicate n (.slice none 0 0)

/-- A slice of slices that reads so, in memory from a block on. -/
def SMF (w : World) (B : Nat) (A : Option Addr) (n c : Nat) (rs : List (List Int)) : Prop :=
  rs.length = n ∧ n ≤ c ∧ c ≤ maxLen ∧ (0 < n → ∃ ad, A = some ad ∧ B ≤ ad.block ∧ ∀ k, k < n → ∃ A' c', w.cell? (ad.add k) = some (.slice A' (nthL rs k).length c') ∧ SI w A' (nthL rs k).length c' (nthL rs k) ∧ ∀ a', A' = some a' → B ≤ a'.block)
theorem SMF.sm {w : World} {B : Nat} {A : Option Addr} {n c : Nat} {rs : List (List Int)} (h : SMF w B A n c rs) : SM w A n c rs :=
  ⟨h.1, h.2.1, h.2.2.1, fun hn => by
    obtain ⟨ad, e, _, hc⟩ := h.2.2.2 hn
    exact ⟨ad, e, fun k hk => by obtain ⟨A', c', h1, h2, _⟩ := hc k hk; exact ⟨A', c', h1, h2⟩⟩⟩
theorem SMF.base {w : World} {B B' : Nat} {A : Option Addr} {n c : Nat} {rs : List (List Int)} (h : SMF w B A n c rs) (hB : B' ≤ B) : SMF w B' A n c rs :=
  ⟨h.1, h.2.1, h.2.2.1, fun hn => by
    obtain ⟨ad, e, h0, hc⟩ := h.2.2.2 hn
    exact ⟨ad, e, Nat.le_trans hB h0, fun k hk => by obtain ⟨A', c', h1, h2, h3⟩ := hc k hk; exact ⟨A', c', h1, h2, fun a' e => Nat.le_trans hB (h3 a' e)⟩⟩⟩
theorem SMF.nil (w : World) (B : Nat) : SMF w B none 0 0 [] := ⟨rfl, Nat.le_refl _, by unfold maxLen; omega, fun h => absurd h (by omega)⟩
theorem own_SMF {w : World} {B e e' n : Nat} {A : Option Addr} {c : Nat} {vs : List Value} {rs : List (List Int)} (h : w.ownsRow B e' 1 (.slice A n c) n vs) (hr : RowsOwn w B e vs rs) : SMF w B A n c rs := by
  have hl : vs.length = n := by have := h.1; omega
  have hb : ∀ {e size n c : Nat} {A : Option Addr} {xs : List Value}, w.ownsRow B e size (.slice A n c) n xs → ∀ a, A = some a → B ≤ a.block := by
    intro e size n c A xs ho a ea
    rcases ho.2 with ⟨h0, _⟩ | ⟨g, cap, cur, hv, hB, _⟩
    · injection h0 with h0; rw [h0] at ea; cases ea
    · injection hv with hv; rw [hv] at ea; obtain rfl := Option.some.inj ea; exact hB
  obtain ⟨A', c', hv, h1, h2, h3⟩ := own_form h
  injection hv with e1 e2 e3
  subst e1; subst e3
  refine ⟨by rw [← hr.1]; exact hl, h1, h2, fun hn => ?_⟩
  obtain ⟨g, rfl, _, _⟩ := h3 hn
  refine ⟨_, rfl, hb h _ rfl, fun k hk => ?_⟩
  obtain ⟨A1, c1, h4, h5⟩ := hr.2 k (by rw [← hr.1, hl]; exact hk)
  exact ⟨A1, c1, h.cells (g := g) rfl k _ h4, own_SI h5, hb h5⟩

set_option maxRecDepth 100000 in
set_option maxHeartbeats 2000000 in
theorem copied_new (A : Option Addr) (n c pix g : Nat) (lb : Array Value) (m : List (List Int)) (f : Nat → Nat → Int) (w : World) (hm : SM w A n c m) (hn : n ≤ 10) (hp : pix ≤ 20)
    (hf : FokT Try.prog g lb n pix f w) :
    Calls Try.prog 79 #[.slice A n c, .int .i64 pix, .func (.func g) #[] lb] w fun e w' => ∃ A' c', e = .returned (.slice A' n c') ∧ SMF w' w.heap.size A' n c' (rowsF f pix n) ∧ Below w.heap.size w w' := by
  have hmn := hm.nmax
  have eg := hf.1
  have Hf := hidx hf.2
  clear hf hm
  go_enter Try.func79, Try.ntmps79
  go_wp2_with (at_make; refine make1 eltM rfl rfl _ _ rfl n rfl rfl (by omega) (by omega) ?_; intro w1 hown1 hb1 hlt1)
  go_loopw [8, 9, 15] (fun _ _ i wr => ∃ (k : Nat) (vs : List Value), k ≤ n ∧ i = .int .i64 k ∧ vs.length = k ∧ RowsOwn wr w.heap.size 3 vs (rowsF f pix k) ∧
      wr.ownsRow w.heap.size 24 1 (.slice (some ⟨w.heap.size, 0, none⟩) n n) n (vs ++ nils (n - k)) ∧ Below w.heap.size w wr ∧ w.heap.size < wr.heap.size) (fun _ _ i _ => n - (intOf i).toNat)
  case atStart => exact ⟨0, [], Nat.zero_le _, rfl, rfl, RowsOwn.nil _ _ _, hown1, hb1, hlt1⟩
  case round =>
    obtain ⟨k, vs, hk, rfl, hvs, hrows, hout, hb, hlt⟩ := hrel
    have Hvs := hidx hvs
    clear hvs hown1 hb1 hlt1
    by_cases hkn : k < n
    · go_wp2
      obtain ⟨wo, rfl⟩ : ∃ wo : World, wo = wr := ⟨_, rfl⟩
      have hlto := hlt
      go_loopw [9, 19] (fun _ j wr => ∃ (q : Nat) (A' : Option Addr) (c' : Nat), q ≤ pix ∧ j = .int .i64 q ∧ wr.ownsRow wo.heap.size 3 1 (.slice A' q c') q (ints (rowF f q k)) ∧
          wr.ownsRow w.heap.size 24 1 (.slice (some ⟨w.heap.size, 0, none⟩) n n) n (vs ++ .slice A' q c' :: nils (n - k - 1)) ∧ Below w.heap.size w wr ∧ w.heap.size < wr.heap.size ∧ KeepsT 3 wo wr ∧ wo.heap.size ≤ wr.heap.size) (fun _ j _ => pix - (intOf j).toNat)
      case atStart =>
        have e1 : nils (n - k) = .slice none 0 0 :: nils (n - k - 1) := by
          unfold nils; rw [show n - k = (n - k - 1) + 1 by omega, List.replicate_succ]; simp
        rw [e1] at hout
        exact ⟨0, none, 0, Nat.zero_le _, rfl, World.ownsRow_nil _ _ _ _, hout, hb, hlt, KeepsT.refl _ _, Nat.le_refl _⟩
      case round =>
        obtain ⟨q, A', c', hq, rfl, hv, hout, hb, hlt, hkeep, hsz⟩ := hrel
        by_cases hqp : q < pix
        · have hcell := own_get hout k hkn (.slice A' q c') (by rw [← Hvs.out]; simp)
          rw [add_zero_lit] at hcell
          have hcall := Hf.out k q wr.drew hkn hqp hb.drew
          have HS := hidx (rowF_snoc f q k)
          have i1 : (0:Int) ≤ k := by omega
          have i2 : (k:Int) < n := by omega
          go_wp2
          have harm : ∀ w2, Below wr.drew.heap.size wr.drew w2 → Below wr.heap.size wr w2 ∧ w2.cell? ⟨w.heap.size, k, none⟩ = some (.slice A' q c') ∧ (∀ o, (w2.alloc o).cell? ⟨w.heap.size, k, none⟩ = some (.slice A' q c')) ∧ w.heap.size < w2.heap.size ∧
              w2.ownsRow w.heap.size 24 1 (.slice (some ⟨w.heap.size, 0, none⟩) n n) n (vs ++ .slice A' q c' :: nils (n - k - 1)) ∧ w2.ownsRow wo.heap.size 3 1 (.slice A' q c') q (ints (rowF f q k)) ∧ wo.heap.size ≤ w2.heap.size := fun w2 hb2' => by
            have hb2 := undrew hb2'
            have hc2 := Below.cell_of hb2 hcell
            exact ⟨hb2, hc2, fun o => Below.cell_of (below_alloc w2 o) hc2, Nat.lt_of_lt_of_le hlt hb2.size, own_below hout hb2, own_below hv hb2, Nat.le_trans hsz hb2.size⟩
          have harm3 : ∀ w2 w3 : World, w2.ownsRow w.heap.size 24 1 (.slice (some ⟨w.heap.size, 0, none⟩) n n) n (vs ++ .slice A' q c' :: nils (n - k - 1)) → Below wo.heap.size w2 w3 →
              w3.ownsRow w.heap.size 24 1 (.slice (some ⟨w.heap.size, 0, none⟩) n n) n (vs ++ .slice A' q c' :: nils (n - k - 1)) ∧ w3.cell? ⟨w.heap.size, k, none⟩ = some (.slice A' q c') ∧ w3.frozen? ⟨w.heap.size, k, none⟩ = false := fun w2 w3 ho hb3 => by
            have hout3 := own_under ho hb3 hlto
            have hg3 := own_get hout3 k hkn (.slice A' q c') (by rw [← Hvs.out]; simp)
            rw [add_zero_lit] at hg3
            exact ⟨hout3, hg3, hout3.frozenAt k⟩
          have Harm := hidx harm
          have Harm3 := hidx harm3
          clear harm harm3
          go_region_law (first
              | (go_simp; go_at_fn g; refine hcall.mono ?_; rintro e w2 ⟨rfl, hb2'⟩; obtain ⟨hb2, hcell2, hcell3, hlt2, hout2, hv2, hsz2⟩ := Harm.out _ hb2')
              | (refine step_app1n eltI rfl (by rfl) _ _ (by rfl) (by rfl) (by rfl) hv2 (Below.refl wo.heap.size w2) hsz2 (by rfl) (by omega) (by omega) ?_; intro A2 c2 w3 hv3 hb3 _ hc2 hc2'; obtain ⟨hout3, hg3, hz3⟩ := Harm3.out _ _ hout2 hb3))
          all_goals
            go_wp2
            go_roundw
            case rel =>
              have hst := hout3.stored k (.slice A2 (q + 1) c2)
              have hset : (vs ++ Value.slice A' q c' :: nils (n - k - 1)).set k (.slice A2 (q + 1) c2) = vs ++ Value.slice A2 (q + 1) c2 :: nils (n - k - 1) := by
                rw [← Hvs.out]; simp
              rw [hset] at hst
              have hk3 : KeepsT 3 wo w3 := (hkeep.under (hb2.mono hsz)).under hb3
              refine ⟨q + 1, A2, c2, by omega, by go_num, ownsRow_setCell_below (by rw [HS.out, ← ints_snoc]; exact hv3) hlto _, hst.1, ?_, ?_, hk3.trans (KeepsT.stored (by decide) hout3 hst.2), ?_⟩
              · exact ((hb.trans (hb2.mono hb.size)).trans (hb3.mono (by omega))).setCell (Nat.le_refl _) _
              · have := hb3.size; have := hb2.size; simp at *; omega
              · have := hb3.size; have := hb2.size; simp at *; omega
            case measure => simp [intOf]; omega
        · have hqq : q = pix := by omega
          subst hqq
          go_wp2
          go_roundw
          case rel =>
            refine ⟨k + 1, vs ++ [.slice A' q c'], by omega, by go_num, by simp [Hvs.out], ?_, by rw [show n - (k + 1) = n - k - 1 by omega]; simpa using hout, hb, hlt⟩
            rw [rowsF_snoc]
            exact (hrows.keep hkeep).snoc (rowF_len _ _ _) (own_base hv (Nat.le_of_lt hlto))
          case measure => simp [intOf]; omega
    · have hkk : k = n := by omega
      subst hkk
      go_wp2
      go_ret
      refine ⟨_, _, rfl, own_SMF (by simpa [nils] using hout) hrows, hb⟩

theorem copied_any (A : Option Addr) (n c pix g : Nat) (lb : Array Value) (m : List (List Int)) (f : Nat → Nat → Int) (w : World) (hm : SM w A n c m) (hn : n ≤ 10) (hp : pix ≤ 20)
    (hf : FokT Try.prog g lb n pix f w) :
    Calls Try.prog 79 #[.slice A n c, .int .i64 pix, .func (.func g) #[] lb] w fun e w' => ∃ A' c', e = .returned (.slice A' n c') ∧ SM w' A' n c' (rowsF f pix n) ∧ Below w.heap.size w w' :=
  (copied_new A n c pix g lb m f w hm hn hp hf).mono fun _ _ ⟨A', c', h1, h2, h3⟩ => ⟨A', c', h1, h2.sm, h3⟩

end Go.Proofs.Ytkkmlcengneomaa
