/- The reference's solutions: contract by hand up to the first loop's end, by the engine from there. No condition. -/
import Derived.Test.YtdibdlelmkcccaaV28
set_option linter.unusedVariables false
set_option linter.unusedSimpArgs false
namespace Go.Proofs.Ytdibdlelmkcccaa
open Go Go.RowKit Ls Eng
theorem qy9 {m : View} : ∀ {l : List Int} {vs : List Value}, RdL m (.int .i64) l vs → vs = ints l
  | [], vs, h => h
  | x :: l, vs, ⟨u, v, h1, h2, h3⟩ => by
    obtain rfl : u = [.int .i64 x] := h2
    rw [h1, qy9 h3]
    rfl
theorem pool_pl {m : View} {w : World} {B : Nat} {rows : List (List Int)} {hs : List Value} {v : Value} (h : PoolOk m w B 24 3 (.int .i64) rows none hs) (hv : hs[0]? = some v) (hn : 0 < rows.length) : ∃ g c, v = .slice (some ⟨g, 0, none⟩) rows.length c ∧ Pl w B rows.length g c hs.tail rows := by
  have hlen : hs.length = rows.length + 1 := h.len
  obtain ⟨cs, hc1, hc2⟩ := h.head
  have e0 : hs.getD 0 undef = v := by rw [List.getD_eq_getElem?_getD, hv]; rfl
  rw [e0] at hc1
  have hc1 : w.ownsRow B 24 1 v rows.length cs := hc1
  obtain ⟨A, c, rfl, k1, k2, k3⟩ := own_form hc1
  obtain ⟨g, rfl, _, _⟩ := k3 hn
  have hcl : cs.length = rows.length := by have := hc1.1; omega
  have hcs : cs = hs.tail := by
    apply List.ext_getElem (by simp; omega)
    intro i h1 h2
    have h3 := (hc2 i i (by show (List.range rows.length)[i]? = some i; rw [List.getElem?_range (by omega)])).2
    rw [List.getElem?_eq_getElem h1, List.getElem?_eq_getElem (by omega)] at h3
    rw [Option.some.inj h3]
    simp
  rw [hcs] at hc1
  have htl : ∀ p, hs.tail[p]? = hs[p + 1]? := fun p => by simp
  refine ⟨g, c, rfl, hc1, ⟨by simp; omega, fun r hr => ?_⟩, fun i j u u' b hij hi hj hb1 hb2 => ?_⟩
  · obtain ⟨xs, q1, q2⟩ := h.row r hr
    have q2 : w.ownsRow B 3 1 (hs.getD (r + 1) undef) (nL rows r).length xs := q2
    rw [qy9 q1] at q2
    obtain ⟨A, c1, e, _⟩ := own_form q2
    refine ⟨A, c1, ?_, by rw [e] at q2; exact q2⟩
    rw [htl, List.getElem?_eq_getElem (by omega)]
    rw [List.getD_eq_getElem?_getD, List.getElem?_eq_getElem (by omega)] at e
    exact congrArg some e
  · rw [htl] at hi hj
    exact h.apart (i + 1) (j + 1) u u' b (by omega) hi hj (ownBlock_of_blk hb1) (ownBlock_of_blk hb2)
theorem cols_pl {w : World} {m : View} {M : List (List Int)} {pix : List Int} {u1 u2 : Value} (hm : m.on w) (hp : q5l M pix) (h1 : 0 < M.length) (hu1 : Rd m qd2 M [u1]) (hu2 : Rd m qb8 pix [u2]) :
    Calls Try.prog 128 #[u1, u2] w fun e w' => ∃ g c vs, e = .returned (.slice (some ⟨g, 0, none⟩) M.length c) ∧ Below w.heap.size w w' ∧ Pl w' w.heap.size M.length g c vs (qf3 M pix) := by
  have hx : RdArgs m [qd2, qb8] (M, pix, ()) [u1, u2] := ⟨u1, _, rfl, hu1, u2, [], rfl, hu2, rfl⟩
  have := q2i.2 w m (retsAV [qd2, qb8] (M, pix, ())) [u1, u2] (fun r => r = .dat (.list (.int .i64)) (qf3 M pix)) hm (retsAV_ok hx).1 (argsAV_of hx ⟨hp, rfl⟩)
  refine this.mono fun e w' ⟨v, m', e1, e2, e3, e4, e5⟩ => ?_
  obtain ⟨t, l, hs, q1, q2, q3⟩ := e5
  injection q1 with q1 q1'
  injection q1 with q1
  subst q1
  obtain rfl := eq_of_heq q1'
  obtain ⟨g, c, rfl, q5⟩ := pool_pl q3 q2 (by rw [qh1]; exact h1)
  rw [qh1] at e1 q5
  exact ⟨g, c, _, e1, e2, q5⟩
def qg2 (P : List Int) (n : Nat) : Bool := P.any fun j => j == (n : Int)
def qh4 (n : Nat) (d : List (List Int)) (P : List Int) : Nat → List (Int × Int)
  | 0 => List.replicate n (0, 1)
  | i + 1 => (qh4 n d P i).set (nI P i).toNat (ratL (nI (nL d i) n) (nI (nL d i) (nI P i).toNat))
def svD (m : List (List Int)) (pix y : List Int) : List (List Int) := (qa9 (qa7 m pix y)).1
def svP (m : List (List Int)) (pix y : List Int) : List Int := (qa9 (qa7 m pix y)).2
def svR (m : List (List Int)) (pix y : List Int) : List (Int × Int) × Int × Bool := if qg2 (svP m pix y) pix.length = true then ([], 0, false) else (qh4 pix.length (svD m pix y) (svP m pix y) (svP m pix y).length, (pix.length : Int) - (svP m pix y).length, true)
theorem qh3 (n : Nat) (d : List (List Int)) (P : List Int) : ∀ i, (qh4 n d P i).length = n
  | 0 => by simp [qh4]
  | i + 1 => by rw [qh4, List.length_set, qh3 n d P i]
structure SvAr (d : List (List Int)) (P : List Int) (n : Nat) : Prop where
  cnt : d.length = P.length
  lenP : P.length ≤ 1000
  each : ∀ k, k < d.length → (nL d k).length = n + 1
  pv : ∀ k, k < P.length → 0 ≤ nI P k ∧ nI P k ≤ n
  nz : ∀ k, k < P.length → nI (nL d k) (nI P k).toNat ≠ 0
  bigD : ∀ k, k < P.length → qd1 BIG (nI (nL d k) (nI P k).toNat)
  bigN : ∀ k, k < P.length → qd1 BIG (nI (nL d k) n)
structure SvOk (m : List (List Int)) (pix y : List Int) : Prop where
  one : 0 < m.length
  col : q5l m pix
  pl : pix.length ≤ 1000
  yl : y.length = m.length
  rd : RdOk (qa7 m pix y)
  ar : SvAr (svD m pix y) (svP m pix y) pix.length
abbrev gSv (x : argsTy [qd2, qb8, qb8]) : AV := retOne (retsAV [tRats, tInt, .bool] ((svR x.1 x.2.1 x.2.2.1).1, (svR x.1 x.2.1 x.2.2.1).2.1, (svR x.1 x.2.1 x.2.2.1).2.2, ()))
abbrev sSv : FSpec := xspec (argsB [qd2, qb8, qb8]) true (some 60) none (fun x => SvOk x.1 x.2.1 x.2.2.1) gSv
def ayTo (m : List (List Int)) (pix y : List Int) (k : Nat) : List (List Int) := ovr (.list (.int .i64)) (nL (qa7 m pix y)) (qf3 m pix) k
theorem q4h (m : List (List Int)) (pix y : List Int) : ayTo m pix y 0 = qf3 m pix := qg3 (.list (.int .i64)) _ _
theorem ql3 (m : List (List Int)) (pix y : List Int) : (qa7 m pix y).length = m.length := qf1 _ _ _
theorem qu3 (m : List (List Int)) (pix y : List Int) (k : Nat) (hk : k < m.length) : nL (qa7 m pix y) k = nL (qf3 m pix) k ++ [nI y k] := by
  rw [qe3 _ k (by rw [ql3]; exact hk), qo9 m pix k hk]
  simp [qa7, qa1]
theorem q4i (m : List (List Int)) (pix y : List Int) (k : Nat) (hk : k < m.length) : nL (ayTo m pix y k) k = nL (qf3 m pix) k := (ql6 (.list (.int .i64)) _ _ _ _ (by rw [qh1]; exact hk)).trans (if_neg (Nat.lt_irrefl _))
theorem q4j (m : List (List Int)) (pix y : List Int) (k : Nat) (hk : k < m.length) : (ayTo m pix y k).set k (nL (qf3 m pix) k ++ [nI y k]) = ayTo m pix y (k + 1) := by
  rw [← qu3 m pix y k hk]
  exact qf8 (.list (.int .i64)) (nL (qa7 m pix y)) (qf3 m pix) k
theorem q5v (m : List (List Int)) (pix y : List Int) : ayTo m pix y m.length = qa7 m pix y := by
  have h := qi7 (.list (.int .i64)) (nL (qa7 m pix y)) (qf3 m pix) m.length (by rw [qh1]; exact Nat.le_refl _)
  refine h.trans ?_
  apply List.ext_getElem (by simp [qh1, ql3])
  intro i h1 h2
  simp only [List.getElem_map, List.getElem_range]
  exact qe3 _ i h2
def ivSv (pix : List Int) (d : List (List Int)) (P : List Int) : Nat → Option Inv
  | 0 => some (Inv.of [13, 49] 1 (fun k : Nat => [(13, .own 0), (49, .lit (.int .i64 k))]) (fun k => [.vec 60 tRat (ovr tRat (fun _ => (0, 1)) (List.replicate pix.length (0, 0)) k)]) (fun k => k ≤ pix.length) (fun k => pix.length - k))
  | 1 => some (Inv.of [13, 59] 1 (fun k : Nat => [(13, .own 0), (59, .lit (.int .i64 k))]) (fun k => [.vec 60 tRat (qh4 pix.length d P k)]) (fun k => k ≤ P.length ∧ ∀ i, i < k → nI P i ≠ pix.length) (fun k => P.length - k))
  | _ => none
set_option maxRecDepth 100000 in
set_option maxHeartbeats 4000000 in
theorem q0t {w : World} {m : View} {M : List (List Int)} {pix y : List Int} {u1 u2 : Value} {Ay : Option Addr} {cy : Nat} {k : AV → Prop} (hm : m.on w) (hp : SvOk M pix y) (hu1 : Rd m qd2 M [u1]) (hu2 : Rd m qb8 pix [u2]) (hu3 : Rd m qb8 y [.slice Ay M.length cy]) (hk : k (gSv (M, pix, y, ()))) :
    Calls Try.prog 119 #[u1, u2, .slice Ay M.length cy] w (Eng.Left Try.prog sSv k m w) := by
  have hcol := cols_pl hm hp.col hp.one hu1 hu2
  have hy0 : SI w Ay M.length cy y := by
    obtain ⟨A, c, e, h⟩ := rd_SI hm hu3
    injection e with e1 e2 e3
    subst e1 e3
    rw [hp.yl] at h
    exact h
  have hn1 := hp.one
  have hn2 := hp.col.rows
  obtain ⟨n, hn⟩ : ∃ n, n = M.length := ⟨_, rfl⟩
  rw [← hn] at hcol hy0 hn1 hn2 hu3 ⊢
  have HN := hidx hn
  clear hn
  refine callsIn_wide.1 (callsIn_of_wp_marks (F := Fence.wide) (n := 0) Try.func119 rfl trivial ?_)
  refine wpIn_wide.2 ?_
  simp only [Try.ntmps119, List.size_toArray, List.length_cons, List.length_nil, Nat.reduceAdd, Nat.reduceSub, Array.replicate_succ, Array.replicate_zero, List.push_toArray, List.append_toArray, List.nil_append, List.cons_append]
  go_wp2_with fail
  refine hcol.mono ?_
  rintro e w2 ⟨g, c, vs, rfl, hb2, hpl⟩
  have hy2 := hy0.below hb2
  go_wp2_with fail
  go_loopw [10, 22] (fun _ i wr => ∃ (q : Nat) (vs : List Value), q ≤ n ∧ i = .int .i64 q ∧ Pl wr w.heap.size n g c vs (ayTo M pix y q) ∧ Below w.heap.size w wr) (fun _ i _ => n - (intOf i).toNat)
  case atStart => exact ⟨0, vs, Nat.zero_le _, rfl, by rw [q4h]; exact hpl, hb2⟩
  case round =>
    obtain ⟨q, vs, hq, rfl, hP, hb⟩ := hrel
    by_cases hlt : q < n
    · obtain ⟨hvl, hrl⟩ := hP.len
      have hqM : q < M.length := by have := HN.out; omega
      obtain ⟨A1, c1, hvq, hvo⟩ := hP.rows.2 q (by omega)
      have hrow : nthL (ayTo M pix y q) q = nL (qf3 M pix) q := q4i M pix y q hqM
      rw [hrow] at hvq hvo
      have hcell := own_get hP.head q hlt _ hvq
      rw [add_zero_lit] at hcell
      have hy := hy0.below hb
      obtain ⟨ady, rfl, hyc⟩ := hy.at_ hn1
      have hyq := hyc q hlt
      obtain ⟨len, hlen⟩ : ∃ len, len = (nL (qf3 M pix) q).length := ⟨_, rfl⟩
      rw [← hlen] at hvq hvo hcell
      obtain ⟨l, hl⟩ : ∃ l, l = nL (qf3 M pix) q := ⟨_, rfl⟩
      rw [← hl] at hvo hlen
      have hlen2 : len ≤ 1000 := by rw [hlen, hl, qo9 M pix q hqM, qe7]; exact hp.pl
      obtain ⟨yq, hyqe⟩ : ∃ yq, yq = nth y q := ⟨_, rfl⟩
      rw [← hyqe] at hyq
      have hsz : w.heap.size ≤ wr.heap.size := hb.size
      have hcellD : wr.drew.cell? ⟨g, q, none⟩ = some (.slice A1 len c1) := hcell
      have hcellA : ∀ o, (wr.drew.alloc o).cell? ⟨g, q, none⟩ = some (.slice A1 len c1) := fun o => Below.cell_of (below_alloc wr.drew o) hcellD
      have hyqD : wr.drew.cell? (ady.add q) = some (.int .i64 yq) := hyq
      have hvoD : wr.drew.ownsRow w.heap.size 3 1 (.slice A1 len c1) len (ints l) := qy8 hvo fun _ _ => rfl
      have hszD : w.heap.size ≤ wr.drew.heap.size := hsz
      have hPD : Pl wr.drew w.heap.size n g c vs (ayTo M pix y q) := hP.below ⟨rfl, rfl, rfl, Nat.le_refl _, fun _ _ => rfl⟩
      have Harm : ∀ w3, wr.drew.grownBy w3 (Value.slice A1 len c1).ownBlock → w3.cell? ⟨g, q, none⟩ = some (.slice A1 len c1) ∧ w3.frozen? ⟨g, q, none⟩ = false := by
        intro w3 hg3
        have hh : w3.ownsRow w.heap.size 24 1 (.slice (some ⟨g, 0, none⟩) n c) n vs := qy8 hPD.head fun b hbb => by
          obtain ⟨_, cur, h2⟩ := qe9 hPD.head hbb
          refine hg3.block b (Array.getElem?_eq_some_iff.1 h2).1 fun e => ?_
          obtain ⟨_, cur2, h3⟩ := qe9 hvoD e.symm
          rw [h2] at h3
          injection h3 with h3
          injection h3 with _ h3
          exact absurd h3 (by decide)
        have hg4 := own_get hh q hlt _ hvq
        rw [add_zero_lit] at hg4
        exact ⟨hg4, hh.frozenAt q⟩
      have hcellB : ∀ o, (wr.alloc o).cell? ⟨g, q, none⟩ = some (.slice A1 len c1) := fun o => Below.cell_of (below_alloc wr o) hcell
      have HL := hidx hlen
      have HL2 := hidx hl
      have HY := hidx hyqe
      have HP := hidx hP
      have HPD := hidx hPD
      have Harm := hidx Harm
      have HB := hidx hb
      have i1 : (0:Int) ≤ q := by omega
      have i2 : (q:Int) < n := by omega
      clear hlen hl hyqe hqM hP hPD hb hvo hcol hy2 hpl hb2 hyc hy hy0 hvl hrl hrow
      go_wp2
      refine Code.wp_mono (fun _ _ _ h => q5u h) ?_
      go_region_law (refine q2t eltI rfl (by rfl) _ _ (by rfl) (by rfl) (by rfl) hvoD hszD (by rfl) (by omega) (by omega) ?_; intro A2 c2 w3 hv3 hg3 hbk3; obtain ⟨hg4, hz4⟩ := Harm.out _ hg3)
      all_goals
        refine q4g ?_
        go_wp2
        go_roundw
        case rel =>
          have hnl : nL (ayTo M pix y q) q = l := by rw [HL2.out]; exact q4i M pix y q (by have := HN.out; omega)
          have hlen := HL.out
          obtain ⟨s1, s2⟩ := HPD.out.step (l := l) hlt hvq hnl yq (by rw [hlen]) (by rw [← ints_snoc, ← hlen]; exact hv3) hg3 hbk3
          have hgb := (qe9 HPD.out.head (b := g) rfl).1
          have hbD : Below w.heap.size w wr.drew := ⟨HB.out.os, HB.out.tape, HB.out.output, HB.out.size, HB.out.block⟩
          refine ⟨q + 1, vs.set q (.slice A2 (len + 1) c2), hlt, by go_num, ?_, (hbD.grown hg3 hszD fun k hk => (qe9 hvoD hk).1).grown s2 (by have := hg3.size; omega) fun k hk => by obtain rfl := Option.some.inj hk; exact hgb⟩
          have e := q4j M pix y q (by have := HN.out; omega)
          rw [← e, ← HL2.out]
          have e2 : yq = nI y q := HY.out
          rw [← e2]
          exact s1
        case measure => simp [intOf]; omega
    · have hqn : q = n := by omega
      subst hqn
      rename_i hK
      have HK := hidx hK
      clear hK
      go_wp2
      refine HK.out _ _ ?_
      refine (wpIn_wide (n := 0)).1 ?_
      have hmw : m.cells.on wr := fun b o hbb => View.on_below hm hb b o (View.cells_le m b o hbb)
      have hfr : (View.from wr w.heap.size).on wr := View.from_on _ _
      refine tail_ok (C := ctx [(145, sRd), (146, sRat)]) (snd (SpecsOk.cons q5m (SpecsOk.cons q3y (SpecsOk.nil _)))) rfl (iv := ivSv pix (svD M pix y) (svP M pix y)) (i := 0) (A := argsB [qd2, qb8, qb8]) (fresh := true) (own := some 60) (deep := none) (g := gSv) (x := (M, pix, y, ())) (m0 := m.cells.or (View.from wr w.heap.size)) (ρ := []) (s := ⟨[(1, .dat (.int .i64) pix), (9, .dat (.list (.int .i64)) (qa7 M pix y))], fun _ => .any, []⟩) hk hm (by kernel_rfl) rfl ?_ ?_
      · refine ⟨fun i => ?_, rfl, fun v hv => by simp at hv, trivial, fun g => by cases g <;> trivial, fun g g' v v' b _ l1 => ?_, View.or_on hmw hfr, View.le_or, fun b o hbb => ?_, base0_ok.2 hb, fun g v b l1 => ?_, fun g v hv _ => by simp [base0] at hv⟩
        · match i with
          | 1 => exact Rd.cle (View.cle_trans (View.cells_cle m) View.le_or.cle) hu2
          | 9 =>
            have h1 := hP.rd
            rw [HN.out, q5v] at h1
            rw [HN.out]
            exact Rd.le (View.or_le hmw hfr) h1
          | 0 => exact ⟨_, rfl⟩
          | 2 => exact ⟨_, rfl⟩
          | 3 => exact ⟨_, rfl⟩
          | 4 => exact ⟨_, rfl⟩
          | 5 => exact ⟨_, rfl⟩
          | 6 => exact ⟨_, rfl⟩
          | 7 => exact ⟨_, rfl⟩
          | 8 => exact ⟨_, rfl⟩
          | i + 10 => exact ⟨_, rfl⟩
        · cases g <;> cases l1
        · unfold View.or at hbb
          cases hmb : m.cells b with
          | some o' => rw [hmb] at hbb; exact .inl hbb
          | none =>
            rw [hmb] at hbb
            unfold View.from at hbb
            simp only at hbb
            split at hbb
            · rename_i hge; exact .inr ⟨hge, fun h => by have h : b < w.heap.size := h; omega⟩
            · cases hbb
        · cases g <;> cases l1
      · refine by_vc (B := RdOk (qa7 M pix y)/\((↑(List.length pix) : Int) = (↑(List.length pix) : Int)/\(0 : Int) <= (↑(List.length pix) : Int)/\(↑(List.length pix) : Int) <= (1000000 : Int))/\∃ (v0 : Unit), ∃ (v1 : Nat), Nat.le v1 (List.length pix)/\((True/\(0 : Int) = (↑v1 : Int)/\True)/\List.replicate (Int.toNat (↑(List.length pix) : Int)) (Ty.dflt (TI.ty T60)) = ovr tRat (fun (v2 : Nat) => ((0 : Ty.den (Ty.int .i64)), (1 : Ty.den (Ty.int .i64)))) (List.replicate (List.length pix) ((0 : Ty.den (Ty.int .i64)), (0 : Ty.den (Ty.int .i64)))) v1/\True)/\∀ (v2 : Nat), Nat.le v2 (List.length pix)->(decide ((↑v2 : Int) < (↑(List.length (List.replicate (Int.toNat (↑(List.length pix) : Int)) (Ty.dflt (TI.ty T60)))) : Int)) = true->((0 : Int) <= (↑v2 : Int)/\(↑v2 : Int) < (↑(List.length (ovr tRat (fun (v5 : Nat) => ((0 : Ty.den (Ty.int .i64)), (1 : Ty.den (Ty.int .i64)))) (List.replicate (List.length pix) ((0 : Ty.den (Ty.int .i64)), (0 : Ty.den (Ty.int .i64)))) v2)) : Int))/\Int.toNat (↑v2 : Int) < List.length (ovr tRat (fun (v5 : Nat) => ((0 : Ty.den (Ty.int .i64)), (1 : Ty.den (Ty.int .i64)))) (List.replicate (List.length pix) ((0 : Ty.den (Ty.int .i64)), (0 : Ty.den (Ty.int .i64)))) v2)/\fits .i64 ((↑v2 : Int) + (1 : Int))/\∃ (v5 : Nat), Nat.le v5 (List.length pix)/\List.length pix - v5 < List.length pix - v2/\(True/\(↑v2 : Int) + (1 : Int) = (↑v5 : Int)/\True)/\List.set (ovr tRat (fun (v6 : Nat) => ((0 : Ty.den (Ty.int .i64)), (1 : Ty.den (Ty.int .i64)))) (List.replicate (List.length pix) ((0 : Ty.den (Ty.int .i64)), (0 : Ty.den (Ty.int .i64)))) v2) (Int.toNat (↑v2 : Int)) ((0 : Int), (1 : Int)) = ovr tRat (fun (v6 : Nat) => ((0 : Ty.den (Ty.int .i64)), (1 : Ty.den (Ty.int .i64)))) (List.replicate (List.length pix) ((0 : Ty.den (Ty.int .i64)), (0 : Ty.den (Ty.int .i64)))) v5/\True)/\(decide ((↑v2 : Int) < (↑(List.length (List.replicate (Int.toNat (↑(List.length pix) : Int)) (Ty.dflt (TI.ty T60)))) : Int)) = false->∃ (v5 : Unit), ∃ (v6 : Nat), (v6 <= List.length (svP M pix y)/\∀ (v7 : Nat), Nat.le (Nat.succ v7) v6->nI (svP M pix y) v7 = (↑(List.length pix) : Int)->False)/\((True/\(0 : Int) = (↑v6 : Int)/\True)/\ovr tRat (fun (v7 : Nat) => ((0 : Ty.den (Ty.int .i64)), (1 : Ty.den (Ty.int .i64)))) (List.replicate (List.length pix) ((0 : Ty.den (Ty.int .i64)), (0 : Ty.den (Ty.int .i64)))) v2 = qh4 (List.length pix) (svD M pix y) (svP M pix y) v6/\True)/\∀ (v7 : Nat), (v7 <= List.length (svP M pix y)/\∀ (v9 : Nat), Nat.le (Nat.succ v9) v7->nI (svP M pix y) v9 = (↑(List.length pix) : Int)->False)->(decide ((↑v7 : Int) < (↑(List.length (Prod.snd (qa9 (qa7 M pix y)))) : Int)) = true->((0 : Int) <= (↑v7 : Int)/\(↑v7 : Int) < (↑(List.length (Prod.snd (qa9 (qa7 M pix y)))) : Int))/\((nthD (Ty.int .i64) (Prod.snd (qa9 (qa7 M pix y))) (Int.toNat (↑v7 : Int)) == (↑(List.length pix) : Int)) = true->Prod.fst (svR M pix y) = []/\(0 : Int) = Prod.fst (Prod.snd (svR M pix y))/\false = Prod.snd (Prod.snd (svR M pix y))/\True)/\((nthD (Ty.int .i64) (Prod.snd (qa9 (qa7 M pix y))) (Int.toNat (↑v7 : Int)) == (↑(List.length pix) : Int)) = false->((0 : Int) <= (↑v7 : Int)/\(↑v7 : Int) < (↑(List.length (Prod.fst (qa9 (qa7 M pix y)))) : Int))/\((0 : Int) <= (↑(List.length pix) : Int)/\(↑(List.length pix) : Int) < (↑(List.length (nthD (Ty.list (Ty.int .i64)) (Prod.fst (qa9 (qa7 M pix y))) (Int.toNat (↑v7 : Int)))) : Int))/\((0 : Int) <= (↑v7 : Int)/\(↑v7 : Int) < (↑(List.length (Prod.fst (qa9 (qa7 M pix y)))) : Int))/\((0 : Int) <= nthD (Ty.int .i64) (Prod.snd (qa9 (qa7 M pix y))) (Int.toNat (↑v7 : Int))/\nthD (Ty.int .i64) (Prod.snd (qa9 (qa7 M pix y))) (Int.toNat (↑v7 : Int)) < (↑(List.length (nthD (Ty.list (Ty.int .i64)) (Prod.fst (qa9 (qa7 M pix y))) (Int.toNat (↑v7 : Int)))) : Int))/\(((-4000000000000000000 : Int) <= nthD (Ty.int .i64) (nthD (Ty.list (Ty.int .i64)) (Prod.fst (qa9 (qa7 M pix y))) (Int.toNat (↑v7 : Int))) (Int.toNat (↑(List.length pix) : Int))/\nthD (Ty.int .i64) (nthD (Ty.list (Ty.int .i64)) (Prod.fst (qa9 (qa7 M pix y))) (Int.toNat (↑v7 : Int))) (Int.toNat (↑(List.length pix) : Int)) <= BIG)/\((-4000000000000000000 : Int) <= nthD (Ty.int .i64) (nthD (Ty.list (Ty.int .i64)) (Prod.fst (qa9 (qa7 M pix y))) (Int.toNat (↑v7 : Int))) (Int.toNat (nthD (Ty.int .i64) (Prod.snd (qa9 (qa7 M pix y))) (Int.toNat (↑v7 : Int))))/\nthD (Ty.int .i64) (nthD (Ty.list (Ty.int .i64)) (Prod.fst (qa9 (qa7 M pix y))) (Int.toNat (↑v7 : Int))) (Int.toNat (nthD (Ty.int .i64) (Prod.snd (qa9 (qa7 M pix y))) (Int.toNat (↑v7 : Int)))) <= BIG)/\nthD (Ty.int .i64) (nthD (Ty.list (Ty.int .i64)) (Prod.fst (qa9 (qa7 M pix y))) (Int.toNat (↑v7 : Int))) (Int.toNat (nthD (Ty.int .i64) (Prod.snd (qa9 (qa7 M pix y))) (Int.toNat (↑v7 : Int)))) ≠ (0 : Ty.den tInt))/\((0 : Int) <= nthD (Ty.int .i64) (Prod.snd (qa9 (qa7 M pix y))) (Int.toNat (↑v7 : Int))/\nthD (Ty.int .i64) (Prod.snd (qa9 (qa7 M pix y))) (Int.toNat (↑v7 : Int)) < (↑(List.length (qh4 (List.length pix) (svD M pix y) (svP M pix y) v7)) : Int))/\Int.toNat (nthD (Ty.int .i64) (Prod.snd (qa9 (qa7 M pix y))) (Int.toNat (↑v7 : Int))) < List.length (qh4 (List.length pix) (svD M pix y) (svP M pix y) v7)/\fits .i64 ((↑v7 : Int) + (1 : Int))/\∃ (v11 : Nat), (v11 <= List.length (svP M pix y)/\∀ (v12 : Nat), Nat.le (Nat.succ v12) v11->nI (svP M pix y) v12 = (↑(List.length pix) : Int)->False)/\List.length (svP M pix y) - v11 < List.length (svP M pix y) - v7/\(True/\(↑v7 : Int) + (1 : Int) = (↑v11 : Int)/\True)/\List.set (qh4 (List.length pix) (svD M pix y) (svP M pix y) v7) (Int.toNat (nthD (Ty.int .i64) (Prod.snd (qa9 (qa7 M pix y))) (Int.toNat (↑v7 : Int)))) (Prod.fst (ratL (nthD (Ty.int .i64) (nthD (Ty.list (Ty.int .i64)) (Prod.fst (qa9 (qa7 M pix y))) (Int.toNat (↑v7 : Int))) (Int.toNat (↑(List.length pix) : Int))) (nthD (Ty.int .i64) (nthD (Ty.list (Ty.int .i64)) (Prod.fst (qa9 (qa7 M pix y))) (Int.toNat (↑v7 : Int))) (Int.toNat (nthD (Ty.int .i64) (Prod.snd (qa9 (qa7 M pix y))) (Int.toNat (↑v7 : Int)))))), Prod.snd (ratL (nthD (Ty.int .i64) (nthD (Ty.list (Ty.int .i64)) (Prod.fst (qa9 (qa7 M pix y))) (Int.toNat (↑v7 : Int))) (Int.toNat (↑(List.length pix) : Int))) (nthD (Ty.int .i64) (nthD (Ty.list (Ty.int .i64)) (Prod.fst (qa9 (qa7 M pix y))) (Int.toNat (↑v7 : Int))) (Int.toNat (nthD (Ty.int .i64) (Prod.snd (qa9 (qa7 M pix y))) (Int.toNat (↑v7 : Int))))))) = qh4 (List.length pix) (svD M pix y) (svP M pix y) v11/\True))/\(decide ((↑v7 : Int) < (↑(List.length (Prod.snd (qa9 (qa7 M pix y)))) : Int)) = false->fits .i64 ((↑(List.length pix) : Int) - (↑(List.length (Prod.snd (qa9 (qa7 M pix y)))) : Int))/\qh4 (List.length pix) (svD M pix y) (svP M pix y) v7 = Prod.fst (svR M pix y)/\(↑(List.length pix) : Int) - (↑(List.length (Prod.snd (qa9 (qa7 M pix y)))) : Int) = Prod.fst (Prod.snd (svR M pix y))/\true = Prod.snd (Prod.snd (svR M pix y))/\True))) (by kernel_rfl) ?_
        try simp only [z0,z1,z2,z3,z4,z5,z6,z7,z8,z9,z10,Int.reduceEq,z11,z12,z13,z14,z15,z16,z17,z18,z19,z20,z21,z22,z23,z24,z25,z26,z27,z28,z29,z30,Int.reduceLE,Int.reduceLT,z31,z32,z33,z34,nilEq_true]
        try simp only [qa4, qa5, qa8, List.set_cons_zero, List.cons.injEq, and_true, true_and]
        have hz : ∀ k, (ovr tRat (fun _ => (0, 1)) (List.replicate pix.length (0, 0)) k).length = pix.length := fun k => by rw [qf5]; simp
        have hol : ∀ k, (qh4 pix.length (svD M pix y) (svP M pix y) k).length = pix.length := qh3 _ _ _
        have har := hp.ar
        have hpl := hp.pl
        have hcnt := har.cnt
        have hPl := har.lenP
        simp only [show (qa9 (qa7 M pix y)).snd = svP M pix y from rfl, show (qa9 (qa7 M pix y)).fst = svD M pix y from rfl, List.length_replicate, hz, hol]
        have hR : svR M pix y = if qg2 (svP M pix y) pix.length = true then ([], 0, false) else (qh4 pix.length (svD M pix y) (svP M pix y) (svP M pix y).length, (pix.length : Int) - (svP M pix y).length, true) := rfl
        refine ⟨hp.rd, by omega, (), 0, Nat.zero_le _, ⟨rfl, (qg3 tRat _ _).symm⟩, fun i hi => ⟨fun hlt => ⟨hlt, hlt, fits64 (by omega) (by omega), i + 1, hlt, by omega, by omega, qf8 tRat (fun _ => (0, 1)) _ _⟩, fun hge => ?_⟩⟩
        obtain rfl : i = pix.length := by omega
        refine ⟨(), 0, ⟨Nat.zero_le _, fun j hj => absurd hj (by omega)⟩, ⟨rfl, ?_⟩, ?_⟩
        · refine (qi7 tRat (fun _ => (0, 1)) _ _ (by simp)).trans ?_
          rw [List.length_replicate, qh4]
          apply List.ext_getElem (by simp)
          intro j h1 h2
          simp
        rintro i ⟨hi, hno⟩
        refine ⟨fun hlt => ⟨hlt, fun he => ?_, fun he => ?_⟩, fun hge => ?_⟩
        · have : qg2 (svP M pix y) pix.length = true := by
            unfold qg2
            rw [List.any_eq_true]
            exact ⟨nI (svP M pix y) i, by rw [qd3 _ i hlt]; exact List.getElem_mem _, beq_iff_eq.2 he⟩
          rw [hR, if_pos this]
          exact ⟨rfl, rfl, rfl⟩
        · have h1 := har.pv i hlt
          have h2 := har.each i (by omega)
          have h3 := har.nz i hlt
          have h4 := har.bigD i hlt
          have h5 := har.bigN i hlt
          unfold BIG at h4 h5 ⊢
          have h6 : nI (svP M pix y) i < pix.length := Int.lt_iff_le_and_ne.2 ⟨h1.2, he⟩
          have h7 : (nI (svP M pix y) i).toNat < pix.length := by have := h1.1; omega
          have h8 : nI (svP M pix y) i < ((nL (svD M pix y) i).length : Int) := by omega
          refine ⟨by omega, by omega, by omega, ⟨h1.1, h8⟩, ⟨h5, h4, h3⟩, ⟨h1.1, h6⟩, h7, fits64 (by omega) (by omega), i + 1, ⟨hlt, fun j hj => ?_⟩, by omega, by omega, rfl⟩
          by_cases e : j = i
          · subst e; exact he
          · exact hno j (by omega)
        · obtain rfl : i = (svP M pix y).length := by omega
          have : qg2 (svP M pix y) pix.length ≠ true := by
            intro h
            unfold qg2 at h
            rw [List.any_eq_true] at h
            obtain ⟨x, hx, he⟩ := h
            obtain ⟨j, hj, rfl⟩ := List.getElem_of_mem hx
            rw [← qd3 _ j hj] at he
            exact hno j hj (beq_iff_eq.1 he)
          rw [hR, if_neg this]
          exact ⟨fits64 (by omega) (by omega), rfl, rfl, rfl⟩
theorem qz0 : Meets Try.prog 119 sSv := by
  refine ⟨⟨_, _, Try.func119, rfl, rfl⟩, fun w m args vs k hm hargs hrun => ?_⟩
  obtain ⟨⟨M, pix, y, ⟨⟩⟩, ⟨hp, hk⟩, hx⟩ := takeArgs_rd hrun hargs
  have hp : SvOk M pix y := hp
  obtain ⟨u1, us, rfl, h1, u2, us2, rfl, h2, u3, us3, rfl, h3, h4⟩ := hx
  obtain rfl : us3 = [] := h4
  obtain ⟨A, c, e, hSI⟩ := rd_SI hm (show Rd m (.list (.int .i64)) y [u3] from h3)
  rw [hp.yl] at e
  subst e
  exact q0t hm hp h1 h2 h3 hk
end Go.Proofs.Ytdibdlelmkcccaa
