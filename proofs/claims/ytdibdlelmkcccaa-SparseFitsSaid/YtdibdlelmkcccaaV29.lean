/- The reference's solutions: contract by hand up to the first loop's end, by the engine from there. No condition. -/
import Derived.Test.YtdibdlelmkcccaaV28
set_option linter.unusedVariables false
set_option linter.unusedSimpArgs false
namespace Go.Proofs.Ytdibdlelmkcccaa
open Go Go.RowKit Ls Eng
theorem wd9 {m : View} : ∀ {l : List Int} {vs : List Value}, RdL m (.int .i64) l vs -> vs = ints l
  | [], vs, h => h
  | x :: l, vs, ⟨u, v, h1, h2, h3⟩ => by
    obtain rfl : u = [.int .i64 x] := h2
    rw [h1, wd9 h3]
    rfl
theorem w92 {m : View} {w : World} {B : Nat} {rows : List (List Int)} {hs : List Value} {v : Value} (h : PoolOk m w B 24 3 (.int .i64) rows none hs) (hv : hs[0]? = some v) (hn : 0 < rows.length) : ∃ g c, v = .slice (some ⟨g, 0, none⟩) rows.length c /\ Pl w B rows.length g c hs.tail rows := by
  have hlen : hs.length = rows.length + 1 := h.len
  obtain ⟨cs, hc1, hc2⟩ := h.head
  have e0 : hs.getD 0 undef = v := by rw [List.getD_eq_getElem?_getD, hv]; rfl
  rw [e0] at hc1
  have hc1 : w.ownsRow B 24 1 v rows.length cs := hc1
  obtain ⟨A, c, rfl, k1, k2, k3⟩ := qv5 hc1
  obtain ⟨g, rfl, _, _⟩ := k3 hn
  have hcl : cs.length = rows.length := by have := hc1.1; omega
  have hcs : cs = hs.tail := by
    apply List.ext_getElem (by simp; omega)
    intro i h1 h2
    have h3 := (hc2 i i (by show (List.range rows.length)[i]? = some i; rw [List.getElem?_range (by omega)])).2
    rw [List.getElem?_eq_getElem h1, List.getElem?_eq_getElem (by omega)] at h3
    rw [Option.some.inj h3]
    simp
  rw [hcs] at hc1
  have htl : ∀ p, hs.tail[p]? = hs[p + 1]? := fun p => by simp
  refine ⟨g, c, rfl, hc1, ⟨by simp; omega, fun r hr => ?_⟩, fun i j u u' b hij hi hj hb1 hb2 => ?_⟩
  · obtain ⟨xs, q1, q2⟩ := h.row r hr
    have q2 : w.ownsRow B 3 1 (hs.getD (r + 1) undef) (nL rows r).length xs := q2
    rw [wd9 q1] at q2
    obtain ⟨A, c1, e, _⟩ := qv5 q2
    refine ⟨A, c1, ?_, by rw [e] at q2; exact q2⟩
    rw [htl, List.getElem?_eq_getElem (by omega)]
    rw [List.getD_eq_getElem?_getD, List.getElem?_eq_getElem (by omega)] at e
    exact congrArg some e
  · rw [htl] at hi hj
    exact h.apart (i + 1) (j + 1) u u' b (by omega) hi hj (qf1 hb1) (qf1 hb2)
theorem w93 {w : World} {m : View} {M : List (List Int)} {pix : List Int} {u1 u2 : Value} (hm : m.on w) (hp : w68 M pix) (h1 : 0 < M.length) (hu1 : Rd m qh5 M [u1]) (hu2 : Rd m qe1 pix [u2]) :
    Calls Try.prog 128 #[u1, u2] w fun e w' => ∃ g c vs, e = .returned (.slice (some ⟨g, 0, none⟩) M.length c) /\ Below w.heap.size w w' /\ Pl w' w.heap.size M.length g c vs (qn4 M pix) := by
  have hx : qu1 m [qh5, qe1] (M, pix, ()) [u1, u2] := ⟨u1, _, rfl, hu1, u2, [], rfl, hu2, rfl⟩
  have := w0c.2 w m (qh3 [qh5, qe1] (M, pix, ())) [u1, u2] (fun r => r = .dat (.list (.int .i64)) (qn4 M pix)) hm (qx7 hx).1 (q5j hx ⟨hp, rfl⟩)
  refine this.mono fun e w' ⟨v, m', e1, e2, e3, e4, e5⟩ => ?_
  obtain ⟨t, l, hs, q1, q2, q3⟩ := e5
  injection q1 with q1 q1'
  injection q1 with q1
  subst q1
  obtain rfl := eq_of_heq q1'
  obtain ⟨g, c, rfl, q5⟩ := w92 q3 q2 (by rw [qs2]; exact h1)
  rw [qs2] at e1 q5
  exact ⟨g, c, _, e1, e2, q5⟩
def qq0 (P : List Int) (n : Nat) : Bool := P.any fun j => j == (n : Int)
def qs9 (n : Nat) (d : List (List Int)) (P : List Int) : Nat -> List (Int × Int)
  | 0 => List.replicate n (0, 1)
  | i + 1 => (qs9 n d P i).set (nI P i).toNat (q9r (nI (nL d i) n) (nI (nL d i) (nI P i).toNat))
def svD (m : List (List Int)) (pix y : List Int) : List (List Int) := (qd2 (qc8 m pix y)).1
def svP (m : List (List Int)) (pix y : List Int) : List Int := (qd2 (qc8 m pix y)).2
def svR (m : List (List Int)) (pix y : List Int) : List (Int × Int) × Int × Bool := if qq0 (svP m pix y) pix.length = true then ([], 0, false) else (qs9 pix.length (svD m pix y) (svP m pix y) (svP m pix y).length, (pix.length : Int) - (svP m pix y).length, true)
theorem qs5 (n : Nat) (d : List (List Int)) (P : List Int) : ∀ i, (qs9 n d P i).length = n
  | 0 => by simp [qs9]
  | i + 1 => by rw [qs9, List.length_set, qs5 n d P i]
structure x1e (d : List (List Int)) (P : List Int) (n : Nat) : Prop where
  cnt : d.length = P.length
  lenP : P.length <= 1000
  each : ∀ k, k < d.length -> (nL d k).length = n + 1
  pv : ∀ k, k < P.length -> 0 <= nI P k /\ nI P k <= n
  nz : ∀ k, k < P.length -> nI (nL d k) (nI P k).toNat ≠ 0
  bigD : ∀ k, k < P.length -> qh4 BIG (nI (nL d k) (nI P k).toNat)
  bigN : ∀ k, k < P.length -> qh4 BIG (nI (nL d k) n)
structure xj3 (m : List (List Int)) (pix y : List Int) : Prop where
  one : 0 < m.length
  col : w68 m pix
  pl : pix.length <= 1000
  yl : y.length = m.length
  rd : xc3 (qc8 m pix y)
  ar : x1e (svD m pix y) (svP m pix y) pix.length
abbrev gSv (x : qa6 [qh5, qe1, qe1]) : AV := qn9 (qh3 [w9i, qf9, .bool] ((svR x.1 x.2.1 x.2.2.1).1, (svR x.1 x.2.1 x.2.2.1).2.1, (svR x.1 x.2.1 x.2.2.1).2.2, ()))
abbrev sSv : qc7 := q5e (q34 [qh5, qe1, qe1]) true (some 60) none (fun x => xj3 x.1 x.2.1 x.2.2.1) gSv
def w7f (m : List (List Int)) (pix y : List Int) (k : Nat) : List (List Int) := ovr (.list (.int .i64)) (nL (qc8 m pix y)) (qn4 m pix) k
theorem w4j (m : List (List Int)) (pix y : List Int) : w7f m pix y 0 = qn4 m pix := qq8 (.list (.int .i64)) _ _
theorem q1o (m : List (List Int)) (pix y : List Int) : (qc8 m pix y).length = m.length := qm4 _ _ _
theorem q7w (m : List (List Int)) (pix y : List Int) (k : Nat) (hk : k < m.length) : nL (qc8 m pix y) k = nL (qn4 m pix) k ++ [nI y k] := by
  rw [qj9 _ k (by rw [q1o]; exact hk), q4m m pix k hk]
  simp [qc8, qa9]
theorem w4k (m : List (List Int)) (pix y : List Int) (k : Nat) (hk : k < m.length) : nL (w7f m pix y k) k = nL (qn4 m pix) k := (q2n (.list (.int .i64)) _ _ _ _ (by rw [qs2]; exact hk)).trans (if_neg (Nat.lt_irrefl _))
theorem w4l (m : List (List Int)) (pix y : List Int) (k : Nat) (hk : k < m.length) : (w7f m pix y k).set k (nL (qn4 m pix) k ++ [nI y k]) = w7f m pix y (k + 1) := by
  rw [<- q7w m pix y k hk]
  exact qp2 (.list (.int .i64)) (nL (qc8 m pix y)) (qn4 m pix) k
theorem w7g (m : List (List Int)) (pix y : List Int) : w7f m pix y m.length = qc8 m pix y := by
  have h := qw8 (.list (.int .i64)) (nL (qc8 m pix y)) (qn4 m pix) m.length (by rw [qs2]; exact Nat.le_refl _)
  refine h.trans ?_
  apply List.ext_getElem (by simp [qs2, q1o])
  intro i h1 h2
  simp only [List.getElem_map, List.getElem_range]
  exact qj9 _ i h2
def x1f (pix : List Int) (d : List (List Int)) (P : List Int) : Nat -> Option Inv
  | 0 => some (Inv.of [13, 49] 1 (fun k : Nat => [(13, .own 0), (49, .lit (.int .i64 k))]) (fun k => [.vec 60 q6q (ovr q6q (fun _ => (0, 1)) (List.replicate pix.length (0, 0)) k)]) (fun k => k <= pix.length) (fun k => pix.length - k))
  | 1 => some (Inv.of [13, 59] 1 (fun k : Nat => [(13, .own 0), (59, .lit (.int .i64 k))]) (fun k => [.vec 60 q6q (qs9 pix.length d P k)]) (fun k => k <= P.length /\ ∀ i, i < k -> nI P i ≠ pix.length) (fun k => P.length - k))
  | _ => none
set_option maxRecDepth 100000 in
set_option maxHeartbeats 4000000 in
theorem wk3 {w : World} {m : View} {M : List (List Int)} {pix y : List Int} {u1 u2 : Value} {Ay : Option Addr} {cy : Nat} {k : AV -> Prop} (hm : m.on w) (hp : xj3 M pix y) (hu1 : Rd m qh5 M [u1]) (hu2 : Rd m qe1 pix [u2]) (hu3 : Rd m qe1 y [.slice Ay M.length cy]) (hk : k (gSv (M, pix, y, ()))) :
    Calls Try.prog 119 #[u1, u2, .slice Ay M.length cy] w (Eng.Left Try.prog sSv k m w) := by
  have hcol := w93 hm hp.col hp.one hu1 hu2
  have hy0 : SI w Ay M.length cy y := by
    obtain ⟨A, c, e, h⟩ := w9h hm hu3
    injection e with e1 e2 e3
    subst e1 e3
    rw [hp.yl] at h
    exact h
  have hn1 := hp.one
  have hn2 := hp.col.rows
  obtain ⟨n, hn⟩ : ∃ n, n = M.length := ⟨_, rfl⟩
  rw [<- hn] at hcol hy0 hn1 hn2 hu3 ⊢
  have HN := hidx hn
  clear hn
  refine callsIn_wide.1 (callsIn_of_wp_marks (F := Fence.wide) (n := 0) Try.func119 rfl trivial ?_)
  refine wpIn_wide.2 ?_
  simp only [Try.ntmps119, List.size_toArray, List.length_cons, List.length_nil, Nat.reduceAdd, Nat.reduceSub, Array.replicate_succ, Array.replicate_zero, List.push_toArray, List.append_toArray, List.nil_append, List.cons_append]
  go_wp2_with fail
  refine hcol.mono ?_
  rintro e w2 ⟨g, c, vs, rfl, hb2, hpl⟩
  have hy2 := hy0.below hb2
  go_wp2_with fail
  go_loopw [10, 22] (fun _ i wr => ∃ (q : Nat) (vs : List Value), q <= n /\ i = .int .i64 q /\ Pl wr w.heap.size n g c vs (w7f M pix y q) /\ Below w.heap.size w wr) (fun _ i _ => n - (intOf i).toNat)
  case atStart => exact ⟨0, vs, Nat.zero_le _, rfl, by rw [w4j]; exact hpl, hb2⟩
  case round =>
    obtain ⟨q, vs, hq, rfl, hP, hb⟩ := hrel
    by_cases hlt : q < n
    · obtain ⟨hvl, hrl⟩ := hP.len
      have hqM : q < M.length := by have := HN.out; omega
      obtain ⟨A1, c1, hvq, hvo⟩ := hP.rows.2 q (by omega)
      have hrow : nthL (w7f M pix y q) q = nL (qn4 M pix) q := w4k M pix y q hqM
      rw [hrow] at hvq hvo
      have hcell := wg7 hP.head q hlt _ hvq
      rw [add_zero_lit] at hcell
      have hy := hy0.below hb
      obtain ⟨ady, rfl, hyc⟩ := hy.at_ hn1
      have hyq := hyc q hlt
      obtain ⟨len, hlen⟩ : ∃ len, len = (nL (qn4 M pix) q).length := ⟨_, rfl⟩
      rw [<- hlen] at hvq hvo hcell
      obtain ⟨l, hl⟩ : ∃ l, l = nL (qn4 M pix) q := ⟨_, rfl⟩
      rw [<- hl] at hvo hlen
      have hlen2 : len <= 1000 := by rw [hlen, hl, q4m M pix q hqM, ql7]; exact hp.pl
      obtain ⟨yq, hyqe⟩ : ∃ yq, yq = nth y q := ⟨_, rfl⟩
      rw [<- hyqe] at hyq
      have hsz : w.heap.size <= wr.heap.size := hb.size
      have hcellD : wr.drew.cell? ⟨g, q, none⟩ = some (.slice A1 len c1) := hcell
      have hcellA : ∀ o, (wr.drew.alloc o).cell? ⟨g, q, none⟩ = some (.slice A1 len c1) := fun o => Below.cell_of (below_alloc wr.drew o) hcellD
      have hyqD : wr.drew.cell? (ady.add q) = some (.int .i64 yq) := hyq
      have hvoD : wr.drew.ownsRow w.heap.size 3 1 (.slice A1 len c1) len (ints l) := wd8 hvo fun _ _ => rfl
      have hszD : w.heap.size <= wr.drew.heap.size := hsz
      have hPD : Pl wr.drew w.heap.size n g c vs (w7f M pix y q) := hP.below ⟨rfl, rfl, rfl, Nat.le_refl _, fun _ _ => rfl⟩
      have Harm : ∀ w3, wr.drew.grownBy w3 (Value.slice A1 len c1).ownBlock -> w3.cell? ⟨g, q, none⟩ = some (.slice A1 len c1) /\ w3.frozen? ⟨g, q, none⟩ = false := by
        intro w3 hg3
        have hh : w3.ownsRow w.heap.size 24 1 (.slice (some ⟨g, 0, none⟩) n c) n vs := wd8 hPD.head fun b hbb => by
          obtain ⟨_, cur, h2⟩ := ql9 hPD.head hbb
          refine hg3.block b (Array.getElem?_eq_some_iff.1 h2).1 fun e => ?_
          obtain ⟨_, cur2, h3⟩ := ql9 hvoD e.symm
          rw [h2] at h3
          injection h3 with h3
          injection h3 with _ h3
          exact absurd h3 (by decide)
        have hg4 := wg7 hh q hlt _ hvq
        rw [add_zero_lit] at hg4
        exact ⟨hg4, hh.frozenAt q⟩
      have hcellB : ∀ o, (wr.alloc o).cell? ⟨g, q, none⟩ = some (.slice A1 len c1) := fun o => Below.cell_of (below_alloc wr o) hcell
      have HL := hidx hlen
      have HL2 := hidx hl
      have HY := hidx hyqe
      have HP := hidx hP
      have HPD := hidx hPD
      have Harm := hidx Harm
      have HB := hidx hb
      have i1 : (0:Int) <= q := by omega
      have i2 : (q:Int) < n := by omega
      clear hlen hl hyqe hqM hP hPD hb hvo hcol hy2 hpl hb2 hyc hy hy0 hvl hrl hrow
      go_wp2
      refine Code.wp_mono (fun _ _ _ h => w7e h) ?_
      go_region_law (refine w0p xv3 rfl (by rfl) _ _ (by rfl) (by rfl) (by rfl) hvoD hszD (by rfl) (by omega) (by omega) ?_; intro A2 c2 w3 hv3 hg3 hbk3; obtain ⟨hg4, hz4⟩ := Harm.out _ hg3)
      all_goals
        refine w4i ?_
        go_wp2
        go_roundw
        case rel =>
          have hnl : nL (w7f M pix y q) q = l := by rw [HL2.out]; exact w4k M pix y q (by have := HN.out; omega)
          have hlen := HL.out
          obtain ⟨s1, s2⟩ := HPD.out.step (l := l) hlt hvq hnl yq (by rw [hlen]) (by rw [<- w0y, <- hlen]; exact hv3) hg3 hbk3
          have hgb := (ql9 HPD.out.head (b := g) rfl).1
          have hbD : Below w.heap.size w wr.drew := ⟨HB.out.os, HB.out.tape, HB.out.output, HB.out.size, HB.out.block⟩
          refine ⟨q + 1, vs.set q (.slice A2 (len + 1) c2), hlt, by go_num, ?_, (hbD.grown hg3 hszD fun k hk => (ql9 hvoD hk).1).grown s2 (by have := hg3.size; omega) fun k hk => by obtain rfl := Option.some.inj hk; exact hgb⟩
          have e := w4l M pix y q (by have := HN.out; omega)
          rw [<- e, <- HL2.out]
          have e2 : yq = nI y q := HY.out
          rw [<- e2]
          exact s1
        case measure => simp [intOf]; omega
    · have hqn : q = n := by omega
      subst hqn
      rename_i hK
      have HK := hidx hK
      clear hK
      go_wp2
      refine HK.out _ _ ?_
      refine (wpIn_wide (n := 0)).1 ?_
      have hmw : m.cells.on wr := fun b o hbb => View.on_below hm hb b o (View.cells_le m b o hbb)
      have hfr : (View.from wr w.heap.size).on wr := View.from_on _ _
      refine w2z (C := ctx [(145, sRd), (146, xv4)]) (snd (SpecsOk.cons w69 (SpecsOk.cons w34 (SpecsOk.nil _)))) rfl (iv := x1f pix (svD M pix y) (svP M pix y)) (i := 0) (A := q34 [qh5, qe1, qe1]) (fresh := true) (own := some 60) (deep := none) (g := gSv) (x := (M, pix, y, ())) (m0 := m.cells.or (View.from wr w.heap.size)) (ρ := []) (s := ⟨[(1, .dat (.int .i64) pix), (9, .dat (.list (.int .i64)) (qc8 M pix y))], fun _ => .any, []⟩) hk hm (by kernel_rfl) rfl ?_ ?_
      · refine ⟨fun i => ?_, rfl, fun v hv => by simp at hv, trivial, fun g => by cases g <;> trivial, fun g g' v v' b _ l1 => ?_, View.or_on hmw hfr, View.le_or, fun b o hbb => ?_, q8a.2 hb, fun g v b l1 => ?_, fun g v hv _ => by simp [base0] at hv⟩
        · match i with
          | 1 => exact Rd.cle (View.cle_trans (View.cells_cle m) View.le_or.cle) hu2
          | 9 =>
            have h1 := hP.rd
            rw [HN.out, w7g] at h1
            rw [HN.out]
            exact Rd.le (View.or_le hmw hfr) h1
          | 0 => exact ⟨_, rfl⟩
          | 2 => exact ⟨_, rfl⟩
          | 3 => exact ⟨_, rfl⟩
          | 4 => exact ⟨_, rfl⟩
          | 5 => exact ⟨_, rfl⟩
          | 6 => exact ⟨_, rfl⟩
          | 7 => exact ⟨_, rfl⟩
          | 8 => exact ⟨_, rfl⟩
          | i + 10 => exact ⟨_, rfl⟩
        · cases g <;> cases l1
        · unfold View.or at hbb
          cases hmb : m.cells b with
          | some o' => rw [hmb] at hbb; exact .inl hbb
          | none =>
            rw [hmb] at hbb
            unfold View.from at hbb
            simp only at hbb
            split at hbb
            · rename_i hge; exact .inr ⟨hge, fun h => by have h : b < w.heap.size := h; omega⟩
            · cases hbb
        · cases g <;> cases l1
      · refine qd7 (B := xc3 (qc8 M pix y)/\((↑(List.length pix):Int)=(↑(List.length pix):Int)/\(0:Int) <= (↑(List.length pix):Int)/\(↑(List.length pix):Int) <= (1000000:Int))/\∃ (v0:Unit),∃ (v1:Nat),Nat.le v1 (List.length pix)/\((True/\(0:Int)=(↑v1:Int)/\True)/\List.replicate (Int.toNat (↑(List.length pix):Int)) (Ty.dflt (TI.ty T60))=ovr q6q (fun (v2:Nat) => ((0 : Ty.den (Ty.int .i64)),(1 : Ty.den (Ty.int .i64)))) (List.replicate (List.length pix) ((0 : Ty.den (Ty.int .i64)),(0 : Ty.den (Ty.int .i64)))) v1/\True)/\∀ (v2:Nat),Nat.le v2 (List.length pix)->(decide ((↑v2:Int) < (↑(List.length (List.replicate (Int.toNat (↑(List.length pix):Int)) (Ty.dflt (TI.ty T60)))):Int))=true->((0:Int) <= (↑v2:Int)/\(↑v2:Int) < (↑(List.length (ovr q6q (fun (v5:Nat) => ((0 : Ty.den (Ty.int .i64)),(1 : Ty.den (Ty.int .i64)))) (List.replicate (List.length pix) ((0 : Ty.den (Ty.int .i64)),(0 : Ty.den (Ty.int .i64)))) v2)):Int))/\Int.toNat (↑v2:Int) < List.length (ovr q6q (fun (v5:Nat) => ((0 : Ty.den (Ty.int .i64)),(1 : Ty.den (Ty.int .i64)))) (List.replicate (List.length pix) ((0 : Ty.den (Ty.int .i64)),(0 : Ty.den (Ty.int .i64)))) v2)/\fits .i64 ((↑v2:Int) + (1:Int))/\∃ (v5:Nat),Nat.le v5 (List.length pix)/\List.length pix - v5 < List.length pix - v2/\(True/\(↑v2:Int) + (1:Int)=(↑v5:Int)/\True)/\List.set (ovr q6q (fun (v6:Nat) => ((0 : Ty.den (Ty.int .i64)),(1 : Ty.den (Ty.int .i64)))) (List.replicate (List.length pix) ((0 : Ty.den (Ty.int .i64)),(0 : Ty.den (Ty.int .i64)))) v2) (Int.toNat (↑v2:Int)) ((0:Int),(1:Int))=ovr q6q (fun (v6:Nat) => ((0 : Ty.den (Ty.int .i64)),(1 : Ty.den (Ty.int .i64)))) (List.replicate (List.length pix) ((0 : Ty.den (Ty.int .i64)),(0 : Ty.den (Ty.int .i64)))) v5/\True)/\(decide ((↑v2:Int) < (↑(List.length (List.replicate (Int.toNat (↑(List.length pix):Int)) (Ty.dflt (TI.ty T60)))):Int))=false->∃ (v5:Unit),∃ (v6:Nat),(v6 <= List.length (svP M pix y)/\∀ (v7:Nat),Nat.le (Nat.succ v7) v6->nI (svP M pix y) v7=(↑(List.length pix):Int)->False)/\((True/\(0:Int)=(↑v6:Int)/\True)/\ovr q6q (fun (v7:Nat) => ((0 : Ty.den (Ty.int .i64)),(1 : Ty.den (Ty.int .i64)))) (List.replicate (List.length pix) ((0 : Ty.den (Ty.int .i64)),(0 : Ty.den (Ty.int .i64)))) v2=qs9 (List.length pix) (svD M pix y) (svP M pix y) v6/\True)/\∀ (v7:Nat),(v7 <= List.length (svP M pix y)/\∀ (v9:Nat),Nat.le (Nat.succ v9) v7->nI (svP M pix y) v9=(↑(List.length pix):Int)->False)->(decide ((↑v7:Int) < (↑(List.length (Prod.snd (qd2 (qc8 M pix y)))):Int))=true->((0:Int) <= (↑v7:Int)/\(↑v7:Int) < (↑(List.length (Prod.snd (qd2 (qc8 M pix y)))):Int))/\((qa1 (Ty.int .i64) (Prod.snd (qd2 (qc8 M pix y))) (Int.toNat (↑v7:Int)) == (↑(List.length pix):Int))=true->Prod.fst (svR M pix y)=[]/\(0:Int)=Prod.fst (Prod.snd (svR M pix y))/\false=Prod.snd (Prod.snd (svR M pix y))/\True)/\((qa1 (Ty.int .i64) (Prod.snd (qd2 (qc8 M pix y))) (Int.toNat (↑v7:Int)) == (↑(List.length pix):Int))=false->((0:Int) <= (↑v7:Int)/\(↑v7:Int) < (↑(List.length (Prod.fst (qd2 (qc8 M pix y)))):Int))/\((0:Int) <= (↑(List.length pix):Int)/\(↑(List.length pix):Int) < (↑(List.length (qa1 (Ty.list (Ty.int .i64)) (Prod.fst (qd2 (qc8 M pix y))) (Int.toNat (↑v7:Int)))):Int))/\((0:Int) <= (↑v7:Int)/\(↑v7:Int) < (↑(List.length (Prod.fst (qd2 (qc8 M pix y)))):Int))/\((0:Int) <= qa1 (Ty.int .i64) (Prod.snd (qd2 (qc8 M pix y))) (Int.toNat (↑v7:Int))/\qa1 (Ty.int .i64) (Prod.snd (qd2 (qc8 M pix y))) (Int.toNat (↑v7:Int)) < (↑(List.length (qa1 (Ty.list (Ty.int .i64)) (Prod.fst (qd2 (qc8 M pix y))) (Int.toNat (↑v7:Int)))):Int))/\(((-4000000000000000000:Int) <= qa1 (Ty.int .i64) (qa1 (Ty.list (Ty.int .i64)) (Prod.fst (qd2 (qc8 M pix y))) (Int.toNat (↑v7:Int))) (Int.toNat (↑(List.length pix):Int))/\qa1 (Ty.int .i64) (qa1 (Ty.list (Ty.int .i64)) (Prod.fst (qd2 (qc8 M pix y))) (Int.toNat (↑v7:Int))) (Int.toNat (↑(List.length pix):Int)) <= BIG)/\((-4000000000000000000:Int) <= qa1 (Ty.int .i64) (qa1 (Ty.list (Ty.int .i64)) (Prod.fst (qd2 (qc8 M pix y))) (Int.toNat (↑v7:Int))) (Int.toNat (qa1 (Ty.int .i64) (Prod.snd (qd2 (qc8 M pix y))) (Int.toNat (↑v7:Int))))/\qa1 (Ty.int .i64) (qa1 (Ty.list (Ty.int .i64)) (Prod.fst (qd2 (qc8 M pix y))) (Int.toNat (↑v7:Int))) (Int.toNat (qa1 (Ty.int .i64) (Prod.snd (qd2 (qc8 M pix y))) (Int.toNat (↑v7:Int)))) <= BIG)/\qa1 (Ty.int .i64) (qa1 (Ty.list (Ty.int .i64)) (Prod.fst (qd2 (qc8 M pix y))) (Int.toNat (↑v7:Int))) (Int.toNat (qa1 (Ty.int .i64) (Prod.snd (qd2 (qc8 M pix y))) (Int.toNat (↑v7:Int)))) ≠ (0 : Ty.den qf9))/\((0:Int) <= qa1 (Ty.int .i64) (Prod.snd (qd2 (qc8 M pix y))) (Int.toNat (↑v7:Int))/\qa1 (Ty.int .i64) (Prod.snd (qd2 (qc8 M pix y))) (Int.toNat (↑v7:Int)) < (↑(List.length (qs9 (List.length pix) (svD M pix y) (svP M pix y) v7)):Int))/\Int.toNat (qa1 (Ty.int .i64) (Prod.snd (qd2 (qc8 M pix y))) (Int.toNat (↑v7:Int))) < List.length (qs9 (List.length pix) (svD M pix y) (svP M pix y) v7)/\fits .i64 ((↑v7:Int) + (1:Int))/\∃ (v11:Nat),(v11 <= List.length (svP M pix y)/\∀ (v12:Nat),Nat.le (Nat.succ v12) v11->nI (svP M pix y) v12=(↑(List.length pix):Int)->False)/\List.length (svP M pix y) - v11 < List.length (svP M pix y) - v7/\(True/\(↑v7:Int) + (1:Int)=(↑v11:Int)/\True)/\List.set (qs9 (List.length pix) (svD M pix y) (svP M pix y) v7) (Int.toNat (qa1 (Ty.int .i64) (Prod.snd (qd2 (qc8 M pix y))) (Int.toNat (↑v7:Int)))) (Prod.fst (q9r (qa1 (Ty.int .i64) (qa1 (Ty.list (Ty.int .i64)) (Prod.fst (qd2 (qc8 M pix y))) (Int.toNat (↑v7:Int))) (Int.toNat (↑(List.length pix):Int))) (qa1 (Ty.int .i64) (qa1 (Ty.list (Ty.int .i64)) (Prod.fst (qd2 (qc8 M pix y))) (Int.toNat (↑v7:Int))) (Int.toNat (qa1 (Ty.int .i64) (Prod.snd (qd2 (qc8 M pix y))) (Int.toNat (↑v7:Int)))))),Prod.snd (q9r (qa1 (Ty.int .i64) (qa1 (Ty.list (Ty.int .i64)) (Prod.fst (qd2 (qc8 M pix y))) (Int.toNat (↑v7:Int))) (Int.toNat (↑(List.length pix):Int))) (qa1 (Ty.int .i64) (qa1 (Ty.list (Ty.int .i64)) (Prod.fst (qd2 (qc8 M pix y))) (Int.toNat (↑v7:Int))) (Int.toNat (qa1 (Ty.int .i64) (Prod.snd (qd2 (qc8 M pix y))) (Int.toNat (↑v7:Int)))))))=qs9 (List.length pix) (svD M pix y) (svP M pix y) v11/\True))/\(decide ((↑v7:Int) < (↑(List.length (Prod.snd (qd2 (qc8 M pix y)))):Int))=false->fits .i64 ((↑(List.length pix):Int) - (↑(List.length (Prod.snd (qd2 (qc8 M pix y)))):Int))/\qs9 (List.length pix) (svD M pix y) (svP M pix y) v7=Prod.fst (svR M pix y)/\(↑(List.length pix):Int) - (↑(List.length (Prod.snd (qd2 (qc8 M pix y)))):Int)=Prod.fst (Prod.snd (svR M pix y))/\true=Prod.snd (Prod.snd (svR M pix y))/\True))) (by kernel_rfl) ?_
        try simp only [z0,z1,z2,z3,z4,z5,z6,z7,z8,z9,z10,Int.reduceEq,z11,z12,z13,z14,z15,z16,z17,z18,z19,z20,z21,z22,z23,z24,z25,z26,z27,z28,z29,z30,Int.reduceLE,Int.reduceLT,z31,z32,z33,z34,qa3]
        try simp only [qb4, qb5, qc9, List.set_cons_zero, List.cons.injEq, and_true, true_and]
        have hz : ∀ k, (ovr q6q (fun _ => (0, 1)) (List.replicate pix.length (0, 0)) k).length = pix.length := fun k => by rw [qo5]; simp
        have hol : ∀ k, (qs9 pix.length (svD M pix y) (svP M pix y) k).length = pix.length := qs5 _ _ _
        have har := hp.ar
        have hpl := hp.pl
        have hcnt := har.cnt
        have hPl := har.lenP
        simp only [show (qd2 (qc8 M pix y)).snd = svP M pix y from rfl, show (qd2 (qc8 M pix y)).fst = svD M pix y from rfl, List.length_replicate, hz, hol]
        have hR : svR M pix y = if qq0 (svP M pix y) pix.length = true then ([], 0, false) else (qs9 pix.length (svD M pix y) (svP M pix y) (svP M pix y).length, (pix.length : Int) - (svP M pix y).length, true) := rfl
        refine ⟨hp.rd, by omega, (), 0, Nat.zero_le _, ⟨rfl, (qq8 q6q _ _).symm⟩, fun i hi => ⟨fun hlt => ⟨hlt, hlt, qa8 (by omega) (by omega), i + 1, hlt, by omega, by omega, qp2 q6q (fun _ => (0, 1)) _ _⟩, fun hge => ?_⟩⟩
        obtain rfl : i = pix.length := by omega
        refine ⟨(), 0, ⟨Nat.zero_le _, fun j hj => absurd hj (by omega)⟩, ⟨rfl, ?_⟩, ?_⟩
        · refine (qw8 q6q (fun _ => (0, 1)) _ _ (by simp)).trans ?_
          rw [List.length_replicate, qs9]
          apply List.ext_getElem (by simp)
          intro j h1 h2
          simp
        rintro i ⟨hi, hno⟩
        refine ⟨fun hlt => ⟨hlt, fun he => ?_, fun he => ?_⟩, fun hge => ?_⟩
        · have : qq0 (svP M pix y) pix.length = true := by
            unfold qq0
            rw [List.any_eq_true]
            exact ⟨nI (svP M pix y) i, by rw [qi1 _ i hlt]; exact List.getElem_mem _, beq_iff_eq.2 he⟩
          rw [hR, if_pos this]
          exact ⟨rfl, rfl, rfl⟩
        · have h1 := har.pv i hlt
          have h2 := har.each i (by omega)
          have h3 := har.nz i hlt
          have h4 := har.bigD i hlt
          have h5 := har.bigN i hlt
          unfold BIG at h4 h5 ⊢
          have h6 : nI (svP M pix y) i < pix.length := Int.lt_iff_le_and_ne.2 ⟨h1.2, he⟩
          have h7 : (nI (svP M pix y) i).toNat < pix.length := by have := h1.1; omega
          have h8 : nI (svP M pix y) i < ((nL (svD M pix y) i).length : Int) := by omega
          refine ⟨by omega, by omega, by omega, ⟨h1.1, h8⟩, ⟨h5, h4, h3⟩, ⟨h1.1, h6⟩, h7, qa8 (by omega) (by omega), i + 1, ⟨hlt, fun j hj => ?_⟩, by omega, by omega, rfl⟩
          by_cases e : j = i
          · subst e; exact he
          · exact hno j (by omega)
        · obtain rfl : i = (svP M pix y).length := by omega
          have : qq0 (svP M pix y) pix.length ≠ true := by
            intro h
            unfold qq0 at h
            rw [List.any_eq_true] at h
            obtain ⟨x, hx, he⟩ := h
            obtain ⟨j, hj, rfl⟩ := List.getElem_of_mem hx
            rw [<- qi1 _ j hj] at he
            exact hno j hj (beq_iff_eq.1 he)
          rw [hR, if_neg this]
          exact ⟨qa8 (by omega) (by omega), rfl, rfl, rfl⟩
theorem we0 : qd6 Try.prog 119 sSv := by
  refine ⟨⟨_, _, Try.func119, rfl, rfl⟩, fun w m args vs k hm hargs hrun => ?_⟩
  obtain ⟨⟨M, pix, y, ⟨⟩⟩, ⟨hp, hk⟩, hx⟩ := qr9 hrun hargs
  have hp : xj3 M pix y := hp
  obtain ⟨u1, us, rfl, h1, u2, us2, rfl, h2, u3, us3, rfl, h3, h4⟩ := hx
  obtain rfl : us3 = [] := h4
  obtain ⟨A, c, e, hSI⟩ := w9h hm (show Rd m (.list (.int .i64)) y [u3] from h3)
  rw [hp.yl] at e
  subst e
  exact wk3 hm hp h1 h2 h3 hk
end Go.Proofs.Ytdibdlelmkcccaa
