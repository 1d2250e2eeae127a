/- The mask's coherence: contracts by the engine. No condition. -/
import Derived.Test.YtempacilejhbgaaGreatKM7
import Derived.Test.YtempacilejhbgaaGreatOwn
import Derived.Test.YtempacilejhbgaaGreatApp
import Derived.Test.YtempacilejhbgaaGreatTys
import Derived.Test.YtempacilejhbgaaGreatEng3
import Derived.Test.YtempacilejhbgaaGreatV4
namespace Go.Proofs.YtempacilejhbgaaGreat.K
open Go.RowKit Ls
def FokT (P:Program) (g:Nat) (lb:Array Value) (n pix:Nat) (f:Nat->Nat->Int) (w:World):Prop:=
 (∀args W,(callFunc g args).run P W=.ok (.enter g args) W) /\
 ∀(i j:Nat) (W:World),i<n->j<pix->Below w.heap.size w W->Calls P g (#[.int .i64 i,.int .i64 j]++lb) W λe W'=>e=.returned (.int .i64 (f i j))/\Below W.heap.size W W'
theorem FokT.later {P:Program} {g:Nat} {lb:Array Value} {n pix:Nat} {f:Nat->Nat->Int} {w w':World} (h:FokT P g lb n pix f w) (hb:Below w.heap.size w w'):FokT P g lb n pix f w':=
 ⟨h.1,λi j W hi hj hW=>h.2 i j W hi hj (step_trans hb hW)⟩
def w9c (f:Nat->Nat->Int) (pix i:Nat):List Int:=(List.range pix).map (f i)
def wh0 (f:Nat->Nat->Int) (pix n:Nat):List (List Int):=(List.range n).map (w9c f pix)
theorem xi9 (f:Nat->Nat->Int) (pix i:Nat):(w9c f pix i).length=pix:=by simp[w9c]
theorem w82 (f:Nat->Nat->Int) (j i:Nat):w9c f (j+1) i=w9c f j i++[f i j]:=by simp[w9c,List.range_succ]
theorem w4c (f:Nat->Nat->Int) (pix i:Nat):wh0 f pix (i+1)=wh0 f pix i++[w9c f pix i]:=by simp[wh0,List.range_succ]
def w83 (n:Nat):List Value:=List.replicate n (.slice none 0 0)
def SMF (w:World) (B:Nat) (A:Option Addr) (n c:Nat) (rs:List (List Int)):Prop:=
 rs.length=n/\n<=c/\c<=maxLen/\(0<n->∃ad,A=some ad/\B<=ad.block/\∀k,k<n->∃A' c',w.cell? (ad.add k)=some (.slice A' (nthL rs k).length c')/\SI w A' (nthL rs k).length c' (nthL rs k)/\∀a',A'=some a'->B<=a'.block)
theorem SMF.sm {w:World} {B:Nat} {A:Option Addr} {n c:Nat} {rs:List (List Int)} (h:SMF w B A n c rs):SM w A n c rs:=
 ⟨h.1,h.2.1,h.2.2.1,λhn=>by
  obtain⟨ad,e,_,hc⟩:=h.2.2.2 hn
  exact⟨ad,e,λk hk=>by obtain⟨A',c',h1,h2,_⟩:=hc k hk; exact⟨A',c',h1,h2⟩⟩⟩
theorem SMF.base {w:World} {B B':Nat} {A:Option Addr} {n c:Nat} {rs:List (List Int)} (h:SMF w B A n c rs) (hB:B'<=B):SMF w B' A n c rs:=
 ⟨h.1,h.2.1,h.2.2.1,λhn=>by
  obtain⟨ad,e,h0,hc⟩:=h.2.2.2 hn
  exact⟨ad,e,Nat.le_trans hB h0,λk hk=>by obtain⟨A',c',h1,h2,h3⟩:=hc k hk; exact⟨A',c',h1,h2,λa' e=>Nat.le_trans hB (h3 a' e)⟩⟩⟩
theorem SMF.nil (w:World) (B:Nat):SMF w B none 0 0 []:=⟨rfl,Nat.le_refl _,by unfold maxLen; omega,λh=>absurd h (by omega)⟩
theorem xv3 {w:World} {B e e' n:Nat} {A:Option Addr} {c:Nat} {vs:List Value} {rs:List (List Int)} (h:w.ownsRow B e' 1 (.slice A n c) n vs) (hr:RowsOwn w B e vs rs):SMF w B A n c rs:=by
 have hl:vs.length=n:=by have:=h.1; omega
 have hb:∀{e size n c:Nat} {A:Option Addr} {xs:List Value},w.ownsRow B e size (.slice A n c) n xs->∀a,A=some a->B<=a.block:=by
  intro e size n c A xs ho a ea
  rcases ho.2 with⟨h0,_⟩ | ⟨g,cap,cur,hv,hB,_⟩
  ·injection h0 with h0; rw[h0] at ea; cases ea
  ·injection hv with hv; rw[hv] at ea; obtain rfl:=Option.some.inj ea; exact hB
 obtain⟨A',c',hv,h1,h2,h3⟩:=qx2 h
 injection hv with e1 e2 e3
 subst e1; subst e3
 refine⟨by rw[<- hr.1]; exact hl,h1,h2,λhn=>?_⟩
 obtain⟨g,rfl,_,_⟩:=h3 hn
 refine⟨_,rfl,hb h _ rfl,λk hk=>?_⟩
 obtain⟨A1,c1,h4,h5⟩:=hr.2 k (by rw[<- hr.1,hl]; exact hk)
 exact⟨A1,c1,h.cells (g:=g) rfl k _ h4,wx7 h5,hb h5⟩
set_option maxRecDepth 100000 in
set_option maxHeartbeats 2000000 in
theorem w4d (A:Option Addr) (n c pix g:Nat) (lb:Array Value) (m:List (List Int)) (f:Nat->Nat->Int) (w:World) (hm:SM w A n c m) (hn:n<=10) (hp:pix<=20)
  (hf:FokT Tryz.prog g lb n pix f w) :
  Calls Tryz.prog 117 #[.slice A n c,.int .i64 pix,.func (.func g) #[] lb] w λe w'=>∃A' c',e=.returned (.slice A' n c')/\SMF w' w.heap.size A' n c' (wh0 f pix n)/\Below w.heap.size w w':=by
 have hmn:=hm.nmax
 have eg:=hf.1
 have Hf:=hidx hf.2
 clear hf hm
 go_enter Tryz.func117,Tryz.ntmps117
 go_wp2_with (at_make; refine x2e x2d rfl rfl _ _ rfl n rfl rfl (by omega) (by omega) ?_; intro w1 hown1 hb1 hlt1)
 go_loopw [8,9,15] (λ_ _ i wr=>∃(k:Nat) (vs:List Value),k<=n/\i=.int .i64 k/\vs.length=k/\RowsOwn wr w.heap.size 3 vs (wh0 f pix k) /\
   wr.ownsRow w.heap.size 24 1 (.slice (some ⟨w.heap.size,0,none⟩) n n) n (vs++w83 (n-k))/\Below w.heap.size w wr/\w.heap.size<wr.heap.size) (λ_ _ i _=>n-(intOf i).toNat)
 case atStart=>exact⟨0,[],Nat.zero_le _,rfl,rfl,RowsOwn.nil _ _ _,hown1,hb1,hlt1⟩
 case round=>
  obtain⟨k,vs,hk,rfl,hvs,hrows,hout,hb,hlt⟩:=hrel
  have Hvs:=hidx hvs
  clear hvs hown1 hb1 hlt1
  by_cases hkn:k<n
  ·go_wp2
   obtain⟨wo,rfl⟩:∃wo:World,wo=wr:=⟨_,rfl⟩
   have hlto:=hlt
   go_loopw [9,19] (λ_ j wr=>∃(q:Nat) (A':Option Addr) (c':Nat),q<=pix/\j=.int .i64 q/\wr.ownsRow wo.heap.size 3 1 (.slice A' q c') q (ints (w9c f q k)) /\
     wr.ownsRow w.heap.size 24 1 (.slice (some ⟨w.heap.size,0,none⟩) n n) n (vs++.slice A' q c' :: w83 (n-k-1))/\Below w.heap.size w wr/\w.heap.size<wr.heap.size/\KeepsT 3 wo wr/\wo.heap.size<=wr.heap.size) (λ_ j _=>pix-(intOf j).toNat)
   case atStart=>
    have e1:w83 (n-k)=.slice none 0 0 :: w83 (n-k-1):=by
     unfold w83; rw[show n-k=(n-k-1)+1 by omega,List.replicate_succ]; simp
    rw[e1] at hout
    exact⟨0,none,0,Nat.zero_le _,rfl,World.ownsRow_nil _ _ _ _,hout,hb,hlt,KeepsT.refl _ _,Nat.le_refl _⟩
   case round=>
    obtain⟨q,A',c',hq,rfl,hv,hout,hb,hlt,hkeep,hsz⟩:=hrel
    by_cases hqp:q<pix
    ·have hcell:=wr1 hout k hkn (.slice A' q c') (by rw[<- Hvs.out]; simp)
     rw[add_zero_lit] at hcell
     have hcall:=Hf.out k q wr.drew hkn hqp hb.drew
     have HS:=hidx (w82 f q k)
     have i1:(0:Int)<=k:=by omega
     have i2:(k:Int)<n:=by omega
     go_wp2
     have harm:∀w2,Below wr.drew.heap.size wr.drew w2->Below wr.heap.size wr w2/\w2.cell? ⟨w.heap.size,k,none⟩=some (.slice A' q c')/\(∀o,(w2.alloc o).cell? ⟨w.heap.size,k,none⟩=some (.slice A' q c'))/\w.heap.size<w2.heap.size /\
       w2.ownsRow w.heap.size 24 1 (.slice (some ⟨w.heap.size,0,none⟩) n n) n (vs++.slice A' q c' :: w83 (n-k-1))/\w2.ownsRow wo.heap.size 3 1 (.slice A' q c') q (ints (w9c f q k))/\wo.heap.size<=w2.heap.size:=λw2 hb2'=>by
      have hb2:=q5w hb2'
      have hc2:=Below.cell_of hb2 hcell
      exact⟨hb2,hc2,λo=>Below.cell_of (below_alloc w2 o) hc2,Nat.lt_of_lt_of_le hlt hb2.size,own_below hout hb2,own_below hv hb2,Nat.le_trans hsz hb2.size⟩
     have harm3:∀w2 w3:World,w2.ownsRow w.heap.size 24 1 (.slice (some ⟨w.heap.size,0,none⟩) n n) n (vs++.slice A' q c' :: w83 (n-k-1))->Below wo.heap.size w2 w3 ->
       w3.ownsRow w.heap.size 24 1 (.slice (some ⟨w.heap.size,0,none⟩) n n) n (vs++.slice A' q c' :: w83 (n-k-1))/\w3.cell? ⟨w.heap.size,k,none⟩=some (.slice A' q c')/\w3.frozen? ⟨w.heap.size,k,none⟩=false:=λw2 w3 ho hb3=>by
      have hout3:=w4j ho hb3 hlto
      have hg3:=wr1 hout3 k hkn (.slice A' q c') (by rw[<- Hvs.out]; simp)
      rw[add_zero_lit] at hg3
      exact⟨hout3,hg3,hout3.frozenAt k⟩
     have Harm:=hidx harm
     have Harm3:=hidx harm3
     clear harm harm3
     go_region_law (first
       | (go_simp; go_at_fn g; refine hcall.mono ?_; rintro e w2 ⟨rfl,hb2'⟩; obtain⟨hb2,hcell2,hcell3,hlt2,hout2,hv2,hsz2⟩:=Harm.out _ hb2')
       | (refine w17 x5p rfl (by rfl) _ _ (by rfl) (by rfl) (by rfl) hv2 (Below.refl wo.heap.size w2) hsz2 (by rfl) (by omega) (by omega) ?_; intro A2 c2 w3 hv3 hb3 _ hc2 hc2'; obtain⟨hout3,hg3,hz3⟩:=Harm3.out _ _ hout2 hb3))
     all_goals
      go_wp2
      go_roundw
      case rel=>
       have hst:=hout3.stored k (.slice A2 (q+1) c2)
       have hset:(vs++Value.slice A' q c' :: w83 (n-k-1)).set k (.slice A2 (q+1) c2)=vs++Value.slice A2 (q+1) c2 :: w83 (n-k-1):=by
        rw[<- Hvs.out]; simp
       rw[hset] at hst
       have hk3:KeepsT 3 wo w3:=(hkeep.under (hb2.mono hsz)).under hb3
       refine⟨q+1,A2,c2,by omega,by go_num,ownsRow_setCell_below (by rw[HS.out,<- w4i]; exact hv3) hlto _,hst.1,?_,?_,hk3.trans (KeepsT.stored (by decide) hout3 hst.2),?_⟩
       ·exact((hb.trans (hb2.mono hb.size)).trans (hb3.mono (by omega))).setCell (Nat.le_refl _) _
       ·have:=hb3.size; have:=hb2.size; simp at *; omega
       ·have:=hb3.size; have:=hb2.size; simp at *; omega
      case measure=>simp[intOf]; omega
    ·have hqq:q=pix:=by omega
     subst hqq
     go_wp2
     go_roundw
     case rel=>
      refine⟨k+1,vs++[.slice A' q c'],by omega,by go_num,by simp[Hvs.out],?_,by rw[show n-(k+1)=n-k-1 by omega]; simpa using hout,hb,hlt⟩
      rw[w4c]
      exact(hrows.keep hkeep).snoc (xi9 _ _ _) (own_base hv (Nat.le_of_lt hlto))
     case measure=>simp[intOf]; omega
  ·have hkk:k=n:=by omega
   subst hkk
   go_wp2
   go_ret
   refine⟨_,_,rfl,xv3 (by simpa[w83] using hout) hrows,hb⟩
set_option maxHeartbeats 1000000 in
theorem xj0 (n:Nat) (w:World) (h0:0<n) (hn:n<=1000) :
  Calls Tryz.prog 147 #[.slice none 0 0,.int .i64 n] w λe w'=>∃A' c',e=.returned (.slice A' 0 c')/\w'.ownsRow w.heap.size 24 1 (.slice A' 0 c') 0 []/\Below w.heap.size w w':=by
 obtain⟨i,hi,hz0,hz1,hz2⟩:=info_parts x2d.info
 have hrun:=λty=>Lib.run_append_nil_zeros (P:=Tryz.prog) w 23 3 ty 24 i (.slice none 0 0) .i64 .i64 x2d.under Tryz.underlying3 hi hz0 n h0 (by omega) (by omega) (by rw[hz2]; omega)
 have hrow:=w61 w (e:=24) (z:=.slice none 0 0) (n:=n) rfl (by omega)
 have hge:=grownCap_ge w n 0 24
 have Hrun:=hidx hrun
 have Hrow:=hidx hrow
 clear hrun hrow hi hz0 hz1 hz2
 have h1:(0:Int)<n:=by omega
 go_enter Tryz.func147,Tryz.ntmps147
 go_wp2_with (at_builtin; refine Lib.wpList_append_run _ rfl _ _ _ _ rfl _ _ rfl rfl _ _ (Hrun.out _) ?_)
 go_ret
 refine⟨_,_,rfl,Hrow.out,?_⟩
 exact((Below.refl _ w).drew.alloc (Nat.le_refl _) _)
def qi3:List (List (List Int))->Nat
 | []=>0
 | a :: l=>a.length+qi3 l
theorem q72 (l:List (List (List Int))) (a:List (List Int)):qi3 (l++[a])=qi3 l+a.length:=by
 induction l with
 | nil=>simp[qi3]
 | cons b l ih=>simp only[List.cons_append,qi3,ih]; omega
theorem q73 (l:List (List (List Int))) (k:Nat) (h:k<l.length):l.take (k+1)=l.take k++[wr0 l k]:=by
 rw[List.take_succ_eq_append_getElem h]; simp[wr0,h]
theorem q74 (l:List (List (List Int))) (k:Nat):qi3 (l.take k)<=qi3 l:=by
 induction l generalizing k with
 | nil=>simp[qi3]
 | cons a l ih=>cases k with
  | zero=>simp[qi3]
  | succ k=>simp only[List.take_succ_cons,qi3]; have:=ih k; omega
set_option maxRecDepth 100000 in
set_option maxHeartbeats 2000000 in
theorem w4e (A:Option Addr) (n c:Nat) (l:List (List (List Int))) (w:World) (h:S3 w A n c l) (h0:0<qi3 l) (h1:qi3 l<=1000) :
  Calls Tryz.prog 116 #[.slice A n c] w λe w'=>∃A' c',e=.returned (.slice A' (qi3 l) c')/\SM w' A' (qi3 l) c' l.flatten/\Below w.heap.size w w':=by
 have hmn:=h.nmax
 have hl:=hidx h.len
 have hg:=λW=>xj0 (qi3 l) W h0 h1
 have Hg:=hidx hg
 clear hg
 go_enter Tryz.func116,Tryz.ntmps116
 go_wp2_with fail
 go_loop [3,5,11] (λs _ i=>∃k:Nat,k<=n/\i=.int .i64 k/\s=.int .i64 (qi3 (l.take k))) (λ_ _ i=>n-(intOf i).toNat)
 case atStart=>exact⟨0,Nat.zero_le _,rfl,rfl⟩
 case round=>
  obtain⟨k,hk,rfl,rfl⟩:=hrel
  by_cases hlt:k<n
  ·obtain⟨ad,rfl,hca⟩:=h.at_ (by omega)
   obtain⟨A1,c1,h2,h3⟩:=hca k hlt
   have hst:qi3 (l.take (k+1))=qi3 (l.take k)+(wr0 l k).length:=by rw[q73 l k (by have:=hl.out; omega),q72]
   have hle:=q74 l (k+1)
   have hm3:=h3.nmax
   have b1:qi3 (l.take k)+(wr0 l k).length<=1000:=by omega
   have Hst:=hidx hst
   clear hca h h3 hst hle
   go_wp2
   go_round
   case rel=>exact⟨k+1,by omega,by go_num,xm8 (by rw[Hst.out]; omega)⟩
   case measure=>simp[intOf]; omega
  ·have hkk:k=n:=by omega
   subst hkk
   have hall:qi3 (l.take k)=qi3 l:=by rw[List.take_of_length_le (by have:=hl.out; omega)]
   rw[hall]
   clear hall
   go_wp2_with (go_at_call 147; refine(Hg.out _).mono ?_; rintro e w1 ⟨A1,c1,rfl,hown1,hb1⟩)
   go_loopw [6,8,27] (λs _ i wr=>∃(q:Nat) (A':Option Addr) (c':Nat) (us:List Value),q<=k/\i=.int .i64 q/\s=.slice A' (qi3 (l.take q)) c'/\wr.ownsRow w.heap.size 24 1 (.slice A' (qi3 (l.take q)) c') (qi3 (l.take q)) us/\RowsRead w us (l.take q).flatten/\Below w.heap.size w wr) (λ_ _ i _=>k-(intOf i).toNat)
   case atStart=>exact⟨0,A1,c1,[],Nat.zero_le _,rfl,rfl,hown1,⟨rfl,λr hr=>absurd hr (by simp)⟩,hb1⟩
   case round=>
    obtain⟨q,A',c',us,hq,rfl,rfl,hown,hread,hb⟩:=hrel
    by_cases hlt2:q<k
    ·obtain⟨ad,rfl,hca⟩:=h.at_ (by omega)
     obtain⟨A2,c2,h2w,h3⟩:=hca q hlt2
     obtain⟨vs,svw,rr⟩:=h3.values
     have h2:=Below.cell_of hb h2w
     have sv:=svw.below hb
     clear h2w svw
     have hst:qi3 (l.take (q+1))=qi3 (l.take q)+(wr0 l q).length:=by rw[q73 l q (by have:=hl.out; omega),q72]
     have hfl:(l.take (q+1)).flatten=(l.take q).flatten++wr0 l q:=by rw[q73 l q (by have:=hl.out; omega)]; simp
     have hle:=q74 l (q+1)
     have b1:qi3 (l.take q)+(wr0 l q).length<1000000:=by omega
     have Hst:=hidx hst
     have Hfl:=hidx hfl
     have o1:=xd0 rr
     clear hca h h3 hst hle hfl hown1 hb1
     go_wp2_with (at_builtin; refine x77 _ x2d rfl rfl _ _ rfl rfl rfl hown hb (Nat.le_refl _) sv o1 b1 (by omega) ?_; intro A3 c3 w3 hown3 hb3 hg3)
     go_roundw
     case rel=>exact⟨q+1,A3,c3,us++vs,by omega,by go_num,by rw[Hst.out],by rw[Hst.out]; exact hown3,by rw[Hfl.out]; exact hread.append rr,hb3⟩
     case measure=>simp[intOf]; omega
    ·have hqq:q=k:=by omega
     subst hqq
     have hall:qi3 (l.take q)=qi3 l:=by rw[List.take_of_length_le (by have:=hl.out; omega)]
     have hall2:l.take q=l:=List.take_of_length_le (by have:=hl.out; omega)
     rw[hall] at hown
     rw[hall2] at hread
     have Hall:=hidx hall
     clear hall hall2
     go_wp2
     go_ret
     rw[Hall.out]
     exact⟨_,_,rfl,xr7 hown (hread.below hb),hb⟩
def qj9 (m:List (List Int)) (i:Int):Int:=if validB m then(if inB i 0 (m.length-1) then(if m.length=1 then 8 else 0) else 5) else 1
def qq0 (m:List (List Int)) (i:Int):List (List Int):=if qj9 m i=0 then m.take i.toNat++m.drop (i.toNat+1) else[]
theorem q9z {m:List (List Int)} {i:Int} (h:qj9 m i=0):IsMask m/\0<=i/\i<m.length/\m.length≠1:=by
 unfold qj9 at h
 split at h
 ·rename_i ha
  split at h
  ·rename_i hb
   split at h
   ·omega
   ·rename_i h1
    rw[inB_iff] at hb
    exact⟨IsMask.of ha,hb.1,by omega,h1⟩
  ·omega
 ·omega
theorem xj1 (m:List (List Int)) (pix:Nat) (h:∀k,k<m.length->(nthL m k).length=pix):wh0 (λi j=>nth (nthL m i) j) pix m.length=m:=by
 apply List.ext_getElem (by simp[wh0])
 intro i h1 h2
 simp only[wh0,List.getElem_map,List.getElem_range,w9c]
 have hi:=h i h2
 rw[q5u m i h2] at hi
 apply List.ext_getElem (by simp[hi])
 intro j h3 h4
 simp only[List.getElem_map,List.getElem_range]
 rw[q5u m i h2,xj3 _ _ h4]
set_option maxHeartbeats 400000 in
theorem wx4 (B:Nat) (A:Option Addr) (n c pix:Nat) (m:List (List Int)) (w:World) (hB:w.cell? ⟨B,0,none⟩=some (.slice A n c)) (hm:SM w A n c m) (hp:∀k,k<n->(nthL m k).length=pix) :
  FokT Tryz.prog 118 #[.pointer (some ⟨B,0,none⟩)] n pix (λi j=>nth (nthL m i) j) w:=by
 refine⟨(enters_of Tryz.func118 (by kernel_rfl) rfl),λi j W hi hj hW=>?_⟩
 have hc:=Below.cell_of hW hB
 have hmx:=hm.nmax
 obtain⟨ad,rfl,hca⟩:=(hm.below hW).at_ (by omega)
 obtain⟨A2,c2,h1,h2⟩:=hca i hi
 have hl:=hp i hi
 obtain⟨ad2,rfl,hcb⟩:=h2.at_ (by omega)
 have h3:=hcb j (by omega)
 have hj2:j<(nthL m i).length:=by omega
 have hm2:=h2.nmax
 clear hca hcb h2 hm hB hl hp
 go_enter Tryz.func118,Tryz.ntmps118
 go_wp2
 go_ret
 exact⟨rfl,Below.refl _ _⟩
theorem w14 {w:World} {A:Option Addr} {n c:Nat} {m:List (List Int)} (h:SM w A n c m) (p:Addr) (hp:w.cell? p=some (.slice none 0 0)) (h1:∀k,k<n->(nthL m k).length≠0) (v:Value):SM (w.setCell p v) A n c m:=by
 refine⟨h.1,h.2.1,h.2.2.1,λhn=>?_⟩
 obtain⟨ad,rfl,hc⟩:=h.at_ hn
 refine⟨ad,rfl,λk hk=>?_⟩
 obtain⟨A',c',h2,h3⟩:=hc k hk
 refine⟨A',c',?_,h3.1,h3.2.1,h3.2.2.1,λhn'=>?_⟩
 ·rw[World.cell?_setCell_other]
  ·exact h2
  ·rintro rfl; rw[hp] at h2; simp at h2; exact h1 k hk h2.2.1.symm
 ·obtain⟨ad',rfl,hc'⟩:=h3.at_ hn'
  refine⟨ad',rfl,λj hj=>?_⟩
  rw[World.cell?_setCell_other]
  ·exact hc' j hj
  ·rintro rfl; have h5:=hc' j hj; rw[hp] at h5; simp at h5
set_option maxRecDepth 100000 in
set_option maxHeartbeats 4000000 in
theorem wx5 (A:Option Addr) (n c i:Nat) (m:List (List Int)) (w:World) (hm:SM w A n c m) (hE:qj9 m i=0) :
  Calls Tryz.prog 87 #[.slice A n c,.int .i64 i] w λe w'=>∃A' c',e=.returned (.tuple #[.slice A' (qq0 m i).length c',.int .i64 (qj9 m i)])/\SMF w' w.heap.size A' (qq0 m i).length c' (qq0 m i)/\Below w.heap.size w w':=by
 have hmn:=hm.nmax
 obtain⟨hM,_,hi,hn1⟩:=q9z hE
 have hv:validB m=true:=by unfold qj9 at hE; split at hE <;> first | assumption | omega
 have hR:qq0 m i=m.take i++m.drop (i+1):=by unfold qq0; rw[if_pos hE]; simp
 have hl:=hm.len
 have hr6:=hM.rows6
 have hin:i<n:=by omega
 have hcap:=hm.cap
 have hcm:=hm.max
 have hpx:=hM.pix10
 have hp1:=hM.pix1
 have hlen:(m.take i++m.drop (i+1)).length=n-1:=by simp; omega
 rw[hR,hlen,hE]
 have hsl:qi3 [m.take i,m.drop (i+1)]=n-1:=by simp[qi3]; omega
 have hfl:[m.take i,m.drop (i+1)].flatten=m.take i++m.drop (i+1):=by simp
 have cc:=λX W h=>w4e X 2 2 [m.take i,m.drop (i+1)] W h (by rw[hsl]; omega) (by rw[hsl]; omega)
 rw[hsl,hfl] at cc
 have hlens:∀j,j<n-1->(nthL (m.take i++m.drop (i+1)) j).length=(nthL m 0).length:=λj hj=>by
  by_cases hlt:j<(m.take i).length
  ·rw[q63 _ _ j hlt]
   have e:nthL (m.take i) j=nthL m j:=by
    have:j<i:=by simp at hlt; omega
    simp[nthL,this]
   rw[e]; exact hM.each j (by omega)
  ·rw[q4k _ _ j (by omega)]
   have e:nthL (m.drop (i+1)) (j-(m.take i).length)=nthL m (i+1+(j-(m.take i).length)):=by simp[nthL]
   rw[e]; refine hM.each _ ?_
   simp; simp at hlt; omega
 have hid:wh0 (λi' j=>nth (nthL (m.take i++m.drop (i+1)) i') j) (nthL m 0).length (n-1)=m.take i++m.drop (i+1):=by
  have:=xj1 (m.take i++m.drop (i+1)) (nthL m 0).length (λj hj=>hlens j (by rw[hlen] at hj; exact hj))
  rw[hlen] at this
  exact this
 have hm0:∀W,SM W A n c m->∃ad A0 c0,A=some ad/\W.cell? ad=some (.slice A0 (nthL m 0).length c0):=λW hm=>by
  obtain⟨ad,rfl,hca⟩:=hm.at_ (by omega)
  obtain⟨A0,c0,h0,_⟩:=hca 0 (by omega)
  rw[add_zero] at h0
  exact⟨ad,A0,c0,rfl,h0⟩
 have f1:∀W t,SM W A n c m->S3 (W.alloc (.cells #[.slice A i c,.slice (if c=i+1 then A else Option.map (λx=>{ block:=x.block,off:=x.off+(i+1) }) A) (n-(i+1)) (c-(i+1))] t)) (some ⟨W.heap.size,0,none⟩) 2 2 [m.take i,m.drop (i+1)]:=λW t h=>
  S3.new2 t (h.take i (by omega)) (by simpa[Addr.add] using h.drop (i+1) (by omega))
 have Cc:=hidx cc
 have Hlens:=hidx hlens
 have Hid':=hidx hid
 have Hm0:=hidx hm0
 have F1:=hidx f1
 have hq1:inB (i:Int) 0 ((n:Int)-1)=true:=by rw[inB_iff]; omega
 have hq2:((n:Int)==1)=false:=by simp; omega
 have i0:(0:Int)<=i:=by omega
 have i1:(i:Int)<n:=by omega
 have i2:(n:Int)<=c:=by omega
 have i3:(i:Int)<=c:=by omega
 have i4:(i:Int)+1<=n:=by omega
 have i5:(0:Int)<=(i:Int)+1:=by omega
 have i6:IntKind.i64.wrap ((i:Int)+1)=(i:Int)+1:=by rw[IntKind.wrap_i64]; omega
 have n6:n<=6:=by omega
 have n0:0<n:=by omega
 clear hE hR hlen cc hsl hfl hlens hid hm0 f1 hl hM hi hn1 hr6
 go_enter Tryz.func87,Tryz.ntmps87
 go_wp2_with fail
 refine(q3v A n c m _ hm).mono ?_
 rintro e w1 ⟨rfl,hb1⟩
 have hm1:=hm.below hb1
 clear hm
 go_wp2_with fail
 refine(qn8 _ _ _ _).mono ?_
 rintro e w2 ⟨rfl,rfl⟩
 go_wp2_with fail
 go_cut [6] (λs6 wx=>∃(B:Nat) (A4:Option Addr) (c4:Nat),s6=.pointer (some ⟨B,0,none⟩)/\wx.cell? ⟨B,0,none⟩=some (.slice A4 (n-1) c4)/\SM wx A4 (n-1) c4 (m.take i++m.drop (i+1))/\Below w1.heap.size w1 wx)
 case first=>
  obtain⟨two,htwo⟩:∃two:Obj,two=.cells #[.slice A i c,.slice (if c=i+1 then A else Option.map (λx=>{ block:=x.block,off:=x.off+(i+1) }) A) (n-(i+1)) (c-(i+1))] 23:=⟨_,rfl⟩
  obtain⟨box,hbox⟩:∃box:Obj,box=.cells #[.slice none 0 0] 23:=⟨_,rfl⟩
  have sa:S3 (w1.alloc two).drew (some ⟨w1.heap.size,0,none⟩) 2 2 [m.take i,m.drop (i+1)]:=by
   rw[htwo]; exact(F1.out w1 23 hm1).below (Below.refl _ _).drew
  have sb:S3 ((w1.alloc two).alloc box).drew (some ⟨w1.heap.size,0,none⟩) 2 2 [m.take i,m.drop (i+1)]:=by
   rw[htwo]; exact(F1.out w1 23 hm1).below (below_alloc _ _).drew
  have sc:S3 ((w1.alloc box).alloc two).drew (some ⟨w1.heap.size+1,0,none⟩) 2 2 [m.take i,m.drop (i+1)]:=by
   have:=(F1.out (w1.alloc box) 23 (hm1.below (below_alloc _ _))).below (Below.refl _ _).drew
   rw[World.size_alloc] at this
   rw[htwo]; exact this
  have hbk:∀(W:World) (g:Nat),W.heap[g]? = some (.cells #[.slice none 0 0] 23 (0,0))->∀w4,Below W.drew.heap.size W.drew w4->w4.cell? ⟨g,0,none⟩=some (.slice none 0 0)/\w4.frozen? ⟨g,0,none⟩=false:=λW g hg w4 hb4=>by
   have hlt:=(Array.getElem?_eq_some_iff.1 hg).1
   have h4:w4.heap[g]? = some (.cells #[.slice none 0 0] 23 (0,0)):=(hb4.block g hlt).trans hg
   exact⟨by rw[cell_of_row _ _ _ _ _ _ h4]; rfl,frozen_of_row _ _ _ _ _ h4⟩
  have fb:∀w4,Below ((w1.alloc two).alloc box).drew.heap.size ((w1.alloc two).alloc box).drew w4->w4.cell? ⟨w1.heap.size+1,0,none⟩=some (.slice none 0 0)/\w4.frozen? ⟨w1.heap.size+1,0,none⟩=false:=by
   have h1:=heap_alloc_new (w1.alloc two) box
   rw[World.size_alloc] at h1
   exact hbk _ _ (by rw[h1,hbox])
  have fc:∀w4,Below ((w1.alloc box).alloc two).drew.heap.size ((w1.alloc box).alloc two).drew w4->w4.cell? ⟨w1.heap.size,0,none⟩=some (.slice none 0 0)/\w4.frozen? ⟨w1.heap.size,0,none⟩=false:=by
   have h1:=heap_alloc_new w1 box
   have h2:=Below.heap_alloc (w1.alloc box) two w1.heap.size (by simp)
   exact hbk _ _ (by rw[h2]; rw[h1,hbox])
  have Sa:=hidx sa
  have Sb:=hidx sb
  have Sc:=hidx sc
  have Fb:=hidx fb
  have Fc:=hidx fc
  clear sa sb sc fb fc
  subst htwo hbox
  go_region_law (first
   | (go_simp; go_at_call 116; (with_reducible refine(Cc.out _ _ Sa.out).mono ?_); rintro e w4 ⟨A4,c4,rfl,hs4,hb4⟩)
   | (go_simp; go_at_call 116; (with_reducible refine(Cc.out _ _ Sb.out).mono ?_); rintro e w4 ⟨A4,c4,rfl,hs4,hb4⟩; obtain⟨hxa,hxb⟩:=Fb.out _ hb4)
   | (go_simp; go_at_call 116; (with_reducible refine(Cc.out _ _ Sc.out).mono ?_); rintro e w4 ⟨A4,c4,rfl,hs4,hb4⟩; obtain⟨hxa,hxb⟩:=Fc.out _ hb4))
  all_goals generalize(if c=i+1 then A else Option.map (λx=>({ block:=x.block,off:=x.off+(i+1) }:Addr)) A)=X
  all_goals go_wp2_with fail
  all_goals go_meet
  ·exact⟨_,A4,c4,rfl,by simp,(hs4.below (below_alloc _ _)),((below_alloc w1 _).trans ((q5w hb4).mono (by simp))).alloc (by have:=hb4.size; simp at this; omega) _⟩
  ·exact⟨_,A4,c4,rfl,World.cell?_setCell_same' _ _ _ (by rw[hxa]; rfl),w14 hs4 _ hxa (λk hk=>by rw[Hlens.out k hk]; omega) _,((step_trans (below_alloc w1 _) (below_alloc _ _)).trans ((q5w hb4).mono (by simp; omega))).setCell (by simp) _⟩
  ·exact⟨_,A4,c4,rfl,World.cell?_setCell_same' _ _ _ (by rw[hxa]; rfl),w14 hs4 _ hxa (λk hk=>by rw[Hlens.out k hk]; omega) _,((step_trans (below_alloc w1 _) (below_alloc _ _)).trans ((q5w hb4).mono (by simp; omega))).setCell (Nat.le_refl _) _⟩
 case rest=>
  obtain⟨B,A4,c4,rfl,hbx,hs4,hbw4⟩:=hcut
  have hm4:=hm1.below hbw4
  obtain⟨ad,A0,c0,rfl,h04⟩:=Hm0.out _ hm4
  have hbox:=wx4 B A4 (n-1) c4 (nthL m 0).length _ wc hbx hs4 Hlens.out
  have hcop:=w4d A4 (n-1) c4 (nthL m 0).length _ _ _ _ wc.drew (hs4.below (Below.refl _ _).drew) (by omega) (by omega) (hbox.later (Below.refl _ _).drew)
  rw[Hid'.out] at hcop
  have Hcop:=hidx hcop
  clear hcop hbox
  go_wp2_with fail
  go_region_held3 (λw'=>w'.cell? ⟨B,0,none⟩=some (.slice A4 (n-1) c4)/\w'.cell? ad=some (.slice A0 (nthL m 0).length c0)) (first | go_keep | exact⟨hbx,h04⟩ | exact⟨Below.cell_of (q5w hb5) hbx,Below.cell_of (q5w hb5) h04⟩)
   (first | (go_at_call 117; refine Hcop.out.mono ?_; rintro e w5 ⟨A5,c5,rfl,hs5,hb5⟩))
  go_wp2
  go_ret2
  exact⟨A5,c5,rfl,hs5.base (Nat.le_trans hb1.size (Nat.le_trans hbw4.size (Below.refl wc.heap.size wc).drew.size)),step_trans hb1 (step_trans hbw4 (q5w hb5))⟩
set_option maxHeartbeats 1000000 in
theorem without_any (A:Option Addr) (n c:Nat) (i:Int) (m:List (List Int)) (w:World) (hm:SM w A n c m) :
  Calls Tryz.prog 87 #[.slice A n c,.int .i64 i] w λe w'=>∃A' c',e=.returned (.tuple #[.slice A' (qq0 m i).length c',.int .i64 (qj9 m i)])/\SMF w' w.heap.size A' (qq0 m i).length c' (qq0 m i)/\Below w.heap.size w w':=by
 by_cases hE:qj9 m i=0
 ·obtain⟨_,h0,_,_⟩:=q9z hE
  obtain⟨k,rfl⟩:=Int.eq_ofNat_of_zero_le h0
  exact wx5 A n c k m w hm hE
 ·have hR:qq0 m i=[]:=by unfold qq0; rw[if_neg hE]
  rw[hR]
  have hmn:=hm.nmax
  have hl:=hm.len
  have Hl:=hidx hl
  cases hv:validB m with
  | false=>
   have e1:qj9 m i=1:=by unfold qj9; rw[hv]; rfl
   rw[e1]
   clear hE e1 hR hl
   go_enter Tryz.func87,Tryz.ntmps87
   go_wp2_with (go_at_call 49; refine(q3v _ n c m _ hm).mono ?_; rintro e w1 ⟨rfl,hb1⟩; clear hm)
   go_ret2
   exact⟨none,0,rfl,SMF.nil _ _,hb1⟩
  | true=>
   have hr1:=(IsMask.of hv).rows1
   have hn1:1<=n:=by omega
   cases hq:inB i 0 ((n:Int)-1) with
   | false=>
    have e1:qj9 m i=5:=by unfold qj9; rw[hv,hl,hq]; rfl
    rw[e1]
    clear hE e1 hR hl hr1
    go_enter Tryz.func87,Tryz.ntmps87
    go_wp2_with (first
     | (go_at_call 49; refine(q3v _ n c m _ hm).mono ?_; rintro e w1 ⟨rfl,hb1⟩; clear hm)
     | (go_at_call 90; refine(qn8 _ _ _ _).mono ?_; rintro e w2 ⟨rfl,rfl⟩))
    go_ret2
    exact⟨none,0,rfl,SMF.nil _ _,hb1⟩
   | true=>
    have hn:n=1:=by
     unfold qj9 at hE; rw[hv,hl,hq] at hE; simp at hE; exact hE
    subst hn
    have e1:qj9 m i=8:=by unfold qj9; rw[hv,hl,hq]; rfl
    rw[e1]
    clear hE e1 hR hl hr1
    have hq':inB i 0 0=true:=by simpa using hq
    go_enter Tryz.func87,Tryz.ntmps87
    go_wp2_with (first
     | (go_at_call 49; refine(q3v _ 1 c m _ hm).mono ?_; rintro e w1 ⟨rfl,hb1⟩; clear hm)
     | (go_at_call 90; refine(qn8 _ _ _ _).mono ?_; rintro e w2 ⟨rfl,rfl⟩))
    go_ret2
    exact⟨none,0,rfl,SMF.nil _ _,hb1⟩
end Go.Proofs.YtempacilejhbgaaGreat.K
set_option linter.unusedVariables false
set_option linter.unusedSimpArgs false
namespace Go.Proofs.YtempacilejhbgaaGreat.K
open Go Go.RowKit Eng Ls
abbrev tInt:Ty:=.int .i64
abbrev tInts:Ty:=.list (.int .i64)
abbrev tMask:Ty:=.list (.list (.int .i64))
def ctx (specs:List (Nat × qb9)) (wr:List Nat):Ctx:={ specs:=specs,tys:=tys,wr:=wr }
theorem snd {specs:List (Nat × qb9)} (h:SpecsOk Tryz.prog specs) (wr:List Nat):Sound Tryz.prog (ctx specs wr):=SpecsOk.sound h q3f (by kernel_rfl)
def rowP (i n:Nat):List (Nat × Nat):=(List.range n).map λd=>(i,i+1+d)
def prs (p:Nat):Nat->List (Nat × Nat)
 | 0=>[]
 | i+1=>prs p i++rowP i (p-(i+1))
theorem mask_of {m:View} {w:World} (hm:m.on w) {l:List (List Int)} {v:Value} (h:RdV m tMask l v):∃A c,v=.slice A l.length c/\SM w A l.length c l:=by
 obtain⟨A,c,e,h2,h3,h4⟩:=h
 refine⟨A,c,(List.cons.inj e).1,rfl,h2,h3,λhn=>?_⟩
 obtain⟨ad,e2,h5⟩:=h4 hn
 refine⟨ad,e2,λk hk=>?_⟩
 obtain⟨cs,k1,k2⟩:=h5 k hk
 have hk1:=Rd.length k1
 obtain⟨z,rfl⟩:=List.length_eq_one_iff.1 hk1
 obtain⟨A',c',e3,hs⟩:=x2x hm k1
 have:=View.cell_on hm (k2 0 z rfl)
 simp only[Ty.size,Nat.mul_one,Nat.add_zero] at this
 subst e3
 exact⟨A',c',this,hs⟩
end Go.Proofs.YtempacilejhbgaaGreat.K
