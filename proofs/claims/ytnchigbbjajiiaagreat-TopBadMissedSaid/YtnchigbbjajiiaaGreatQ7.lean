/- The places of the greatest sizes: the walk of largest. No condition. -/
import Derived.Test.YtnchigbbjajiiaaGreatQ6
import Derived.Test.YtnchigbbjajiiaaGreatQLay
set_option linter.unusedVariables false
set_option linter.unusedSimpArgs false
namespace Go.Proofs.YtnchigbbjajiiaaGreat
open Go Go.Proofs Go.RowKit Eng Ls Go.Sort Go.Shelf
theorem View.none_ge {m:View} {w:World} (hm:m.on w) {b:Nat} (h:w.heap.size<=b):m b=none:=by
 cases hb:m b with
 | none=>rfl
 | some o=>have:=View.lt hm hb; omega
theorem x1n {w:World} {g e cap:Nat} {cur:Array Value} {zs:List Int} (hg:w.heap[g]? = some (.cells cur e (0,0))) (ht:cur.toList.take zs.length=zs.map wl9) (hl:zs.length<=1000) :
  Calls Tryz.prog 136 #[.slice (some ⟨g,0,none⟩) zs.length cap] w λe' w'=>e'=.returned (.tuple #[])/\Kept (λx=>x=g) w w'/\∃cur':Array Value,w'.heap[g]? = some (.cells cur' e (0,0))/\cur'.toList.take zs.length=(zs.mergeSort λx y=>decide (x<=y)).map wl9:=by
 have hblk:g<w.heap.size:=(zal.1 hg).1
 have hcur:∀j,j<zs.length->cur[j]? = some (wl9 zs[j]!):=λj hj=>by
  have h3:(cur.toList.take zs.length)[j]? = (zs.map wl9)[j]?:=by rw[ht]
  grind
 have hH:Holds wl9 w g 0 zs.toArray:=λj hj=>by
  simp_all [World.cell?,Nat.zero_add,World.frozen?]
 have h0:=AnyM.slices_Sort_int Tryz.sortI g 0 cap zs w hH hblk ow
 refine h0.mono λe' w' ⟨e1,n,os,e2⟩=>?_
 subst e1
 obtain⟨l,hle⟩:∃l,l=zs.mergeSort λx y=>decide (x<=y):=⟨_,rfl⟩
 have hll:l.length=zs.length:=by simp_all
 rw[<- hle] at e2 ⊢
 have hsz:(putRow wl9 (Sort.ahead w n) g 0 l.toArray).heap.size=w.heap.size:=by
  simp
 have hput:w'.heap[g]? = some (.cells (putCells wl9 0 l.toArray cur) e (0,0)):=by
  subst e2
  show((putRow wl9 (Sort.ahead w n) g 0 l.toArray).heap++os)[g]? = _
  rw[zb4 ow]
  simp only[putRow,mapBlock,Sort.ahead,Array.getElem?_modify,hg,if_true,Option.map_some,onCells]
 refine⟨rfl,⟨by subst e2; rfl,by simp_all,by subst e2; rfl,?_,λb hb=>?_⟩,_,hput,?_⟩
 ·simp_all
 ·subst e2
  show((putRow wl9 (Sort.ahead w n) g 0 l.toArray).heap++os)[b]? = _
  rw[zb4 ow]
  simp only[putRow,mapBlock,Sort.ahead,Array.getElem?_modify]
  grind
 ·apply zd3
  intro j
  rw[zct]
  grind [putCells,List.getElem?_eq_getElem,List.getElem?_eq_none]
theorem x7g {n:Nat} (hn:n<=100) (h1:1<=n) (w:World):Calls Tryz.prog 133 #[.int .i64 n] w λe w'=>∃b cap cur,e=.returned (.slice (some ⟨b,0,none⟩) n cap)/\Below w.heap.size w w'/\w.heap.size<=b/\w'.heap[b]? = some (.cells cur 3 (0,0))/\n<=cap/\cap<=maxLen/\cur.size=cap/\cur.toList.take n=(qq8 n).map wl9:=by
 have:=q8s.2 w (λb=>w.heap[b]?) (.cons (.lit (.int .i64 n)) .nil) [.int .i64 n] (λr=>r=.dat (.int .i64) (qq8 n)) (View.full_on w) ⟨_,_,rfl,rfl,rfl⟩ ⟨by grind,by rfl⟩
 refine this.mono λe w' ⟨v,m',e1,e2,_,_,e5⟩=>?_
 rcases e5 with⟨t,l,vs,k1,k2,k3,_⟩ | ⟨k1,_⟩ | ⟨t,l,vs,v1,rest,z,_,k1,_⟩
 ·injection k1 with k1 k1'
  subst k1
  obtain rfl:=zd4 k1'
  rw[qg8] at k2
  rcases k2.2 with⟨_,q⟩ | ⟨g,cap,cur,rfl,q2,q3,q4,q5,q6,q7⟩
  ·omega
  ·exact⟨g,cap,cur,e1,e2,q2,q3,q4,q5,by rw[q6]; exact zde _,by simp_all [Eng.rdL_ints,Ty.size,Nat.mul_one]⟩
 all_goals grind
theorem x7h {w:World} {g cap n bx:Nat} {cur:Array Value} {ad:Option Addr} {ch:Nat} {h:List Int} (hg:w.heap[g]? = some (.cells cur 3 (0,0))) (hn:n=h.length) (hc:n<=cap) (hm:cap<=maxLen) (hs:cur.size=cap) (ht:cur.toList.take n=(qq8 n).map wl9)
  (hbx:w.cell? ⟨bx,0,none⟩=some (.slice ad h.length ch)) (hne:bx≠g) (hh:HOk h) (hl:h.length<=19) {mh:View} (hmh:mh.on w) (hmg:mh g=none) (hrd:Rd mh (.list (.int .i64)) h [.slice ad h.length ch]) :
  Calls Tryz.prog 134 #[.slice (some ⟨g,0,none⟩) n cap,.func (.func 135) #[] #[.pointer (some ⟨bx,0,none⟩)]] w λe w'=>e=.returned (.tuple #[])/\Kept (λx=>x=g) w w'/\∃cur':Array Value,w'.heap[g]? = some (.cells cur' 3 (0,0))/\cur'.size=cap/\cur'.toList.take n=(insL (q65 h) (qq8 n)).map wl9:=by
 let m:View:=λb=>if b=g then none else w.heap[b]?
 have hmw:m.on w:=λb o hb=>by
  grind
 have hle:mh.le m:=λb o hb=>by
  show(if b=g then none else w.heap[b]?)=some o
  rw[zaj (λe=>by grind)]
  exact hmh b o hb
 have hcell:m.cell ⟨bx,0,none⟩=some (.slice ad h.length ch):=by
  have hmb:m bx=w.heap[bx]?:=zaj hne
  unfold View.cell
  rw[hmb]
  exact hbx
 let P2:qa3 [qc0,qc0]->Prop:=λx=>HOk h/\(0<=x.1/\x.1<h.length)/\0<=x.2.1/\x.2.1<h.length
 let F2:qa3 [qc0,qc0]->Int:=λx=>q65 h x.1 x.2.1
 have hfn:IsFn Tryz.prog m [qc0,qc0] qc0 P2 F2 (.func (.func 135) #[] #[.pointer (some ⟨bx,0,none⟩)]):=by
  refine xe4 (fs:=[(135,yh3)]) (SpecsOk.cons w8d (SpecsOk.nil _)) (v:=.clo 135 (.cons (.imm (.cons (.dat (.int .i64) h) .nil) 0) .nil)) ?_ ⟨[.pointer (some ⟨bx,0,none⟩)],rfl,_,[],rfl,⟨⟨bx,0,none⟩,[.slice ad h.length ch],rfl,⟨_,[],rfl,Rd.le hle hrd,rfl⟩,λj v hj=>?_⟩,rfl⟩
  ·rintro⟨x,y,⟨⟩⟩ hx
   exact⟨hx,rfl⟩
  ·match j,hj with
   | 0,hj=>
    obtain rfl:=zaa hj
    exact hcell
   | j+1,hj=>grind
 have hpool:PoolOk m w 0 0 3 (.int .i64) [qq8 n] (some []) [.slice none 0 0,.slice (some ⟨g,0,none⟩) n cap]:=by
  refine q7a ((Eng.rdL_ints (m:=m)).2 rfl) ⟨by rw[zay]; exact(zde _).symm,.inr ⟨g,cap,cur,by rw[qg8],zae _,hg,by grind [qg8],hm,by rw[hs]; exact(zde _).symm,by rw[qg8]; show cur.toList.take (n*1)=_; grind⟩⟩ λb hb=>?_
  have hb:some g=some b:=hb
  grind
 have hidx:∀x∈qq8 n,0<=x/\x<h.length:=λx hx=>by
  obtain⟨i,hi,rfl⟩:=za6.1 hx
  rw[qg8] at hi
  rw[<- qg5 _ _ ow,q5j _ _ hi]; omega
 refine(w8c.2 w m [.slice none 0 0,.slice (some ⟨g,0,none⟩) n cap] [qq8 n] (.cons (.fn [qc0,qc0] qc0 P2 F2) .nil) [.func (.func 135) #[] #[.pointer (some ⟨bx,0,none⟩)]] (λr l=>l=[insL (q65 h) (qq8 n)]/\r=.tup .nil) hmw hpool ⟨_,[],rfl,⟨_,rfl,hfn⟩,rfl⟩ ?_ (λ_=>rfl)).mono ?_
 ·refine⟨P2,F2,⟨rfl,rfl,HEq.rfl,HEq.rfl⟩,⟨?_,λx hx y hy=>⟨hh,hidx x hx,hidx y hy⟩⟩,rfl,rfl⟩
  show(qq8 n).length<=19
  grind [qg8]
 ·rintro e w' ⟨v,m',r,rows',hs',e1,e2,e3,e4,e5,e6,⟨rfl,rfl⟩,e8⟩
  obtain rfl:=q2e e5
  obtain⟨_,ys,y1,y2⟩:=q7b e6
  have hlen:(insL (q65 h) (qq8 n)).length=n:=by
   grind [insL,q2u,qg8]
  have y1:=(Eng.rdL_ints (m:=λ_=>none)).1 y1
  have y1:ys=(insL (q65 h) (qq8 n)).map wl9:=y1
  have y2:w'.ownsRow 0 3 1 (.slice (some ⟨g,0,none⟩) n cap) (insL (q65 h) (qq8 n)).length ys:=y2
  rw[hlen] at y2
  have e8:[v]=[.tuple #[]]:=by
   obtain⟨cs,c1,c2⟩:=e8
   have c2:cs=[]:=c2
   grind
  refine⟨by grind,e2.mono λx ⟨h1,h2⟩=>⟨h1,λhx=>h2 ?_⟩,?_⟩
  ·obtain⟨u,hu,hb⟩:=qe1.1 hx
   rcases zat.1 hu with rfl | hu
   ·cases hb
   ·obtain rfl:=zar.1 hu
    have hb:some g=some x:=hb
    grind
  ·rcases y2.2 with⟨q,_⟩ | ⟨g',cap',cur',q1,_,q3,q4,q5,q6,q7⟩
   all_goals grind
theorem xl1 {w:World} {g e cap n:Nat} {cur:Array Value} {zs:List Int} (hn:zs.length=n) (hg:w.heap[g]? = some (.cells cur e (0,0))) (ht:cur.toList.take n=zs.map wl9) (hl:n<=1000) :
  Calls Tryz.prog 136 #[.slice (some ⟨g,0,none⟩) n cap] w λe' w'=>e'=.returned (.tuple #[])/\Kept (λx=>x=g) w w'/\∃cur':Array Value,w'.heap[g]? = some (.cells cur' e (0,0))/\cur'.toList.take n=(zs.mergeSort λx y=>decide (x<=y)).map wl9:=by
 grind [x1n]
theorem w40 {h:List Int} {k:Nat} (hk:k<=h.length):(qi7 h k).length=k:=by
 grind [qi7,insL,List.length_mergeSort,List.length_take,q2u,qg8]
theorem x1o {h:List Int} {k:Nat} {ad:Option Addr} {ch:Nat} (hh:HOk h) (hl:h.length<=19) (h1:1<=h.length) (hk:k<=h.length) {w:World} {mh:View} (hmh:mh.on w) (hrd:Rd mh (.list (.int .i64)) h [.slice ad h.length ch]) :
  Calls Tryz.prog 86 #[.slice ad h.length ch,.int .i64 k] w λe w'=>∃b cur,e=.returned (.slice (some ⟨b,0,none⟩) k k)/\Below w.heap.size w w'/\w.heap.size<=b/\w'.heap[b]? = some (.cells cur 3 (0,0))/\cur.toList.take k=(qi7 h k).map wl9:=by
 have n0:(w.alloc (.cells #[.slice ad h.length ch] 24 (0,0))).cell? ⟨w.heap.size,0,none⟩=some (.slice ad h.length ch):=by simp
 have sz1:(w.alloc (.cells #[.slice ad h.length ch] 24 (0,0))).heap.size=w.heap.size+1:=Array.size_push ..
 have hil:(insL (q65 h) (qq8 h.length)).length=h.length:=by
  grind [insL,q2u,qg8]
 have hkc:∀cap:Nat,h.length<=cap->k<=cap:=λcap hc=>zam hk hc
 go_enter Tryz.func86,Tryz.ntmps86
 go_wp2_with (first
  | (go_at_call 133; refine(x7g ow h1 _).mono ?_; rintro e w1 ⟨b,cap,cur,rfl,hb1,hb2,hb3,hb4,hb5,hb6,hb7⟩)
  | (go_at_call 134; refine(x7h (mh:=mh) hb3 rfl hb4 hb5 hb6 hb7 (Below.cell_of hb1 n0) ow hh hl (View.on_below hmh (Ls.step_trans (Ls.below_alloc w _) hb1)) (View.none_ge hmh ow) hrd).mono ?_; rintro e w2 ⟨rfl,hK2,cur2,hc2,hs2,ht2⟩; have hk2:=hkc cap hb4)
  | (go_at_call 136; refine(xl1 (zs:=(insL (q65 h) (qq8 h.length)).take k) (by grind) hc2 (by grind [List.map_take,Nat.min_eq_left]) ow).mono ?_; rintro e w3 ⟨rfl,hK3,cur3,hc3,ht3⟩))
 go_ret
 have hB:Below w.heap.size w w1:=Ls.step_trans (Ls.below_alloc w _) hb1
 have hbb:w.heap.size<=b:=ow
 exact⟨b,cur3,rfl,⟨(hK3.os.trans hK2.os).trans hB.os,(hK3.tape.trans hK2.tape).trans hB.tape,(hK3.output.trans hK2.output).trans hB.output,zam hB.size (zam hK2.size hK3.size),λx hx=>((hK3.block x ⟨by grind,ow⟩).trans (hK2.block x ⟨by grind,ow⟩)).trans (hB.block x hx)⟩,hbb,hc3,ht3⟩
theorem wy8:Meets Tryz.prog 86 y42:=by
 refine⟨⟨_,_,Tryz.func86,rfl,rfl⟩,λw m args vs k hm hargs hrun=>?_⟩
 obtain⟨⟨(h:List Int),(kk:Int),⟨⟩⟩,⟨hp,hk⟩,hx⟩:=qj6 hrun hargs
 have hp:xl0 h kk:=hp
 obtain⟨u,us,rfl,x1,x2⟩:=hx
 obtain⟨u2,us2,rfl,x3,x4⟩:=x2
 obtain rfl:us2=[]:=x4
 obtain rfl:u2=.int .i64 kk:=x3
 have x1:Rd m (.list (.int .i64)) h [u]:=x1
 obtain⟨ad,ch,e,_⟩:=id x1
 obtain rfl:u=.slice ad h.length ch:=(zad e).1
 obtain⟨n,rfl⟩:∃n:Nat,kk=n:=⟨kk.toNat,by have:=hp.k0; omega⟩
 have hk:k (wb3 (.list (.int .i64)) (qi7 h n)):=by
  simp_all [qn1,qh7,qe8,qi7,Int.toNat_natCast]
 refine(x1o hp.ok hp.len hp.pos (by have:=hp.k1; omega) hm x1).mono λe w' ⟨b,cur,e1,e2,e3,e4,e5⟩=>?_
 have hlen:(qi7 h n).length=n:=w40 (by have:=hp.k1; omega)
 let M:View:=λx=>if x=b then w'.heap[x]? else none
 refine⟨_,M,e1,e2,λx o hx=>?_,λx o hx=>?_,_,hk,some ⟨b,0,none⟩,n,by grind,ow,by have:=hp.k1; omega,λhpos=>⟨⟨b,0,none⟩,rfl,λi hi=>⟨[.int .i64 (nI (qi7 h n) i)],rfl,λj v hj=>?_⟩⟩⟩
 ·grind
 ·grind
 ·match j,hj with
  | 0,hj=>
   obtain rfl:=zaa hj
   have hMb:M b=w'.heap[b]?:=zap rfl
   have hadd:((⟨b,0,none⟩:Addr).add (i*Ty.size (.int .i64)+0))=⟨b,i,none⟩:=by
    grind [Ty.size,Addr.add]
   rw[hadd]
   unfold View.cell
   rw[hMb,e4]
   have hi:i<(qi7 h n).length:=hi
   have h3:(cur.toList.take n)[i]? = ((qi7 h n).map wl9)[i]?:=by rw[e5]
   rw[zct,zap ow,Array.getElem?_toList,zbm,zao hi] at h3
   grind [qg5]
  | j+1,hj=>grind
end Go.Proofs.YtnchigbbjajiiaaGreat
