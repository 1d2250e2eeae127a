/- The places of the greatest sizes: the walk of largest. No condition. -/
import Derived.Test.YtnchigbbjajiiaaGreatQ6
import Derived.Test.YtnchigbbjajiiaaGreatQLay
set_option linter.unusedVariables false
set_option linter.unusedSimpArgs false
namespace Go.Proofs.YtnchigbbjajiiaaGreat
open Go Go.Proofs Go.RowKit Eng Ls Go.Sort Go.Shelf
theorem View.none_ge {m:View} {w:World} (hm:m.on w) {b:Nat} (h:w.heap.size<=b):m b=none:=by
 cases hb:m b with
 | none=>rfl
 | some o=>have:=View.lt hm hb; omega
theorem xt0 {w:World} {g e cap:Nat} {cur:Array Value} {zs:List Int} (hg:w.heap[g]? = some (.cells cur e (0,0))) (ht:cur.toList.take zs.length=zs.map wc3) (hl:zs.length<=1000) :
  Calls Tryz.prog 136 #[.slice (some ⟨g,0,none⟩) zs.length cap] w λe' w'=>e'=.returned (.tuple #[])/\Kept (λx=>x=g) w w'/\∃cur':Array Value,w'.heap[g]? = some (.cells cur' e (0,0))/\cur'.toList.take zs.length=(zs.mergeSort λx y=>decide (x<=y)).map wc3:=by
 have hblk:g<w.heap.size:=(zal.1 hg).1
 have hcur:∀j,j<zs.length->cur[j]? = some (wc3 zs[j]!):=λj hj=>by
  have h3:(cur.toList.take zs.length)[j]? = (zs.map wc3)[j]?:=by rw[ht]
  grind
 have hH:Holds wc3 w g 0 zs.toArray:=λj hj=>by
  simp_all [World.cell?,Nat.zero_add,World.frozen?]
 have h0:=AnyM.slices_Sort_int Tryz.sortI g 0 cap zs w hH hblk ow
 refine h0.mono λe' w' ⟨e1,n,os,e2⟩=>?_
 subst e1
 obtain⟨l,hle⟩:∃l,l=zs.mergeSort λx y=>decide (x<=y):=⟨_,rfl⟩
 have hll:l.length=zs.length:=by simp_all
 rw[<- hle] at e2 ⊢
 have hsz:(putRow wc3 (Sort.ahead w n) g 0 l.toArray).heap.size=w.heap.size:=by
  simp
 have hput:w'.heap[g]? = some (.cells (putCells wc3 0 l.toArray cur) e (0,0)):=by
  subst e2
  show((putRow wc3 (Sort.ahead w n) g 0 l.toArray).heap++os)[g]? = _
  rw[zb1 ow]
  simp only[putRow,mapBlock,Sort.ahead,Array.getElem?_modify,hg,if_true,Option.map_some,onCells]
 refine⟨rfl,⟨by subst e2; rfl,by simp_all,by subst e2; rfl,?_,λb hb=>?_⟩,_,hput,?_⟩
 ·simp_all
 ·subst e2
  show((putRow wc3 (Sort.ahead w n) g 0 l.toArray).heap++os)[b]? = _
  rw[zb1 ow]
  simp only[putRow,mapBlock,Sort.ahead,Array.getElem?_modify]
  grind
 ·apply List.ext_getElem?
  intro j
  rw[zdg]
  grind [putCells,List.getElem?_eq_getElem,List.getElem?_eq_none]
theorem x2z {n:Nat} (hn:n<=100) (h1:1<=n) (w:World):Calls Tryz.prog 133 #[.int .i64 n] w λe w'=>∃b cap cur,e=.returned (.slice (some ⟨b,0,none⟩) n cap)/\Below w.heap.size w w'/\w.heap.size<=b/\w'.heap[b]? = some (.cells cur 3 (0,0))/\n<=cap/\cap<=maxLen/\cur.size=cap/\cur.toList.take n=(qo0 n).map wc3:=by
 have:=q3k.2 w (λb=>w.heap[b]?) (.cons (.lit (.int .i64 n)) .nil) [.int .i64 n] (λr=>r=.dat (.int .i64) (qo0 n)) (View.full_on w) ⟨_,_,rfl,rfl,rfl⟩ ⟨by grind,by rfl⟩
 refine this.mono λe w' ⟨v,m',e1,e2,_,_,e5⟩=>?_
 rcases e5 with⟨t,l,vs,k1,k2,k3,_⟩ | ⟨k1,_⟩ | ⟨t,l,vs,v1,rest,z,_,k1,_⟩
 ·injection k1 with k1 k1'
  subst k1
  obtain rfl:=zdm k1'
  rw[qe8] at k2
  rcases k2.2 with⟨_,q⟩ | ⟨g,cap,cur,rfl,q2,q3,q4,q5,q6,q7⟩
  ·omega
  ·exact⟨g,cap,cur,e1,e2,q2,q3,q4,q5,by rw[q6]; exact zci _,by simp_all [Eng.rdL_ints,Ty.size,Nat.mul_one]⟩
 all_goals grind
theorem x21 {w:World} {g cap n bx:Nat} {cur:Array Value} {ad:Option Addr} {ch:Nat} {h:List Int} (hg:w.heap[g]? = some (.cells cur 3 (0,0))) (hn:n=h.length) (hc:n<=cap) (hm:cap<=maxLen) (hs:cur.size=cap) (ht:cur.toList.take n=(qo0 n).map wc3)
  (hbx:w.cell? ⟨bx,0,none⟩=some (.slice ad h.length ch)) (hne:bx≠g) (hh:HOk h) (hl:h.length<=19) {mh:View} (hmh:mh.on w) (hmg:mh g=none) (hrd:Rd mh (.list (.int .i64)) h [.slice ad h.length ch]) :
  Calls Tryz.prog 134 #[.slice (some ⟨g,0,none⟩) n cap,.func (.func 135) #[] #[.pointer (some ⟨bx,0,none⟩)]] w λe w'=>e=.returned (.tuple #[])/\Kept (λx=>x=g) w w'/\∃cur':Array Value,w'.heap[g]? = some (.cells cur' 3 (0,0))/\cur'.size=cap/\cur'.toList.take n=(insL (q5v h) (qo0 n)).map wc3:=by
 let m:View:=λb=>if b=g then none else w.heap[b]?
 have hmw:m.on w:=λb o hb=>by
  grind
 have hle:mh.le m:=λb o hb=>by
  show(if b=g then none else w.heap[b]?)=some o
  rw[zai (λe=>by grind)]
  exact hmh b o hb
 have hcell:m.cell ⟨bx,0,none⟩=some (.slice ad h.length ch):=by
  have hmb:m bx=w.heap[bx]?:=zai hne
  unfold View.cell
  rw[hmb]
  exact hbx
 let P2:qa3 [qb9,qb9]->Prop:=λx=>HOk h/\(0<=x.1/\x.1<h.length)/\0<=x.2.1/\x.2.1<h.length
 let F2:qa3 [qb9,qb9]->Int:=λx=>q5v h x.1 x.2.1
 have hfn:IsFn Tryz.prog m [qb9,qb9] qb9 P2 F2 (.func (.func 135) #[] #[.pointer (some ⟨bx,0,none⟩)]):=by
  refine w74 (fs:=[(135,x6n)]) (SpecsOk.cons w5t (SpecsOk.nil _)) (v:=.clo 135 (.cons (.imm (.cons (.dat (.int .i64) h) .nil) 0) .nil)) ?_ ⟨[.pointer (some ⟨bx,0,none⟩)],rfl,_,[],rfl,⟨⟨bx,0,none⟩,[.slice ad h.length ch],rfl,⟨_,[],rfl,Rd.le hle hrd,rfl⟩,λj v hj=>?_⟩,rfl⟩
  ·rintro⟨x,y,⟨⟩⟩ hx
   exact⟨hx,rfl⟩
  ·match j,hj with
   | 0,hj=>
    obtain rfl:=zaa hj
    exact hcell
   | j+1,hj=>grind
 have hpool:PoolOk m w 0 0 3 (.int .i64) [qo0 n] (some []) [.slice none 0 0,.slice (some ⟨g,0,none⟩) n cap]:=by
  refine q50 ((Eng.rdL_ints (m:=m)).2 rfl) ⟨by rw[za3]; exact(zci _).symm,.inr ⟨g,cap,cur,by rw[qe8],zae _,hg,by grind [qe8],hm,by rw[hs]; exact(zci _).symm,by rw[qe8]; show cur.toList.take (n*1)=_; grind⟩⟩ λb hb=>?_
  have hb:some g=some b:=hb
  grind
 have hidx:∀x∈qo0 n,0<=x/\x<h.length:=λx hx=>by
  obtain⟨i,hi,rfl⟩:=zbu.1 hx
  rw[qe8] at hi
  rw[<- qf2 _ _ ow,q2n _ _ hi]; omega
 refine(w5s.2 w m [.slice none 0 0,.slice (some ⟨g,0,none⟩) n cap] [qo0 n] (.cons (.fn [qb9,qb9] qb9 P2 F2) .nil) [.func (.func 135) #[] #[.pointer (some ⟨bx,0,none⟩)]] (λr l=>l=[insL (q5v h) (qo0 n)]/\r=.tup .nil) hmw hpool ⟨_,[],rfl,⟨_,rfl,hfn⟩,rfl⟩ ?_ (λ_=>rfl)).mono ?_
 ·refine⟨P2,F2,⟨rfl,rfl,HEq.rfl,HEq.rfl⟩,⟨?_,λx hx y hy=>⟨hh,hidx x hx,hidx y hy⟩⟩,rfl,rfl⟩
  show(qo0 n).length<=19
  grind [qe8]
 ·rintro e w' ⟨v,m',r,rows',hs',e1,e2,e3,e4,e5,e6,⟨rfl,rfl⟩,e8⟩
  obtain rfl:=qy0 e5
  obtain⟨_,ys,y1,y2⟩:=q51 e6
  have hlen:(insL (q5v h) (qo0 n)).length=n:=by
   grind [insL,q1s,qe8]
  have y1:=(Eng.rdL_ints (m:=λ_=>none)).1 y1
  have y1:ys=(insL (q5v h) (qo0 n)).map wc3:=y1
  have y2:w'.ownsRow 0 3 1 (.slice (some ⟨g,0,none⟩) n cap) (insL (q5v h) (qo0 n)).length ys:=y2
  rw[hlen] at y2
  have e8:[v]=[.tuple #[]]:=by
   obtain⟨cs,c1,c2⟩:=e8
   have c2:cs=[]:=c2
   grind
  refine⟨by grind,e2.mono λx ⟨h1,h2⟩=>⟨h1,λhx=>h2 ?_⟩,?_⟩
  ·obtain⟨u,hu,hb⟩:=qd7.1 hx
   rcases zao.1 hu with rfl | hu
   ·cases hb
   ·obtain rfl:=zar.1 hu
    have hb:some g=some x:=hb
    grind
  ·rcases y2.2 with⟨q,_⟩ | ⟨g',cap',cur',q1,_,q3,q4,q5,q6,q7⟩
   all_goals grind
theorem xd4 {w:World} {g e cap n:Nat} {cur:Array Value} {zs:List Int} (hn:zs.length=n) (hg:w.heap[g]? = some (.cells cur e (0,0))) (ht:cur.toList.take n=zs.map wc3) (hl:n<=1000) :
  Calls Tryz.prog 136 #[.slice (some ⟨g,0,none⟩) n cap] w λe' w'=>e'=.returned (.tuple #[])/\Kept (λx=>x=g) w w'/\∃cur':Array Value,w'.heap[g]? = some (.cells cur' e (0,0))/\cur'.toList.take n=(zs.mergeSort λx y=>decide (x<=y)).map wc3:=by
 grind [xt0]
theorem xt1 {h:List Int} {k:Nat} (hk:k<=h.length):(q8g h k).length=k:=by
 grind [q8g,insL,List.length_mergeSort,List.length_take,q1s,qe8]
theorem xt2 {h:List Int} {k:Nat} {ad:Option Addr} {ch:Nat} (hh:HOk h) (hl:h.length<=19) (h1:1<=h.length) (hk:k<=h.length) {w:World} {mh:View} (hmh:mh.on w) (hrd:Rd mh (.list (.int .i64)) h [.slice ad h.length ch]) :
  Calls Tryz.prog 86 #[.slice ad h.length ch,.int .i64 k] w λe w'=>∃b cur,e=.returned (.slice (some ⟨b,0,none⟩) k k)/\Below w.heap.size w w'/\w.heap.size<=b/\w'.heap[b]? = some (.cells cur 3 (0,0))/\cur.toList.take k=(q8g h k).map wc3:=by
 have n0:(w.alloc (.cells #[.slice ad h.length ch] 24 (0,0))).cell? ⟨w.heap.size,0,none⟩=some (.slice ad h.length ch):=by simp
 have sz1:(w.alloc (.cells #[.slice ad h.length ch] 24 (0,0))).heap.size=w.heap.size+1:=Array.size_push ..
 have hil:(insL (q5v h) (qo0 h.length)).length=h.length:=by
  grind [insL,q1s,qe8]
 have hkc:∀cap:Nat,h.length<=cap->k<=cap:=λcap hc=>zah hk hc
 go_enter Tryz.func86,Tryz.ntmps86
 go_wp2_with (first
  | (go_at_call 133; refine(x2z ow h1 _).mono ?_; rintro e w1 ⟨b,cap,cur,rfl,hb1,hb2,hb3,hb4,hb5,hb6,hb7⟩)
  | (go_at_call 134; refine(x21 (mh:=mh) hb3 rfl hb4 hb5 hb6 hb7 (Below.cell_of hb1 n0) ow hh hl (View.on_below hmh (Ls.step_trans (Ls.below_alloc w _) hb1)) (View.none_ge hmh ow) hrd).mono ?_; rintro e w2 ⟨rfl,hK2,cur2,hc2,hs2,ht2⟩; have hk2:=hkc cap hb4)
  | (go_at_call 136; refine(xd4 (zs:=(insL (q5v h) (qo0 h.length)).take k) (by grind) hc2 (by grind [List.map_take,Nat.min_eq_left]) ow).mono ?_; rintro e w3 ⟨rfl,hK3,cur3,hc3,ht3⟩))
 go_ret
 have hB:Below w.heap.size w w1:=Ls.step_trans (Ls.below_alloc w _) hb1
 have hbb:w.heap.size<=b:=ow
 exact⟨b,cur3,rfl,⟨(hK3.os.trans hK2.os).trans hB.os,(hK3.tape.trans hK2.tape).trans hB.tape,(hK3.output.trans hK2.output).trans hB.output,zah hB.size (zah hK2.size hK3.size),λx hx=>((hK3.block x ⟨by grind,ow⟩).trans (hK2.block x ⟨by grind,ow⟩)).trans (hB.block x hx)⟩,hbb,hc3,ht3⟩
theorem xd5:Meets Tryz.prog 86 yt7:=by
 refine⟨⟨_,_,Tryz.func86,rfl,rfl⟩,λw m args vs k hm hargs hrun=>?_⟩
 obtain⟨⟨(h:List Int),(kk:Int),⟨⟩⟩,⟨hp,hk⟩,hx⟩:=qj3 hrun hargs
 have hp:xs9 h kk:=hp
 obtain⟨u,us,rfl,x1,x2⟩:=hx
 obtain⟨u2,us2,rfl,x3,x4⟩:=x2
 obtain rfl:us2=[]:=x4
 obtain rfl:u2=.int .i64 kk:=x3
 have x1:Rd m (.list (.int .i64)) h [u]:=x1
 obtain⟨ad,ch,e,_⟩:=id x1
 obtain rfl:u=.slice ad h.length ch:=(zac e).1
 obtain⟨n,rfl⟩:∃n:Nat,kk=n:=⟨kk.toNat,by have:=hp.k0; omega⟩
 have hk:k (q8k (.list (.int .i64)) (q8g h n)):=by
  simp_all [qm4,qg2,qd4,q8g,Int.toNat_natCast]
 refine(xt2 hp.ok hp.len hp.pos (by have:=hp.k1; omega) hm x1).mono λe w' ⟨b,cur,e1,e2,e3,e4,e5⟩=>?_
 have hlen:(q8g h n).length=n:=xt1 (by have:=hp.k1; omega)
 let M:View:=λx=>if x=b then w'.heap[x]? else none
 refine⟨_,M,e1,e2,λx o hx=>?_,λx o hx=>?_,_,hk,some ⟨b,0,none⟩,n,by grind,ow,by have:=hp.k1; omega,λhpos=>⟨⟨b,0,none⟩,rfl,λi hi=>⟨[.int .i64 (nI (q8g h n) i)],rfl,λj v hj=>?_⟩⟩⟩
 ·grind
 ·grind
 ·match j,hj with
  | 0,hj=>
   obtain rfl:=zaa hj
   have hMb:M b=w'.heap[b]?:=zap rfl
   have hadd:((⟨b,0,none⟩:Addr).add (i*Ty.size (.int .i64)+0))=⟨b,i,none⟩:=by
    grind [Ty.size,Addr.add]
   rw[hadd]
   unfold View.cell
   rw[hMb,e4]
   have hi:i<(q8g h n).length:=hi
   have h3:(cur.toList.take n)[i]? = ((q8g h n).map wc3)[i]?:=by rw[e5]
   rw[zdg,zap ow,Array.getElem?_toList,za5,zak hi] at h3
   grind [qf2]
  | j+1,hj=>grind
end Go.Proofs.YtnchigbbjajiiaaGreat
