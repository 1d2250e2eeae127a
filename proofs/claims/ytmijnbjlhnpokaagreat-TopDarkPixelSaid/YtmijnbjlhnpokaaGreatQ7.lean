/- The places of the greatest sizes: the walk of largest. No condition. -/
import Derived.Test.YtmijnbjlhnpokaaGreatQ6
import Derived.Test.YtmijnbjlhnpokaaGreatQLay
set_option linter.unusedVariables false
set_option linter.unusedSimpArgs false
namespace Go.Proofs.YtmijnbjlhnpokaaGreat
open Go Go.Proofs Go.RowKit Eng Ls Go.Sort Go.Shelf
theorem View.none_ge {m:View} {w:World} (hm:m.on w) {b:Nat} (h:w.heap.size<=b):m b=none:=by
 cases hb:m b with
 | none=>rfl
 | some o=>have:=View.lt hm hb; omega
theorem xo6 {w:World} {g e cap:Nat} {cur:Array Value} {zs:List Int} (hg:w.heap[g]? = some (.cells cur e (0,0))) (ht:cur.toList.take zs.length=zs.map q9n) (hl:zs.length<=1000) :
  Calls Tryz.prog 94 #[.slice (some ⟨g,0,none⟩) zs.length cap] w λe' w'=>e'=.returned (.tuple #[])/\Kept (λx=>x=g) w w'/\∃cur':Array Value,w'.heap[g]? = some (.cells cur' e (0,0))/\cur'.toList.take zs.length=(zs.mergeSort λx y=>decide (x<=y)).map q9n:=by
 have hblk:g<w.heap.size:=(Array.getElem?_eq_some_iff.1 hg).1
 have hcur:∀j,j<zs.length->cur[j]? = some (q9n zs[j]!):=λj hj=>by
  have h3:(cur.toList.take zs.length)[j]? = (zs.map q9n)[j]?:=by rw[ht]
  rw[List.getElem?_take,if_pos hj] at h3
  rw[<- Array.getElem?_toList,h3]
  simp[hj]
 have hH:Holds q9n w g 0 zs.toArray:=λj hj=>by
  have hj:j<zs.length:=by simpa using hj
  refine⟨?_,?_⟩
  ·show World.cell? w ⟨g,0+j,none⟩=_
   rw[Nat.zero_add]
   have:=hcur j hj
   simp only[World.cell?,hg]
   simpa using this
  ·simp only[World.frozen?,hg]
   simp
 have h0:=AnyM.slices_Sort_int Tryz.sortI g 0 cap zs w hH hblk (by omega)
 refine h0.mono λe' w' ⟨e1,n,os,e2⟩=>?_
 subst e1
 obtain⟨l,hle⟩:∃l,l=zs.mergeSort λx y=>decide (x<=y):=⟨_,rfl⟩
 have hll:l.length=zs.length:=by rw[hle]; simp
 rw[<- hle] at e2 ⊢
 have hsz:(putRow q9n (Sort.ahead w n) g 0 l.toArray).heap.size=w.heap.size:=by
  simp only[putRow,mapBlock,Sort.ahead,Array.size_modify]
 have hput:w'.heap[g]? = some (.cells (putCells q9n 0 l.toArray cur) e (0,0)):=by
  subst e2
  show((putRow q9n (Sort.ahead w n) g 0 l.toArray).heap++os)[g]? = _
  rw[Array.getElem?_append_left (by omega)]
  simp only[putRow,mapBlock,Sort.ahead,Array.getElem?_modify,hg,if_true,Option.map_some,onCells]
 refine⟨rfl,⟨by subst e2; rfl,by subst e2; rfl,by subst e2; rfl,?_,λb hb=>?_⟩,_,hput,?_⟩
 ·subst e2
  show _<=((putRow q9n (Sort.ahead w n) g 0 l.toArray).heap++os).size
  rw[Array.size_append]; omega
 ·subst e2
  show((putRow q9n (Sort.ahead w n) g 0 l.toArray).heap++os)[b]? = _
  rw[Array.getElem?_append_left (by have:=hb.1; omega)]
  simp only[putRow,mapBlock,Sort.ahead,Array.getElem?_modify]
  rw[if_neg (λq=>hb.2 q.symm)]
 ·apply List.ext_getElem?
  intro j
  rw[List.getElem?_take]
  split
  ·rename_i hj
   simp only[putCells,Array.getElem?_toList,Array.getElem?_mapIdx,List.getElem?_map]
   rw[hcur j hj,List.getElem?_eq_getElem (by omega:j<l.length)]
   have:j<l.length:=by omega
   simp[this]
  ·rename_i hj
   rw[List.getElem?_eq_none]
   simp; omega
theorem x08 {n:Nat} (hn:n<=100) (h1:1<=n) (w:World):Calls Tryz.prog 72 #[.int .i64 n] w λe w'=>∃b cap cur,e=.returned (.slice (some ⟨b,0,none⟩) n cap)/\Below w.heap.size w w'/\w.heap.size<=b/\w'.heap[b]? = some (.cells cur 3 (0,0))/\n<=cap/\cap<=maxLen/\cur.size=cap/\cur.toList.take n=(ql7 n).map q9n:=by
 have:=q3p.2 w (λb=>w.heap[b]?) (.cons (.lit (.int .i64 n)) .nil) [.int .i64 n] (λr=>r=.dat (.int .i64) (ql7 n)) (View.full_on w) ⟨_,_,rfl,rfl,rfl⟩ ⟨by show(n:Int)<=100000; omega,by show AV.dat (.int .i64) (ql7 (Int.toNat (n:Int)))=_; rw[Int.toNat_natCast]⟩
 refine this.mono λe w' ⟨v,m',e1,e2,_,_,e5⟩=>?_
 rcases e5 with⟨t,l,vs,k1,k2,k3,_⟩ | ⟨k1,_⟩ | ⟨t,l,vs,v1,rest,z,_,k1,_⟩
 ·injection k1 with k1 k1'
  subst k1
  obtain rfl:=eq_of_heq k1'
  rw[qd8] at k2
  rcases k2.2 with⟨_,q⟩ | ⟨g,cap,cur,rfl,q2,q3,q4,q5,q6,q7⟩
  ·omega
  ·exact⟨g,cap,cur,e1,e2,q2,q3,q4,q5,by rw[q6]; exact Nat.mul_one _,by rw[(Eng.rdL_ints (m:=m')).1 k3] at q7; rwa [show n*Ty.size (.int .i64)=n from Nat.mul_one n] at q7⟩
 ·cases k1
 ·cases k1
theorem x1a {w:World} {g cap n bx:Nat} {cur:Array Value} {ad:Option Addr} {ch:Nat} {h:List Int} (hg:w.heap[g]? = some (.cells cur 3 (0,0))) (hn:n=h.length) (hc:n<=cap) (hm:cap<=maxLen) (hs:cur.size=cap) (ht:cur.toList.take n=(ql7 n).map q9n)
  (hbx:w.cell? ⟨bx,0,none⟩=some (.slice ad h.length ch)) (hne:bx≠g) (hh:HOk h) (hl:h.length<=19) {mh:View} (hmh:mh.on w) (hmg:mh g=none) (hrd:Rd mh (.list (.int .i64)) h [.slice ad h.length ch]) :
  Calls Tryz.prog 251 #[.slice (some ⟨g,0,none⟩) n cap,.func (.func 252) #[] #[.pointer (some ⟨bx,0,none⟩)]] w λe w'=>e=.returned (.tuple #[])/\Kept (λx=>x=g) w w'/\∃cur':Array Value,w'.heap[g]? = some (.cells cur' 3 (0,0))/\cur'.size=cap/\cur'.toList.take n=(insL (q5s h) (ql7 n)).map q9n:=by
 let m:View:=λb=>if b=g then none else w.heap[b]?
 have hmw:m.on w:=λb o hb=>by
  have hb:(if b=g then none else w.heap[b]?)=some o:=hb
  split at hb
  ·cases hb
  ·exact hb
 have hle:mh.le m:=λb o hb=>by
  show(if b=g then none else w.heap[b]?)=some o
  rw[if_neg (λe=>by subst e; rw[hmg] at hb; cases hb)]
  exact hmh b o hb
 have hcell:m.cell ⟨bx,0,none⟩=some (.slice ad h.length ch):=by
  have hmb:m bx=w.heap[bx]?:=if_neg hne
  unfold View.cell
  rw[hmb]
  exact hbx
 let P2:qa4 [qc8,qc8]->Prop:=λx=>HOk h/\(0<=x.1/\x.1<h.length)/\0<=x.2.1/\x.2.1<h.length
 let F2:qa4 [qc8,qc8]->Int:=λx=>q5s h x.1 x.2.1
 have hfn:IsFn Tryz.prog m [qc8,qc8] qc8 P2 F2 (.func (.func 252) #[] #[.pointer (some ⟨bx,0,none⟩)]):=by
  refine w8f (fs:=[(252,x5b)]) (SpecsOk.cons w52 (SpecsOk.nil _)) (v:=.clo 252 (.cons (.imm (.cons (.dat (.int .i64) h) .nil) 0) .nil)) ?_ ⟨[.pointer (some ⟨bx,0,none⟩)],rfl,_,[],rfl,⟨⟨bx,0,none⟩,[.slice ad h.length ch],rfl,⟨_,[],rfl,Rd.le hle hrd,rfl⟩,λj v hj=>?_⟩,rfl⟩
  ·rintro⟨x,y,⟨⟩⟩ hx
   exact⟨hx,rfl⟩
  ·match j,hj with
   | 0,hj=>
    obtain rfl:=Option.some.inj hj
    exact hcell
   | j+1,hj=>simp at hj
 have hpool:PoolOk m w 0 0 3 (.int .i64) [ql7 n] (some []) [.slice none 0 0,.slice (some ⟨g,0,none⟩) n cap]:=by
  refine wc5 ((Eng.rdL_ints (m:=m)).2 rfl) ⟨by rw[List.length_map]; exact(Nat.mul_one _).symm,.inr ⟨g,cap,cur,by rw[qd8],Nat.zero_le _,hg,by rw[qd8]; exact hc,hm,by rw[hs]; exact(Nat.mul_one _).symm,by rw[qd8]; show cur.toList.take (n*1)=_; rw[Nat.mul_one]; exact ht⟩⟩ λb hb=>?_
  have hb:some g=some b:=hb
  obtain rfl:=Option.some.inj hb
  exact if_pos rfl
 have hidx:∀x∈ql7 n,0<=x/\x<h.length:=λx hx=>by
  obtain⟨i,hi,rfl⟩:=List.mem_iff_getElem.1 hx
  rw[qd8] at hi
  rw[<- qg5 _ _ (by rw[qd8]; exact hi),qv5 _ _ hi]; omega
 refine(w51.2 w m [.slice none 0 0,.slice (some ⟨g,0,none⟩) n cap] [ql7 n] (.cons (.fn [qc8,qc8] qc8 P2 F2) .nil) [.func (.func 252) #[] #[.pointer (some ⟨bx,0,none⟩)]] (λr l=>l=[insL (q5s h) (ql7 n)]/\r=.tup .nil) hmw hpool ⟨_,[],rfl,⟨_,rfl,hfn⟩,rfl⟩ ?_ (λ_=>rfl)).mono ?_
 ·refine⟨P2,F2,⟨rfl,rfl,HEq.rfl,HEq.rfl⟩,⟨?_,λx hx y hy=>⟨hh,hidx x hx,hidx y hy⟩⟩,rfl,rfl⟩
  show(ql7 n).length<=19
  rw[qd8]; omega
 ·rintro e w' ⟨v,m',r,rows',hs',e1,e2,e3,e4,e5,e6,⟨rfl,rfl⟩,e8⟩
  obtain rfl:=q3e e5
  obtain⟨_,ys,y1,y2⟩:=wc6 e6
  have hlen:(insL (q5s h) (ql7 n)).length=n:=by
   unfold insL
   rw[(q14 _ _ _ (by rw[qd8]; omega)).1,qd8]
  have y1:=(Eng.rdL_ints (m:=λ_=>none)).1 y1
  have y1:ys=(insL (q5s h) (ql7 n)).map q9n:=y1
  have y2:w'.ownsRow 0 3 1 (.slice (some ⟨g,0,none⟩) n cap) (insL (q5s h) (ql7 n)).length ys:=y2
  rw[hlen] at y2
  have e8:[v]=[.tuple #[]]:=by
   obtain⟨cs,c1,c2⟩:=e8
   have c2:cs=[]:=c2
   rw[c1,c2]
  refine⟨by rw[e1,(List.cons.inj e8).1],e2.mono λx ⟨h1,h2⟩=>⟨h1,λhx=>h2 ?_⟩,?_⟩
  ·obtain⟨u,hu,hb⟩:=qe0.1 hx
   rcases List.mem_cons.1 hu with rfl | hu
   ·cases hb
   ·obtain rfl:=List.mem_singleton.1 hu
    have hb:some g=some x:=hb
    exact(Option.some.inj hb).symm
  ·rcases y2.2 with⟨q,_⟩ | ⟨g',cap',cur',q1,_,q3,q4,q5,q6,q7⟩
   ·cases q
   ·injection q1 with q1 _ q2
    injection (Option.some.inj q1) with q1
    subst q1 q2
    exact⟨cur',q3,by rw[q6]; exact Nat.mul_one _,by rw[<- y1,<- q7,Nat.mul_one]⟩
theorem xa1 {w:World} {g e cap n:Nat} {cur:Array Value} {zs:List Int} (hn:zs.length=n) (hg:w.heap[g]? = some (.cells cur e (0,0))) (ht:cur.toList.take n=zs.map q9n) (hl:n<=1000) :
  Calls Tryz.prog 94 #[.slice (some ⟨g,0,none⟩) n cap] w λe' w'=>e'=.returned (.tuple #[])/\Kept (λx=>x=g) w w'/\∃cur':Array Value,w'.heap[g]? = some (.cells cur' e (0,0))/\cur'.toList.take n=(zs.mergeSort λx y=>decide (x<=y)).map q9n:=by
 subst hn
 exact xo6 hg ht hl
theorem xo7 {h:List Int} {k:Nat} (hk:k<=h.length):(q7z h k).length=k:=by
 unfold q7z insL
 rw[List.length_mergeSort,List.length_take,(q14 _ _ _ (by rw[qd8]; omega)).1,qd8]
 omega
theorem xo8 {h:List Int} {k:Nat} {ad:Option Addr} {ch:Nat} (hh:HOk h) (hl:h.length<=19) (h1:1<=h.length) (hk:k<=h.length) {w:World} {mh:View} (hmh:mh.on w) (hrd:Rd mh (.list (.int .i64)) h [.slice ad h.length ch]) :
  Calls Tryz.prog 242 #[.slice ad h.length ch,.int .i64 k] w λe w'=>∃b cur,e=.returned (.slice (some ⟨b,0,none⟩) k k)/\Below w.heap.size w w'/\w.heap.size<=b/\w'.heap[b]? = some (.cells cur 3 (0,0))/\cur.toList.take k=(q7z h k).map q9n:=by
 have n0:(w.alloc (.cells #[.slice ad h.length ch] 34 (0,0))).cell? ⟨w.heap.size,0,none⟩=some (.slice ad h.length ch):=by simp
 have sz1:(w.alloc (.cells #[.slice ad h.length ch] 34 (0,0))).heap.size=w.heap.size+1:=Array.size_push ..
 have hil:(insL (q5s h) (ql7 h.length)).length=h.length:=by
  unfold insL
  rw[(q14 _ _ _ (by rw[qd8]; omega)).1,qd8]
 have hkc:∀cap:Nat,h.length<=cap->k<=cap:=λcap hc=>Nat.le_trans hk hc
 go_enter Tryz.func242,Tryz.ntmps242
 go_wp2_with (first
  | (go_at_call 72; refine(x08 (by omega) h1 _).mono ?_; rintro e w1 ⟨b,cap,cur,rfl,hb1,hb2,hb3,hb4,hb5,hb6,hb7⟩)
  | (go_at_call 251; refine(x1a (mh:=mh) hb3 rfl hb4 hb5 hb6 hb7 (Below.cell_of hb1 n0) (by omega) hh hl (View.on_below hmh (Ls.step_trans (Ls.below_alloc w _) hb1)) (View.none_ge hmh (by omega)) hrd).mono ?_; rintro e w2 ⟨rfl,hK2,cur2,hc2,hs2,ht2⟩; have hk2:=hkc cap hb4)
  | (go_at_call 94; refine(xa1 (zs:=(insL (q5s h) (ql7 h.length)).take k) (by rw[List.length_take]; omega) hc2 (by rw[List.map_take,<- ht2,List.take_take,Nat.min_eq_left hk]) (by omega)).mono ?_; rintro e w3 ⟨rfl,hK3,cur3,hc3,ht3⟩))
 go_ret
 have hB:Below w.heap.size w w1:=Ls.step_trans (Ls.below_alloc w _) hb1
 have hbb:w.heap.size<=b:=by omega
 exact⟨b,cur3,rfl,⟨(hK3.os.trans hK2.os).trans hB.os,(hK3.tape.trans hK2.tape).trans hB.tape,(hK3.output.trans hK2.output).trans hB.output,Nat.le_trans hB.size (Nat.le_trans hK2.size hK3.size),λx hx=>((hK3.block x ⟨by have:=hB.size; have:=hK2.size; omega,by omega⟩).trans (hK2.block x ⟨by have:=hB.size; omega,by omega⟩)).trans (hB.block x hx)⟩,hbb,hc3,ht3⟩
theorem xa2:Meets Tryz.prog 242 yn9:=by
 refine⟨⟨_,_,Tryz.func242,rfl,rfl⟩,λw m args vs k hm hargs hrun=>?_⟩
 obtain⟨⟨(h:List Int),(kk:Int),⟨⟩⟩,⟨hp,hk⟩,hx⟩:=qk0 hrun hargs
 have hp:xo5 h kk:=hp
 obtain⟨u,us,rfl,x1,x2⟩:=hx
 obtain⟨u2,us2,rfl,x3,x4⟩:=x2
 obtain rfl:us2=[]:=x4
 obtain rfl:u2=.int .i64 kk:=x3
 have x1:Rd m (.list (.int .i64)) h [u]:=x1
 obtain⟨ad,ch,e,_⟩:=id x1
 obtain rfl:u=.slice ad h.length ch:=(List.cons.inj e).1
 obtain⟨n,rfl⟩:∃n:Nat,kk=n:=⟨kk.toNat,by have:=hp.k0; omega⟩
 have hk:k (q8q (.list (.int .i64)) (q7z h n)):=by
  have:k (qn3 (qh1 [qe9] (q7z h (n:Int).toNat,()))):=hk
  rw[Int.toNat_natCast] at this
  exact this
 refine(xo8 hp.ok hp.len hp.pos (by have:=hp.k1; omega) hm x1).mono λe w' ⟨b,cur,e1,e2,e3,e4,e5⟩=>?_
 have hlen:(q7z h n).length=n:=xo7 (by have:=hp.k1; omega)
 let M:View:=λx=>if x=b then w'.heap[x]? else none
 refine⟨_,M,e1,e2,λx o hx=>?_,λx o hx=>?_,_,hk,some ⟨b,0,none⟩,n,by rw[hlen],by rw[hlen]; exact Nat.le_refl _,by have:=hp.k1; have:=hp.len; unfold maxLen; omega,λhpos=>⟨⟨b,0,none⟩,rfl,λi hi=>⟨[.int .i64 (nI (q7z h n) i)],rfl,λj v hj=>?_⟩⟩⟩
 ·have hx:(if x=b then w'.heap[x]? else none)=some o:=hx
  split at hx
  ·exact hx
  ·cases hx
 ·have hx:(if x=b then w'.heap[x]? else none)=some o:=hx
  split at hx
  ·rename_i q; omega
  ·cases hx
 ·match j,hj with
  | 0,hj=>
   obtain rfl:=Option.some.inj hj
   have hMb:M b=w'.heap[b]?:=if_pos rfl
   have hadd:((⟨b,0,none⟩:Addr).add (i*Ty.size (.int .i64)+0))=⟨b,i,none⟩:=by
    rw[show i*Ty.size (.int .i64)+0=i by show i*1+0=i; omega]
    unfold Addr.add; split <;> simp_all
   rw[hadd]
   unfold View.cell
   rw[hMb,e4]
   have hi:i<(q7z h n).length:=hi
   have h3:(cur.toList.take n)[i]? = ((q7z h n).map q9n)[i]?:=by rw[e5]
   rw[List.getElem?_take,if_pos (by omega),Array.getElem?_toList,List.getElem?_map,List.getElem?_eq_getElem hi] at h3
   show cur[i]? = _
   rw[h3,qg5 _ _ hi]; rfl
  | j+1,hj=>simp at hj
end Go.Proofs.YtmijnbjlhnpokaaGreat
