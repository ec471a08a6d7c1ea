import Derived.Shelf.SlicesE.Clone
import Derived.Test.YtilpincgjlclpaaGreatB21
set_option linter.unusedVariables false
set_option linter.unusedSimpArgs false
section
namespace Go.Proofs.YtilpincgjlclpaaGreat.Ob
open Go Go.RowKit Bs Mp jL Hp
open Tm (It bt qM ma)
theorem tV {W:World} {g t:Nat} {a b c:Value} (h:W.heap[g]?=some (.cells #[a,b,c] t (0,0))) (u0 u1 u2:Value):
  (((W.setCell ⟨g,0,none⟩ u0).setCell ⟨g,1,none⟩ u1).setCell ⟨g,2,none⟩ u2).heap[g]?=some (.cells #[u0,u1,u2] t (0,0)):=by
 have h1:=heap_set (heap_set (heap_set h 0 u0) 1 u1) 2 u2
 simpa using h1
theorem yz {w W:World} {n g:Nat} (h:Below n w W) (hn:n<=g) (x0 x1 x2:Nat) (u0 u1 u2:Value):Below n w (((W.setCell ⟨g,x0,none⟩ u0).setCell ⟨g,x1,none⟩ u1).setCell ⟨g,x2,none⟩ u2):=by
 have hk:∀(V:World) (x:Nat) (u:Value),Below n w V->Below n w (V.setCell ⟨g,x,none⟩ u):=fun V x u hb=>
  ⟨hb.os,hb.tape,hb.output,by have:=hb.size;simpa using this,fun k hk=>(Below.heap_setCell V ⟨g,x,none⟩ u k (by simp;omega)).trans (hb.block k hk)⟩
 exact hk _ _ _ (hk _ _ _ (hk _ _ _ h))
set_option maxHeartbeats 2000000 in
set_option maxRecDepth 100000 in
theorem JE {B b q:Nat} {w:World} {o:List J} {v:Value} {pu pe:Nat} (h:lJ B w b o (Al q) v [] pu pe):
  Calls Tryz.prog 182 #[.pointer (some ⟨b,0,none⟩)] w fun e w'=>e= .returned (.tuple #[iv d0,.bool false])/\Below w.heap.size w w':=by
 obtain⟨wa,wQ⟩:∃wa,wa=w.alloc (.cells #[.int .i64 0,.int .i64 0,.int .i64 0] 162):=⟨_,rfl⟩
 have hBa:Below w.heap.size w wa:=by rw[wQ];exact gp _ _
 have hxb:wa.heap[w.heap.size]?=some (.cells #[.int .i64 0,.int .i64 0,.int .i64 0] 162 (0,0)):=by rw[wQ];exact bG _ _
 have h0:=h.below hBa
 have hd:=AY h0
 go_enter Tryz.func182,Tryz.ntmps182
 go_wp2_with fail
 rw[<-wQ]
 clear wQ
 go_wp2_with (go_at_call 179;refine hd.mono ?_;rintro e w1 ⟨rfl,hB1⟩;have h1:=h0.below hB1;obtain⟨A,cap,rfl⟩:=Bs.bU h1.own;have cb:=(aj h1.blk 0).trans rfl;have hx1:=(hB1.block w.heap.size (bA hxb)).trans hxb;have k0:=(aj hx1 0).trans rfl;have k1:=(aj hx1 1).trans rfl;have k2:=(aj hx1 2).trans rfl;have kz:∀j,w1.frozen? ⟨w.heap.size,j,none⟩=false:=fun j=>aX hx1 j;have HZ:=Lib.hid (And.intro hB1 hx1);clear hB1 hx1 h1)
 obtain⟨hB1,hx1⟩:=HZ.out
 have h9:=tV hx1 (.int .i64 0) (.int .i64 0) (.int .i64 0)
 have Vz:=yz (hBa.trans (hB1.mono hBa.size)) (Nat.le_refl _) 0 1 2 (.int .i64 0) (.int .i64 0) (.int .i64 0)
 generalize (((w1.setCell ⟨w.heap.size,0,none⟩ (.int .i64 0)).setCell ⟨w.heap.size,1,none⟩ (.int .i64 0)).setCell ⟨w.heap.size,2,none⟩ (.int .i64 0))=W9 at *
 have z0:W9.cell? ⟨w.heap.size,0,none⟩=some (.int .i64 0):=aj h9 0
 have z1:W9.cell? ⟨w.heap.size,1,none⟩=some (.int .i64 0):=aj h9 1
 have z2:W9.cell? ⟨w.heap.size,2,none⟩=some (.int .i64 0):=aj h9 2
 exact bodyPost_ret (v:= .tuple #[iv d0,.bool false]) (by simp[results,Tryz.results182,go_sem,z0,z1,z2]) rfl ⟨rfl,Vz⟩
set_option maxHeartbeats 2000000 in
set_option maxRecDepth 100000 in
theorem YV {B b q:Nat} {w:World} {o:List J} {v:Value} {pu pe:Nat} {x:It} {R:List It} (h:lJ B w b o (Al q) v (x::R) pu pe):
  Calls Tryz.prog 182 #[.pointer (some ⟨b,0,none⟩)] w fun e w'=>e= .returned (.tuple #[iv x,.bool true])/\Below w.heap.size w w':=by
 obtain⟨⟨x1,x2⟩,xc⟩:=x
 obtain⟨wa,wQ⟩:∃wa,wa=w.alloc (.cells #[.int .i64 0,.int .i64 0,.int .i64 0] 162):=⟨_,rfl⟩
 have hBa:Below w.heap.size w wa:=by rw[wQ];exact gp _ _
 have hxb:wa.heap[w.heap.size]?=some (.cells #[.int .i64 0,.int .i64 0,.int .i64 0] 162 (0,0)):=by rw[wQ];exact bG _ _
 have h0:=h.below hBa
 have hd:=AY h0
 go_enter Tryz.func182,Tryz.ntmps182
 go_wp2_with fail
 rw[<-wQ]
 clear wQ
 go_wp2_with (go_at_call 179;refine hd.mono ?_;rintro e w1 ⟨rfl,hB1⟩;have h1:=h0.below hB1;obtain⟨g,cap,rfl,hl0,hcap,hgb,hgl,hgB,a0,a1,a2,_⟩:=h1.cells (i:=0) (x:=((x1,x2),xc)) rfl;have a0':w1.cell? ⟨g,0,none⟩=some (.int .i64 x1):=(by simpa using a0);have a1':w1.cell? ⟨g,1,none⟩=some (.int .i64 x2):=(by simpa using a1);have a2':w1.cell? ⟨g,2,none⟩=some (.int .i64 xc):=(by simpa using a2);have cb:w1.cell? ⟨b,0,none⟩=some (.slice (some ⟨g,0,none⟩) (R.length+1) cap):=aj h1.blk 0;have hx1:=(hB1.block w.heap.size (bA hxb)).trans hxb;have k0:=(aj hx1 0).trans rfl;have k1:=(aj hx1 1).trans rfl;have k2:=(aj hx1 2).trans rfl;have kz:∀j,w1.frozen? ⟨w.heap.size,j,none⟩=false:=fun j=>aX hx1 j;have HZ:=Lib.hid (And.intro hB1 hx1);clear hB1 hx1 h1 a0 a1 a2)
 obtain⟨hB1,hx1⟩:=HZ.out
 have h9:=tV hx1 (.int .i64 x1) (.int .i64 x2) (.int .i64 xc)
 have Vz:=yz (hBa.trans (hB1.mono hBa.size)) (Nat.le_refl _) 0 1 2 (.int .i64 x1) (.int .i64 x2) (.int .i64 xc)
 generalize (((w1.setCell ⟨w.heap.size,0,none⟩ (.int .i64 x1)).setCell ⟨w.heap.size,1,none⟩ (.int .i64 x2)).setCell ⟨w.heap.size,2,none⟩ (.int .i64 xc))=W9 at *
 have z0:W9.cell? ⟨w.heap.size,0,none⟩=some (.int .i64 x1):=aj h9 0
 have z1:W9.cell? ⟨w.heap.size,1,none⟩=some (.int .i64 x2):=aj h9 1
 have z2:W9.cell? ⟨w.heap.size,2,none⟩=some (.int .i64 xc):=aj h9 2
 exact bodyPost_ret (v:= .tuple #[iv ((x1,x2),xc),.bool true]) (by simp[results,Tryz.results182,go_sem,z0,z1,z2]) rfl ⟨rfl,Vz⟩
set_option maxHeartbeats 2000000 in
set_option maxRecDepth 100000 in
theorem JC {B b q:Nat} {w:World} {o:List J} {v:Value} {pu pe:Nat} (h:lJ B w b o (Al q) v [] pu pe):
  Calls Tryz.prog 151 #[.pointer (some ⟨b,0,none⟩)] w fun e w'=>e= .returned (.tuple #[iv d0,.bool false])/\Below w.heap.size w w':=by
 obtain⟨wa,wQ⟩:∃wa,wa=w.alloc (.cells #[.int .i64 0,.int .i64 0,.int .i64 0] 162):=⟨_,rfl⟩
 have hBa:Below w.heap.size w wa:=by rw[wQ];exact gp _ _
 have hxb:wa.heap[w.heap.size]?=some (.cells #[.int .i64 0,.int .i64 0,.int .i64 0] 162 (0,0)):=by rw[wQ];exact bG _ _
 have h0:=h.below hBa
 have hd:=JE h0
 go_enter Tryz.func151,Tryz.ntmps151
 go_wp2_with fail
 rw[<-wQ]
 clear wQ
 go_wp2_with (go_at_call 182;refine hd.mono ?_;rintro e w1 ⟨rfl,hB1⟩;have hx1:=(hB1.block w.heap.size (bA hxb)).trans hxb;have k0:=(aj hx1 0).trans rfl;have k1:=(aj hx1 1).trans rfl;have k2:=(aj hx1 2).trans rfl;have hls:=bA hx1;have kz:∀j,w1.frozen? ⟨w.heap.size,j,none⟩=false:=fun j=>aX hx1 j;have HZ:=Lib.hid (And.intro hB1 hx1);clear hB1 hx1)
 obtain⟨hB1,hx1⟩:=HZ.out
 have h9:=tV hx1 (.int .i64 0) (.int .i64 0) (.int .i64 0)
 have Vz:=yz (hBa.trans (hB1.mono hBa.size)) (Nat.le_refl _) 0 1 2 (.int .i64 0) (.int .i64 0) (.int .i64 0)
 generalize (((w1.setCell ⟨w.heap.size,0,none⟩ (.int .i64 0)).setCell ⟨w.heap.size,1,none⟩ (.int .i64 0)).setCell ⟨w.heap.size,2,none⟩ (.int .i64 0))=W8 at *
 replace h9:=dw h9 (.cells #[.int .i64 0,.int .i64 0,.int .i64 0] 162)
 replace Vz:=Vz.alloc Vz.size (.cells #[.int .i64 0,.int .i64 0,.int .i64 0] 162)
 generalize W8.alloc (.cells #[.int .i64 0,.int .i64 0,.int .i64 0] 162)=W9 at *
 have z0:W9.cell? ⟨w.heap.size,0,none⟩=some (.int .i64 0):=aj h9 0
 have z1:W9.cell? ⟨w.heap.size,1,none⟩=some (.int .i64 0):=aj h9 1
 have z2:W9.cell? ⟨w.heap.size,2,none⟩=some (.int .i64 0):=aj h9 2
 exact bodyPost_ret (v:= .tuple #[iv d0,.bool false]) (by simp[results,Tryz.results151,go_sem,z0,z1,z2]) rfl ⟨rfl,Vz⟩
theorem Qt {w:World} {B e sz n m cap g:Nat} {xs:List Value} (h:w.ownsRow B e sz (.slice (some ⟨g,0,none⟩) n cap) n xs) (hm:m<=n):w.ownsRow B e sz (.slice (some ⟨g,0,none⟩) m cap) m (xs.take (m*sz)):=by
 obtain⟨h1,h2⟩:=h
 have hms:m*sz<=n*sz:=Nat.mul_le_mul_right _ hm
 refine⟨by rw[List.length_take,h1];omega,?_⟩
 rcases h2 with⟨he,_⟩|⟨g',cap',cur,he,hg,hh,hn,hm',hs,ht⟩
 ·cases he
 ·simp at he
  obtain⟨rfl,rfl⟩:=he
  refine .inr ⟨g,cap,cur,rfl,hg,hh,by omega,hm',hs,?_⟩
  rw[<-ht,List.take_take,Nat.min_eq_left hms]
theorem rc_take (l:List C3) (m:Nat):(rc l).take (m*3)=rc (l.take m):=by
 induction l generalizing m with
 |nil=>simp[rc]
 |cons x l ih=>
  cases m with
  |zero=>simp[rc]
  |succ m=>
   rw[List.take_succ_cons,show rc (x::l)= .int .i64 x.1:: .int .i64 x.2.1:: .int .i64 x.2.2::rc l from rfl,show(m+1)*3=m*3+3 by omega,List.take_succ_cons,List.take_succ_cons,List.take_succ_cons,ih]
   rfl
theorem ER (x:It) (R:List It):(((x::R).set 0 ((x::R).getD R.length d0)).take R.length).Perm R/\(((x::R).set 0 ((x::R).getD R.length d0)).take R.length).length=R.length:=by
 rcases List.eq_nil_or_concat R with rfl|⟨A,l,rfl⟩
 ·simp
 ·have e:(x::(A++[l])).getD (A++[l]).length d0=l:=by
   rw[List.getD_eq_getElem?_getD,List.length_append,List.length_singleton,List.getElem?_cons_succ,List.getElem?_append_right (by omega)]
   simp
  rw[List.concat_eq_append,e,List.set_cons_zero,List.length_append,List.length_singleton,List.take_succ_cons,List.take_append_of_le_length (by omega),List.take_of_length_le (by omega)]
  exact⟨(List.perm_append_singleton l A).symm,by simp⟩
theorem pop_dn {o:List J} {x:It} {R:List It} (h:hp (bt o) (fun k=>(x::R).getD k d0) 0 (x::R).length):
  Gp (bt o) (fun k=>(((x::R).set 0 ((x::R).getD R.length d0)).take R.length).getD k d0) 0 (((x::R).set 0 ((x::R).getD R.length d0)).take R.length).length 0:=by
 refine⟨fun j hj hn _ hp=>?_,fun h0=>by omega⟩
 rw[(ER x R).2] at hn
 have e:∀k,k≠0->k<R.length->(((x::R).set 0 ((x::R).getD R.length d0)).take R.length).getD k d0=(x::R).getD k d0:=fun k h0 hk=>by
  rw[List.getD_eq_getElem?_getD,List.getD_eq_getElem?_getD,List.getElem?_take_of_lt hk,List.getElem?_set_ne (fun h=>h0 h.symm),<-List.getD_eq_getElem?_getD]
 have h1:=h j hj (by simp;omega) (by omega)
 simp only at h1 ⊢
 rw[e j (by omega) hn,e ((j-1)/2) hp (by omega)]
 exact h1
theorem lJ.pop {B b:Nat} {o:List J} {w:World} {f:Value} {x:It} {R:List It} {pu pe g cap:Nat} (h:lJ B w b o f (.slice (some ⟨g,0,none⟩) (R.length+1) cap) (x::R) pu pe) (hgb:g≠b) {y:It} (hy:(x::R)[R.length]?=some y):
  lJ B ((((w.setCell ⟨g,0,none⟩ (.int .i64 y.1.1)).setCell ⟨g,1,none⟩ (.int .i64 y.1.2)).setCell ⟨g,2,none⟩ (.int .i64 y.2)).setCell ⟨b,0,none⟩ (.slice (some ⟨g,0,none⟩) R.length cap)) b o f (.slice (some ⟨g,0,none⟩) R.length cap) (((x::R).set 0 ((x::R).getD R.length d0)).take R.length) pu pe:=by
 have ey:(x::R).getD R.length d0=y:=by rw[List.getD_eq_getElem?_getD,hy,Option.getD_some]
 have hl:=(ER x R).2
 rw[ey] at hl ⊢
 refine⟨h.lo,?_,?_,fun z hz=>?_⟩
 ·have h1:=dI (dI (dI h.blk (p:=⟨g,0,none⟩) (fun e=>hgb e.symm) (.int .i64 y.1.1)) (p:=⟨g,1,none⟩) (fun e=>hgb e.symm) (.int .i64 y.1.2)) (p:=⟨g,2,none⟩) (fun e=>hgb e.symm) (.int .i64 y.2)
  exact heap_set h1 0 _
 ·have h1:=EE (row:=(x::R).map c3) h.own (i:=0) (by simp) (c3 y)
  rw[<-List.map_set] at h1
  have h2:=Qt h1 (m:=R.length) (by simp)
  rw[rc_take,<-List.map_take] at h2
  have h3:=iq h2 (p:=⟨b,0,none⟩) (by simp[Value.ownBlock];exact hgb) (.slice (some ⟨g,0,none⟩) R.length cap)
  rw[hl]
  simpa[c3] using h3
 ·have hz2:=List.mem_of_mem_take hz
  rcases List.mem_or_eq_of_mem_set hz2 with h1|rfl
  ·exact h.vp z h1
  ·exact h.vp _ (List.mem_of_getElem? hy)
set_option maxHeartbeats 2000000 in
set_option maxRecDepth 100000 in
theorem YU {B b q:Nat} {w:World} {o:List J} {v:Value} {pu pe:Nat} {x:It} {R:List It} (h:lJ B w b o (Al q) v (x::R) pu pe) (hb:Bet q o (xB b v) w) (hu:hp (bt o) (fun k=>(x::R).getD k d0) 0 (x::R).length) (hm:R.length<1000000):
  Calls Tryz.prog 151 #[.pointer (some ⟨b,0,none⟩)] w fun e w'=>e= .returned (.tuple #[iv x,.bool true])/\∃v' R',lJ B w' b o (Al q) v' R' pu pe/\R'.Perm R/\hp (bt o) (fun k=>R'.getD k d0) 0 R'.length/\Fr (xB b v) w w'/\v'.ownBlock=v.ownBlock:=by
 obtain⟨y,hy⟩:∃y,(x::R)[R.length]?=some y:=⟨_,List.getElem?_eq_getElem (by simp)⟩
 obtain⟨⟨x1,x2⟩,xc⟩:=x
 obtain⟨⟨y1,y2⟩,yc⟩:=y
 obtain⟨wa,wQ⟩:∃wa,wa=w.alloc (.cells #[.int .i64 0,.int .i64 0,.int .i64 0] 162):=⟨_,rfl⟩
 have hBa:Below w.heap.size w wa:=by rw[wQ];exact gp _ _
 have hxb:wa.heap[w.heap.size]?=some (.cells #[.int .i64 0,.int .i64 0,.int .i64 0] 162 (0,0)):=by rw[wQ];exact bG _ _
 have h0:=h.below hBa
 have hbl:=bA h.blk
 have hd:=YV h0
 obtain⟨g,cap,rfl,hl0,hcap,hgb,hgl,hgB,_⟩:=h.cells (i:=0) (x:=((x1,x2),xc)) rfl
 have HU:=Lib.hid hu
 have HB:=Lib.hid hb
 have HY:=Lib.hid hy
 clear h hu hb hy
 go_enter Tryz.func151,Tryz.ntmps151
 go_wp2_with fail
 rw[<-wQ]
 clear wQ
 go_wp2_with (go_at_call 182;refine hd.mono ?_;rintro e w1 ⟨rfl,hB1⟩;have h1:=h0.below hB1;have cb:(w1.alloc (.cells #[.int .i64 x1,.int .i64 x2,.int .i64 xc] 162)).cell? ⟨b,0,none⟩=some (.slice (some ⟨g,0,none⟩) (R.length+1) cap):=aj (dw h1.blk _) 0;have cb1:w1.cell? ⟨b,0,none⟩=some (.slice (some ⟨g,0,none⟩) (R.length+1) cap):=aj h1.blk 0;have hbl1:=bA h1.blk;have HZ:=Lib.hid (And.intro hB1 h1);clear hB1 h1)
 have hBW:Below w.heap.size w (w1.alloc (.cells #[.int .i64 x1,.int .i64 x2,.int .i64 xc] 162)):=(hBa.trans (HZ.out.1.mono hBa.size)).alloc (hBa.trans (HZ.out.1.mono hBa.size)).size _
 have h2:=HZ.out.2.below (gp w1 (.cells #[.int .i64 x1,.int .i64 x2,.int .i64 xc] 162))
 have hx2:=bG w1 (.cells #[.int .i64 x1,.int .i64 x2,.int .i64 xc] 162)
 have hr2:=dw ((HZ.out.1.block w.heap.size (bA hxb)).trans hxb) (.cells #[.int .i64 x1,.int .i64 x2,.int .i64 xc] 162)
 have hls:w.heap.size<w1.heap.size:=Nat.lt_of_lt_of_le (bA hxb) HZ.out.1.size
 clear cb cb1 HZ
 generalize (w1.alloc (.cells #[.int .i64 x1,.int .i64 x2,.int .i64 xc] 162))=W2 at *
 obtain⟨g',cap',e',hj2,_,_,_,_,b0,b1,b2,hfz⟩:=h2.cells HY.out
 have eg:g'=g:=by simp at e';exact e'.1.symm
 rw[eg] at b0 b1 b2 hfz
 clear e' eg
 simp only at b0 b1 b2
 obtain⟨_,_,e0,_,_,_,_,_,a0,a1,a2,_⟩:=h2.cells (i:=0) (x:=((x1,x2),xc)) rfl
 simp only[Value.slice.injEq,Option.some.injEq,Addr.mk.injEq,and_true] at e0
 rw[<-e0.1] at a0 a1 a2
 clear e0
 have a0':W2.cell? ⟨g,0,none⟩=some (.int .i64 x1):=by simpa using a0
 have a1':W2.cell? ⟨g,1,none⟩=some (.int .i64 x2):=by simpa using a1
 have a2':W2.cell? ⟨g,2,none⟩=some (.int .i64 xc):=by simpa using a2
 have a0d:W2.drew.cell? ⟨g,0,none⟩=some (.int .i64 x1):=a0'
 have a1d:W2.drew.cell? ⟨g,1,none⟩=some (.int .i64 x2):=a1'
 have a2d:W2.drew.cell? ⟨g,2,none⟩=some (.int .i64 xc):=a2'
 have b0d:W2.drew.cell? ⟨g,R.length*3,none⟩=some (.int .i64 y1):=b0
 have b1d:W2.drew.cell? ⟨g,R.length*3+1,none⟩=some (.int .i64 y2):=b1
 have b2d:W2.drew.cell? ⟨g,R.length*3+2,none⟩=some (.int .i64 yc):=b2
 have hfd:∀j,W2.drew.frozen? ⟨g,j,none⟩=false:=fun j=>hfz j
 have cb:W2.cell? ⟨b,0,none⟩=some (.slice (some ⟨g,0,none⟩) (R.length+1) cap):=aj h2.blk 0
 have cbd:W2.drew.cell? ⟨b,0,none⟩=some (.slice (some ⟨g,0,none⟩) (R.length+1) cap):=aj h2.blk 0
 have hfb:W2.frozen? ⟨b,0,none⟩=false:=aX h2.blk 0
 clear a0 a1 a2
 have hn1:(R.length:Int)<(R.length:Int)+1:=by omega
 have hn2:(R.length:Int)<=(cap:Int):=by simp at hcap;omega
 have hn3:R.length<=cap:=by simp at hcap;omega
 have hgb':b≠g:=fun e=>hgb e.symm
 have HZ:=Lib.hid (And.intro hBW (And.intro h2 (And.intro hx2 hr2)))
 clear hBW h2 hx2 hr2 h0 hBa hd
 go_region
 go_wp2_with fail
 obtain⟨hBW,h2,hx2,hr2⟩:=HZ.out
 have h5:=(lJ.pop h2 hgb HY.out).drew
 have Co:=((((((Fr.dL (S:=xB b (.slice (some ⟨g,0,none⟩) (R.length+1) cap)) hBW).set (p:=⟨g,0,none⟩) (.inl (.inr rfl)) (.int .i64 y1)).set (p:=⟨g,1,none⟩) (.inl (.inr rfl)) (.int .i64 y2)).set (p:=⟨g,2,none⟩) (.inl (.inr rfl)) (.int .i64 yc)).set (p:=⟨b,0,none⟩) (.inl (.inl rfl)) (.slice (some ⟨g,0,none⟩) R.length cap))).drew
 have hgx:w1.heap.size≠g:=by omega
 have hbx:w1.heap.size≠b:=by omega
 have hgr:w.heap.size≠g:=by omega
 have hbr:w.heap.size≠b:=by omega
 have hx5:((((W2.setCell ⟨g,0,none⟩ (.int .i64 y1)).setCell ⟨g,1,none⟩ (.int .i64 y2)).setCell ⟨g,2,none⟩ (.int .i64 yc)).setCell ⟨b,0,none⟩ (.slice (some ⟨g,0,none⟩) R.length cap)).drew.heap[w1.heap.size]?=_:=dI (dI (dI (dI hx2 hgx _) hgx _) hgx _) hbx _
 have Tk:((((W2.setCell ⟨g,0,none⟩ (.int .i64 y1)).setCell ⟨g,1,none⟩ (.int .i64 y2)).setCell ⟨g,2,none⟩ (.int .i64 yc)).setCell ⟨b,0,none⟩ (.slice (some ⟨g,0,none⟩) R.length cap)).drew.heap[w.heap.size]?=_:=dI (dI (dI (dI hr2 hgr _) hgr _) hgr _) hbr _
 generalize ((((W2.setCell ⟨g,0,none⟩ (.int .i64 y1)).setCell ⟨g,1,none⟩ (.int .i64 y2)).setCell ⟨g,2,none⟩ (.int .i64 yc)).setCell ⟨b,0,none⟩ (.slice (some ⟨g,0,none⟩) R.length cap)).drew=W5 at *
 have hl:=(ER ((x1,x2),xc) R)
 have hdn:=Ho h5 (HB.out.fr Co (fun i hi=> .inl hi)) (lo:=0) (i:=0) (by omega) (by omega) (pop_dn HU.out) (by rw[hl.2];omega)
 refine hdn.mono ?_
 rintro e w6 ⟨rfl,R',hR6,hP6,hH6,Cm⟩
 have hx6:=Cm.heap hx5 (fun h=>by rcases h with h|h;exact hbx h;exact hgx (by simpa[Value.ownBlock] using h.symm))
 have MO:=Cm.heap Tk (fun h=>by rcases h with h|h;exact hbr h;exact hgr (by simpa[Value.ownBlock] using h.symm))
 have hf6:=Co.trans Cm (fun i hi=> .inl hi)
 have hb6:=hR6.oq
 have k0:w6.cell? ⟨w1.heap.size,0,none⟩=some (.int .i64 x1):=aj hx6 0
 have k1:w6.cell? ⟨w1.heap.size,1,none⟩=some (.int .i64 x2):=aj hx6 1
 have k2:w6.cell? ⟨w1.heap.size,2,none⟩=some (.int .i64 xc):=aj hx6 2
 have r0:w6.cell? ⟨w.heap.size,0,none⟩=some (.int .i64 0):=aj MO 0
 have r1:w6.cell? ⟨w.heap.size,1,none⟩=some (.int .i64 0):=aj MO 1
 have r2:w6.cell? ⟨w.heap.size,2,none⟩=some (.int .i64 0):=aj MO 2
 have kz:∀j,w6.frozen? ⟨w.heap.size,j,none⟩=false:=fun j=>aX MO j
 have H6:=Lib.hid (And.intro hR6 (And.intro (hP6.trans hl.1) (And.intro hH6 (And.intro hf6 MO))))
 clear hR6 hP6 hH6 hf6 MO hx6 Cm hx5 Tk Co h5 hdn hb6 hx2 hr2 h2 hBW
 go_wp2_with fail
 obtain⟨hR6,hP6,hH6,hf6,MO⟩:=H6.out
 have h9:=tV MO (.int .i64 x1) (.int .i64 x2) (.int .i64 xc)
 have hf9:=((hf6.set (p:=⟨w.heap.size,0,none⟩) (.inr (Nat.le_refl _)) (.int .i64 x1)).set (p:=⟨w.heap.size,1,none⟩) (.inr (Nat.le_refl _)) (.int .i64 x2)).set (p:=⟨w.heap.size,2,none⟩) (.inr (Nat.le_refl _)) (.int .i64 xc)
 have hR9:=hR6.same (w':=(((w6.setCell ⟨w.heap.size,0,none⟩ (.int .i64 x1)).setCell ⟨w.heap.size,1,none⟩ (.int .i64 x2)).setCell ⟨w.heap.size,2,none⟩ (.int .i64 xc))) (fun k hk=>by
  have hne:k≠w.heap.size:=by
   rcases hk with rfl|hk
   ·omega
   ·have:g=k:=by simpa[Value.ownBlock] using hk
    omega
  exact((Below.heap_setCell _ _ _ k hne).trans (Below.heap_setCell _ _ _ k hne)).trans (Below.heap_setCell _ _ _ k hne))
 generalize (((w6.setCell ⟨w.heap.size,0,none⟩ (.int .i64 x1)).setCell ⟨w.heap.size,1,none⟩ (.int .i64 x2)).setCell ⟨w.heap.size,2,none⟩ (.int .i64 xc))=W9 at *
 have z0:W9.cell? ⟨w.heap.size,0,none⟩=some (.int .i64 x1):=aj h9 0
 have z1:W9.cell? ⟨w.heap.size,1,none⟩=some (.int .i64 x2):=aj h9 1
 have z2:W9.cell? ⟨w.heap.size,2,none⟩=some (.int .i64 xc):=aj h9 2
 exact bodyPost_ret (v:= .tuple #[iv ((x1,x2),xc),.bool true]) (by simp[results,Tryz.results151,go_sem,z0,z1,z2]) rfl ⟨rfl,_,R',hR9,hP6,hH6,hf9,rfl⟩
end Go.Proofs.YtilpincgjlclpaaGreat.Ob
end
section
namespace Go.Proofs.YtilpincgjlclpaaGreat.Ob
open Go Go.RowKit Bs Mp jL Hp
open Tm (It bt qM ma)
set_option maxHeartbeats 1000000 in
set_option maxRecDepth 100000 in
theorem Hq {B q:Nat} {w:World} (o:List J) (hB:B<=w.heap.size):
  Calls Tryz.prog 115 #[Al q] w fun e w'=>e= .returned (.pointer (some ⟨w.heap.size,0,none⟩))/\lJ B w' w.heap.size o (Al q) (.slice none 0 0) [] 0 0/\Below w.heap.size w w':=by
 go_enter Tryz.func115,Tryz.ntmps115
 go_wp2
 go_ret
 refine⟨rfl,⟨hB,bG w _,?_,fun x hx=>by simp at hx⟩,gp _ _⟩
 exact World.ownsRow_nil _ _ _ _
theorem rc_one (l:List C3):∀u∈rc l,u.oneCell'=true:=fun u hu=>by
 obtain⟨x,_,hx⟩:=List.mem_flatMap.1 hu
 simp at hx
 rcases hx with rfl|rfl|rfl<;>rfl
theorem Mr {B:Nat} {w:World} {v:Value} {l:List It} (h:w.ownsRow B TI 3 v l.length (rc (l.map c3))) (hv:0<l.length) (hm:l.length<=1000000):
  Calls Tryz.prog 197 #[v] w fun e w'=>∃v',e= .returned v'/\w'.ownsRow w.heap.size TI 3 v' l.length (rc (l.map c3))/\Below w.heap.size w w':=by
 obtain⟨i0,hi0,hz0,hz1,hz2⟩:=info_parts Zi
 obtain⟨A,cap,rfl⟩:=Bs.bU h
 obtain⟨g,rfl,hg,hgl,hcap,hc,hfz⟩:=gz h hv
 refine(AnyE.slices_Clone Tryz.cloneI i0 _ 3 24 hi0 hz0 hz1 hz2 rfl (by omega) Tryz.sizeOf162 g 0 l.length cap (rc (l.map c3)) w (by rw[Io];simp) (by unfold maxLen;omega) (by omega) (fun j u hj=>by rw[Nat.zero_add];exact hc j u hj) (rc_one _)).mono ?_
 rintro e w' ⟨v',rfl,ho,_,hB⟩
 exact⟨v',rfl,ho,hB⟩
theorem Zd {o:List J} {f:Nat->It} {n:Nat}:hp (bt o) f (n/2) n:=fun j _ hn hp=>by omega
theorem hp_dn {o:List J} {f:Nat->It} {n i:Nat} (h:hp (bt o) f (i+1) n):Gp (bt o) f i n i:=
 ⟨fun j hj hn hp hne=>h j hj hn (by omega),fun h0 hp=>by omega⟩
theorem lJ.fill {b C:Nat} {o:List J} {w w2:World} {f v v0:Value} {l:List It} {pu pe:Nat} (h:lJ C w2 b o f v0 [] pu pe) (ho:w2.ownsRow w.heap.size TI 3 v l.length (rc (l.map c3))) (hb:b<w.heap.size) (hC:C<=w.heap.size) (hvp:∀x∈l,VP o x.1):
  lJ C ((w2.setCell ⟨b,0,none⟩ v).setCell ⟨b,3,none⟩ (.int .i64 (l.length:Int))) b o f v l pu l.length:=by
 have hne:v.ownBlock≠some b:=fun e=>by have:=(eG ho e).1;omega
 exact⟨h.lo,heap_set (heap_set h.blk 0 v) 3 _,jD (iq (iq ho (p:=⟨b,0,none⟩) hne _) (p:=⟨b,3,none⟩) hne _) hC,hvp⟩
set_option maxHeartbeats 2000000 in
set_option maxRecDepth 100000 in
theorem heap_of {C q:Nat} {w:World} {o:List J} {v:Value} {l:List It} (h:w.ownsRow C TI 3 v l.length (rc (l.map c3))) (hv:0<l.length) (hm:l.length<=1000000) (hvp:∀x∈l,VP o x.1) (hb:Bet q o none_ w):
  Calls Tryz.prog 181 #[Al q,v] w fun e w'=>e= .returned (.pointer (some ⟨w.heap.size,0,none⟩))/\∃v' R',lJ w.heap.size w' w.heap.size o (Al q) v' R' 0 l.length/\R'.Perm l/\hp (bt o) (fun k=>R'.getD k d0) 0 R'.length/\Below w.heap.size w w':=by
 have hn:=SC q
 have HH:=Lib.hid h
 have HB:=Lib.hid hb
 obtain⟨A,cap,rfl⟩:=Bs.bU h
 clear h hb
 go_enter Tryz.func181,Tryz.ntmps181
 go_wp2_with (first
  |(go_at_call 115;refine(Hq o (Nat.le_refl w.heap.size)).mono ?_;rintro e w1 ⟨rfl,hR1,hB1⟩;have hcl:=Mr (((Fr.dL (S:=none_) hB1).own HH.out (fun _ _ h=>h))) hv hm;have H1:=Lib.hid (And.intro hR1 hB1);clear hR1 hB1)
  |(go_at_call 197;refine hcl.mono ?_;rintro e w2 ⟨v2,rfl,ho2,hB2⟩;obtain⟨A2,cap2,rfl⟩:=Bs.bU ho2;have hR2:=H1.out.1.below hB2;have cz0:=(aj hR2.blk 0).trans rfl;have cz3:=(aj hR2.blk 3).trans rfl;have fz:∀j,w2.frozen? ⟨w.heap.size,j,none⟩=false:=fun j=>aX hR2.blk j;have H2:=Lib.hid (And.intro hR2 (And.intro ho2 (H1.out.2.trans (hB2.mono H1.out.2.size))));clear hR2 ho2 hB2))
 have hbw1:w.heap.size<w1.heap.size:=bA H1.out.1.blk
 have h3:=lJ.fill H2.out.1 H2.out.2.1 hbw1 (Nat.le_of_lt hbw1) hvp
 have hB3:Below w.heap.size w ((w2.setCell ⟨w.heap.size,0,none⟩ (.slice A2 l.length cap2)).setCell ⟨w.heap.size,3,none⟩ (.int .i64 (l.length:Int))):=
  ((((Fr.dL (S:=fun k=>w.heap.size<=k) H2.out.2.2).set (p:=⟨w.heap.size,0,none⟩) (.inr (Nat.le_refl _)) _).set (p:=⟨w.heap.size,3,none⟩) (.inr (Nat.le_refl _)) _)).toBelow (fun _ h=>h) (Nat.le_refl _)
 generalize ((w2.setCell ⟨w.heap.size,0,none⟩ (.slice A2 l.length cap2)).setCell ⟨w.heap.size,3,none⟩ (.int .i64 (l.length:Int)))=W3 at *
 have hA2:∀g,(Value.slice A2 l.length cap2).ownBlock=some g->w.heap.size<=g:=fun g e=>(eG h3.own e).1
 have HA2:=Lib.hid hA2
 have H3:=Lib.hid h3
 have HB3:=Lib.hid hB3
 clear h3 hB3 H2 H1 hA2 hcl cz0 cz3 fz
 try go_frame
 go_loopg [6] (l.length/2) (fun gk v6 wr=>∃(R':List It),v6= .int .i64 ((gk:Int)-1)/\gk<=l.length/2/\Hid (lJ w.heap.size wr w.heap.size o (Al q) (.slice A2 l.length cap2) R' 0 l.length)/\Hid (R'.Perm l)/\Hid (hp (bt o) (fun k=>R'.getD k d0) gk R'.length)/\Hid (Below w.heap.size w wr))
 case atStart=>exact⟨l,by go_num,Nat.le_refl _,H3,List.Perm.refl _,Lib.hid Zd,HB3⟩
 case round=>
  obtain⟨R',rfl,qy,HR,HP,HK,HW⟩:=hrel
  rcases gk with _|m
  ·go_wp2
   go_ret
   exact⟨rfl,_,R',HR.out,HP.out,HK.out,HW.out⟩
  ·have em:((m+1:Nat):Int)-1=(m:Int):=by omega
   rw[em]
   have hl:=HP.out.length_eq
   have hdn:=Ho HR.out (HB.out.fr (Fr.dL (S:=none_) HW.out) (T:=xB w.heap.size (.slice A2 l.length cap2)) (fun i hi=>by
    rcases hi with rfl|hi
    ·exact .inr (Nat.le_refl _)
    ·exact .inr (HA2.out i hi))) (lo:=m) (i:=m) (by omega) (Nat.le_refl _) (hp_dn HK.out) (by omega)
   have hm0:decide ((m:Int)>=0)=true:=decide_eq_true (by omega)
   clear hl
   go_wp2_with (go_at_call 183;refine hdn.mono ?_;rintro e w5 ⟨rfl,R2,hr1,hr2,hr3,hr4⟩;have HZ:=Lib.hid (And.intro hr1 (And.intro hr2 (And.intro hr3 hr4)));clear hr1 hr2 hr3 hr4)
   go_roundg m
   case measure=>omega
   case rel=>exact⟨R2,rfl,by omega,Lib.hid HZ.out.1,Lib.hid (HZ.out.2.1.trans HP.out),Lib.hid HZ.out.2.2.1,Lib.hid (HW.out.trans (HZ.out.2.2.2.toBelow (fun i hi=>by
    rcases hi with rfl|hi
    ·exact Nat.le_refl _
    ·exact HA2.out i hi) HW.out.size))⟩
end Go.Proofs.YtilpincgjlclpaaGreat.Ob
end
section
namespace Go.Proofs.YtilpincgjlclpaaGreat.Ob
open Go Go.RowKit Bs Mp jL Hp
open Tm (It bt qM ma)
theorem keepQ {B b:Nat} {o:List J} {S:Nat->Prop} {a1 a2 a3 a4 a5 a6 a7:Addr} {v1 v2 v3 v4 v5 v6 v7:Value} {w U w1:World} (h:Sym B U b o S/\Below w.heap.size w U/\w.heap.size<=U.heap.size/\U.cell? a1=some v1/\U.cell? a2=some v2/\U.cell? a3=some v3/\U.cell? a4=some v4/\U.cell? a5=some v5/\U.cell? a6=some v6/\U.cell? a7=some v7) (hB:Below U.heap.size U w1):
  Sym B w1 b o S/\Below w.heap.size w w1/\w.heap.size<=w1.heap.size/\w1.cell? a1=some v1/\w1.cell? a2=some v2/\w1.cell? a3=some v3/\w1.cell? a4=some v4/\w1.cell? a5=some v5/\w1.cell? a6=some v6/\w1.cell? a7=some v7:=by
 obtain⟨h0,hb,hn,h1,h2,h3,h4,h5,h6,h7⟩:=h
 have k:∀{a v},U.cell? a=some v->w1.cell? a=some v:=fun h=>(hB.cell (World.block_lt_of_cell? _ _ h)).trans h
 exact⟨h0.below hB,hb.trans (hB.mono hn),Nat.le_trans hn hB.size,k h1,k h2,k h3,k h4,k h5,k h6,k h7⟩
theorem UZ {B b:Nat} {o:List J} {S:Nat->Prop} {w:World} {X:Prop} (h:Sym B w b o S/\X) (hl:o.length<=1000000) {x y:It} (hp:VP o x.1) (hq:VP o y.1):
  Calls Tryz.prog 145 #[.pointer (some ⟨b,0,none⟩),iv x,iv y] w fun e w'=>e= .returned (.bool (qM o x y))/\Below w.heap.size w w':=NJ h.1 hl hp hq
set_option maxHeartbeats 4000000 in
set_option maxRecDepth 100000 in
theorem Nt {B b q:Nat} {o:List J} {S:Nat->Prop} {w:World} (h:Sym B w b o S) (hl:o.length<=1000000) (hq:w.cell? ⟨q,0,none⟩=some (.pointer (some ⟨b,0,none⟩))) {x y:It} (hx:VP o x.1) (hy:VP o y.1):
  Calls Tryz.prog 116 #[.pointer (some ⟨q,0,none⟩),iv x,iv y] w fun e w'=>e= .returned (.bool (qM o x y))/\Below w.heap.size w w':=by
 obtain⟨⟨p1,p2⟩,pc⟩:=x
 obtain⟨⟨q1,q2⟩,qc⟩:=y
 obtain⟨r,hr⟩:∃r,qM o ((p1,p2),pc) ((q1,q2),qc)=r:=⟨_,rfl⟩
 have AX:=fun(U:World) (X:Prop) (hU:Sym B U b o S/\X)=>UZ hU hl hx hy
 rw[hr] at AX ⊢
 clear hr
 obtain⟨V,hV⟩:∃V,V=(w.alloc (.cells #[.int .i64 p1,.int .i64 p2,.int .i64 pc] 162)).alloc (.cells #[.int .i64 q1,.int .i64 q2,.int .i64 qc] 162):=⟨_,rfl⟩
 have ji:Below w.heap.size w V:=by rw[hV];exact((Below.refl _ w).alloc (Nat.le_refl _) _).alloc (by simp) _
 have hxv:V.heap[w.heap.size]?=some (.cells #[.int .i64 p1,.int .i64 p2,.int .i64 pc] 162 (0,0)):=by rw[hV];exact dw (bG w _) _
 have hyv:V.heap[w.heap.size+1]?=some (.cells #[.int .i64 q1,.int .i64 q2,.int .i64 qc] 162 (0,0)):=by
  rw[hV]
  have:=bG (w.alloc (.cells #[.int .i64 p1,.int .i64 p2,.int .i64 pc] 162)) (.cells #[.int .i64 q1,.int .i64 q2,.int .i64 qc] 162)
  rwa[World.size_alloc] at this
 have hS:Sym B V.drew b o S/\Below w.heap.size w V.drew/\w.heap.size<=V.drew.heap.size/\V.drew.cell? ⟨q,0,none⟩=some (.pointer (some ⟨b,0,none⟩))/\V.drew.cell? ⟨w.heap.size,0,none⟩=some (.int .i64 p1)/\V.drew.cell? ⟨w.heap.size,1,none⟩=some (.int .i64 p2)/\V.drew.cell? ⟨w.heap.size,2,none⟩=some (.int .i64 pc)/\V.drew.cell? ⟨w.heap.size+1,0,none⟩=some (.int .i64 q1)/\V.drew.cell? ⟨w.heap.size+1,1,none⟩=some (.int .i64 q2)/\V.drew.cell? ⟨w.heap.size+1,2,none⟩=some (.int .i64 qc):=
  ⟨(h.below ji).same fun _ _=>rfl,ji.drew,ji.size,(ji.cell (World.block_lt_of_cell? _ _ hq)).trans hq,aj hxv 0,aj hxv 1,aj hxv 2,aj hyv 0,aj hyv 1,aj hyv 2⟩
 go_enter Tryz.func116,Tryz.ntmps116
 go_wp2_with fail
 rw[<-hV]
 clear hV hxv hyv h ji hq
 go_region_held3 (fun w'=>Sym B w' b o S/\Below w.heap.size w w'/\w.heap.size<=w'.heap.size/\w'.cell? ⟨q,0,none⟩=some (.pointer (some ⟨b,0,none⟩))/\w'.cell? ⟨w.heap.size,0,none⟩=some (.int .i64 p1)/\w'.cell? ⟨w.heap.size,1,none⟩=some (.int .i64 p2)/\w'.cell? ⟨w.heap.size,2,none⟩=some (.int .i64 pc)/\w'.cell? ⟨w.heap.size+1,0,none⟩=some (.int .i64 q1)/\w'.cell? ⟨w.heap.size+1,1,none⟩=some (.int .i64 q2)/\w'.cell? ⟨w.heap.size+1,2,none⟩=some (.int .i64 qc)) (first
  |exact hS
  |exact keepQ (by assumption) (by assumption)
  |exact keepQ (by assumption) (gp _ _)) (first
  |(go_at_call 145;refine(AX _ _ (by assumption)).mono ?_;rintro e w1 ⟨rfl,hB1⟩))
 go_wp2
 go_ret
 exact⟨rfl,And.left (And.right (by assumption:Sym B _ b o S/\Below w.heap.size w _/\_))⟩
theorem Pt {B b q:Nat} {o:List J} {S T:Nat->Prop} {w:World} (h:Sym B w b o S) (hl:o.length<=1000000) (hq:w.cell? ⟨q,0,none⟩=some (.pointer (some ⟨b,0,none⟩))) (hT:Sep T S) (hTq:¬T q):Bet q o T w:=fun W x y f hx hy=>
 Nt (h.fr f hT) hl (f.cell hq hTq) hx hy
end Go.Proofs.YtilpincgjlclpaaGreat.Ob
end
section
namespace Go.Proofs.YtilpincgjlclpaaGreat.Ob
open Go Go.RowKit Bs Mp jL Hp
open Tm (It bt qM ma)
abbrev TQ:Nat:=210
structure oM (B:Nat) (w:World) (b tb hb kb:Nat) (v:Value) (o:List J) (kn H R:List It) (pu po pe re jA hpe n:Nat):Prop where
 lo:B<=b
 klo:B<=kb
 blk:w.heap[b]?=some (.cells #[.pointer (some ⟨tb,0,none⟩),.pointer (some ⟨hb,0,none⟩),.map (some kb),.int .i64 0,.int .i64 0,.int .i64 (pu:Int),.int .i64 (po:Int),.int .i64 (pe:Int),.int .i64 (re:Int)] TQ (0,0))
 Gc:mp ou w kb kn
 WQ:∀x∈kn,VP o x.1
 hpr:lJ B w hb o (Al b) v R jA hpe
 ord:hp (bt o) (fun k=>R.getD k d0) 0 R.length
 per:R.Perm H
 bnd:H.length+po<=n/\kn.length<=n/\pu<=n/\pe<=n/\re<=n/\jA<=n/\hpe<=n
abbrev yD (b hb kb:Nat) (v:Value):Nat->Prop:=fun k=>k=b\/k=hb\/k=kb\/v.ownBlock=some k
def Qu (B:Nat) (w:World) (b tb:Nat) (o:List J) (kn H:List It) (pu po pe re n:Nat) (S:Nat->Prop):Prop:=
 ∃hb kb v R jA hpe,oM B w b tb hb kb v o kn H R pu po pe re jA hpe n/\S=yD b hb kb v
section
variable {B b tb hb kb:Nat} {w w':World} {v:Value} {o:List J} {kn H R:List It} {pu po pe re jA hpe n:Nat} {S T:Nat->Prop}
theorem oM.oq (h:oM B w b tb hb kb v o kn H R pu po pe re jA hpe n):In B w (yD b hb kb v):=fun k hk=>by
 rcases hk with rfl|rfl|rfl|hk
 ·exact⟨h.lo,bA h.blk⟩
 ·exact⟨h.hpr.lo,bA h.hpr.blk⟩
 ·exact⟨h.klo,h.Gc.lt⟩
 ·exact eG h.hpr.own hk
theorem oM.same (h:oM B w b tb hb kb v o kn H R pu po pe re jA hpe n) (he:∀k,yD b hb kb v k->w'.heap[k]?=w.heap[k]?):oM B w' b tb hb kb v o kn H R pu po pe re jA hpe n:=
 ⟨h.lo,h.klo,(he b (.inl rfl)).trans h.blk,h.Gc.same (he kb (.inr (.inr (.inl rfl)))),h.WQ,h.hpr.same (fun k hk=>he k (by rcases hk with hk|hk;exact .inr (.inl hk);exact .inr (.inr (.inr hk)))),h.ord,h.per,h.bnd⟩
theorem oM.below (h:oM B w b tb hb kb v o kn H R pu po pe re jA hpe n) (f:Below w.heap.size w w'):oM B w' b tb hb kb v o kn H R pu po pe re jA hpe n:=h.same fun k hk=>f.block k (h.oq k hk).2
theorem oM.ne (h:oM B w b tb hb kb v o kn H R pu po pe re jA hpe n):b≠hb/\b≠kb/\hb≠kb/\v.ownBlock≠some b/\v.ownBlock≠some hb/\v.ownBlock≠some kb:=by
 refine⟨?_,iQ h.blk h.Gc,iQ h.hpr.blk h.Gc,Bs.own_ne h.hpr.own h.blk (show TQ≠TI by decide),Bs.own_ne h.hpr.own h.hpr.blk (show TH≠TI by decide),nO h.hpr.own h.Gc⟩
 rintro rfl
 have h1:=h.blk.symm.trans h.hpr.blk
 simp at h1
theorem Qu.oq (h:Qu B w b tb o kn H pu po pe re n S):In B w S:=by
 obtain⟨hb,kb,v,R,jA,hpe,h,rfl⟩:=h
 exact h.oq
theorem Qu.same (h:Qu B w b tb o kn H pu po pe re n S) (he:∀k,S k->w'.heap[k]?=w.heap[k]?):Qu B w' b tb o kn H pu po pe re n S:=by
 obtain⟨hb,kb,v,R,jA,hpe,h,rfl⟩:=h
 exact⟨hb,kb,v,R,jA,hpe,h.same he,rfl⟩
theorem Qu.fr (h:Qu B w b tb o kn H pu po pe re n S) (f:Fr T w w') (d:Sep T S):Qu B w' b tb o kn H pu po pe re n S:=h.same (Dc f h.oq d)
theorem Qu.below (h:Qu B w b tb o kn H pu po pe re n S) (f:Below w.heap.size w w'):Qu B w' b tb o kn H pu po pe re n S:=h.same fun k hk=>f.block k (h.oq k hk).2
end
set_option maxHeartbeats 1000000 in
set_option maxRecDepth 100000 in
theorem Zv {w:World} (tb:Nat) (o:List J):
  Calls Tryz.prog 83 #[.pointer (some ⟨tb,0,none⟩)] w fun e w'=>∃b S,e= .returned (.pointer (some ⟨b,0,none⟩))/\Qu w.heap.size w' b tb o [] [] 0 0 0 0 0 S/\Below w.heap.size w w':=by
 have hmm:=@run_makeMap Tryz.prog
 obtain⟨V,hV⟩:∃V,V=(w.alloc (.map #[] 0)).alloc (.cells #[.pointer (some ⟨tb,0,none⟩),.pointer none,.map (some w.heap.size),.int .i64 0,.int .i64 0,.int .i64 0,.int .i64 0,.int .i64 0,.int .i64 0] 210):=⟨_,rfl⟩
 have ji:Below w.heap.size w V:=by rw[hV];exact((Below.refl _ w).alloc (Nat.le_refl _) _).alloc (by simp) _
 have hb:V.heap[w.heap.size+1]?=some (.cells #[.pointer (some ⟨tb,0,none⟩),.pointer none,.map (some w.heap.size),.int .i64 0,.int .i64 0,.int .i64 0,.int .i64 0,.int .i64 0,.int .i64 0] TQ (0,0)):=by
  rw[hV]
  have:=bG (w.alloc (.map #[] 0)) (.cells #[.pointer (some ⟨tb,0,none⟩),.pointer none,.map (some w.heap.size),.int .i64 0,.int .i64 0,.int .i64 0,.int .i64 0,.int .i64 0,.int .i64 0] TQ)
  rwa[World.size_alloc] at this
 have hM:mp ou V w.heap.size []:=by rw[hV];exact(oW w).alloc _
 have hnw:=Hq (B:=w.heap.size) (q:=w.heap.size+1) (w:=V) o ji.size
 go_enter Tryz.func83,Tryz.ntmps83
 go_wp2_with fail
 rw[<-hV]
 clear hV
 refine hnw.mono ?_
 rintro e w1 ⟨rfl,hR1,hB1⟩
 have hb1:=(hB1.block _ (bA hb)).trans hb
 have c1:w1.cell? ⟨w.heap.size+1,1,none⟩=some (.pointer none):=aj hb1 1
 have f1:=aX hb1 1
 have HX:=Lib.hid (And.intro hR1 (And.intro hB1 (And.intro hb1 hM)))
 have hlt:=bA hb
 clear hR1 hB1 hb1 hM
 go_wp2
 go_ret
 obtain⟨hR1,hB1,hb1,hM⟩:=HX.out
 have hq1:w.heap.size+1≠V.heap.size:=by omega
 refine⟨w.heap.size+1,_,rfl,⟨V.heap.size,w.heap.size,.slice none 0 0,[],0,0,⟨by omega,Nat.le_refl _,?_,?_,by simp,?_,fun j _ h=>by simp at h,List.Perm.refl _,by simp⟩,rfl⟩,?_⟩
 ·exact heap_set hb1 1 _
 ·exact((hM.same (hB1.block _ hM.lt)).set (a:=⟨w.heap.size+1,1,none⟩) (by simp) _)
 ·exact hR1.same fun k hk=>Below.heap_setCell _ _ _ k (by
   rcases hk with rfl|hk
   ·exact fun e=>hq1 e.symm
   ·simp[Value.ownBlock] at hk)
 ·exact((Fr.dL (S:=fun k=>w.heap.size<=k) (ji.trans (hB1.mono ji.size))).set (p:=⟨w.heap.size+1,1,none⟩) (.inr (by simp)) _).toBelow (fun _ h=>h) (Nat.le_refl _)
end Go.Proofs.YtilpincgjlclpaaGreat.Ob
end
