import Derived.Sort.KeysCollected
import Derived.Test.YtilpincgjlclpaaGreatB32
set_option linter.unusedVariables false
set_option linter.unusedSimpArgs false
section
namespace Go.Proofs.YtilpincgjlclpaaGreat.Ob
open Go Go.RowKit Go.Shelf Bs Mp jL
attribute [local go_sem] Oper.semAt_some
abbrev SM:=ByteArray×Int
def Cs (p:SM):List UInt8:=p.1.data.toList
theorem kyL_enc (s:ByteArray) (n:Int):Go.Proofs.encStr (Cs (s,n))=Value.string s:=by
 show Value.string ⟨s.data.toList.toArray⟩=_
 rw[Array.toArray_toList]
set_option maxRecDepth 100000 in
set_option maxHeartbeats 1000000 in
theorem VJ (F:Fence) (n:Nat) (h1:F.fn 103) (hro:F.round=none) (hn:1<=n) (l Bm b:Nat) (m:List SM) (J:List (List UInt8)->World->Prop)
  (hY:∀pre x W,J pre W->pre.length<m.length->YieldAt F (n-1) Tryz.prog l #[Go.Proofs.encStr x] W fun e W'=>e= .returned (.bool true)/\J (pre++[x]) W'/\KeepsWalks W W')
  (W:World) (hJ:AbidesFrom W.heap.size J) (hm:W.cell? ⟨Bm,0,none⟩=some (.map (some b))) (hown:mp yj W b m) (h0:J [] W):
  CallsIn F n Tryz.prog 103 #[.func (.yield l) #[] #[],.pointer (some ⟨Bm,0,none⟩)] W fun e W'=>(∃v,e= .returned v)/\∃ss:List (List UInt8),ss.Perm (m.map Cs)/\J ss W':=by
 have hnd:=hown.nodup
 refine callsIn_of_wp Tryz.func103 rfl h1 ?_ hro
 simp only[Tryz.ntmps103,List.size_toArray,List.length_cons,List.length_nil,Nat.reduceAdd,Nat.reduceSub,Array.replicate_succ,Array.replicate_zero,List.push_toArray,List.append_toArray,List.nil_append,List.cons_append]
 gi_wp2_with (first
  |(gi_at_range;refine qL (T:=yj) _ rfl _ 112 rfl rfl rfl hown ?_;intro w0 hrg0 hg0 hs0)
  |gi_in)
 have HG0:=Lib.hid hg0
 have gq:=Lib.hid hrg0
 have HND:=Lib.hid hnd
 clear hs0 hg0 hrg0 hnd hown
 try go_frame
 gi_loopw [3] (fun _ wr=>∃(todo:List SM) (ss:List (List UInt8)),Hid (ow yj wr b W.heap.size m todo)/\Hid ((ss++todo.map Cs).Perm (m.map Cs))/\J ss wr)
  (fun _ wr=>wr.rangeLeft b W.heap.size)
 case atStart=>exact⟨m,[],gq,Lib.hid (List.Perm.refl _),hJ [] W w0 none h0 HG0.out (fun r e=>by cases e)⟩
 case round=>
  obtain⟨todo,ss,hrg,hP,hJs⟩:=hrel
  gi_wp2_with (first
   |(gi_at_next;refine rX (T:=yj) _ rfl _ rfl rfl hrg.out Value.string (Value.int .i64) rfl rfl ?_ ?_)
   |gi_in)
  ·intro ht
   have hp:=hP.out
   rw[ht,List.map_nil,List.append_nil] at hp
   have HP:=Lib.hid hp
   clear hp ht
   gi_wp2
   go_end0
   exact⟨⟨_,rfl⟩,ss,HP.out,hJs⟩
  ·intro x v w2 hx hr2 hg2 hs2 hen
   clear hs2
   have hlen:ss.length<m.length:=by
    have h1:=hP.out.length_eq
    rw[List.length_append,List.length_map,List.length_map] at h1
    have h2:=List.length_pos_of_mem hx
    omega
   have hJ2:J ss w2:=hJ ss wr w2 (some W.heap.size) hJs hg2 (fun r e=>by cases e;exact⟨Nat.le_refl _,NW hrg.out⟩)
   have hyy:=hY ss (Cs (x,v)) w2 hJ2 hlen
   rw[kyL_enc] at hyy
   obtain⟨fn,tmps,assign,body,hy,hR⟩:=hyy
   have hpm:((ss++[Cs (x,v)])++(Mp.del todo x).map Cs).Perm (m.map Cs):=by
    refine List.Perm.trans ?_ hP.out
    rw[List.append_assoc]
    exact(((zN (List.Nodup.sublist (hrg.out.sub.map Prod.fst) HND.out) hx).map Cs).symm).append_left ss
   have HX:=Lib.hid (And.intro hr2 (And.intro hpm (nE hx)))
   clear hx hr2 hg2 hpm
   gi_wp2
   refine hR.mono ?_
   rintro e W3 ⟨rfl,hJ4,hk4⟩
   have hr4:=Iu HX.out.1 hk4
   have HR4:=Lib.hid hr4
   clear hr4 hk4
   gi_wp2
   go_roundw
   case rel=>exact⟨_,ss++[Cs (x,v)],HR4,Lib.hid HX.out.2.1,hJ4⟩
   case measure=>rw[ow.left HR4.out,ow.left hrg.out];exact HX.out.2.2
theorem sortsS (m:Nat):AnyZ.SortsIn Tryz.prog Tryz.BX Fence.wide m:=
 ⟨fun blk off cap ss W hH hblk hsz=>callsIn_wide.2 (AnyM.slices_Sort_string Tryz.sortS blk off cap ss W hH hblk hsz),
  fun p cap W=>callsIn_wide.2 (AnyM.slices_Sort_string_none Tryz.sortS p cap W)⟩
theorem Np (mb:Option Nat) (w:World):Calls Tryz.prog 67 #[.map mb] w fun e w'=>e= .returned (.func (.func 103) #[] #[.pointer (some ⟨w.heap.size,0,none⟩)])/\w'=w.alloc (.cells #[.map mb] 112):=
 (callsIn_wide (n:=5)).1 (AnyZ.keys_in Tryz.keysS Fence.wide 5 trivial rfl mb w)
theorem Gv (mb:Option Nat) (m:List SM) (hm:m.length<=1000000) (w:World) (hown:mb=none/\m=[]\/∃b,mb=some b/\mp yj w b m):
  Calls Tryz.prog 66 #[.func (.func 103) #[] #[.pointer (some ⟨w.heap.size,0,none⟩)]] (w.alloc (.cells #[.map mb] 112)) fun e w'=>∃(v:Value) (ss:List (List UInt8)),e= .returned v/\ss=(m.map Cs).mergeSort (fun x y=>decide (x<=y))/\
   w'.ownsRow (w.alloc (.cells #[.map mb] 112)).heap.size 9 1 v ss.length (ss.map Go.Proofs.encStr)/\Below (w.alloc (.cells #[.map mb] 112)).heap.size (w.alloc (.cells #[.map mb] 112)) w':=by
 have hc0:(w.alloc (.cells #[.map mb] 112)).cell? ⟨w.heap.size,0,none⟩=some (.map mb):=aj (bG w _) 0
 have hseq:SeqGives Fence.wide 2 Tryz.prog 103 #[.pointer (some ⟨w.heap.size,0,none⟩)] Go.Proofs.encStr (fun ss=>ss.Perm (m.map Cs)) m.length (w.alloc (.cells #[.map mb] 112)):=by
  rcases hown with⟨rfl,rfl⟩|⟨b,rfl,hM⟩
  ·have h9:=AnyZ.keys_gives_nil (ρ:=Tryz.Hw) {Tryz.keysS with} Fence.wide 2 trivial rfl w.heap.size _ (by simp) hc0
   intro l J W hW hJ hY h0
   exact(h9 l J W hW hJ hY h0).mono fun _ _ ⟨he,xs,hx,hj⟩=>⟨he,xs,by rw[hx];exact List.Perm.refl _,hj⟩
  ·intro l J W hW hJ hY h0
   have hM1:=hM.alloc (.cells #[.map (some b)] 112)
   exact VJ Fence.wide 2 trivial rfl (by omega) l w.heap.size b m J hY W hJ ((hW.cell (p:=⟨w.heap.size,0,none⟩) (by simp)).trans hc0) (hM1.same (hW.block b hM1.lt)) h0
 have h8:=(callsIn_wide (n:=5)).1 (AnyZ.sorted_in Tryz.sortedS Fence.wide 5 trivial trivial trivial trivial rfl (by omega) (sortsS _) (enters_of Tryz.func102 (by kernel_rfl) rfl) 103 #[.pointer (some ⟨w.heap.size,0,none⟩)] trivial (enters_of Tryz.func103 (by kernel_rfl) rfl) _ m.length (by unfold maxLen;omega) (by omega) _ hseq)
 refine h8.mono ?_
 rintro e w' ⟨v,ss,rfl,hS,hrow,_,hb⟩
 refine⟨v,_,rfl,mergeSort_of_perm hS,?_,hb⟩
 rw[List.length_mergeSort]
 exact hrow
theorem Bi {w:World} {B C n sz:Nat} {e:TypeId} {v:Value} {xs:List Value} (h:w.ownsRow C e sz v n xs) (hB:B<=C):w.ownsRow B e sz v n xs:=by
 obtain⟨h1,h2⟩:=h
 refine⟨h1,?_⟩
 rcases h2 with h2|⟨g,cap,cur,rfl,hb,r⟩
 ·exact .inl h2
 ·exact .inr ⟨g,cap,cur,rfl,by omega,r⟩
def fz (m:List SM):List SM:=((m.map Cs).mergeSort (fun x y=>decide (x<=y))).map fun t=>(⟨t.toArray⟩,(Mp.get m ⟨t.toArray⟩).getD 0)
abbrev TWd:Nat:=45
def AP (x:SM):List Value:=[.string x.1,.int .i64 x.2]
theorem infoW:(Tryz.prog.info? 45).map (fun i=>(i.zero,i.size,i.bytes))=some (some (.agg #[.string ByteArray.empty,.int .i64 0]),2,24):=by kernel_rfl
set_option maxHeartbeats 4000000 in
set_option maxRecDepth 100000 in
theorem PK {B b:Nat} {m:List SM} {S:Nat->Prop} {w:World} (h:Lj B w b m S) (hn:m.length<=100000):
  Calls Tryz.prog 35 #[.pointer (some ⟨b,0,none⟩)] w fun e w'=>∃v,e= .returned v/\w'.ownsRow w.heap.size TWd 2 v (fz m).length ((fz m).flatMap AP)/\Below w.heap.size w w':=by
 obtain⟨i0,hi0,hz0,hz1,hz2⟩:=info_parts infoW
 obtain⟨v,hB,hb,hm,hr,hS⟩:=h
 obtain⟨mb,rfl⟩:∃mb,v= .map mb:=by
  rcases hm with⟨rfl,_⟩|⟨g,rfl,_⟩
  ·exact⟨_,rfl⟩
  ·exact⟨_,rfl⟩
 have cb:w.cell? ⟨b,0,none⟩=some (.map mb):=aj hb 0
 have hO:mb=none/\m=[]\/∃b,mb=some b/\mp yj w b m:=by
  rcases hm with⟨e,rfl⟩|⟨g,e,hg,hM⟩
  ·simp at e;exact .inl ⟨e,rfl⟩
  ·simp at e;exact .inr ⟨g,e,hM⟩
 have hk:=Np mb w
 have hs:=Gv mb m (by omega) w hO
 have hok:∀p∈m,p.1.size<=maxLen:=fun p hp=>by
  rcases hO with⟨_,rfl⟩|⟨b',_,hM⟩
  ·simp at hp
  ·exact hM.ok p hp
 obtain⟨ss,hss⟩:∃ss,ss=(m.map Cs).mergeSort (fun x y=>decide (x<=y)):=⟨_,rfl⟩
 have hfz:fz m=ss.map fun t=>(⟨t.toArray⟩,(Mp.get m ⟨t.toArray⟩).getD 0):=by rw[hss];rfl
 have hsl:ss.length=m.length:=by rw[hss,List.length_mergeSort,List.length_map]
 have hsk:∀t∈ss,(⟨t.toArray⟩:ByteArray).size<=maxLen:=fun t ht=>by
  rw[hss] at ht
  obtain⟨p,hp,rfl⟩:=List.mem_map.1 ((List.mergeSort_perm _ _).subset ht)
  have:=hok p hp
  show(⟨p.1.data.toList.toArray⟩:ByteArray).size<=maxLen
  rw[Array.toArray_toList]
  exact this
 rw[<-hss] at hs
 have HX:=Lib.hid (And.intro hb (And.intro hm (And.intro hsk hfz)))
 have HS:=Lib.hid hs
 clear hb hm hr hS hO hok hss hfz hsk hs
 go_enter Tryz.func35,Tryz.ntmps35
 go_wp2_with (first
  |(go_at_call 67;refine hk.mono ?_;rintro e w1 ⟨rfl,rfl⟩)
  |(go_at_call 66;refine HS.out.mono ?_;rintro e w2 ⟨v2,s2,rfl,hs2,ho2,hB2⟩;rw[hs2] at ho2;clear hs2;obtain⟨A2,c2,rfl⟩:=Bs.bU ho2;have H2:=Lib.hid (And.intro ho2 hB2);clear ho2 hB2)
  |fail)
 have hszw:w.heap.size+1<=w2.heap.size:=by have:=H2.out.2.size;simpa using this
 have HW2:=Lib.hid (((Below.refl _ w).alloc (Nat.le_refl _) (.cells #[.map mb] 112)).trans (H2.out.2.mono (by simp)))
 clear hk
 go_loopg [3,15] ss.length (fun gk v3 v15 wr=>∃(D R:List (List UInt8)),v15= .int .i64 (D.length:Int)/\R.length=gk/\Hid (ss=D++R)/\Hid (wr.ownsRow w2.heap.size TWd 2 v3 D.length ((D.map fun t=>((⟨t.toArray⟩:ByteArray),(Mp.get m ⟨t.toArray⟩).getD 0)).flatMap AP))/\Hid (Below w2.heap.size w2 wr))
 case atStart=>exact⟨[],ss,rfl,rfl,Lib.hid rfl,Lib.hid (World.ownsRow_nil _ _ _ _),Lib.hid (Below.refl _ _)⟩
 case round=>
  obtain⟨D,R,rfl,qy,HD,HO,HB⟩:=hrel
  cases R with
  |nil=>
   have hxe:ss=D:=by rw[HD.out];simp
   have hge:¬D.length<ss.length:=by rw[hxe];omega
   have Le:=Lib.hid hxe
   clear hxe
   go_wp2
   go_ret
   refine⟨_,rfl,?_,HW2.out.trans (HB.out.mono (by omega))⟩
   have h9:=HO.out
   rw[<-Le.out] at h9
   rw[HX.out.2.2.2,List.length_map]
   exact Bi h9 (by omega)
  |cons t R=>
   obtain⟨gk,rfl⟩:∃g,gk=g+1:=⟨R.length,by simpa using qy.symm⟩
   have hxi:ss[D.length]?=some t:=by rw[HD.out];simp
   have hlt:D.length<ss.length:=(List.getElem?_eq_some_iff.1 hxi).1
   have hts:=HX.out.2.2.1 t (List.mem_of_getElem? hxi)
   obtain⟨g2,rfl,hg2,hgl2,hc2,hcl,_⟩:=gz H2.out.1 (by omega)
   have hc3:=hcl D.length (Go.Proofs.encStr t) (by rw[List.getElem?_map,hxi];rfl)
   have y0:wr.cell? ⟨g2,D.length,none⟩=some (.string ⟨t.toArray⟩):=(HB.out.cell (p:=⟨g2,D.length,none⟩) hgl2).trans hc3
   have hbw:=bA HX.out.1
   have y1:wr.cell? ⟨b,0,none⟩=some (.map mb):=(HB.out.cell (p:=⟨b,0,none⟩) (by have:=HW2.out.size;show b<_;omega)).trans ((HW2.out.cell (p:=⟨b,0,none⟩) hbw).trans cb)
   have hlk:=ZA (w:=wr) (B:=B) (m:=m) (v:= .map mb) (by
    rcases HX.out.2.1 with hm|⟨g,e,hg,hM⟩
    ·exact .inl hm
    ·exact .inr ⟨g,e,hg,(hM.same (HW2.out.block g hM.lt)).same (HB.out.block g (Nat.lt_of_lt_of_le hM.lt HW2.out.size))⟩) hts
   obtain⟨x,hx⟩:∃x:ByteArray,x=⟨t.toArray⟩:=⟨_,rfl⟩
   obtain⟨n,hnv⟩:∃n,n=(Mp.get m x).getD 0:=⟨_,rfl⟩
   rw[<-hx] at hlk y0
   rw[<-hnv] at hlk
   have HV:=Lib.hid (And.intro hx hnv)
   obtain⟨A3,c3,hv3⟩:=bU HO.out
   subst hv3
   have hDl:D.length<=1000000:=by omega
   have ho3:=HO.out
   clear hcl hc3 hx hnv hxi hts
   go_wp2_with (first
    |(at_builtin;refine wpList_append_own_at _ rfl _ _ 22 rfl w2.heap.size TWd i0 (.agg #[.string ByteArray.empty,.int .i64 0]) 2 24 Tryz.underlying22 hi0 hz0 hz1 hz2 rfl (by decide) _ _ _ rfl (ho3.alloc _) _ 1 1 [.string x,.int .i64 n] rfl rfl ?c1 ?c2 ?c3 ?c4 ?c5 ?_))
   case c1=>exact mr _ _ _
   case c2=>intro u hu;simp at hu;rcases hu with rfl|rfl<;>rfl
   case c3=>unfold maxLen;omega
   case c4=>omega
   case c5=>have:=HB.out.size;simp;omega
   intro v' w6 hown6 iZ _ AV
   have HO6:=Lib.hid hown6
   have yJ:=Lib.hid ((HB.out.alloc HB.out.size (.cells [.string x,.int .i64 n].toArray TWd)).grown iZ (by have:=HB.out.size;simp;omega) (fun k e=>(eG ho3 e).1))
   clear iZ hown6 AV ho3
   go_wp2
   go_roundg R.length
   case measure=>simp at qy;omega
   case rel=>exact⟨D++[t],R,by rw[List.length_append,List.length_singleton];simp,rfl,Lib.hid (by rw[HD.out];simp),by rw[List.length_append,List.map_append,List.flatMap_append];exact Lib.hid (by simpa[AP,<-HV.out.1,<-HV.out.2] using HO6.out),yJ⟩
theorem uW:∀(l:List ByteArray) (m:List SM),(fH m l).1.length<=m.length+l.length
 |[],m=>by simp[fH]
 |s::l,m=>by
  have h1:=LZ m s 1
  rw[fH,List.length_cons]
  split
  ·have:=uW l (oQ m s 1).1
   omega
  ·show(oQ m s 1).1.length<=_
   omega
set_option maxHeartbeats 2000000 in
set_option maxRecDepth 100000 in
theorem Oq {w:World} {A:Option Addr} {c:Nat} {l:List ByteArray} (hl:Go.Proofs.ae.au.Kd.C Go.Proofs.ae.au.Kd.string w A l.length l) (hlc:l.length<=c) (hn:l.length<=100000) (hs:∀x∈l,x.size<=maxLen):
  Calls Tryz.prog 23 #[.slice A l.length c] w fun e w'=>Below w.heap.size w w'/\∃v,e= .returned (.tuple #[v,.int .i64 (fH [] l).2])/\((fH [] l).2≠0->v= .slice none 0 0)/\((fH [] l).2=0->w'.ownsRow w.heap.size TWd 2 v (fz (fH [] l).1).length ((fz (fH [] l).1).flatMap AP)):=by
 have hA:0<l.length->∀ad,A=some ad->ad.block<w.heap.size:=fun h0 ad had=>by
  obtain⟨ad',e,hc⟩:=Go.Proofs.ae.au.Kd.dx hl 0 (by omega) (by omega)
  rw[had] at e
  cases e
  have:=World.block_lt_of_cell? _ _ hc
  rwa[add_block] at this
 have hC:=Lj.new (B:=w.heap.size) w (Nat.le_refl _)
 have hB0:Below w.heap.size w (w.alloc (.cells #[.map none] TF)):=(Below.refl _ w).alloc (Nat.le_refl _) _
 have HAA:=Lib.hid (PI hC (Go.Proofs.ae.au.Kd.bY hl hB0) hlc (fun h0 ad had=>⟨fun e=>by have:=hA h0 ad had;omega,by have:=hA h0 ad had;simp;omega⟩) (by simp;omega) hs)
 have yE:=uW l []
 obtain⟨m,r,hmr⟩:∃m r,fH [] l=(m,r):=⟨_,_,rfl⟩
 rw[hmr] at HAA yE ⊢
 simp only at HAA yE ⊢
 have HB0:=Lib.hid hB0
 clear hC hl hA hs hmr hB0
 by_cases h0:r=0
 ·subst h0
  go_enter Tryz.func23,Tryz.ntmps23
  go_wp2_with (first
   |(go_at_call 30;refine(Mw w).mono ?_;rintro e w1 ⟨rfl,rfl⟩)
   |(go_at_call 57;refine HAA.out.mono ?_;clear HAA;rintro e w2 ⟨rfl,S2,hc2,hf2,hi2⟩;have H2:=Lib.hid (And.intro hc2 hf2);have hfr:=PK hc2 (by simp at yE;omega);clear hc2 hf2 hi2)
   |(go_at_call 35;refine hfr.mono ?_;clear hfr;rintro e w3 ⟨v3,rfl,ho3,hB3⟩;have H3:=Lib.hid (And.intro ho3 hB3);clear ho3 hB3)
   |fail)
  go_ret2
  have hB2:Below w.heap.size w w2:=HB0.out.trans (H2.out.2.toBelow (fun i hi=>by rw[show i=w.heap.size from hi];exact Nat.le_refl _) HB0.out.size)
  exact⟨hB2.trans (H3.out.2.mono hB2.size),v3,rfl,fun h=>(h rfl).elim,fun _=>Bi H3.out.1 hB2.size⟩
 ·go_enter Tryz.func23,Tryz.ntmps23
  go_wp2_with (first
   |(go_at_call 30;refine(Mw w).mono ?_;rintro e w1 ⟨rfl,rfl⟩)
   |(go_at_call 57;refine HAA.out.mono ?_;clear HAA;rintro e w2 ⟨rfl,S2,hc2,hf2,hi2⟩;have H2:=Lib.hid (And.intro hc2 hf2);clear hc2 hf2 hi2)
   |fail)
  go_ret2
  have hB2:Below w.heap.size w w2:=HB0.out.trans (H2.out.2.toBelow (fun i hi=>by rw[show i=w.heap.size from hi];exact Nat.le_refl _) HB0.out.size)
  exact⟨hB2,_,rfl,fun _=>rfl,fun h=>(h0 h).elim⟩
end Go.Proofs.YtilpincgjlclpaaGreat.Ob
end
section
namespace Go.Proofs.YtilpincgjlclpaaGreat.Ob
open Go Go.RowKit Bs Mp jL Hp
open Go.Proofs.ae.au (iV eY xR)
abbrev TWs:Nat:=22
abbrev TPa:Nat:=24
def WS (s:S6):Value:= .agg #[.int .i64 s.a,.int .i64 s.b,.int .i64 s.c,.int .i64 s.d,.int .i64 s.e,.int .i64 s.f]
def Gs (bu mn li:Int):Value:= .agg #[.int .i64 bu,.int .i64 mn,.int .i64 li]
theorem JD {w:World} {g:Nat} {F:ByteArray} {v v':Value} {s s':S6} {n e:Int} (h:w.heap[g]?=some (.cells (lW F v s n e) Gb (0,0))):
  (((((((w.setCell ⟨g,1,none⟩ v').setCell ⟨g,2,none⟩ (.int .i64 s'.a)).setCell ⟨g,3,none⟩ (.int .i64 s'.b)).setCell ⟨g,4,none⟩ (.int .i64 s'.c)).setCell ⟨g,5,none⟩ (.int .i64 s'.d)).setCell ⟨g,6,none⟩ (.int .i64 s'.e)).setCell ⟨g,7,none⟩ (.int .i64 s'.f)).heap[g]?=some (.cells (lW F v' s' n e) Gb (0,0)):=by
 have h9:=heap_set (heap_set (heap_set (heap_set (heap_set (heap_set (heap_set h 1 v') 2 (.int .i64 s'.a)) 3 (.int .i64 s'.b)) 4 (.int .i64 s'.c)) 5 (.int .i64 s'.d)) 6 (.int .i64 s'.e)) 7 (.int .i64 s'.f)
 rw[h9]
 simp[lW]
set_option maxHeartbeats 4000000 in
set_option maxRecDepth 100000 in
theorem tab1_c {bl bp br:Nat} {W:World} {A:Option Addr} {n c:Nat} {bu mn li:Int} {F0:ByteArray} {A0:Option Addr} {l0 c0:Nat} {s0:S6} {n0 e0:Int} {Q:Option Addr->Nat->Nat->S6->Int->World->Prop}
  (hbl:W.heap[bl]?=some (.cells #[.slice A n c] TWs (0,0))) (hbp:W.heap[bp]?=some (.cells #[.int .i64 bu,.int .i64 mn,.int .i64 li] TPa (0,0))) (hbr:W.heap[br]?=some (.cells (lW F0 (.slice A0 l0 c0) s0 n0 e0) Gb (0,0)))
  (yg:Calls Tryz.prog 14 #[.slice A n c,Gs bu mn li] W fun e W'=>∃Av lv cv s r,e= .returned (.tuple #[.slice Av lv cv,WS s,.int .i64 r])/\Q Av lv cv s r W'/\Below W.heap.size W W'):
  Calls Tryz.prog 38 #[.pointer (some ⟨bl,0,none⟩),.pointer (some ⟨bp,0,none⟩),.pointer (some ⟨br,0,none⟩)] W fun e W'=>∃Av lv cv s r W1,e= .returned (.int .i64 r)/\Q Av lv cv s r W1/\Below W.heap.size W W1/\W'.heap[br]?=some (.cells (lW F0 (.slice Av lv cv) s n0 e0) Gb (0,0))/\Fr (fun k=>k=br) W1 W':=by
 have x0:W.cell? ⟨bl,0,none⟩=some (.slice A n c):=aj hbl 0
 have p0:W.cell? ⟨bp,0,none⟩=some (.int .i64 bu):=aj hbp 0
 have p1:W.cell? ⟨bp,1,none⟩=some (.int .i64 mn):=aj hbp 1
 have p2:W.cell? ⟨bp,2,none⟩=some (.int .i64 li):=aj hbp 2
 have HL:=Lib.hid yg
 have HR:=Lib.hid hbr
 clear yg hbl hbp hbr
 unfold Gs at HL
 go_enter Tryz.func38,Tryz.ntmps38
 go_wp2_with (first
  |(go_at_call 14;refine HL.out.mono ?_;clear HL;rintro e w1 ⟨Av,lv,cv,⟨a,b,c',d,e',f⟩,r,rfl,hq,hB1⟩;unfold WS;have hr1:=(hB1.block br (bA HR.out)).trans HR.out;have H1:=Lib.hid (And.intro hq (And.intro hB1 hr1));have y1:w1.cell? ⟨br,1,none⟩=some (.slice A0 l0 c0):=aj hr1 1;have y2:w1.cell? ⟨br,2,none⟩=some (.int .i64 s0.a):=aj hr1 2;have y3:w1.cell? ⟨br,3,none⟩=some (.int .i64 s0.b):=aj hr1 3;have y4:w1.cell? ⟨br,4,none⟩=some (.int .i64 s0.c):=aj hr1 4;have y5:w1.cell? ⟨br,5,none⟩=some (.int .i64 s0.d):=aj hr1 5;have y6:w1.cell? ⟨br,6,none⟩=some (.int .i64 s0.e):=aj hr1 6;have y7:w1.cell? ⟨br,7,none⟩=some (.int .i64 s0.f):=aj hr1 7;have f1:=aX hr1 1;have f2:=aX hr1 2;have f3:=aX hr1 3;have f4:=aX hr1 4;have f5:=aX hr1 5;have f6:=aX hr1 6;have f7:=aX hr1 7;clear hq hB1 hr1)
  |fail)
 go_ret
 obtain⟨hq,hB1,hr1⟩:=H1.out
 refine⟨Av,lv,cv,⟨a,b,c',d,e',f⟩,r,w1,rfl,hq,hB1,JD (s':=⟨a,b,c',d,e',f⟩) hr1,?_⟩
 exact(((((((Fr.refl (fun k=>k=br) w1).set (p:=⟨br,1,none⟩) (.inl rfl) _).set (p:=⟨br,2,none⟩) (.inl rfl) _).set (p:=⟨br,3,none⟩) (.inl rfl) _).set (p:=⟨br,4,none⟩) (.inl rfl) _).set (p:=⟨br,5,none⟩) (.inl rfl) _).set (p:=⟨br,6,none⟩) (.inl rfl) _).set (p:=⟨br,7,none⟩) (.inl rfl) _
set_option maxHeartbeats 4000000 in
set_option maxRecDepth 100000 in
theorem tab2_c {br:Nat} {W:World} {F0 F:ByteArray} {A0:Option Addr} {l0 c0:Nat} {s0:S6} {n0 e0:Int}
  (hbr:W.heap[br]?=some (.cells (lW F0 (.slice A0 l0 c0) s0 n0 e0) Gb (0,0)))
  (hw:Calls Tryz.prog 40 #[.slice A0 l0 c0] W fun e W'=>e= .returned (.tuple #[.string F,.int .i64 0])/\Below W.heap.size W W'):
  Calls Tryz.prog 39 #[.pointer (some ⟨br,0,none⟩)] W fun e W'=>∃W1,e= .returned (.int .i64 0)/\Below W.heap.size W W1/\W'.heap[br]?=some (.cells (lW F (.slice A0 l0 c0) s0 n0 e0) Gb (0,0))/\Fr (fun k=>k=br) W1 W':=by
 have y1:W.cell? ⟨br,1,none⟩=some (.slice A0 l0 c0):=aj hbr 1
 have HW:=Lib.hid hw
 have HR:=Lib.hid hbr
 clear hw hbr
 go_enter Tryz.func39,Tryz.ntmps39
 go_wp2_with (first
  |(go_at_call 40;refine HW.out.mono ?_;clear HW;rintro e w1 ⟨rfl,hB1⟩;have hr1:=(hB1.block br (bA HR.out)).trans HR.out;have H1:=Lib.hid (And.intro hB1 hr1);have y2:w1.cell? ⟨br,0,none⟩=some (.string F0):=aj hr1 0;have f1:=aX hr1 0;clear hB1 hr1)
  |fail)
 go_ret
 obtain⟨hB1,hr1⟩:=H1.out
 exact⟨w1,rfl,hB1,by have h9:=heap_set hr1 0 (.string F);rw[h9];simp[lW],(Fr.refl (fun k=>k=br) w1).set (p:=⟨br,0,none⟩) (.inl rfl) _⟩
theorem mX {w:World} {g:Nat} {F F':ByteArray} {v v':Value} {s s':S6} {n n' e e':Int} (h:w.heap[g]?=some (.cells (lW F v s n e) Gb (0,0))):
  ((((((((((w.setCell ⟨g,0,none⟩ (.string F')).setCell ⟨g,1,none⟩ v').setCell ⟨g,2,none⟩ (.int .i64 s'.a)).setCell ⟨g,3,none⟩ (.int .i64 s'.b)).setCell ⟨g,4,none⟩ (.int .i64 s'.c)).setCell ⟨g,5,none⟩ (.int .i64 s'.d)).setCell ⟨g,6,none⟩ (.int .i64 s'.e)).setCell ⟨g,7,none⟩ (.int .i64 s'.f)).setCell ⟨g,8,none⟩ (.int .i64 n')).setCell ⟨g,9,none⟩ (.int .i64 e')).heap[g]?=some (.cells (lW F' v' s' n' e') Gb (0,0)):=by
 have h9:=heap_set (heap_set (heap_set (heap_set (heap_set (heap_set (heap_set (heap_set (heap_set (heap_set h 0 (.string F')) 1 v') 2 (.int .i64 s'.a)) 3 (.int .i64 s'.b)) 4 (.int .i64 s'.c)) 5 (.int .i64 s'.d)) 6 (.int .i64 s'.e)) 7 (.int .i64 s'.f)) 8 (.int .i64 n')) 9 (.int .i64 e')
 rw[h9]
 simp[lW]
theorem pY {S:Nat->Prop} {w0 w:World} {g:Nat} (h:Fr S w0 w) (hg:S g\/w0.heap.size<=g) (x0 x1 x2 x3 x4 x5 x6 x7 x8 x9:Value):
  Fr S w0 ((((((((((w.setCell ⟨g,0,none⟩ x0).setCell ⟨g,1,none⟩ x1).setCell ⟨g,2,none⟩ x2).setCell ⟨g,3,none⟩ x3).setCell ⟨g,4,none⟩ x4).setCell ⟨g,5,none⟩ x5).setCell ⟨g,6,none⟩ x6).setCell ⟨g,7,none⟩ x7).setCell ⟨g,8,none⟩ x8).setCell ⟨g,9,none⟩ x9):=
 (((((((((h.set (p:=⟨g,0,none⟩) hg x0).set (p:=⟨g,1,none⟩) hg x1).set (p:=⟨g,2,none⟩) hg x2).set (p:=⟨g,3,none⟩) hg x3).set (p:=⟨g,4,none⟩) hg x4).set (p:=⟨g,5,none⟩) hg x5).set (p:=⟨g,6,none⟩) hg x6).set (p:=⟨g,7,none⟩) hg x7).set (p:=⟨g,8,none⟩) hg x8).set (p:=⟨g,9,none⟩) hg x9
abbrev TFn:Nat:=83
def fsT (s:Nat):List (Nat×Array Value):=[(38,#[.pointer (some ⟨s,0,none⟩),.pointer (some ⟨s+1,0,none⟩),.pointer (some ⟨s+3,0,none⟩)]),(39,#[.pointer (some ⟨s+3,0,none⟩)])]
def YE (fs:List (Nat×Array Value)):Array Value:=(fs.map fun x=>Value.func (.func x.1) #[] x.2).toArray
def JT (w:World) (A:Option Addr) (n c:Nat) (bu mn li:Int) (o:List J) (s6:S6) (r:Int):Nat->World->Prop
 |0,W=>Below w.heap.size w W/\w.heap.size+5<=W.heap.size/\W.heap[w.heap.size]?=some (.cells #[.slice A n c] TWs (0,0))/\W.heap[w.heap.size+1]?=some (.cells #[.int .i64 bu,.int .i64 mn,.int .i64 li] TPa (0,0))/\W.heap[w.heap.size+2]?=some KL/\W.heap[w.heap.size+3]?=some (.cells (lW ByteArray.empty (.slice none 0 0) z6 n 0) Gb (0,0))/\W.heap[w.heap.size+4]?=some (.cells (YE (fsT w.heap.size)) TFn (0,0))
 |1,W=>r=0/\Below w.heap.size w W/\w.heap.size+5<=W.heap.size/\W.heap[w.heap.size+2]?=some KL/\W.heap[w.heap.size+4]?=some (.cells (YE (fsT w.heap.size)) TFn (0,0))/\∃Av lv cv,W.heap[w.heap.size+3]?=some (.cells (lW ByteArray.empty (.slice Av lv cv) s6 n 0) Gb (0,0))/\W.ownsRow (w.heap.size+5) Cz 2 (.slice Av lv cv) (pR o).length ((pR o).flatMap mW)
 |_,W=>r=0/\Below w.heap.size w W/\w.heap.size+5<=W.heap.size/\W.heap[w.heap.size+2]?=some KL/\W.heap[w.heap.size+4]?=some (.cells (YE (fsT w.heap.size)) TFn (0,0))/\∃Av lv cv,W.heap[w.heap.size+3]?=some (.cells (lW ⟨(kH (pR o)).toArray⟩ (.slice Av lv cv) s6 n 0) Gb (0,0))/\W.ownsRow (w.heap.size+5) Cz 2 (.slice Av lv cv) (pR o).length ((pR o).flatMap mW)
def JTx (w:World) (n:Nat) (r:Int) (r':Int) (W:World):Prop:=r'=r/\Below w.heap.size w W/\w.heap.size+5<=W.heap.size/\W.heap[w.heap.size+2]?=some KL/\∃F Av lv cv s e,W.heap[w.heap.size+3]?=some (.cells (lW F (.slice Av lv cv) s n e) Gb (0,0))
theorem JT.row {w:World} {A:Option Addr} {n c:Nat} {bu mn li:Int} {o:List J} {s6:S6} {r:Int}:∀{i:Nat} {W:World},JT w A n c bu mn li o s6 r i W->W.heap[w.heap.size+4]?=some (.cells (YE (fsT w.heap.size)) TFn (0,0))
 |0,_,h=>h.2.2.2.2.2.2
 |1,_,h=>h.2.2.2.2.1
 |_+2,_,h=>h.2.2.2.2.1
theorem YF {fs:List (Nat×Array Value)} {w:World} {g:Nat} {T:TypeId} (h:w.heap[g]?=some (.cells (YE fs) T (0,0))) {j:Nat} {x:Nat×Array Value} (hx:fs[j]?=some x):w.cell? ⟨g,j,none⟩=some (.func (.func x.1) #[] x.2):=by
 rw[aj h]
 simp[YE,hx]
theorem NZ {w W0:World} {A:Option Addr} {n c:Nat} {bu mn li:Int} {o:List J} {s6:S6} {r:Int} (h0:JT w A n c bu mn li o s6 r 0 W0)
  (yg:∀V,Below w.heap.size w V->Calls Tryz.prog 14 #[.slice A n c,Gs bu mn li] V fun e W'=>∃Av lv cv,e= .returned (.tuple #[.slice Av lv cv,WS s6,.int .i64 r])/\(r=0->W'.ownsRow V.heap.size Cz 2 (.slice Av lv cv) (pR o).length ((pR o).flatMap mW))/\Below V.heap.size V W')
  (hO:r=0->∀k x,o[k]?=some x->UX o k x) (hz:r=0->∀x∈pR o,x.1.size+x.2.size<=65536) (hl:o.length<=100000):
  Calls Tryz.prog 37 #[.slice (some ⟨w.heap.size+4,0,none⟩) 2 2] W0 fun e W'=>e= .returned (.int .i64 r)/\(r=0->JT w A n c bu mn li o s6 r 2 W')/\(r≠0->JTx w n r r W'):=by
 refine(Sw (fs:=fsT w.heap.size) (J:=JT w A n c bu mn li o s6 r) (Jx:=JTx w n r) (c:=2) (fun i W hJ j x hx=>YF hJ.row hx) (fun x hx args W=>?_) (fun i x W hJ hx=>?_) (by simp[fsT]) h0).mono ?_
 ·simp[fsT] at hx
  rcases hx with rfl|rfl
  ·exact vB Tryz.func38 (by rfl) (by rfl) args W
  ·exact vB Tryz.func39 (by rfl) (by rfl) args W
 ·match i,hx with
  |0,hx=>
   simp[fsT] at hx
   subst hx
   obtain⟨hB,hs5,b0,b1,b2,b3,b4⟩:=hJ
   refine(tab1_c (Q:=fun Av lv cv s r' W'=>s=s6/\r'=r/\(r=0->W'.ownsRow W.heap.size Cz 2 (.slice Av lv cv) (pR o).length ((pR o).flatMap mW))) b0 b1 b3 ((yg W hB).mono ?_)).mono ?_
   ·rintro e W' ⟨Av,lv,cv,rfl,ho,hB1⟩
    exact⟨Av,lv,cv,s6,r,rfl,⟨rfl,rfl,ho⟩,hB1⟩
   ·rintro e W' ⟨Av,lv,cv,s,r',W1,rfl,⟨rfl,rfl,ho⟩,hB1,hb3,hf⟩
    have hs1:=hB1.size
    have g2:=hf.heap ((hB1.block _ (bA b2)).trans b2) (show¬w.heap.size+2=w.heap.size+3 by omega)
    have g4:=hf.heap ((hB1.block _ (bA b4)).trans b4) (show¬w.heap.size+4=w.heap.size+3 by omega)
    have hBW:Below w.heap.size w W':=(hB.trans (hB1.mono hB.size)).trans (hf.toBelow (fun i hi=>by rw[show i=w.heap.size+3 from hi];omega) (by omega))
    have hsz:w.heap.size+5<=W'.heap.size:=Nat.le_trans hs5 (Nat.le_trans hs1 hf.size)
    refine⟨_,rfl,fun h=>?_,fun h=>⟨rfl,hBW,hsz,g2,_,_,_,_,_,_,hb3⟩⟩
    have ho1:=hf.own (ho h) (fun g hg e=>by have:=(eG (ho h) hg).1;have e2:g=w.heap.size+3:=e;omega)
    exact⟨h,hBW,hsz,g2,g4,Av,lv,cv,hb3,Bi ho1 hs5⟩
  |1,hx=>
   simp[fsT] at hx
   subst hx
   obtain⟨hr,hB,hs5,b2,b4,Av,lv,cv,b3,ho⟩:=hJ
   refine(tab2_c b3 (PS (MR.of_own ho) (hO hr) (hz hr) hl)).mono ?_
   rintro e W' ⟨W1,rfl,hB1,hb3,hf⟩
   have hs1:=hB1.size
   have g2:=hf.heap ((hB1.block _ (bA b2)).trans b2) (show¬w.heap.size+2=w.heap.size+3 by omega)
   have g4:=hf.heap ((hB1.block _ (bA b4)).trans b4) (show¬w.heap.size+4=w.heap.size+3 by omega)
   have hBW:Below w.heap.size w W':=(hB.trans (hB1.mono hB.size)).trans (hf.toBelow (fun i hi=>by rw[show i=w.heap.size+3 from hi];omega) (by omega))
   have hsz:w.heap.size+5<=W'.heap.size:=Nat.le_trans hs5 (Nat.le_trans hs1 hf.size)
   have ho1:=(Fr.dL (S:=none_) hB1).own ho (fun _ _ h=>h)
   have ho2:=hf.own ho1 (fun g hg e=>by have:=(eG ho1 hg).1;have e2:g=w.heap.size+3:=e;omega)
   exact⟨0,rfl,fun _=>⟨hr,hBW,hsz,g2,g4,Av,lv,cv,hb3,ho2⟩,fun h=>(h rfl).elim⟩
  |i+2,hx=>simp[fsT] at hx
 ·rintro e W' ⟨r',rfl,h1,h2⟩
  by_cases h:r'=0
  ·have hJ:=h1 h
   have hr:r=0:=hJ.1
   exact⟨by rw[h,hr],fun _=>hJ,fun h9=>(h9 hr).elim⟩
  ·have hx:=h2 h
   have hr:r'=r:=hx.1
   subst hr
   exact⟨rfl,fun h9=>(h h9).elim,fun _=>hx⟩
end Go.Proofs.YtilpincgjlclpaaGreat.Ob
end
section
namespace Go.Proofs.YtilpincgjlclpaaGreat.Ob
open Go Go.RowKit Bs Mp jL Hp
open Go.Proofs.ae.au (iV eY xR)
theorem XO (w:World) (o0 o1 o2 o3 o4:Obj):Below w.heap.size w (((((w.alloc o0).alloc o1).alloc o2).alloc o3).alloc o4)/\w.heap.size+5<=(((((w.alloc o0).alloc o1).alloc o2).alloc o3).alloc o4).heap.size/\(((((w.alloc o0).alloc o1).alloc o2).alloc o3).alloc o4).heap[w.heap.size]?=some o0/\(((((w.alloc o0).alloc o1).alloc o2).alloc o3).alloc o4).heap[w.heap.size+1]?=some o1/\(((((w.alloc o0).alloc o1).alloc o2).alloc o3).alloc o4).heap[w.heap.size+2]?=some o2/\(((((w.alloc o0).alloc o1).alloc o2).alloc o3).alloc o4).heap[w.heap.size+3]?=some o3/\(((((w.alloc o0).alloc o1).alloc o2).alloc o3).alloc o4).heap[w.heap.size+4]?=some o4:=by
 have h0:=bG w o0
 have h1:=bG (w.alloc o0) o1
 have h2:=bG ((w.alloc o0).alloc o1) o2
 have h3:=bG (((w.alloc o0).alloc o1).alloc o2) o3
 have h4:=bG ((((w.alloc o0).alloc o1).alloc o2).alloc o3) o4
 simp only[World.size_alloc] at h1 h2 h3 h4
 refine⟨(((((Below.refl _ w).alloc (Nat.le_refl _) _).alloc (by simp) _).alloc (by simp;omega) _).alloc (by simp;omega) _).alloc (by simp;omega) _,by simp,dw (dw (dw (dw h0 _) _) _) _,dw (dw (dw h1 _) _) _,dw (dw h2 _) _,dw h3 _,h4⟩
theorem nP {w:World} {g:Nat} {F:ByteArray} {v:Value} {s:S6} {n e:Int} (h:w.heap[g]?=some (.cells (lW F v s n e) Gb (0,0))):
  w.cell? ⟨g,0,none⟩=some (.string F)/\w.cell? ⟨g,1,none⟩=some v/\w.cell? ⟨g,2,none⟩=some (.int .i64 s.a)/\w.cell? ⟨g,3,none⟩=some (.int .i64 s.b)/\w.cell? ⟨g,4,none⟩=some (.int .i64 s.c)/\w.cell? ⟨g,5,none⟩=some (.int .i64 s.d)/\w.cell? ⟨g,6,none⟩=some (.int .i64 s.e)/\w.cell? ⟨g,7,none⟩=some (.int .i64 s.f)/\w.cell? ⟨g,8,none⟩=some (.int .i64 n)/\w.cell? ⟨g,9,none⟩=some (.int .i64 e):=
 ⟨aj h 0,aj h 1,aj h 2,aj h 3,aj h 4,aj h 5,aj h 6,aj h 7,aj h 8,aj h 9⟩
theorem zT {w:World} {g:Nat} {cs:Array Value} {T:TypeId} (h:w.heap[g]?=some (.cells cs T (0,0))):w.frozen? ⟨g,0,none⟩=false/\w.frozen? ⟨g,1,none⟩=false/\w.frozen? ⟨g,2,none⟩=false/\w.frozen? ⟨g,3,none⟩=false/\w.frozen? ⟨g,4,none⟩=false/\w.frozen? ⟨g,5,none⟩=false/\w.frozen? ⟨g,6,none⟩=false/\w.frozen? ⟨g,7,none⟩=false/\w.frozen? ⟨g,8,none⟩=false/\w.frozen? ⟨g,9,none⟩=false:=
 ⟨aX h 0,aX h 1,aX h 2,aX h 3,aX h 4,aX h 5,aX h 6,aX h 7,aX h 8,aX h 9⟩
set_option maxHeartbeats 8000000 in
set_option maxRecDepth 100000 in
theorem VZ {w:World} {A:Option Addr} {n c:Nat} {bu mn li:Int} {o:List J} {s6:S6} {r:Int}
  (yg:∀V,Below w.heap.size w V->Calls Tryz.prog 14 #[.slice A n c,Gs bu mn li] V fun e W'=>∃Av lv cv,e= .returned (.tuple #[.slice Av lv cv,WS s6,.int .i64 r])/\(r=0->W'.ownsRow V.heap.size Cz 2 (.slice Av lv cv) (pR o).length ((pR o).flatMap mW))/\Below V.heap.size V W')
  (hO:r=0->∀k x,o[k]?=some x->UX o k x) (hz:r=0->∀x∈pR o,x.1.size+x.2.size<=65536) (hl:o.length<=100000):
  Calls Tryz.prog 10 #[.slice A n c,Gs bu mn li] w fun e w'=>Below w.heap.size w w'/\(r=0->∃Av lv cv,e= .returned (uz ⟨(kH (pR o)).toArray⟩ (.slice Av lv cv) s6 n 0)/\w'.ownsRow w.heap.size Cz 2 (.slice Av lv cv) (pR o).length ((pR o).flatMap mW))/\(r≠0->e= .returned (uz ByteArray.empty (.slice none 0 0) z6 0 r)):=by
 have Xd:=Lib.hid (fun(W0:World) (h0:JT w A n c bu mn li o s6 r 0 W0)=>NZ h0 yg hO hz hl)
 clear yg hO hz hl
 unfold Gs
 go_enter Tryz.func10,Tryz.ntmps10
 go_wp2_with fail
 refine(Xd.out _ (XO w _ _ _ _ _)).mono ?_
 rintro e w1 ⟨rfl,h1,h2⟩
 by_cases hr:r=0
 ·obtain⟨_,hB,hs5,b2,b4,Av,lv,cv,b3,ho⟩:=h1 hr
  obtain⟨y0,y1,y2,y3,y4,y5,y6,y7,y8,y9⟩:=nP (g:=w.heap.size+1+1+1) b3
  have hrc:=Fs ⟨(kH (pR o)).toArray⟩ Av lv cv s6 n 0 0 w1
  have HX:=Lib.hid (And.intro hB (And.intro b2 (And.intro ho hs5)))
  obtain⟨s0,s1,s2,s3,s4,s5⟩:=s6
  clear h1 h2 hB hs5 b2 b4 b3 ho
  subst hr
  rw[if_pos rfl] at hrc
  unfold uz lW at hrc
  simp only at y2 y3 y4 y5 y6 y7 hrc
  go_wp2_with (go_at_call 41;refine hrc.mono ?_;clear hrc;rintro e w2 ⟨rfl,hB2⟩;have k2:=(hB2.block _ (bA HX.out.2.1)).trans HX.out.2.1;obtain⟨z0,z1,z2,z3,z4,z5,z6',z7,z8,z9⟩:=nP (g:=w.heap.size+1+1) k2;obtain⟨g0,g1,g2,g3,g4,g5,g6,g7,g8,g9⟩:=zT (g:=w.heap.size+1+1) k2;have K2:=Lib.hid (And.intro hB2 k2);clear hB2 k2)
  refine bodyPost_ret (eY rfl (.cell (w.heap.size+1+1) Gb (lW ⟨(kH (pR o)).toArray⟩ (.slice Av lv cv) ⟨s0,s1,s2,s3,s4,s5⟩ n 0) (0,0) _ rfl (mX (s':=⟨s0,s1,s2,s3,s4,s5⟩) (g:=w.heap.size+1+1) K2.out.2) Tryz.underlying32 rfl (by kernel_rfl) .nil)) rfl ?_
  obtain⟨hB,b2,ho,hs5⟩:=HX.out
  obtain⟨hB2,k2⟩:=K2.out
  have hBw:=hB.trans (hB2.mono hB.size)
  have ho2:=(Fr.dL (S:=none_) hB2).own ho (fun _ _ h=>h)
  have hf:=pY (S:=fun k=>k=w.heap.size+2) (Fr.refl _ w2) (g:=w.heap.size+2) (.inl rfl) (.string ⟨(kH (pR o)).toArray⟩) (.slice Av lv cv) (.int .i64 s0) (.int .i64 s1) (.int .i64 s2) (.int .i64 s3) (.int .i64 s4) (.int .i64 s5) (.int .i64 n) (.int .i64 0)
  have ho3:=hf.own ho2 (fun g hg e=>by have:=(eG ho2 hg).1;have e2:g=w.heap.size+2:=e;omega)
  exact⟨hBw.trans (hf.toBelow (fun i hi=>by rw[show i=w.heap.size+2 from hi];omega) (by have:=hBw.size;omega)),Av,lv,cv,rfl,Bi ho3 (by omega)⟩
 ·obtain⟨_,hB,hs5,b2,F,Av,lv,cv,s,e,b3⟩:=h2 hr
  obtain⟨y0,y1,y2,y3,y4,y5,y6,y7,y8,y9⟩:=nP (g:=w.heap.size+1+1+1) b3
  have hrc:=Fs F Av lv cv s n e r w1
  have HX:=Lib.hid (And.intro hB (And.intro b2 hs5))
  obtain⟨s0,s1,s2,s3,s4,s5⟩:=s
  clear h1 h2 hB hs5 b2 b3
  rw[if_neg hr] at hrc
  unfold uz lW at hrc
  simp only at y2 y3 y4 y5 y6 y7 hrc
  go_wp2_with (go_at_call 41;refine hrc.mono ?_;clear hrc;rintro e w2 ⟨rfl,hB2⟩;have k2:=(hB2.block _ (bA HX.out.2.1)).trans HX.out.2.1;obtain⟨z0,z1,z2,z3,z4,z5,z6',z7,z8,z9⟩:=nP (g:=w.heap.size+1+1) k2;obtain⟨g0,g1,g2,g3,g4,g5,g6,g7,g8,g9⟩:=zT (g:=w.heap.size+1+1) k2;have K2:=Lib.hid (And.intro hB2 k2);clear hB2 k2)
  refine bodyPost_ret (eY rfl (.cell (w.heap.size+1+1) Gb (lW ByteArray.empty (.slice none 0 0) z6 0 r) (0,0) _ rfl (mX (s':=z6) (g:=w.heap.size+1+1) K2.out.2) Tryz.underlying32 rfl (by kernel_rfl) .nil)) rfl ?_
  obtain⟨hB,b2,hs5⟩:=HX.out
  obtain⟨hB2,k2⟩:=K2.out
  have hBw:=hB.trans (hB2.mono hB.size)
  have hf:=pY (S:=fun k=>k=w.heap.size+2) (Fr.refl _ w2) (g:=w.heap.size+2) (.inl rfl) (.string ByteArray.empty) (.slice none 0 0) (.int .i64 0) (.int .i64 0) (.int .i64 0) (.int .i64 0) (.int .i64 0) (.int .i64 0) (.int .i64 0) (.int .i64 r)
  exact⟨hBw.trans (hf.toBelow (fun i hi=>by rw[show i=w.heap.size+2 from hi];omega) (by have:=hBw.size;omega)),fun h=>(hr h).elim,fun _=>rfl⟩
end Go.Proofs.YtilpincgjlclpaaGreat.Ob
end
section
namespace Go.Proofs.YtilpincgjlclpaaGreat.Ob
open Go Go.RowKit Go.Proofs.ae.au Pr Bs Mp jL Hp
open gJ (iW nK TZ)
open Tm (mg)
open uA (iJ jN jW good iR ql qa wi jB oz)
def Gg (bu mn li:Int):Int:=if bu<0 then 2 else if bu>1048576 then 2 else if mn<1 then 2 else if li<1 then 2 else if li>65536 then 2 else 0
def xJ (l:List dN) (li:Int):Int:=if∃x∈l,(x.f0.size:Int)>li then 4 else 0
def IK (l:List dN) (bu mn li:Int):Int:=if Gg bu mn li=0 then xJ l li else Gg bu mn li
theorem EM (bu mn li:Int):fV.f bu mn li=some (Gg bu mn li):=by
 unfold fV.f Gg
 repeat' (split<;>try rfl)
theorem ZQ {bu mn li:Int} (h:Gg bu mn li=0):0<=bu/\bu<=1048576/\1<=mn/\1<=li/\li<=65536:=by
 unfold Gg at h
 repeat' (split at h<;>try(simp at h;done))
 omega
theorem Es (x:dN) (l:List dN) (li:Int):xJ (x::l) li=if(x.f0.size:Int)>li then 4 else xJ l li:=by
 unfold xJ
 by_cases h:(x.f0.size:Int)>li
 ·rw[if_pos h,if_pos ⟨x,by simp,h⟩]
 ·rw[if_neg h]
  by_cases h2:∃y∈l,(y.f0.size:Int)>li
  ·obtain⟨y,hy,hg⟩:=h2
   rw[if_pos ⟨y,by simp[hy],hg⟩,if_pos ⟨y,hy,hg⟩]
  ·rw[if_neg h2,if_neg]
   rintro⟨y,hy,hg⟩
   rcases List.mem_cons.1 hy with rfl|hy
   ·exact h hg
   ·exact h2 ⟨y,hy,hg⟩
theorem wrong_f (l:List dN) (bu mn li:Int) (hl:l.length<=1000000) (k:Nat) (hk:l.length+1<=k):eZ.f k l bu mn li=some (IK l bu mn li):=by
 have loop:∀m i k,i+m=l.length->m+1<=k->eZ.l0 k l (l.length:Int) (i:Int) bu mn li=some (xJ (l.drop i) li):=by
  intro m
  induction m with
  |zero=>
   intro i k hi hk
   obtain⟨k,rfl⟩:∃k',k=k'+1:=⟨k-1,by omega⟩
   rw[eZ.l0,if_neg (by omega),List.drop_of_length_le (by omega)]
   rfl
  |succ m ih=>
   intro i k hi hk
   obtain⟨k,rfl⟩:∃k',k=k'+1:=⟨k-1,by omega⟩
   have hlt:i<l.length:=by omega
   rw[eZ.l0,if_pos (by omega),if_pos (by omega),if_pos (by omega),jB l i hlt,wi i (by omega),List.drop_eq_getElem_cons hlt,Es,ih (i+1) k (by omega) (by omega)]
   split<;>rfl
 unfold eZ.f IK
 rw[EM,Option.bind_some]
 split
 ·have:=loop l.length 0 k (by omega) hk
  simpa using this
 ·rfl
theorem pos_f (l:List dN) (hl:l.length<=1000000) (hz:∀x∈l,x.f0.size<=300) (k:Nat) (hk:l.length+1<=k):dM.f k l=some ((fG (gI l):Nat):Int):=by
 have loop:∀m i k (n:Nat),i+m=l.length->m+1<=k->n<=i*300->dM.l0 k (n:Int) l (l.length:Int) (i:Int)=some ((n+fG (gI (l.drop i)):Nat):Int):=by
  intro m
  induction m with
  |zero=>
   intro i k n hi hk hn
   obtain⟨k,rfl⟩:∃k',k=k'+1:=⟨k-1,by omega⟩
   rw[dM.l0,if_neg (by omega),List.drop_of_length_le (by omega)]
   simp[gI,fG]
  |succ m ih=>
   intro i k n hi hk hn
   obtain⟨k,rfl⟩:∃k',k=k'+1:=⟨k-1,by omega⟩
   have hlt:i<l.length:=by omega
   have h3:=hz _ (List.getElem_mem hlt)
   have hw:wrap64 ((n:Int)+(l[i].f0.size:Int))=((n+l[i].f0.size:Nat):Int):=by unfold wrap64;omega
   have e:(ids l[i].f0.data.toList).length=l[i].f0.size:=by
    rw[show(ids l[i].f0.data.toList).length=l[i].f0.data.toList.length by simp[ids],Array.length_toList]
    rfl
   rw[dM.l0,if_pos (by omega),if_pos (by omega),if_pos (by omega),jB l i hlt,wi i (by omega),hw,ih (i+1) k _ (by omega) (by omega) (by omega),List.drop_eq_getElem_cons hlt]
   simp only[gI,List.map_cons,fG,e]
   congr 2
   omega
 have:=loop l.length 0 k 0 (by omega) hk (by omega)
 simpa[dM.f] using this
def dotE (l:List dN):Bool:=(iR 0 (l.map (·.f1)) (l.map ql)).2
def ic (l:List dN) (bu mn li:Int):Int:=if IK l bu mn li≠0 then IK l bu mn li else jN (dotE l) ByteArray.empty l
noncomputable def vV (l:List dN) (bu mn:Int):Tm.St:=Tm.learn (gB l) (gG l) bu mn
noncomputable def kU (l:List dN) (bu mn:Int):List J:=(vV l bu mn).o
open Classical in
noncomputable def rO (l:List dN) (bu mn li:Int):S6:=if ic l bu mn li=0 then⟨(fG (gI l):Int),((kU l bu mn).length:Int),((vV l bu mn).pu:Int),((vV l bu mn).po:Int),((vV l bu mn).pe:Int),((vV l bu mn).re:Int)⟩ else z6
theorem AR {l:List dN} {bu mn li:Int} (hf:iJ l) (hs:((gB l).map List.length).sum<=6000) (h:ic l bu mn li=0):Gg bu mn li=0/\xJ l li=0/\IK l bu mn li=0/\jN (dotE l) ByteArray.empty l=0/\iW (gB l) (gG l):=by
 unfold ic at h
 have hw:IK l bu mn li=0:=by
  by_cases h0:IK l bu mn li=0
  ·exact h0
  ·rw[if_pos h0] at h;exact(h0 h).elim
 rw[if_neg (by simp[hw])] at h
 have hp:Gg bu mn li=0/\xJ l li=0:=by
  unfold IK at hw
  split at hw
  ·rename_i h0;exact⟨h0,hw⟩
  ·rename_i h0;exact(h0 hw).elim
 obtain⟨g1,g2⟩:=jW.1 h
 exact⟨hp.1,hp.2,hw,h,TZ hf hs g1 g2⟩
set_option maxHeartbeats 1000000 in
theorem Kk {w:World} {A:Option Addr} {c0:Nat} {l:List dN} (hC:Kd.C lQ w A l.length l) (hc0:l.length<=c0) (hf:iJ l) (hs:((gB l).map List.length).sum<=6000) (bu mn li:Int) (V:World) (hV:Below w.heap.size w V):
  Calls Tryz.prog 14 #[.slice A l.length c0,Gs bu mn li] V fun e W'=>∃Av lv cv,e= .returned (.tuple #[.slice Av lv cv,WS (rO l bu mn li),.int .i64 (ic l bu mn li)])/\(ic l bu mn li=0->W'.ownsRow V.heap.size Cz 2 (.slice Av lv cv) (pR (kU l bu mn)).length ((pR (kU l bu mn)).flatMap mW))/\(ic l bu mn li≠0-> .slice Av lv cv=Value.slice none 0 0)/\Below V.heap.size V W':=by
 have hCV:=Kd.bY hC hV
 have hl:=hf.1
 obtain⟨p,e,hck,he⟩:=qa l hf
 have hck2:=hck 3000 (Nat.le_refl _)
 have hwr:=wrong_f l bu mn li (by omega) (l.length+1) (Nat.le_refl _)
 have hpos:=pos_f l (by omega) (fun x hx=>(hf.2 x hx).1) (l.length+1) (Nat.le_refl _)
 by_cases h1:IK l bu mn li=0
 ·by_cases h2:jN (dotE l) ByteArray.empty l=0
  ·have h0:ic l bu mn li=0:=by unfold ic;rw[if_neg (by simp[h1]),h2]
   obtain⟨hp,hlo,_,_,hk⟩:=AR hf hs h0
   obtain⟨q1,q2,q3,q4,q5⟩:=ZQ hp
   rw[he,show jN (iR 0 (l.map (·.f1)) (l.map ql)).2 ByteArray.empty l=0 from h2] at hck2
   rw[h1] at hwr
   refine(Oz hCV hc0 hck2 hpos hwr hk q3 q1).mono ?_
   rintro e W' ⟨v,ro,F,rfl,rfl,rfl,ho,hB,_⟩
   obtain⟨Av,cv,rfl⟩:=Bs.bU ho
   refine⟨Av,_,cv,?_,fun _=>ho,fun h=>(h h0).elim,hB⟩
   rw[h0]
   unfold rO WS
   rw[if_pos h0]
   rfl
  ·have h0:ic l bu mn li≠0:=by unfold ic;rw[if_neg (by simp[h1])];exact h2
   have h0e:ic l bu mn li=e:=by unfold ic;rw[if_neg (by simp[h1]),he];rfl
   have hes:rO l bu mn li=z6:=by unfold rO;rw[if_neg h0]
   rw[h1] at hwr
   rw[h0e,hes]
   rw[h0e] at h0
   refine(Ab h0 (fun V2 hB2=>RQ (Kd.bY hCV hB2) hc0 hwr hck2 h0)).mono ?_
   rintro e' W' ⟨rfl,hB⟩
   exact⟨none,0,0,rfl,fun h=>(h0 h).elim,fun _=>rfl,hB⟩
 ·have h0e:ic l bu mn li=IK l bu mn li:=by unfold ic;rw[if_pos h1]
  have hes:rO l bu mn li=z6:=by unfold rO;rw[if_neg (by rw[h0e];exact h1)]
  rw[h0e,hes]
  refine(Ab h1 (fun V2 hB2=>KP (Kd.bY hCV hB2) hc0 hwr h1)).mono ?_
  rintro e' W' ⟨rfl,hB⟩
  exact⟨none,0,0,rfl,fun h=>(h1 h).elim,fun _=>rfl,hB⟩
end Go.Proofs.YtilpincgjlclpaaGreat.Ob
end
