import Derived.Deep.RegionHeld3
import Derived.KernelRfl
import Derived.Laws.BitsLemmas
import Derived.Lib.AppendStr
import Derived.Lib.ConvBytes
import Derived.Lib.Hide
import Derived.Lib.OthersKept
import Derived.Shelf.Strings.Builder1
import Derived.Test.YtilpincgjlclpaaGreatB30
set_option linter.unusedVariables false
set_option linter.unusedSimpArgs false
section
namespace Go.Proofs.YtilpincgjlclpaaGreat.Dl
open Go.RowKit Bs
abbrev TB:Nat:=131
abbrev T8:Nat:=5
theorem Nk:(Tryz.prog.info? 5).map (fun i=>(i.zero,i.size,i.bytes))=some (some (.int .u8 0),1,1):=by kernel_rfl
theorem infoB:(Tryz.prog.info? 131).map (fun i=>i.size)=some 2:=by kernel_rfl
theorem liesB:liesAt Tryz.prog Tryz.prog.depth 131 (2/Tryz.prog.cellsOf 131) 0 131 1=true:=by kernel_rfl
theorem NC:Tryz.prog.funcs[140]?=some Tryz.f140:=Tryz.func140
set_option maxRecDepth 100000 in
theorem DW (b:Nat) (w:World) (h0:w.cell? ⟨b,0,none⟩=some (.pointer (some ⟨b,0,none⟩))):
  Calls Tryz.prog 105 #[.pointer (some ⟨b,0,none⟩)] w fun e w'=>e= .returned (.tuple #[])/\w'=w:=by
 obtain⟨j,hj,_⟩:=Option.map_eq_some_iff.1 infoB
 go_enter Tryz.func105,Tryz.ntmps105
 go_wp2
 rw[Lib.run_neq_ptr_same w _ Tryz.underlying128 hj]
 go_wp2
 go_end0
 exact⟨rfl,rfl⟩
set_option maxRecDepth 100000 in
theorem Ck (b:Nat) (w:World) (h0:w.cell? ⟨b,0,none⟩=some (.pointer none)) (hsh:w.shape? b=some (TB,2)) (hfz:w.frozen? ⟨b,0,none⟩=false):
  Calls Tryz.prog 105 #[.pointer (some ⟨b,0,none⟩)] w fun e w'=>e= .returned (.tuple #[])/\w'=w.setCell ⟨b,0,none⟩ (.pointer (some ⟨b,0,none⟩)):=by
 obtain⟨j,hj,hjs⟩:=Option.map_eq_some_iff.1 infoB
 go_enter Tryz.func105,Tryz.ntmps105
 go_wp2
 rw[Lib.run_to_unsafe w ⟨b,0,none⟩ Tryz.underlying128 Tryz.underlying243 hj (by rw[hjs];decide) hsh (Nat.zero_lt_succ 1)]
 simp only[Result.andThen]
 rw[Oper.upon_value]
 go_wp2
 rw[run_callFunc_extern NC (by kernel_rfl) (by kernel_rfl) (by kernel_rfl) (e:=Extern.AbiNoEscape.same) (by kernel_rfl)]
 rw[Lib.run_noEscape]
 simp only[Result.andThen]
 rw[Oper.upon_value]
 go_wp2
 rw[Lib.run_from_unsafe w ⟨b,0,none⟩ Tryz.underlying243 Tryz.underlying128 hj hsh liesB]
 simp only[Result.andThen]
 rw[Oper.upon_value]
 go_wp2
 go_end0
 exact⟨rfl,rfl⟩
def At (B b:Nat) (ob:Option Nat) (bs:List Value) (w:World):Prop:=
 ∃p v,(p= .pointer none\/p= .pointer (some ⟨b,0,none⟩))/\B<=b/\w.heap[b]?=some (.cells #[p,v] TB (0,0))/\w.ownsRow B T8 1 v bs.length bs/\v.ownBlock=ob
theorem At.lt {B b:Nat} {ob:Option Nat} {bs:List Value} {w:World} (h:At B b ob bs w):b<w.heap.size:=by
 obtain⟨p,v,_,_,hb,_⟩:=h
 exact bA hb
theorem At.le {B b:Nat} {ob:Option Nat} {bs:List Value} {w:World} (h:At B b ob bs w):B<=b:=by
 obtain⟨p,v,_,hB,_⟩:=h
 exact hB
theorem At.row {B b:Nat} {ob:Option Nat} {bs:List Value} {w:World} (h:At B b ob bs w) {g:Nat} (hg:ob=some g):B<=g/\g<w.heap.size/\g≠b:=by
 obtain⟨p,v,_,_,hb,ho,rfl⟩:=h
 exact⟨(eG ho hg).1,(eG ho hg).2,fun e=>own_ne ho hb (by decide) (by rw[hg,e])⟩
theorem At.fr {B b:Nat} {ob:Option Nat} {bs:List Value} {w w':World} {S:Nat->Prop} (h:At B b ob bs w) (hf:Fr S w w') (h1:¬S b) (h2:∀g,ob=some g->¬S g):At B b ob bs w':=by
 obtain⟨p,v,hp,hB,hb,ho,rfl⟩:=h
 exact⟨p,v,hp,hB,hf.heap hb h1,hf.own ho h2,rfl⟩
theorem At.is {B b:Nat} {ob:Option Nat} {bs:List Value} {w:World} (h:At B b ob bs w):Lib.IsBuilder TB T8 B b bs w:=by
 obtain⟨p,v,hp,hB,hb,ho,rfl⟩:=h
 have hne:=own_ne ho hb (show TB≠T8 by decide)
 rcases hp with rfl|rfl
 ·exact .inl ⟨hB,v,hb,ho,hne⟩
 ·exact .inr ⟨hB,v,hb,ho,hne⟩
theorem At.fresh (w:World) (B:Nat) (hB:B<=w.heap.size):At B w.heap.size none [] (w.alloc (.cells #[.pointer none,.slice none 0 0] TB)):=
 ⟨_,_,.inl rfl,hB,bG w _,⟨by simp,.inl ⟨rfl,rfl⟩⟩,rfl⟩
def xQ (b:Nat) (ob:Option Nat) (k:Nat):Prop:=k=b\/ob=some k
def uO (w:World) (ob xK:Option Nat):Prop:=xK=ob\/∃g,xK=some g/\w.heap.size<=g
theorem BL (B b:Nat) (ob:Option Nat) (bs:List Value) (w:World) (h:At B b ob bs w):
  Calls Tryz.prog 105 #[.pointer (some ⟨b,0,none⟩)] w fun e w'=>e= .returned (.tuple #[])/\
   ∃v,B<=b/\w'.heap[b]?=some (.cells #[.pointer (some ⟨b,0,none⟩),v] TB (0,0))/\w'.ownsRow B T8 1 v bs.length bs/\v.ownBlock=ob/\Fr (xQ b ob) w w':=by
 obtain⟨p,v,hp,hB,hb,ho,rfl⟩:=h
 have hne:=own_ne ho hb (show TB≠T8 by decide)
 rcases hp with rfl|rfl
 ·refine(Ck b w (by rw[aj hb];rfl) (by simp[World.shape?,hb]) (aX hb 0)).mono ?_
  rintro e w' ⟨rfl,rfl⟩
  have hf:Fr (xQ b v.ownBlock) w (w.setCell ⟨b,0,none⟩ (.pointer (some ⟨b,0,none⟩))):=(Fr.refl _ w).set (.inl (.inl rfl)) _
  refine⟨rfl,v,hB,by simpa using heap_set hb 0 (.pointer (some ⟨b,0,none⟩)),?_,rfl,hf⟩
  exact((Fr.refl (fun k=>k=b) w).set (p:=⟨b,0,none⟩) (.inl rfl) _).own ho (fun g hg e=>hne (by rw[hg,e]))
 ·refine(DW b w (by rw[aj hb];rfl)).mono ?_
  rintro e w' ⟨rfl,rfl⟩
  exact⟨rfl,v,hB,hb,ho,rfl,Fr.refl _ _⟩
abbrev cells (l:List UInt8):List Value:=Lib.byteCells l
theorem xU (l:List UInt8) (c:UInt8):cells (l++[c])=cells l++[.int .u8 c.toNat]:=by simp[cells,Lib.byteCells]
theorem Ja (l m:List UInt8):cells (l++m)=cells l++cells m:=by simp[cells,Lib.byteCells]
theorem kD (l:List UInt8):(cells l).length=l.length:=by simp[cells,Lib.byteCells]
theorem Og (B b:Nat) (ob:Option Nat) (l:List UInt8) (w:World) (h:At B b ob (cells l) w) (hB:B<=w.heap.size):
  Calls Tryz.prog 71 #[.pointer (some ⟨b,0,none⟩)] w fun e w'=>e= .returned (.string ⟨l.toArray⟩)/\Below B w w':=
 Tryz.Builder_String_any B b l w h.is hB
def BIn (w:World) (b g:Nat) (o:Obj) (l:List UInt8) (wr:World):Prop:=
 ∃ob,At w.heap.size b ob (cells l) wr/\Fr (fun _=>False) w wr/\wr.heap[g]?=some o/\g≠b/\ob≠some g
theorem BIn.block {w wr:World} {b g:Nat} {o:Obj} {l:List UInt8} (h:BIn w b g o l wr):wr.heap[g]?=some o:=by
 obtain⟨ob,_,_,hg,_⟩:=h
 exact hg
theorem BIn.step {w wr w':World} {b g:Nat} {o:Obj} {l:List UInt8} {ob xK:Option Nat} {l':List UInt8} (hA:At w.heap.size b ob (cells l) wr) (hF:Fr (fun _=>False) w wr) (hg:wr.heap[g]?=some o) (hgb:g≠b) (hne:ob≠some g)
  (hA':At w.heap.size b xK (cells l') w') (hm:uO wr ob xK) (hf:Fr (xQ b ob) wr w'):BIn w b g o l' w':=by
 refine⟨xK,hA',hF.trans hf (fun i hi=> .inr ?_),hf.heap hg (fun hx=>hx.elim hgb hne),hgb,?_⟩
 ·rcases hi with rfl|hi
  ·exact hA.le
  ·exact(hA.row hi).1
 ·rcases hm with rfl|⟨k,rfl,hk⟩
  ·exact hne
  ·intro e
   have:k=g:=by injection e
   have:=bA hg
   omega
theorem Ww {w wr:World} {b g:Nat} {o:Obj} {l:List UInt8} (h:BIn w b g o l wr):
  Calls Tryz.prog 71 #[.pointer (some ⟨b,0,none⟩)] wr fun e w'=>e= .returned (.string ⟨l.toArray⟩)/\Below w.heap.size w w':=by
 obtain⟨ob,hA,hF,_⟩:=h
 refine(Og _ _ _ _ _ hA hF.size).mono ?_
 rintro e w' ⟨rfl,hb⟩
 exact⟨rfl,(hF.toBelow (fun _ hi=>hi.elim) (Nat.le_refl _)).trans hb⟩
theorem Mc (w:World) (s:ByteArray):∃o,(∀wr:World,wr.heap[w.heap.size+1]?=some o->∀j,j<s.size->wr.cell? ⟨w.heap.size+1,j,none⟩=some (.int .u8 (s.data.toList.getD j 0).toNat))/\
  BIn w w.heap.size (w.heap.size+1) o [] (Lib.bytesWorld (w.alloc (.cells #[.pointer none,.slice none 0 0] 131)) 5 s):=by
 have hs1:=Lib.bytesWorld_at_new (w.alloc (.cells #[.pointer none,.slice none 0 0] 131)) 5 s
 rw[World.size_alloc] at hs1
 exact⟨_,fun wr hwr j hj=>xS hwr j hj,none,(At.fresh w _ (Nat.le_refl _)).fr (yQ _ _ _) (fun h=>h) (fun _ h=>by cases h),((Fr.refl _ w).alloc _).trans (yQ _ _ _) (fun _ h=>h.elim),hs1,by omega,by simp⟩
end Go.Proofs.YtilpincgjlclpaaGreat.Dl
end
section
namespace Go.Proofs.YtilpincgjlclpaaGreat.Dl
open Go.RowKit Bs
theorem Oe (s:ByteArray):Lib.strCells s=cells s.data.toList:=by simp[Lib.strCells,cells,Lib.byteCells]
set_option maxHeartbeats 2000000 in
set_option maxRecDepth 100000 in
theorem OI (B b:Nat) (ob:Option Nat) (l:List UInt8) (s:ByteArray) (w:World) (h:At B b ob (cells l) w) (hlen:l.length+s.size<=140737488355328) (hBw:B<=w.heap.size):
  Calls Tryz.prog 69 #[.pointer (some ⟨b,0,none⟩),.string s] w fun e w'=>e= .returned (.tuple #[.int .i64 s.size,.nilIface])/\
   ∃xK,At B b xK (cells (l++s.data.toList)) w'/\Fr (xQ b ob) w w':=by
 obtain⟨i0,hi,hz0,hz1,hz2⟩:=info_parts Nk
 go_enter Tryz.func69,Tryz.ntmps69
 go_wp2_with (go_at_call 105;refine(BL B b ob _ _ h).mono ?_)
 rintro e w1 ⟨rfl,v,hB,hbk,hown,VD,hf1⟩
 have HOB:=Lib.hid VD
 clear VD
 have c0:w1.cell? ⟨b,0,none⟩=some (.pointer (some ⟨b,0,none⟩)):=by rw[aj hbk];rfl
 have c1:w1.cell? ⟨b,1,none⟩=some v:=by rw[aj hbk];rfl
 have hne:=own_ne hown hbk (show TB≠T8 by decide)
 go_wp2_with (at_builtin;refine Lib.wpList_append_own_string _ rfl _ _ 129 9 rfl B T8 i0 Tryz.underlying129 Tryz.underlying9 hi hz0 hz1 hz2 _ _ _ rfl hown s rfl ?c3 ?c4 ?c5 ?_)
 case c3=>unfold maxLen;rw[kD];omega
 case c4=>rw[kD];omega
 case c5=>have:=hf1.size;omega
 intro v' w2 hown' hgrow _
 have hb2:w2.heap[b]?=some (.cells #[.pointer (some ⟨b,0,none⟩),v] TB (0,0)):=by
  rw[hgrow.block b (bA hbk) (fun e=>hne e.symm)]
  exact hbk
 have d0:w2.cell? ⟨b,0,none⟩=some (.pointer (some ⟨b,0,none⟩)):=by rw[aj hb2];rfl
 have d1:w2.cell? ⟨b,1,none⟩=some v:=by rw[aj hb2];rfl
 have f1:w2.frozen? ⟨b,1,none⟩=false:=aX hb2 1
 have hf2:Fr (xQ b ob) w (w2.setCell ⟨b,1,none⟩ v'):=
  (hf1.grown hgrow (fun k hk=> .inl (.inr (by rw[<-HOB.out];exact hk)))).set (.inl (.inl rfl)) _
 have kL:At B b v'.ownBlock (cells (l++s.data.toList)) (w2.setCell ⟨b,1,none⟩ v'):=by
  refine⟨_,v',.inr rfl,hB,by simpa using heap_set hb2 1 v',?_,rfl⟩
  have hne2:=own_ne hown' hb2 (show TB≠T8 by decide)
  have:=((Fr.refl (fun k=>k=b) w2).set (p:=⟨b,1,none⟩) (.inl rfl) v').own hown' (fun g hg e=>hne2 (by rw[hg,e]))
  rw[Ja,List.length_append,kD s.data.toList,Array.length_toList]
  rw[Oe] at this
  exact this
 have HF:=Lib.hid hf2
 have HA:=Lib.hid kL
 obtain⟨A2,cap,rfl⟩:∃A2 cap,v'= .slice A2 ((cells l).length+s.size) cap:=Bs.bU hown'
 clear hf2 kL hown'
 go_wp2
 go_ret2
 exact⟨rfl,_,HA.out,HF.out⟩
end Go.Proofs.YtilpincgjlclpaaGreat.Dl
end
section
namespace Go.Proofs.YtilpincgjlclpaaGreat.Dl
open Go.RowKit Bs
set_option maxHeartbeats 2000000 in
set_option maxRecDepth 100000 in
theorem OH (B b:Nat) (ob:Option Nat) (bs:List Value) (c:Int) (w:World) (h:At B b ob bs w) (hlen:bs.length+1<=140737488355328) (hBw:B<=w.heap.size):
  Calls Tryz.prog 106 #[.pointer (some ⟨b,0,none⟩),.int .u8 c] w fun e w'=>e= .returned .nilIface/\
   ∃xK,At B b xK (bs++[.int .u8 c]) w'/\uO w ob xK/\Fr (xQ b ob) w w':=by
 obtain⟨i0,hi,hz0,hz1,hz2⟩:=info_parts Nk
 go_enter Tryz.func106,Tryz.ntmps106
 go_wp2_with (go_at_call 105;refine(BL B b ob bs _ h).mono ?_)
 rintro e w1 ⟨rfl,v,hB,hbk,hown,VD,hf1⟩
 have HOB:=Lib.hid VD
 clear VD
 have c0:w1.cell? ⟨b,0,none⟩=some (.pointer (some ⟨b,0,none⟩)):=by rw[aj hbk];rfl
 have c1:w1.cell? ⟨b,1,none⟩=some v:=by rw[aj hbk];rfl
 have hne:=own_ne hown hbk (show TB≠T8 by decide)
 go_wp2_with (at_builtin;refine wpList_append_own_at _ rfl _ _ 129 rfl B T8 i0 (.int .u8 0) 1 1 Tryz.underlying129 hi hz0 hz1 hz2 rfl (by decide) _ _ _ rfl (hown.alloc _) ⟨w1.heap.size,0,none⟩ 1 1 [.int .u8 c] rfl rfl ?c1 ?c2 ?c3 ?c4 ?c5 ?_)
 case c1=>
  intro j u hj
  match j,hj with
  |0,hj=>simp at hj;subst hj;simp[Addr.add]
 case c2=>intro u hu;simp at hu;subst hu;rfl
 case c3=>unfold maxLen;omega
 case c4=>omega
 case c5=>have:=hf1.size;simp;omega
 intro v' w2 hown' hgrow _ hat
 have hb2:w2.heap[b]?=some (.cells #[.pointer (some ⟨b,0,none⟩),v] TB (0,0)):=by
  rw[hgrow.block b (by have:=bA hbk;simp;omega) (fun e=>hne e.symm)]
  exact dw hbk _
 have d0:w2.cell? ⟨b,0,none⟩=some (.pointer (some ⟨b,0,none⟩)):=by rw[aj hb2];rfl
 have d1:w2.cell? ⟨b,1,none⟩=some v:=by rw[aj hb2];rfl
 have f1:w2.frozen? ⟨b,1,none⟩=false:=aX hb2 1
 have hf2:Fr (xQ b ob) w (w2.setCell ⟨b,1,none⟩ v'):=
  ((hf1.alloc _).grown hgrow (fun k hk=> .inl (.inr (by rw[<-HOB.out];exact hk)))).set (.inl (.inl rfl)) _
 have hmv:uO w ob v'.ownBlock:=by
  rcases hat with hat|hat
  ·exact .inl (by rw[hat,HOB.out])
  ·exact .inr ⟨_,hat,by have:=hf1.size;simp;omega⟩
 have kL:At B b v'.ownBlock (bs++[.int .u8 c]) (w2.setCell ⟨b,1,none⟩ v'):=by
  refine⟨_,v',.inr rfl,hB,by simpa using heap_set hb2 1 v',?_,rfl⟩
  have hne2:=own_ne hown' hb2 (show TB≠T8 by decide)
  have:=((Fr.refl (fun k=>k=b) w2).set (p:=⟨b,1,none⟩) (.inl rfl) v').own hown' (fun g hg e=>hne2 (by rw[hg,e]))
  simpa using this
 have HF:=Lib.hid hf2
 have HA:=Lib.hid kL
 clear hf2 kL hat
 obtain⟨g,cap,rfl⟩:∃g cap,v'= .slice (some ⟨g,0,none⟩) (bs.length+1) cap:=by
  rcases hown'.2 with⟨_,h0⟩|⟨g,cap,cur,hv,_⟩
  ·omega
  ·exact⟨g,cap,hv⟩
 go_wp2
 go_ret
 exact⟨rfl,_,HA.out,hmv,HF.out⟩
theorem Ah {w wr:World} {b g:Nat} {o:Obj} {l:List UInt8} (c:UInt8) (h:BIn w b g o l wr) (hlen:l.length+1<=140737488355328):
  Calls Tryz.prog 106 #[.pointer (some ⟨b,0,none⟩),.int .u8 c.toNat] wr fun e w'=>e= .returned .nilIface/\BIn w b g o (l++[c]) w':=by
 obtain⟨ob,hA,hF,hg,hgb,hne⟩:=h
 refine(OH _ _ _ _ c.toNat _ hA (by rw[kD];exact hlen) hF.size).mono ?_
 rintro e w' ⟨rfl,xK,hA',hm,hf⟩
 rw[<-xU] at hA'
 exact⟨rfl,BIn.step hA hF hg hgb hne hA' hm hf⟩
end Go.Proofs.YtilpincgjlclpaaGreat.Dl
end
section
namespace Go.Proofs.YtilpincgjlclpaaGreat.Pr
open Go.RowKit Bs Go.Proofs.ae.au Go.Proofs.ae.aZ Go.Proofs.ae.bE
def hexDigs:List UInt8:=[48,49,50,51,52,53,54,55,56,57,97,98,99,100,101,102]
def pO (n:Nat):UInt8:=hexDigs.getD n 0
def iK (l:List UInt8):List UInt8:=l.flatMap fun c=>[pO (c.toNat/16),pO (c.toNat%16)]
def sI.f (a0:ByteArray):Option ByteArray:=if a0.size*2<=140737488355328 then some ⟨(iK a0.data.toList).toArray⟩ else none
theorem Hr (n:Nat) (h:n<(⟨#[48,49,50,51,52,53,54,55,56,57,97,98,99,100,101,102]⟩:ByteArray).size):
  (⟨#[48,49,50,51,52,53,54,55,56,57,97,98,99,100,101,102]⟩:ByteArray)[n]'h=pO n:=by
 have hn:n<16:=h
 match n,hn with
 |0,_=>rfl
 |1,_=>rfl
 |2,_=>rfl
 |3,_=>rfl
 |4,_=>rfl
 |5,_=>rfl
 |6,_=>rfl
 |7,_=>rfl
 |8,_=>rfl
 |9,_=>rfl
 |10,_=>rfl
 |11,_=>rfl
 |12,_=>rfl
 |13,_=>rfl
 |14,_=>rfl
 |15,_=>rfl
 |m+16,h=>exact absurd h (by omega)
theorem jG (l:List UInt8):(iK l).length=2*l.length:=by
 induction l with
 |nil=>rfl
 |cons c l ih=>
  show(iK (c::l)).length=_
  simp only[iK,List.flatMap_cons,List.length_append,List.length_cons,List.length_nil] at ih ⊢
  omega
theorem BQ (l:List UInt8) (c:UInt8):iK (l++[c])=iK l++[pO (c.toNat/16)]++[pO (c.toNat%16)]:=by simp[iK]
theorem wy (l:List UInt8) (k:Nat) (h:k<l.length):l.take (k+1)=l.take k++[l.getD k 0]:=by
 rw[List.take_succ_eq_append_getElem h,List.getD_eq_getElem?_getD,List.getElem?_eq_getElem h]
 rfl
set_option maxHeartbeats 1000000 in
set_option maxRecDepth 100000 in
theorem sI.calls (a0:ByteArray) (r:ByteArray) (w:World) (h:sI.f a0=some r):
  Calls Tryz.prog 70 #[.string a0] w fun e w'=>e= .returned (.string r)/\Below w.heap.size w w':=by
 unfold sI.f at h
 split at h
 ·rename_i hsz
  cases h
  have hcv:=fun W=>Lib.run_convert_string_bytes (P:=Tryz.prog) W 9 129 5 a0 Tryz.underlying9 Tryz.underlying129 Tryz.underlying5
  obtain⟨o,hbyte,hIn⟩:=Dl.Mc w a0
  have HI:=Lib.hid hIn
  have HB:=Lib.hid hbyte
  clear hIn hbyte
  go_enter Tryz.func70,Tryz.ntmps70
  go_wp2
  generalize Lib.bytesWorld (w.alloc (.cells #[.pointer none,.slice none 0 0] 131)) 5 a0=w1 at *
  generalize grownCap (w.alloc (.cells #[.pointer none,.slice none 0 0] 131)) a0.size 0 5=cap at *
  clear hcv
  go_loopw [9] (fun i wr=>∃k:Nat,k<=a0.size/\i= .int .i64 k/\Dl.BIn w w.heap.size (w.heap.size+1) o (iK (a0.data.toList.take k)) wr) (fun i _=>a0.size-(intOf i).toNat)
  case atStart=>exact⟨0,Nat.zero_le _,rfl,HI.out⟩
  case round=>
   obtain⟨k,hk,rfl,hin⟩:=hrel
   have FZ:=Lib.hid hin
   clear hin HI
   by_cases hlt:k<a0.size
   ·have hc:=HB.out wr FZ.out.block k hlt
    have hsn:iK (a0.data.toList.take (k+1))=iK (a0.data.toList.take k)++[pO ((a0.data.toList.getD k 0).toNat/16)]++[pO ((a0.data.toList.getD k 0).toNat%16)]:=by
     rw[wy _ _ (by simpa using hlt),BQ]
    have hlen:(iK (a0.data.toList.take k)).length=2*k:=by rw[jG,List.length_take,Nat.min_eq_left (by simpa using hk)]
    generalize a0.data.toList.getD k 0=x at hc hsn
    have HS:=Lib.hid hsn
    have HL:=Lib.hid hlen
    clear hsn hlen
    have hx:=x.toNat_lt
    have h1:(0:Int)<=(x.toNat:Int)/16:=by omega
    have h2:(x.toNat:Int)/16<16:=by omega
    have h3:bits .and .u8 (x.toNat:Int) 15=(x.toNat:Int)%16:=u8_and15 (x:=(x.toNat:Int)) (by omega) (by omega)
    have h4:(0:Int)<=(x.toNat:Int)%16:=by omega
    have h5:(x.toNat:Int)%16<16:=by omega
    go_wp2_with fail
    refine(Dl.Ah _ FZ.out (by rw[HL.out];omega)).mono ?_
    rintro e w2 ⟨rfl,hin2⟩
    have HIN2:=Lib.hid hin2
    clear hin2
    go_wp2_with fail
    refine(Dl.Ah _ HIN2.out (by rw[List.length_append,HL.out];simp;omega)).mono ?_
    rintro e w3 ⟨rfl,hin3⟩
    have HIN3:=Lib.hid hin3
    clear hin3
    go_wp2
    go_roundw
    case rel=>
     refine⟨k+1,by omega,by go_num,?_⟩
     rw[HS.out,<-Hr,<-Hr]
     exact HIN3.out
    case measure=>simp[intOf];omega
   ·go_wp2_with (go_at_call 71;refine(Dl.Ww FZ.out).mono ?_;rintro e w' ⟨rfl,hb⟩)
    go_ret
    have hk':k=a0.size:=by omega
    subst hk'
    refine⟨?_,hb⟩
    rw[List.take_of_length_le (by simp)]
    rfl
 ·cases h
end Go.Proofs.YtilpincgjlclpaaGreat.Pr
end
section
namespace Go.Proofs.YtilpincgjlclpaaGreat.Ob
open Go Go.RowKit Bs Mp jL Hp
def MR (w:World) (v:Value) (ms:List (ByteArray×ByteArray)):Prop:=
 ∃A c,v= .slice A ms.length c/\∀j x,ms[j]?=some x->∃g,A=some ⟨g,0,none⟩/\g<w.heap.size/\w.cell? ⟨g,j*2,none⟩=some (.string x.1)/\w.cell? ⟨g,j*2+1,none⟩=some (.string x.2)
theorem yY:∀{ms:List (ByteArray×ByteArray)} {j:Nat} {x:ByteArray×ByteArray},ms[j]?=some x->(ms.flatMap mW)[j*2]?=some (.string x.1)/\(ms.flatMap mW)[j*2+1]?=some (.string x.2)
 |[],j,x,h=>by simp at h
 |y::ms,0,x,h=>by simp at h;subst h;exact⟨rfl,rfl⟩
 |y::ms,j+1,x,h=>by
  obtain⟨h1,h2⟩:=yY (ms:=ms) (j:=j) (x:=x) (by simpa using h)
  rw[List.flatMap_cons,show(j+1)*2=(mW y).length+j*2 by simp[mW];omega,show(mW y).length+j*2+1=(mW y).length+(j*2+1) by omega]
  rw[List.getElem?_append_right (by omega),List.getElem?_append_right (by omega),Nat.add_sub_cancel_left,Nat.add_sub_cancel_left]
  exact⟨h1,h2⟩
theorem MR.of_own {w:World} {B:Nat} {v:Value} {ms:List (ByteArray×ByteArray)} (h:w.ownsRow B Cz 2 v ms.length (ms.flatMap mW)):MR w v ms:=by
 obtain⟨A,c,rfl⟩:=Bs.bU h
 refine⟨A,c,rfl,fun j x hx=>?_⟩
 obtain⟨g,rfl,_,hg,_,hc,_⟩:=gz h (by have:=(List.getElem?_eq_some_iff.1 hx).1;omega)
 obtain⟨h1,h2⟩:=yY hx
 exact⟨g,rfl,hg,hc _ _ h1,hc _ _ h2⟩
set_option maxHeartbeats 2000000 in
set_option maxRecDepth 100000 in
theorem Vs {B b:Nat} {o:List J} {S:Nat->Prop} {w:World} (h:Sym B w b o S) (hl:o.length<=100000) {i j:Int} {L R:ByteArray} (hi:Vl o i) (hj:Vl o j) (hL:fI o i=L) (hR:fI o j=R) (f1:find o L=(i,true)) (f2:find o R=(j,true)) (hsz:L.size+R.size<=65536) (hfr:(find o (L++R)).2=false):
  Calls Tryz.prog 104 #[.pointer (some ⟨b,0,none⟩),.agg #[.string L,.string R]] w fun e w'=>e= .returned (.int .i64 0)/\∃S',Sym B w' b (o++[((i,j),L++R)]) S'/\Fr S w w'/\Into w S S':=by
 obtain⟨V,hV⟩:∃V,V=w.alloc (.cells #[.string L,.string R] 47):=⟨_,rfl⟩
 have ji:Below w.heap.size w V:=by rw[hV];exact(Below.refl _ w).alloc (Nat.le_refl _) _
 have hb0:V.heap[w.heap.size]?=some (.cells #[.string L,.string R] 47 (0,0)):=by rw[hV];exact bG _ _
 have hS:=h.below ji
 have z0:V.cell? ⟨w.heap.size,0,none⟩=some (.string L):=aj hb0 0
 have z1:V.cell? ⟨w.heap.size,1,none⟩=some (.string R):=aj hb0 1
 have hfL:=Fy hS (t:=L) (by unfold maxLen;omega)
 have hfR:=Fy hS (t:=R) (by unfold maxLen;omega)
 rw[f1] at hfL
 rw[f2] at hfR
 obtain⟨n1,rfl⟩:∃n1:Nat,i=(n1:Int):=⟨i.toNat,by have:=hi.1;omega⟩
 obtain⟨n2,rfl⟩:∃n2:Nat,j=(n2:Int):=⟨j.toNat,by have:=hj.1;omega⟩
 have ht1:txt o n1=L:=hL
 have ht2:txt o n2=R:=hR
 have hjn:=Oo hS hl (i:=n1) (j:=n2) (by have:=hi.2;omega) (by have:=hj.2;omega) (by rw[ht1,ht2];exact hsz) (by rw[ht1,ht2];exact hfr)
 rw[ht1,ht2] at hjn
 have HX:=Lib.hid (And.intro ji hS)
 have HJ:=Lib.hid hjn
 clear h ji hb0 hS hL hR f1 f2 hfr hjn ht1 ht2 hi hj
 go_enter Tryz.func104,Tryz.ntmps104
 go_wp2_with fail
 rw[<-hV]
 clear hV
 go_wp2_with (go_at_call 122;refine hfL.mono ?_;clear hfL;rintro e w1 ⟨rfl,rfl⟩)
 go_wp2_with (go_at_call 122;refine hfR.mono ?_;clear hfR;rintro e w2 ⟨rfl,rfl⟩)
 go_wp2_with (go_at_call 88;refine HJ.out.mono ?_;clear HJ;rintro e w3 ⟨rfl,S3,h3,hf3,hi3⟩;have H3:=Lib.hid (And.intro h3 (And.intro hf3 hi3));clear h3 hf3 hi3)
 go_ret
 obtain⟨h3,hf3,hi3⟩:=H3.out
 refine⟨rfl,S3,h3,?_,fun k hk=>?_⟩
 ·exact(Fr.dL (S:=S) HX.out.1).trans hf3 (fun i hi=> .inl hi)
 ·rcases hi3 k hk with h9|h9
  ·exact .inl h9
  ·exact .inr (Nat.le_trans HX.out.1.size h9)
theorem mgT_at {o:List J} {k:Nat} {x:J} (hx:o[k]?=some x) (hw:UX o k x):(pR o)[k]?=some (fI (o.take k) x.1.1,fI (o.take k) x.1.2):=by
 unfold pR
 rw[List.getElem?_map,hx,Option.map_some,nQ hw.vp.1,nQ hw.vp.2]
set_option maxHeartbeats 4000000 in
set_option maxRecDepth 100000 in
theorem PR {w:World} {v:Value} {o:List J} (h:MR w v (pR o)) (hO:∀k x,o[k]?=some x->UX o k x) (hz:∀x∈pR o,x.1.size+x.2.size<=65536) (hl:o.length<=100000):
  Calls Tryz.prog 68 #[v] w fun e w'=>e= .returned (.tuple #[.int .i64 (-1),.int .i64 0])/\Below w.heap.size w w':=by
 obtain⟨A,c,rfl,hc⟩:=h
 have hlm:(pR o).length=o.length:=by unfold pR;rw[List.length_map]
 have HC:=Lib.hid (And.intro hc (And.intro hO hz))
 have HS0:=Lib.hid (Sym.new (B:=w.heap.size) w (Nat.le_refl _))
 have HB0:Hid (Below w.heap.size w (w.alloc (.cells #[.slice none 0 0,.map none] TT))):=Lib.hid ((Below.refl _ w).alloc (Nat.le_refl _) _)
 rw[hlm]
 clear hc hO hz hlm
 go_enter Tryz.func68,Tryz.ntmps68
 go_wp2_with (go_at_call 81;refine(Un w).mono ?_;rintro e w1 ⟨rfl,rfl⟩)
 go_loopg [11] o.length (fun gk v11 wr=>∃(D R:List J) (S':Nat->Prop),v11= .int .i64 (D.length:Int)/\R.length=gk/\Hid (o=D++R)/\Hid (Sym w.heap.size wr w.heap.size D S')/\Hid (Below w.heap.size w wr))
 case atStart=>exact⟨[],o,_,rfl,rfl,Lib.hid rfl,HS0,HB0⟩
 case round=>
  obtain⟨D,R,S',rfl,qy,HX,HS,HB⟩:=hrel
  cases R with
  |nil=>
   have hxe:o=D:=by rw[HX.out];simp
   have hge:¬D.length<o.length:=by rw[hxe];omega
   clear hxe
   go_wp2
   go_ret2
   exact⟨rfl,HB.out⟩
  |cons x R=>
   obtain⟨gk,rfl⟩:∃g,gk=g+1:=⟨R.length,by simpa using qy.symm⟩
   have hxi:o[D.length]?=some x:=by rw[HX.out];simp
   have htk:o.take D.length=D:=by rw[HX.out];simp
   have hlt:D.length<o.length:=(List.getElem?_eq_some_iff.1 hxi).1
   have hw:=HC.out.2.1 _ _ hxi
   have hm:=mgT_at hxi hw
   obtain⟨g,rfl,hg,x0,x1⟩:=HC.out.1 _ _ hm
   have hsz:=HC.out.2.2 _ (List.mem_of_getElem? hm)
   rw[htk] at x0 x1 hsz
   have y0:=(HB.out.cell (p:=⟨g,D.length*2,none⟩) hg).trans x0
   have y1:=(HB.out.cell (p:=⟨g,D.length*2+1,none⟩) hg).trans x1
   obtain⟨L,hL⟩:∃L,fI D x.1.1=L:=⟨_,rfl⟩
   obtain⟨R',hR⟩:∃R',fI D x.1.2=R':=⟨_,rfl⟩
   have w1:=hw.vp.1
   have w2:=hw.vp.2
   have w3:=hw.tx
   have w4:=hw.f1
   have w5:=hw.f2
   have w6:=hw.fr
   rw[htk] at w1 w2 w3 w4 w5 w6
   rw[hL] at w3 w4 y0 hsz
   rw[hR] at w3 w5 y1 hsz
   rw[w3] at w6
   obtain⟨V,hV⟩:∃V,V=wr.alloc (.cells #[.string L,.string R'] 47):=⟨_,rfl⟩
   have ji:Below wr.heap.size wr V:=by rw[hV];exact(Below.refl _ wr).alloc (Nat.le_refl _) _
   have hb0:V.heap[wr.heap.size]?=some (.cells #[.string L,.string R'] 47 (0,0)):=by rw[hV];exact bG _ _
   have hj:=Vs (HS.out.below ji) (by omega) w1 w2 hL hR w4 w5 hsz w6
   have z0:V.cell? ⟨wr.heap.size,0,none⟩=some (.string L):=aj hb0 0
   have z1:V.cell? ⟨wr.heap.size,1,none⟩=some (.string R'):=aj hb0 1
   have hxe:((x.1.1,x.1.2),L++R')=x:=by rw[<-w3]
   rw[hxe] at hj
   have HJ:=Lib.hid (And.intro hj ji)
   clear hj ji hb0 hxe w1 w2 w3 w4 w5 w6 x0 x1 hm hw hL hR hxi htk hsz
   rw[hV] at z0 z1
   go_wp2_with (go_at_call 104;rw[<-hV];refine HJ.out.1.mono ?_;rintro e w2 ⟨rfl,S2,hs2,hf2,hi2⟩;have H2:=Lib.hid (And.intro hs2 hf2);clear hs2 hf2 hi2)
   go_roundg R.length
   case measure=>simp at qy;omega
   case rel=>
    obtain⟨hs2,hf2⟩:=H2.out
    have hBw:=HB.out.trans (HJ.out.2.mono HB.out.size)
    exact⟨D++[x],R,S2,by rw[List.length_append,List.length_singleton];simp,rfl,Lib.hid (by rw[HX.out];simp),Lib.hid hs2,Lib.hid (hBw.trans (hf2.toBelow (fun i hi=>(HS.out.oq i hi).1) hBw.size))⟩
end Go.Proofs.YtilpincgjlclpaaGreat.Ob
end
