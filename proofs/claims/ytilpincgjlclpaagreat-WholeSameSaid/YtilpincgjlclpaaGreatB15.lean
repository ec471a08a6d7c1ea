import Derived.Deep.RegionHeld3
import Derived.Lib.ConvBytes
import Derived.Test.YtilpincgjlclpaaGreatB14
set_option linter.unusedVariables false
set_option linter.unusedSimpArgs false
section
namespace Go.Proofs.YtilpincgjlclpaaGreat.Ob
open Go Go.RowKit Bs Mp jL
def OW:Nat->List UInt8->List NI
 |_,[]=>[]
 |i,c::l=>(i,(c.toNat:Int))::OW (i+1) l
def rH:Nat->List UInt8->List C3
 |_,[]=>[]
 |i,c::l=>((c.toNat:Int),(i:Int)-1,(i:Int)+1)::rH (i+1) l
theorem zF:∀(l:List UInt8) (i:Nat),(rH i l).length=l.length
 |[],_=>rfl
 |c::l,i=>by rw[rH,List.length_cons,zF l,List.length_cons]
theorem Ex:∀(l:List UInt8) (i:Nat),(OW i l).length=l.length
 |[],_=>rfl
 |c::l,i=>by rw[OW,List.length_cons,Ex l,List.length_cons]
theorem Ez (c:UInt8):∀(l:List UInt8) (i:Nat),rH i (l++[c])=rH i l++[((c.toNat:Int),((i+l.length:Nat):Int)-1,((i+l.length:Nat):Int)+1)]
 |[],i=>by simp[rH]
 |d::l,i=>by
  rw[List.cons_append,rH,Ez c l (i+1),rH,List.cons_append,List.length_cons,show i+1+l.length=i+(l.length+1) by omega]
theorem Ey:∀(l:List UInt8) (i j:Nat) (c:UInt8),l[j]?=some c->(rH i l)[j]?=some ((c.toNat:Int),((i+j:Nat):Int)-1,((i+j:Nat):Int)+1)
 |[],_,_,_,h=>by simp at h
 |d::l,i,0,c,h=>by simp at h;subst h;rfl
 |d::l,i,j+1,c,h=>by
  rw[rH,List.getElem?_cons_succ,Ey l (i+1) j c (by simpa using h),show i+1+j=i+(j+1) by omega]
theorem TK:∀(l:List UInt8) (i:Nat),(OW i l).map Prod.snd=ids l
 |[],_=>rfl
 |c::l,i=>by rw[OW,List.map_cons,TK l];rfl
theorem Qp:∀(l:List UInt8) (i:Nat),∀x∈OW i l,i<=x.1/\0<=x.2/\x.2<=1000000
 |[],_,x,h=>by simp[OW] at h
 |c::l,i,x,h=>by
  rw[OW] at h
  rcases List.mem_cons.1 h with rfl|h
  ·have:=c.toNat_lt
   exact⟨Nat.le_refl _,by simp,by simp;omega⟩
  ·have:=Qp l (i+1) x h
   exact⟨by omega,this.2⟩
theorem Ib:∀(l:List UInt8) (i:Nat),((OW i l).map Prod.fst).Nodup
 |[],_=>by simp[OW]
 |c::l,i=>by
  rw[OW,List.map_cons,List.nodup_cons]
  refine⟨fun h=>?_,Ib l (i+1)⟩
  obtain⟨x,hx,e⟩:=List.mem_map.1 h
  have:=(Qp l (i+1) x hx).1
  simp only at e
  omega
theorem XZ {row:List C3}:∀(l:List UInt8) (i:Nat) (b:Int),(∀(j:Nat) (c:UInt8),l[j]?=some c->row[i+j]?=some ((c.toNat:Int),(if j=0 then b else((i+j:Nat):Int)-1),(if j+1=l.length then-1 else((i+j:Nat):Int)+1)))->IW row b (OW i l) (-1)
 |[],_,_,_=>trivial
 |c::l,i,b,h=>by
  rw[OW]
  refine⟨?_,XZ l (i+1) (i:Int) fun j d hd=>?_⟩
  ·have:=h 0 c rfl
   rw[Nat.add_zero] at this
   rw[this,if_pos rfl]
   cases l with
   |nil=>rfl
   |cons d l=>rw[if_neg (by simp),OW];rfl
  ·have:=h (j+1) d (by simpa using hd)
   rw[show i+1+j=i+(j+1) by omega,this,if_neg (by omega),List.length_cons]
   have e1:(if j=0 then(i:Int) else((i+(j+1):Nat):Int)-1)=((i+(j+1):Nat):Int)-1:=by
    split
    ·omega
    ·rfl
   have e2:(if j+1+1=l.length+1 then(-1:Int) else((i+(j+1):Nat):Int)+1)=if j+1=l.length then-1 else((i+(j+1):Nat):Int)+1:=by
    by_cases e:j+1=l.length
    ·rw[if_pos (by omega),if_pos e]
    ·rw[if_neg (by omega),if_neg e]
   rw[e1,e2]
theorem infoK:(Tryz.prog.info? 251).map (fun i=>(i.zero,i.size,i.bytes))=some (some (.agg #[.int .i64 0,.int .i64 0,.int .i64 0]),3,24):=by kernel_rfl
set_option maxHeartbeats 2000000 in
set_option maxRecDepth 100000 in
theorem seq_new (t:ByteArray) (ht:t.size<=1000) (w:World):
  Calls Tryz.prog 112 #[.string t] w fun e w'=>e= .returned (.pointer (some ⟨w.heap.size,0,none⟩))/\(∃S,Sq w.heap.size w' w.heap.size (ids t.data.toList) S)/\Below w.heap.size w w':=by
 have hls:t.data.toList.length=t.size:=by simp
 have hcv:=fun W s=>Lib.run_convert_string_bytes (P:=Tryz.prog) W 9 129 5 s Tryz.underlying9 Tryz.underlying129 Tryz.underlying5
 obtain⟨i0,hx,hx0,hx1,hx2⟩:=info_parts infoK
 go_enter Tryz.func112,Tryz.ntmps112
 go_wp2_with fail
 obtain⟨W0,hW0⟩:∃W0,W0=w.alloc (.cells #[.slice none 0 0,.int .i64 (-1),.int .i64 (t.size:Int)] TS):=⟨_,rfl⟩
 have hs0:W0.heap.size=w.heap.size+1:=by rw[hW0];simp
 have hb0:W0.heap[w.heap.size]?=some (.cells #[.slice none 0 0,.int .i64 (-1),.int .i64 (t.size:Int)] TS (0,0)):=by rw[hW0];exact bG w _
 have hB0:Below w.heap.size w W0:=by rw[hW0];exact(Below.refl _ w).alloc (Nat.le_refl _) _
 rw[<-hW0]
 clear hcv hW0
 have hfb:=yQ W0 5 t
 have hnew:=Lib.bytesWorld_at_new W0 5 t
 rw[hs0] at hnew
 have hb1:=hfb.heap hb0 (fun h=>h)
 have hB1:Below w.heap.size w (Lib.bytesWorld W0 5 t):=hB0.trans (hfb.toBelow (fun i hi=>hi.elim) (by omega))
 obtain⟨bc,hbc⟩:∃bc,bc=Lib.bytesCells W0 5 t:=⟨_,rfl⟩
 have hcell:∀(wr:World) (x:Nat×Nat),wr.heap[w.heap.size+1]?=some (.cells bc 5 x)->∀j,j<t.size->wr.cell? ⟨w.heap.size+1,j,none⟩=some (.int .u8 (t.data.toList.getD j 0).toNat):=fun wr x h j hj=>by
  rw[hbc] at h
  exact xS h j hj
 rw[<-hbc] at hnew
 clear hbc hfb
 generalize Lib.bytesWorld W0 5 t=W1 at *
 generalize grownCap W0 t.size 0 5=cp at *
 obtain⟨fz,hfz⟩:∃fz,W1.heap[w.heap.size+1]?=some (.cells bc 5 fz):=⟨_,hnew⟩
 have HN:=Lib.hid hfz
 have HB0:=Lib.hid hb1
 have HB1:=Lib.hid hB1
 have HC:=Lib.hid hcell
 clear hnew hfz hb1 hB1 hcell hb0 hB0 hs0
 go_loopw [14] (fun v14 wr=>∃(i:Nat) (v:Value),i<=t.size/\v14= .int .i64 (i:Int)/\Hid (wr.heap[w.heap.size]?=some (.cells #[v,.int .i64 (-1),.int .i64 (t.size:Int)] TS (0,0)))/\Hid (wr.ownsRow w.heap.size TC 3 v i (rc (rH 0 (t.data.toList.take i))))/\Hid (wr.heap[w.heap.size+1]?=some (.cells bc 5 fz))/\Hid (Below w.heap.size w wr)) (fun v14 _=>t.size-(intOf v14).toNat)
 case atStart=>exact⟨0,_,Nat.zero_le _,rfl,HB0,World.ownsRow_nil _ _ _ _,HN,HB1⟩
 case round=>
  obtain⟨i,v,hi,rfl,HB,HO,HY,HW⟩:=hrel
  have cb:=(aj HB.out 0).trans rfl
  have fb:=aX HB.out 0
  by_cases hlt:i<t.size
  ·have kc:=HC.out wr _ HY.out i hlt
   obtain⟨c,hc⟩:∃c,c=t.data.toList.getD i 0:=⟨_,rfl⟩
   rw[<-hc] at kc
   have hci:t.data.toList[i]?=some c:=by rw[hc];simp[List.getD,hlt]
   have HCI:=Lib.hid hci
   have hw1:wrap64 ((i:Int)-1)=(i:Int)-1:=by unfold wrap64;omega
   have hcu:wrap64 ((c.toNat:Nat):Int)=((c.toNat:Nat):Int):=by have:=c.toNat_lt;unfold wrap64;omega
   obtain⟨A,cc,rfl⟩:=bU HO.out
   clear hc hci
   go_wp2_with (at_builtin;refine wpList_append_own_at _ rfl _ _ 247 rfl w.heap.size TC i0 (.agg #[.int .i64 0,.int .i64 0,.int .i64 0]) 3 24 Tryz.underlying247 hx hx0 hx1 hx2 rfl (by decide) _ _ _ rfl (HO.out.alloc _) _ 1 1 [.int .i64 (c.toNat:Int),.int .i64 ((i:Int)-1),.int .i64 ((i:Int)+1)] rfl rfl ?c1 ?c2 ?c3 ?c4 ?c5 ?_)
   case c1=>exact mr _ _ _
   case c2=>intro u hu;simp at hu;rcases hu with rfl|rfl|rfl<;>rfl
   case c3=>unfold maxLen;omega
   case c4=>omega
   case c5=>have:=HW.out.size;simp;omega
   intro v' w6 hown6 iZ _ AV
   obtain⟨ao',cap',rfl⟩:=bU hown6
   have hne:=Bs.own_ne HO.out HB.out (show TS≠TC by decide)
   have hne2:=Bs.own_ne HO.out HY.out (show(5:Nat)≠TC by decide)
   have hsz:=HW.out.size
   have hb6:=(iZ.block w.heap.size (by have:=bA HB.out;simp;omega) (fun e=>hne e.symm)).trans (dw HB.out _)
   have hy6:=(iZ.block (w.heap.size+1) (by have:=bA HY.out;simp;omega) (fun e=>hne2 e.symm)).trans (dw HY.out _)
   have d1:w6.frozen? ⟨w.heap.size,0,none⟩=false:=aX hb6 0
   have d2:w6.cell? ⟨w.heap.size,0,none⟩=some (.slice A i cc):=(aj hb6 0).trans rfl
   have xx:=(HW.out.alloc hsz (.cells #[.int .i64 (c.toNat:Int),.int .i64 ((i:Int)-1),.int .i64 ((i:Int)+1)] TC)).grown iZ (by simp;omega) (fun k e=>(eG HO.out e).1)
   have Eh:=Bs.own_ne hown6 hb6 (show TS≠TC by decide)
   have HX:=Lib.hid (And.intro hb6 (And.intro hy6 (And.intro xx (And.intro hown6 Eh))))
   clear iZ AV hb6 hy6 xx hown6 hne hne2 Eh cb fb
   go_wp2
   obtain⟨hb6,hy6,xx,hown6,Eh⟩:=HX.out
   go_roundw
   case rel=>
    refine⟨i+1,.slice ao' (i+1) cap',by omega,by go_num,Lib.hid (by simpa using heap_set hb6 0 (.slice ao' (i+1) cap')),Lib.hid ?_,Lib.hid (dI hy6 (by simp) _),Lib.hid (xx.setCell (Nat.le_refl _) _)⟩
    have e:t.data.toList.take (i+1)=t.data.toList.take i++[c]:=by rw[List.take_add_one,HCI.out];rfl
    rw[e,Ez,KD]
    have hl:(t.data.toList.take i).length=i:=by simp;omega
    rw[hl,Nat.zero_add]
    exact iq hown6 Eh _
   case measure=>simp[intOf];omega
  ·have hil:i=t.size:=by omega
   subst hil
   have htk:t.data.toList.take t.size=t.data.toList:=List.take_of_length_le (by omega)
   have hO:=HO.out
   rw[htk] at hO
   by_cases h0:t.size=0
   ·have hnil:t.data.toList=[]:=List.length_eq_zero_iff.1 (by omega)
    obtain⟨A,cc,rfl⟩:=bU HO.out
    have hgt:¬(0<t.size):=by omega
    have hgd:decide ((t.size:Int)>0)=false:=decide_eq_false (by omega)
    have HOO:=Lib.hid hO
    clear hO
    go_wp2
    go_ret
    refine⟨rfl,⟨fun k=>k=w.heap.size\/(Value.slice A t.size cc).ownBlock=some k,_,[],[],⟨Nat.le_refl _,?_,?_,trivial,by simp,by simp,by simp⟩,by rw[hnil];rfl,rfl⟩,HW.out⟩
    ·have:=HB.out
     rw[h0] at this ⊢
     exact this
    ·have:=HOO.out
     rw[hnil,h0] at this
     rw[h0]
     exact this
   ·obtain⟨m,hm⟩:∃m,t.size=m+1:=⟨t.size-1,by omega⟩
    obtain⟨c,hc⟩:∃c,t.data.toList[m]?=some c:=⟨_,List.getElem?_eq_getElem (by omega)⟩
    have hat:=Ey t.data.toList 0 m c hc
    rw[Nat.zero_add] at hat
    have Eh:=Bs.own_ne hO HB.out (show TS≠TC by decide)
    obtain⟨A,cc,rfl⟩:=bU hO
    obtain⟨g0,rfl,hg0,hg1,hg2,hg3,hg4⟩:=gz hO (by omega)
    have hgb:g0≠w.heap.size:=fun e=>Eh (by simp[Value.ownBlock,e])
    have k2:wr.cell? ⟨g0,(t.size-1)*3+2,none⟩=some (.int .i64 ((m:Int)+1)):=by
     have:=hg3 _ _ (Uf hat).2.2
     rw[show m=t.size-1 by omega] at this ⊢
     rw[this]
    have f2:=hg4 ((t.size-1)*3+2)
    have fb1:=aX HB.out 1
    have cb1:wr.cell? ⟨w.heap.size,1,none⟩=some (.int .i64 (-1)):=aj HB.out 1
    have hgd:decide ((t.size:Int)>0)=true:=decide_eq_true (by omega)
    have HX:=Lib.hid (And.intro hO (And.intro hat (And.intro hc hm)))
    clear hO hat hc hm Eh hg3 hg4
    go_wp2
    go_ret
    obtain⟨hO,hat,hc,hm⟩:=HX.out
    have hl:(rH 0 t.data.toList).length=t.size:=by rw[zF,hls]
    have em:t.size-1=m:=by omega
    rw[em]
    refine⟨rfl,⟨_,.slice (some ⟨g0,0,none⟩) t.size cc,(rH 0 t.data.toList).set m ((c.toNat:Int),(m:Int)-1,-1),OW 0 t.data.toList,⟨Nat.le_refl _,?_,?_,?_,Ib _ _,by simp[hl];omega,fun x hx=>(Qp _ _ x hx).2⟩,(TK _ _).symm,rfl⟩,?_⟩
    ·have h1:=dI (heap_set HB.out 1 (.int .i64 0)) (p:=⟨g0,m*3+2,none⟩) hgb.symm (.int .i64 (-1))
     have h2:Hl (OW 0 t.data.toList) (-1)=0:=by
      cases h3:t.data.toList with
      |nil=>rw[h3] at hc;simp at hc
      |cons d l=>rfl
     rw[h2,Ex,hls]
     simpa using h1
    ·have h1:=iq hO (p:=⟨w.heap.size,1,none⟩) (fun e=>hgb (by simpa[Value.ownBlock] using e)) (.int .i64 0)
     have h2:=tO h1 (m*3+2) (.int .i64 (-1))
     rw[(yx hat (-1)).2.2] at h2
     rw[List.length_set,hl]
     exact h2
    ·refine XZ t.data.toList 0 (-1) fun j d hd=>?_
     rw[Nat.zero_add,hls]
     have hjl:j<t.size:=by have:=(List.getElem?_eq_some_iff.1 hd).1;omega
     have e0:(if j=0 then(-1:Int) else(j:Int)-1)=(j:Int)-1:=by
      split
      ·omega
      ·rfl
     rw[e0]
     by_cases e:j=m
     ·subst e
      rw[hc] at hd
      cases hd
      have e1:(if j+1=t.size then(-1:Int) else(j:Int)+1)= -1:=if_pos (by omega)
      rw[List.getElem?_set_self (by omega),e1]
     ·have e1:(if j+1=t.size then(-1:Int) else(j:Int)+1)=(j:Int)+1:=if_neg (by omega)
      rw[List.getElem?_set_ne (fun h=>e h.symm),Ey t.data.toList 0 j d hd,Nat.zero_add,e1]
    ·exact(HW.out.setCell (p:=⟨w.heap.size,1,none⟩) (Nat.le_refl _) _).setCell (p:=⟨g0,m*3+2,none⟩) hg0 _
end Go.Proofs.YtilpincgjlclpaaGreat.Ob
end
section
namespace Go.Proofs.YtilpincgjlclpaaGreat.Ob
open Go Go.RowKit Bs Mp jL
abbrev TX:Nat:=197
abbrev uq:Nat:=198
abbrev TN:Nat:=3
inductive Tag
 |no
 |ix
 |vs
 |vc
 |al
 |am
 |sq (i:Nat)
 |rw(q:P2)
abbrev gZ (tg:Nat->Tag):Nat->Prop:=fun k=>tg k≠ .no
def ints (l:List Nat):List Value:=l.map fun i:Nat=>Value.int .i64 (i:Int)
structure nL (B:Nat) (w:World) (b:Nat) (vs vc:Value) (cb ab:Nat) (tg:Nat->Tag) (gF:List Nat) (am:List (P2×Value)) (ws:List (List Int)) (cs:List Int) (f:P2->Int) (rws:P2->List Nat) (left touched n M:Nat):Prop where
 lo:B<=b
 alo:B<=ab
 blk:w.heap[b]?=some (.cells #[vs,vc,.pointer (some ⟨cb,0,none⟩),.map (some ab),.int .i64 (left:Int),.int .i64 (touched:Int)] TX (0,0))
 Cc:tg b= .ix
 vso:w.ownsRow B uq 1 vs gF.length (gF.map fun k=> .pointer (some ⟨k,0,none⟩))
 Gx:∀k,vs.ownBlock=some k->tg k= .vs
 vco:w.ownsRow B TN 1 vc cs.length (cs.map (Value.int .i64))
 IG:∀k,vc.ownBlock=some k->tg k= .vc
 all:∃S,xq B w cb f n S/\∀k,S k->tg k= .al
 sqs:∀(i k:Nat) (u:List Int),gF[i]?=some k->ws[i]?=some u->∃S,Sq B w k u S/\∀j,S j->tg j= .sq i
 lens:gF.length=ws.length/\cs.length=ws.length
 amp:mp VK w ab am
 Gw:tg ab= .am
 aml:am.length<=M
 rwn:∀q,Mp.get am q=none->rws q=[]
 rwo:∀q v,Mp.get am q=some v->w.ownsRow B TN 1 v (rws q).length (ints (rws q))/\∀k,v.ownBlock=some k->tg k= .rw q
 RA:∀q,(rws q).length<=M/\∀i∈rws q,i<ws.length
 lt:∀k,tg k≠ .no->B<=k/\k<w.heap.size
section
variable {B b cb ab left touched n M:Nat} {w w':World} {vs vc:Value} {tg:Nat->Tag} {gF:List Nat} {am:List (P2×Value)} {ws:List (List Int)} {cs:List Int} {f:P2->Int} {rws:P2->List Nat} {T:Nat->Prop}
theorem iH {sz k:Nat} {e:TypeId} {v:Value} {xs:List Value} (h:w.ownsRow B e sz v k xs) (he:∀g,v.ownBlock=some g->w'.heap[g]?=w.heap[g]?):w'.ownsRow B e sz v k xs:=by
 obtain⟨h1,h2⟩:=h
 refine⟨h1,?_⟩
 rcases h2 with h2|⟨g,cap,cur,rfl,hg,hh,r⟩
 ·exact .inl h2
 ·exact .inr ⟨g,cap,cur,rfl,hg,(he g rfl).trans hh,r⟩
theorem nL.oq (h:nL B w b vs vc cb ab tg gF am ws cs f rws left touched n M):In B w (gZ tg):=fun k hk=>h.lt k hk
theorem nL.same (h:nL B w b vs vc cb ab tg gF am ws cs f rws left touched n M) (hs:w.heap.size<=w'.heap.size) (he:∀k,tg k≠ .no->w'.heap[k]?=w.heap[k]?):nL B w' b vs vc cb ab tg gF am ws cs f rws left touched n M:=by
 have ht:∀{t:Tag} {k:Nat},tg k=t->t≠ .no->w'.heap[k]?=w.heap[k]?:=fun h1 h2=>he _ (by rw[h1];exact h2)
 refine⟨h.lo,h.alo,(ht h.Cc (by simp)).trans h.blk,h.Cc,iH h.vso fun g hg=>ht (h.Gx g hg) (by simp),h.Gx,iH h.vco fun g hg=>ht (h.IG g hg) (by simp),h.IG,?_,?_,h.lens,h.amp.same (ht h.Gw (by simp)),h.Gw,h.aml,h.rwn,?_,h.RA,fun k hk=>⟨(h.lt k hk).1,Nat.lt_of_lt_of_le (h.lt k hk).2 hs⟩⟩
 ·obtain⟨S,h1,h2⟩:=h.all
  exact⟨S,h1.same fun k hk=>ht (h2 k hk) (by simp),h2⟩
 ·intro i k u hi hu
  obtain⟨S,h1,h2⟩:=h.sqs i k u hi hu
  exact⟨S,h1.same fun k hk=>ht (h2 k hk) (by simp),h2⟩
 ·intro q v hv
  obtain⟨h1,h2⟩:=h.rwo q v hv
  exact⟨iH h1 fun g hg=>ht (h2 g hg) (by simp),h2⟩
theorem nL.fr (h:nL B w b vs vc cb ab tg gF am ws cs f rws left touched n M) (g:Fr T w w') (d:Sep T (gZ tg)):nL B w' b vs vc cb ab tg gF am ws cs f rws left touched n M:=
 h.same g.size fun k hk=>g.blk k (h.lt k hk).2 (fun ht=>d k ht hk)
theorem nL.below (h:nL B w b vs vc cb ab tg gF am ws cs f rws left touched n M) (g:Below w.heap.size w w'):nL B w' b vs vc cb ab tg gF am ws cs f rws left touched n M:=
 h.same g.size fun k hk=>g.block k (h.lt k hk).2
theorem nL.drew (h:nL B w b vs vc cb ab tg gF am ws cs f rws left touched n M):nL B w.drew b vs vc cb ab tg gF am ws cs f rws left touched n M:=h.same (Nat.le_refl _) fun _ _=>rfl
theorem keepX {a1 a2 a3:Addr} {v1 v2 v3:Value} {U w1:World} (h:Below w.heap.size w U/\U.cell? a1=some v1/\U.cell? a2=some v2/\U.cell? a3=some v3) (hB:Below U.heap.size U w1):Below w.heap.size w w1/\w1.cell? a1=some v1/\w1.cell? a2=some v2/\w1.cell? a3=some v3:=by
 obtain⟨hb,h1,h2,h3⟩:=h
 have k:∀{a v},U.cell? a=some v->w1.cell? a=some v:=fun h=>(hB.cell (World.block_lt_of_cell? _ _ h)).trans h
 exact⟨hb.trans (hB.mono hb.size),k h1,k h2,k h3⟩
set_option maxHeartbeats 2000000 in
set_option maxRecDepth 100000 in
theorem vL (h:nL B w b vs vc cb ab tg gF am ws cs f rws left touched n M) {p:P2} (hp:lD p.1/\lD p.2):
  Calls Tryz.prog 86 #[.pointer (some ⟨b,0,none⟩),pv p] w fun e w'=>e= .returned (.int .i64 (f p))/\Below w.heap.size w w':=by
 obtain⟨p1,p2⟩:=p
 obtain⟨V,hV⟩:∃V,V=w.alloc (.cells #[.int .i64 p1,.int .i64 p2] 160):=⟨_,rfl⟩
 have ji:Below w.heap.size w V:=by rw[hV];exact(Below.refl _ w).alloc (Nat.le_refl _) _
 have hx:V.heap[w.heap.size]?=some (.cells #[.int .i64 p1,.int .i64 p2] 160 (0,0)):=by rw[hV];exact bG w _
 have h1:=h.below ji
 obtain⟨S,hS,hSt⟩:=h1.all
 have hget:=fun(U:World) (hU:Below w.heap.size w U)=>Je (h.below hU).all.choose_spec.1 (p:=(p1,p2)) hp
 have hst:Below w.heap.size w V.drew/\V.drew.cell? ⟨b,2,none⟩=some (.pointer (some ⟨cb,0,none⟩))/\V.drew.cell? ⟨w.heap.size,0,none⟩=some (.int .i64 p1)/\V.drew.cell? ⟨w.heap.size,1,none⟩=some (.int .i64 p2):=⟨ji.drew,aj h1.blk 2,aj hx 0,aj hx 1⟩
 generalize f (p1,p2)=fp at hget ⊢
 clear h h1 hS hSt ji hx
 go_enter Tryz.func86,Tryz.ntmps86
 go_wp2_with fail
 rw[<-hV]
 clear hV
 go_region_held3 (fun w'=>Below w.heap.size w w'/\w'.cell? ⟨b,2,none⟩=some (.pointer (some ⟨cb,0,none⟩))/\w'.cell? ⟨w.heap.size,0,none⟩=some (.int .i64 p1)/\w'.cell? ⟨w.heap.size,1,none⟩=some (.int .i64 p2)) (first
  |exact hst
  |exact keepX (by assumption) (by assumption)) (first
  |(go_at_call 119;refine(hget _ (And.left (by assumption:Below w.heap.size w _/\_))).mono ?_;rintro e w1 ⟨rfl,hB1⟩))
 go_wp2
 go_ret
 exact⟨rfl,And.left (by assumption:Below w.heap.size w _/\_)⟩
set_option maxHeartbeats 1000000 in
set_option maxRecDepth 100000 in
theorem Zn (h:nL B w b vs vc cb ab tg gF am ws cs f rws left touched n M) (hn:n<=1000000):
  Calls Tryz.prog 85 #[.pointer (some ⟨b,0,none⟩)] w fun e w'=>∃(v:Value) (xs:List P2),e= .returned v/\xs.Pairwise zO/\(∀q,q∈xs↔f q≠0)/\w'.ownsRow w.heap.size TP 2 v xs.length (xs.flatMap qO)/\Below w.heap.size w w':=by
 obtain⟨S,hS,hSt⟩:=h.all
 have c2:w.cell? ⟨b,2,none⟩=some (.pointer (some ⟨cb,0,none⟩)):=aj h.blk 2
 have hall:=cnt_all hS hn
 clear h hS hSt
 go_enter Tryz.func85,Tryz.ntmps85
 go_wp2_with (go_at_call 118;refine hall.mono ?_;rintro e w1 ⟨v,xs,rfl,g1,g2,g3,g4⟩;have HY:=Lib.hid (And.intro g1 (And.intro g2 (And.intro g3 g4)));clear g1 g2 g3 g4)
 go_ret
 exact⟨v,xs,rfl,HY.out⟩
set_option maxHeartbeats 1000000 in
set_option maxRecDepth 100000 in
theorem Kh (h:nL B w b vs vc cb ab tg gF am ws cs f rws left touched n M):
  Calls Tryz.prog 82 #[.pointer (some ⟨b,0,none⟩)] w fun e w'=>e= .returned (.int .i64 (left:Int))/\Below w.heap.size w w':=by
 have c4:w.cell? ⟨b,4,none⟩=some (.int .i64 (left:Int)):=aj h.blk 4
 clear h
 go_enter Tryz.func82,Tryz.ntmps82
 go_wp2
 go_ret
 exact⟨rfl,Below.refl _ _⟩
end
end Go.Proofs.YtilpincgjlclpaaGreat.Ob
end
