import Derived.BigQuiet
import Derived.Test.YtilpincgjlclpaaGreatB19
import Derived.Test.YtilpincgjlclpaaGreatB24
set_option linter.unusedVariables false
set_option linter.unusedSimpArgs false
section
namespace Go.Proofs.YtilpincgjlclpaaGreat.Ob
open Go Go.RowKit Bs Mp jL Hp
open Tm (It St lI jd puts vQ Ak)
abbrev TL:Nat:=153
structure uN (B:Nat) (w:World) (b ib tb qb:Nat) (bu mn li:Int) (nw fst ro:Nat) (vs vc:Value) (cb ab:Nat) (tg:Nat->Tag) (gF:List Nat) (am:List (P2×Value)) (rws:P2->List Nat) (cs:List Int) (s:St) (tc n M nq:Nat) (Sq So:Nat->Prop):Prop where
 lo:B<=b
 blk:w.heap[b]?=some (.cells #[.int .i64 bu,.int .i64 mn,.int .i64 li,.int .i64 (nw:Int),.pointer (some ⟨ib,0,none⟩),.pointer (some ⟨tb,0,none⟩),.pointer (some ⟨qb,0,none⟩),.int .i64 (fst:Int),.int .i64 (ro:Int)] TL (0,0))
 ix:nL B w ib vs vc cb ab tg gF am s.ws cs (bR cs s.ws) rws (fG s.ws) tc n M
 cov:xP s.ws rws (fun _=>False)
 gd:Gd cs s.ws
 sy:Sym B w tb s.o So
 qu:QuS B w qb tb s nq Sq
 s1:Sep (gZ tg) So
 s2:Sep (gZ tg) Sq
 s3:Sep Sq So
 nb:¬gZ tg b/\¬So b/\¬Sq b
section
variable {B b ib tb qb nw fst ro cb ab tc n M nq:Nat} {w w':World} {bu mn li:Int} {vs vc:Value} {tg:Nat->Tag} {gF:List Nat} {am:List (P2×Value)} {rws:P2->List Nat} {cs:List Int} {s:St} {Sq So T:Nat->Prop}
theorem uN.below (h:uN B w b ib tb qb bu mn li nw fst ro vs vc cb ab tg gF am rws cs s tc n M nq Sq So) (f:Below w.heap.size w w'):uN B w' b ib tb qb bu mn li nw fst ro vs vc cb ab tg gF am rws cs s tc n M nq Sq So:=
 ⟨h.lo,(f.block b (bA h.blk)).trans h.blk,h.ix.below f,h.cov,h.gd,h.sy.same fun k hk=>f.block k (h.sy.oq k hk).2,Qu.below h.qu f,h.s1,h.s2,h.s3,h.nb⟩
theorem Bl (mn:Int) (f:P2->Int) (q:P2):∀(l:List P2) (s:St),puts mn f s (l++[q])=lI (puts mn f s l) q (vQ mn (f q))
 |[],s=>rfl
 |r::l,s=>by rw[List.cons_append,puts,puts,Bl mn f q l]
theorem zQ (s:St) (q:P2) (c:Int):(lI s q c).o=s.o/\(lI s q c).ws=s.ws:=by
 unfold lI
 split
 ·exact⟨rfl,rfl⟩
 ·split<;>exact⟨rfl,rfl⟩
theorem zR (f:P2->Int):∀(l:List P2) (s:St),(puts mn f s l).o=s.o/\(puts mn f s l).ws=s.ws
 |[],s=>⟨rfl,rfl⟩
 |q::l,s=>by
  have h1:=zR f l (lI s q (vQ mn (f q)))
  have h2:=zQ s q (vQ mn (f q))
  exact⟨h1.1.trans h2.1,h1.2.trans h2.2⟩
theorem uN.queue (h:uN B w b ib tb qb bu mn li nw fst ro vs vc cb ab tg gF am rws cs s tc n M nq Sq So) {s':St} {nq':Nat} {Ga:Nat->Prop} (hq:QuS B w' qb tb s' nq' Ga) (ho:s'.o=s.o) (hw:s'.ws=s.ws) (hF:Fr Sq w w') (hi:Into w Sq Ga):uN B w' b ib tb qb bu mn li nw fst ro vs vc cb ab tg gF am rws cs s' tc n M nq' Ga So:=by
 have e1:s'.ws=s.ws:=hw
 refine⟨h.lo,hF.heap h.blk h.nb.2.2,?_,?_,?_,?_,hq,h.s1,?_,h.s3.into h.sy.oq hi,⟨h.nb.1,h.nb.2.1,fun hk=>?_⟩⟩
 ·rw[hw];exact h.ix.fr hF h.s2.symm
 ·rw[hw];exact h.cov
 ·rw[hw];exact h.gd
 ·rw[ho];exact h.sy.fr hF h.s3
 ·exact(h.s2.symm.into h.ix.oq hi).symm
 ·rcases hi b hk with h1|h1
  ·exact h.nb.2.2 h1
  ·have:=bA h.blk;omega
def PtI (B b ib tb qb:Nat) (bu mn li:Int) (nw fst ro:Nat) (vs vc:Value) (cb ab:Nat) (tg:Nat->Tag) (gF:List Nat) (am:List (P2×Value)) (rws:P2->List Nat) (cs:List Int) (s:St) (tc n M nq:Nat) (Sq So:Nat->Prop) (w:World) (A:List P2) (wr:World):Prop:=
 ∃Ga,uN B wr b ib tb qb bu mn li nw fst ro vs vc cb ab tg gF am rws cs (puts mn (bR cs s.ws) s A) tc n M (nq+A.length) Ga So/\Fr Sq w wr/\Into w Sq Ga
theorem Sy {xs:List P2} {i:Nat} {x:P2} (h:xs[i]?=some x):(xs.flatMap qO)[i*2]?=some (.int .i64 x.1)/\(xs.flatMap qO)[i*2+1]?=some (.int .i64 x.2):=by
 have hlt:=(List.getElem?_eq_some_iff.1 h).1
 have hx:xs[i]! =x:=by simp[h]
 have h0:=zf (enc:=qO) (k:=2) (fun _=>rfl) (by omega) xs (i*2) (by omega)
 have h1:=zf (enc:=qO) (k:=2) (fun _=>rfl) (by omega) xs (i*2+1) (by omega)
 rw[show i*2/2=i by omega,show i*2%2=0 by omega,hx] at h0
 rw[show(i*2+1)/2=i by omega,show(i*2+1)%2=1 by omega,hx] at h1
 exact⟨h0,h1⟩
end
end Go.Proofs.YtilpincgjlclpaaGreat.Ob
end
section
namespace Go.Proofs.YtilpincgjlclpaaGreat.Ob
open Go Go.RowKit Bs Mp jL Hp
open Tm (It St lI jd puts vQ Ak)
section
variable {B b ib tb qb nw fst ro cb ab tc n M nq:Nat} {w w':World} {bu mn li:Int} {vs vc:Value} {tg:Nat->Tag} {gF:List Nat} {am:List (P2×Value)} {rws:P2->List Nat} {cs:List Int} {s:St} {Sq So T:Nat->Prop}
set_option maxHeartbeats 8000000 in
set_option maxRecDepth 100000 in
theorem tr_put (h:uN B w b ib tb qb bu mn li nw fst ro vs vc cb ab tg gF am rws cs s tc n M nq Sq So) {C:Nat} {v:Value} {xs:List P2} (hv:w.ownsRow C TP 2 v xs.length (xs.flatMap qO)) (hvq:∀g,v.ownBlock=some g->¬Sq g) (hol:s.o.length<=100000) (hn:nq+xs.length<100000) (hxv:∀x∈xs,VP s.o x):
  Calls Tryz.prog 84 #[.pointer (some ⟨b,0,none⟩),v] w fun e w'=>e= .returned (.tuple #[])/\∃Ga,uN B w' b ib tb qb bu mn li nw fst ro vs vc cb ab tg gF am rws cs (puts mn (bR cs s.ws) s xs) tc n M (nq+xs.length) Ga So/\Fr Sq w w'/\Into w Sq Ga:=by
 obtain⟨Av,cv,rfl⟩:=bU hv
 have HV:=Lib.hid (And.intro hv (And.intro hvq hxv))
 have HST:Hid (PtI B b ib tb qb bu mn li nw fst ro vs vc cb ab tg gF am rws cs s tc n M nq Sq So w [] w):=Lib.hid ⟨Sq,h,Fr.refl _ _,Into.refl _ _⟩
 clear h hv hvq hxv
 go_enter Tryz.func84,Tryz.ntmps84
 go_wp2_with fail
 go_loopg [9] xs.length (fun gk v9 wr=>∃(A1 R:List P2),v9= .int .i64 (A1.length:Int)/\R.length=gk/\Hid (xs=A1++R)/\Hid (PtI B b ib tb qb bu mn li nw fst ro vs vc cb ab tg gF am rws cs s tc n M nq Sq So w A1 wr))
 case atStart=>exact⟨[],xs,rfl,rfl,Lib.hid rfl,HST⟩
 case round=>
  obtain⟨A1,R,rfl,qy,HX,HI⟩:=hrel
  cases R with
  |nil=>
   have hxe:xs=A1:=by rw[HX.out];simp
   have hge:¬A1.length<xs.length:=by rw[hxe];omega
   have Le:=Lib.hid hxe
   clear hxe
   go_wp2
   go_end0
   have h9:=HI.out
   rw[<-Le.out] at h9
   exact⟨rfl,h9⟩
  |cons x R=>
   obtain⟨x1,x2⟩:=x
   obtain⟨gk,rfl⟩:∃g,gk=g+1:=⟨R.length,by simpa using qy.symm⟩
   have hxe:=HX.out
   have hxi:xs[A1.length]?=some (x1,x2):=by rw[hxe];simp
   have hlt:A1.length<xs.length:=(List.getElem?_eq_some_iff.1 hxi).1
   have hvp:VP s.o (x1,x2):=HV.out.2.2 _ (List.mem_of_getElem? hxi)
   have hkey:lD x1/\lD x2:=VP.ok (by omega) hvp
   obtain⟨Sq1,hL,hF,hI⟩:=HI.out
   have hov:=hF.own HV.out.1 HV.out.2.1
   obtain⟨g0,hA,hg0,hg1,hg2,hg3,hg4⟩:=gz hov (by omega)
   have e0:=hg3 _ _ (Sy hxi).1
   have e1:=hg3 _ _ (Sy hxi).2
   subst hA
   obtain⟨V,hV⟩:∃V,V=wr.alloc (.cells #[.int .i64 x1,.int .i64 x2] 160):=⟨_,rfl⟩
   have ji:Below wr.heap.size wr V:=by rw[hV];exact(Below.refl _ wr).alloc (Nat.le_refl _) _
   have hT:V.heap[wr.heap.size]?=some (.cells #[.int .i64 x1,.int .i64 x2] 160 (0,0)):=by rw[hV];exact bG _ _
   have hLV:=hL.below ji
   have hix:=hL.ix
   rw[(zR (mn:=mn) (bR cs s.ws) A1 s).2] at hix
   have hcnt:=fun(U:World) (hU:Below wr.heap.size wr U)=>vL (hix.below hU) (p:=(x1,x2)) hkey
   obtain⟨fq,hfq⟩:∃fq,bR cs s.ws (x1,x2)=fq:=⟨_,rfl⟩
   rw[hfq] at hcnt
   have hst:Below wr.heap.size wr V.drew/\V.drew.cell? ⟨b,4,none⟩=some (.pointer (some ⟨ib,0,none⟩))/\V.drew.cell? ⟨wr.heap.size,0,none⟩=some (.int .i64 x1)/\V.drew.cell? ⟨wr.heap.size,1,none⟩=some (.int .i64 x2):=⟨ji.drew,aj hLV.blk 4,aj hT 0,aj hT 1⟩
   have hbw:=bA hL.blk
   have HL:=Lib.hid hLV
   have HT:=Lib.hid hT
   have HF:=Lib.hid (And.intro (hF.below ji) hI)
   have HBV:=Lib.hid ji
   have HFQ:=Lib.hid hfq
   clear hL hF hI hov hg3 hg4 hxe hxi hix hLV hT ji hfq
   go_wp2_with fail
   rw[<-hV]
   clear hV e0 e1
   go_region_held3 (fun w'=>Below wr.heap.size wr w'/\w'.cell? ⟨b,4,none⟩=some (.pointer (some ⟨ib,0,none⟩))/\w'.cell? ⟨wr.heap.size,0,none⟩=some (.int .i64 x1)/\w'.cell? ⟨wr.heap.size,1,none⟩=some (.int .i64 x2)) (first
    |exact hst
    |exact keepX (by assumption) (by assumption)) (first
    |(go_at_call 86;refine(hcnt _ (And.left (by assumption:Below wr.heap.size wr _/\_))).mono ?_;rintro e V2 ⟨rfl,hB2⟩))
   have HB2:=Lib.hid (show Below V.heap.size V V2 from((Below.refl _ V).drew).trans hB2)
   have hm1:V2.cell? ⟨b,1,none⟩=some (.int .i64 mn):=aj (HL.out.below HB2.out).blk 1
   clear hst hcnt hB2
   by_cases hc:fq<mn
   ·have dc:decide (fq<mn)=true:=decide_eq_true hc
    have hcc:vQ mn fq=0:=by unfold vQ;rw[if_pos hc]
    have hL2:=HL.out.below HB2.out
    have hq2:V2.cell? ⟨b,6,none⟩=some (.pointer (some ⟨qb,0,none⟩)):=aj hL2.blk 6
    have hq2d:V2.drew.cell? ⟨b,6,none⟩=some (.pointer (some ⟨qb,0,none⟩)):=hq2
    have PY:=(HB2.out.block _ (bA HT.out)).trans HT.out
    have d0:V2.cell? ⟨wr.heap.size,0,none⟩=some (.int .i64 x1):=aj PY 0
    have d0d:V2.drew.cell? ⟨wr.heap.size,0,none⟩=some (.int .i64 x1):=d0
    have d1:V2.cell? ⟨wr.heap.size,1,none⟩=some (.int .i64 x2):=aj PY 1
    have d1d:V2.drew.cell? ⟨wr.heap.size,1,none⟩=some (.int .i64 x2):=d1
    have how:=zR (mn:=mn) (bR cs s.ws) A1 s
    have hput:=Hy (p:=(x1,x2)) (c:=0) (w:=V2.drew) (Qu.same hL2.qu fun _ _=>rfl) ((hL2.sy).same fun _ _=>rfl) hL2.s3 (by rw[how.1];omega) (by omega) (by rw[how.1];exact hvp)
    have HPU:=Lib.hid hput
    clear hput hL2 PY how
    go_wp2_with fail
    go_region_with (go_at_call 117;refine HPU.out.mono ?_;rintro e w3 ⟨rfl,Sq3,hq3,hf3,hi3⟩;have H3:=Lib.hid (And.intro hq3 (And.intro hf3 hi3));clear hq3 hf3 hi3)
    all_goals
     go_wp2
     obtain⟨hq3,hf3,hi3⟩:=H3.out
     have hb2:=HB2.out.drew
     have hL3:=((HL.out.below hb2)).queue (w':=w3) hq3 (zQ _ _ _).1 (zQ _ _ _).2 hf3 hi3
     go_roundg R.length
     case measure=>simp at qy;omega
     case rel=>
      refine⟨A1++[(x1,x2)],R,by simp,rfl,Lib.hid (by rw[HX.out];simp),Lib.hid ⟨Sq3,?_,(HF.out.1.below hb2).trans hf3 (fun j hj=>HF.out.2 j hj),HF.out.2.trans hi3 (Nat.le_trans HF.out.1.size hb2.size)⟩⟩
      rw[Bl,List.length_append,List.length_singleton,<-Nat.add_assoc,HFQ.out,hcc]
      exact hL3
   ·have dc:decide (fq<mn)=false:=decide_eq_false hc
    have hcc:vQ mn fq=fq:=by unfold vQ;rw[if_neg hc]
    have hL2:=HL.out.below HB2.out
    have hq2:V2.cell? ⟨b,6,none⟩=some (.pointer (some ⟨qb,0,none⟩)):=aj hL2.blk 6
    have hq2d:V2.drew.cell? ⟨b,6,none⟩=some (.pointer (some ⟨qb,0,none⟩)):=hq2
    have PY:=(HB2.out.block _ (bA HT.out)).trans HT.out
    have d0:V2.cell? ⟨wr.heap.size,0,none⟩=some (.int .i64 x1):=aj PY 0
    have d0d:V2.drew.cell? ⟨wr.heap.size,0,none⟩=some (.int .i64 x1):=d0
    have d1:V2.cell? ⟨wr.heap.size,1,none⟩=some (.int .i64 x2):=aj PY 1
    have d1d:V2.drew.cell? ⟨wr.heap.size,1,none⟩=some (.int .i64 x2):=d1
    have how:=zR (mn:=mn) (bR cs s.ws) A1 s
    have hput:=Hy (p:=(x1,x2)) (c:=fq) (w:=V2.drew) (Qu.same hL2.qu fun _ _=>rfl) ((hL2.sy).same fun _ _=>rfl) hL2.s3 (by rw[how.1];omega) (by omega) (by rw[how.1];exact hvp)
    have HPU:=Lib.hid hput
    clear hput hL2 PY how
    go_wp2_with fail
    go_region_with (go_at_call 117;refine HPU.out.mono ?_;rintro e w3 ⟨rfl,Sq3,hq3,hf3,hi3⟩;have H3:=Lib.hid (And.intro hq3 (And.intro hf3 hi3));clear hq3 hf3 hi3)
    all_goals
     go_wp2
     obtain⟨hq3,hf3,hi3⟩:=H3.out
     have hb2:=HB2.out.drew
     have hL3:=((HL.out.below hb2)).queue (w':=w3) hq3 (zQ _ _ _).1 (zQ _ _ _).2 hf3 hi3
     go_roundg R.length
     case measure=>simp at qy;omega
     case rel=>
      refine⟨A1++[(x1,x2)],R,by simp,rfl,Lib.hid (by rw[HX.out];simp),Lib.hid ⟨Sq3,?_,(HF.out.1.below hb2).trans hf3 (fun j hj=>HF.out.2 j hj),HF.out.2.trans hi3 (Nat.le_trans HF.out.1.size hb2.size)⟩⟩
      rw[Bl,List.length_append,List.length_singleton,<-Nat.add_assoc,HFQ.out,hcc]
      exact hL3
set_option maxHeartbeats 1000000 in
set_option maxRecDepth 100000 in
theorem tr_text (h:uN B w b ib tb qb bu mn li nw fst ro vs vc cb ab tg gF am rws cs s tc n M nq Sq So) (hol:s.o.length<=1000000) {x:Int} (hx:Vl s.o x):
  Calls Tryz.prog 90 #[.pointer (some ⟨b,0,none⟩),.int .i64 x] w fun e w'=>e= .returned (.string (fI s.o x))/\Below w.heap.size w w':=by
 obtain⟨i,rfl⟩:∃i:Nat,x=(i:Int):=⟨x.toNat,by have:=hx.1;omega⟩
 have htx:=wu h.sy hol (i:=i) (by have:=hx.2;omega)
 obtain⟨t,ht⟩:∃t,txt s.o i=t:=⟨_,rfl⟩
 have e1:fI s.o (i:Int)=t:=by unfold fI;rw[Int.toNat_natCast,ht]
 rw[ht] at htx
 rw[e1]
 have c5:w.cell? ⟨b,5,none⟩=some (.pointer (some ⟨tb,0,none⟩)):=aj h.blk 5
 clear h ht e1 hx
 go_enter Tryz.func90,Tryz.ntmps90
 go_wp2_with (go_at_call 121;refine htx.mono ?_;rintro e w1 ⟨rfl,hB1⟩;have H1:=Lib.hid hB1;clear hB1)
 go_ret
 exact⟨rfl,H1.out⟩
end
end Go.Proofs.YtilpincgjlclpaaGreat.Ob
end
section
namespace Go.Proofs.YtilpincgjlclpaaGreat.Ob
open Go Go.RowKit Bs Mp jL Hp
open Tm (It St lI jd puts vQ Ak bt qM fK)
theorem Mj:∀(o:List J) (i:Nat) (t:ByteArray) (k:Int),(t,k)∈mf i o->∃(j:Nat) (x:J),o[j]?=some x/\x.2=t
 |[],i,t,k,h=>by simp[mf] at h
 |x::o,i,t,k,h=>by
  rw[mf] at h
  rcases List.mem_cons.1 h with h|h
  ·cases h
   exact⟨0,x,rfl,rfl⟩
  ·obtain⟨j,y,h1,h2⟩:=Mj o (i+1) t k h
   exact⟨j+1,y,by simpa using h1,h2⟩
theorem DZ {o:List J} {t:ByteArray} (hf:∀x,Vl o x->fI o x≠t) (h2:t.size≠1):(find o t).2=false:=by
 unfold find
 rw[dif_neg h2]
 show(Mp.get (mf 0 o) t).isSome=false
 cases hg:Mp.get (mf 0 o) t with
 |none=>rfl
 |some k=>
  exfalso
  obtain⟨j,x,h1,h3⟩:=Mj o 0 t k (get_mem hg)
  have hj:=(List.getElem?_eq_some_iff.1 h1).1
  refine hf (256+(j:Int)) ⟨by omega,by omega⟩ ?_
  unfold fI txt
  rw[if_neg (by omega),show(256+(j:Int)).toNat-256=j by omega,h1]
  exact h3
structure Pok (cs:List Int) (mn:Int) (s:St) (x:It):Prop where
 mn:mn<=x.2
 vp:VP s.o x.1
 sz:(fI s.o x.1.1).size+(fI s.o x.1.2).size<=65536
 fr:(find s.o (fI s.o x.1.1++fI s.o x.1.2)).2=false
 th:1<=bR cs s.ws x.1
 chg:∀q,bR cs s.ws q≠bR cs (fK s x.1).ws q->VP (fK s x.1).o q
theorem bt_more {o:List J} {x y:It} (hx:VP o x.1) (hy:VP o y.1) (p:List J):bt (o++p) x y↔bt o x y:=by
 unfold bt
 rw[Tm.XV hx hy]
section
variable {B b tb hb kb:Nat} {w w':World} {v:Value} {o:List J} {kn H R:List It} {pu po pe re jA hpe n:Nat} {S:Nat->Prop}
theorem oM.syms (h:oM B w b tb hb kb v o kn H R pu po pe re jA hpe n) (p:List J):oM B w b tb hb kb v (o++p) kn H R pu po pe re jA hpe n:=by
 refine⟨h.lo,h.klo,h.blk,h.Gc,fun x hx=>(h.WQ x hx).more p,⟨h.hpr.lo,h.hpr.blk,h.hpr.own,fun x hx=>(h.hpr.vp x hx).more p⟩,?_,h.per,h.bnd⟩
 have hget:∀j,j<R.length->VP o (R.getD j d0).1:=fun j hj=>by
  have e:R.getD j d0=R[j]:=by rw[List.getD_eq_getElem?_getD,List.getElem?_eq_getElem hj];rfl
  rw[e]
  exact h.hpr.vp _ (List.getElem_mem hj)
 intro j a1 a2 a3
 have h9:=h.ord j a1 a2 a3
 intro hb
 refine h9 ?_
 have e1:(j-1)/2<R.length:=by omega
 exact(bt_more (hget _ (by omega)) (hget _ (by omega)) p).1 hb
theorem QuS.join {s:St} (h:QuS B w b tb s n S) (p:P2):QuS B w b tb (fK s p) n S:=by
 obtain⟨hb,kb,v,R,jA,hpe,h,rfl⟩:=h
 exact⟨hb,kb,v,R,jA,hpe,h.syms _,rfl⟩
end
theorem WA {cs:List Int} {ws:List (List Int)} {rws:P2->List Nat} {p:P2} (hc:xP ws rws (fun _=>False)) (h:1<=bR cs ws p):rws p≠[]:=by
 have key:∀(cs:List Int) (ws:List (List Int)),1<=bR cs ws p->∃(j:Nat) (u:List Int),ws[j]?=some u/\1<=jy p u:=by
  intro cs
  induction cs with
  |nil=>intro ws h;cases ws<;>simp[bR] at h
  |cons c cs ih=>
   intro ws h
   cases ws with
   |nil=>simp[bR] at h
   |cons u ws=>
    have h0:=iU (q:=p) u
    by_cases hp:1<=jy p u
    ·exact⟨0,u,rfl,hp⟩
    ·have e:jy p u=0:=by omega
     rw[bR,e,Int.mul_zero,Int.zero_add] at h
     obtain⟨j,v,h1,h2⟩:=ih ws h
     exact⟨j+1,v,by simpa using h1,h2⟩
 obtain⟨j,u,h1,h2⟩:=key cs ws h
 rcases hc p j u h1 h2 with h3|h3
 ·exact h3.elim
 ·intro e
  rw[e] at h3
  cases h3
end Go.Proofs.YtilpincgjlclpaaGreat.Ob
end
section
namespace Go.Proofs.YtilpincgjlclpaaGreat.Ob
open Go Go.RowKit Bs Mp jL Hp
open Go.Proofs.ae.au (iV)
open Tm (It St lI jd puts vQ Ak bt qM fK)
theorem uN.fr {B b ib tb qb nw fst ro cb ab tc n M zI:Nat} {w w':World} {bu mn li:Int} {vs vc:Value} {tg:Nat->Tag} {gF:List Nat} {am:List (P2×Value)} {rws:P2->List Nat} {cs:List Int} {s:St} {Sq So T:Nat->Prop} (h:uN B w b ib tb qb bu mn li nw fst ro vs vc cb ab tg gF am rws cs s tc n M zI Sq So) (f:Fr T w w') (hb:¬T b) (h1:Sep T (gZ tg)) (h2:Sep T So) (h3:Sep T Sq):uN B w' b ib tb qb bu mn li nw fst ro vs vc cb ab tg gF am rws cs s tc n M zI Sq So:=
 ⟨h.lo,f.heap h.blk hb,h.ix.fr f h1,h.cov,h.gd,h.sy.fr f h2,Qu.fr h.qu f h3,h.s1,h.s2,h.s3,h.nb⟩
theorem Ky (f:P2->Int):∀(k:Nat) (s:St),(jd f k s).1.o=s.o/\(jd f k s).1.ws=s.ws
 |0,s=>⟨rfl,rfl⟩
 |k+1,s=>by
  rw[jd]
  split
  ·exact⟨rfl,rfl⟩
  ·split
   ·exact⟨rfl,rfl⟩
   ·exact Ky f k _
section
variable {B b ib tb qb nw fst ro cb ab tc n M zI:Nat} {w w':World} {bu mn li:Int} {vs vc:Value} {tg:Nat->Tag} {gF:List Nat} {am:List (P2×Value)} {rws:P2->List Nat} {cs:List Int} {s:St} {Sq So T:Nat->Prop}
set_option maxHeartbeats 8000000 in
set_option maxRecDepth 100000 in
theorem KR (h:uN B w b ib tb qb bu mn li nw fst ro vs vc cb ab tg gF am rws cs s tc n M zI Sq So) (hro:(ro:Int)<bu) (hol:s.o.length<=100000) (hnq:zI<100000) (hinj:Ak s.o) {s1:St} (Ze:jd (bR cs s.ws) (s.H.length+1) s=(s1,none)):
  Calls Tryz.prog 46 #[.pointer (some ⟨b,0,none⟩)] w fun e w'=>e= .returned (.tuple #[.agg #[.string (⟨#[]⟩:ByteArray),.string (⟨#[]⟩:ByteArray)],.bool false])/\∃Ga,uN B w' b ib tb qb bu mn li nw fst ro vs vc cb ab tg gF am rws cs s1 tc n M zI Ga So/\Fr Sq w w'/\Into w Sq Ga:=by
 obtain⟨V,hV⟩:∃V,V=w.alloc (.cells #[.string (⟨#[]⟩:ByteArray),.string (⟨#[]⟩:ByteArray)] 47):=⟨_,rfl⟩
 have ji:Below w.heap.size w V:=by rw[hV];exact(Below.refl _ w).alloc (Nat.le_refl _) _
 have hr0:V.heap[w.heap.size]?=some (.cells #[.string (⟨#[]⟩:ByteArray),.string (⟨#[]⟩:ByteArray)] 47 (0,0)):=by rw[hV];exact bG _ _
 have h1:=h.below ji
 have c8:V.cell? ⟨b,8,none⟩=some (.int .i64 (ro:Int)):=aj h1.blk 8
 have c8d:V.drew.cell? ⟨b,8,none⟩=some (.int .i64 (ro:Int)):=c8
 have c0:V.cell? ⟨b,0,none⟩=some (.int .i64 bu):=aj h1.blk 0
 have c0d:V.drew.cell? ⟨b,0,none⟩=some (.int .i64 bu):=c0
 have hge:decide ((ro:Int)>=bu)=false:=decide_eq_false (by omega)
 have JV:decide (bu<=(ro:Int))=false:=decide_eq_false (by omega)
 have HBW:=Lib.hid (bA h.blk)
 have HIX:Hid (∀k,gZ tg k->k<w.heap.size):=Lib.hid fun k hk=>(h.ix.lt k hk).2
 have HSO:Hid (∀k,So k->k<w.heap.size):=Lib.hid fun k hk=>(h.sy.oq k hk).2
 have HSI:Hid (∀k,Sq k->k<w.heap.size):=Lib.hid fun k hk=>(Qu.oq h.qu k hk).2
 have HL:=Lib.hid (And.intro h1 (And.intro ji hr0))
 have HPO:=Lib.hid Ze
 have HINJ:=Lib.hid hinj
 clear h h1 ji hr0 Ze hinj
 go_enter Tryz.func46,Tryz.ntmps46
 go_wp2_with fail
 rw[<-hV]
 clear hV
 go_quiet (fail)
 obtain⟨V1,hV1⟩:∃V1,V1=V.drewN nq:=⟨_,rfl⟩
 have hB1:Below V.heap.size V V1:=by rw[hV1];exact⟨rfl,rfl,rfl,Nat.le_refl _,fun _ _=>rfl⟩
 rw[<-hV1]
 have HV1:Hid (w.heap.size+1<=V1.heap.size):=Lib.hid (by have h9:=hB1.size;have h10:=bA HL.out.2.2;omega)
 have h2:=HL.out.1.below hB1
 have hr1:=(hB1.block _ (bA HL.out.2.2)).trans HL.out.2.2
 have c4:V1.cell? ⟨b,4,none⟩=some (.pointer (some ⟨ib,0,none⟩)):=aj h2.blk 4
 have c6:V1.cell? ⟨b,6,none⟩=some (.pointer (some ⟨qb,0,none⟩)):=aj h2.blk 6
 have hpp:=Nu (ix:=ib) (f:=bR cs s.ws) h2.qu h2.sy h2.s3 HINJ.out (by omega) hnq (fun W p hF hp=>vL (h2.ix.fr hF h2.s2.symm) (VP.ok (by omega) hp))
 have HPP:=Lib.hid hpp
 have Dr:=Lib.hid (And.intro h2 (And.intro hr1 (HL.out.2.1.trans (hB1.mono HL.out.2.1.size))))
 clear hV1 hB1 h2 hr1 hpp c8 c8d c0 c0d hge JV
 go_wp2_with (go_at_call 87;refine HPP.out.mono ?_;rintro e w1 ⟨s2,r2,hpq,⟨Sq1,hq1,hf1,hi1⟩,rfl⟩;rw[HPO.out] at hpq;cases hpq;have H1:=Lib.hid (And.intro hq1 (And.intro hf1 hi1));clear hq1 hf1 hi1)
 have hbw:b<w.heap.size:=HBW.out
 have hnS:¬Sq w.heap.size:=fun hk=>by have:=(HSI.out _ hk);omega
 have hr1:=H1.out.2.1.heap Dr.out.2.1 hnS
 go_quiet (fail)
 obtain⟨V2,hV2⟩:∃V2,V2=(w1.alloc (.cells #[.int .i64 0,.int .i64 0,.int .i64 0] 162)).drewN nq:=⟨_,rfl⟩
 have hB2:Below w1.heap.size w1 V2:=by
  have h8:Below w1.heap.size w1 (w1.alloc (.cells #[.int .i64 0,.int .i64 0,.int .i64 0] 162)):=(Below.refl _ w1).alloc (Nat.le_refl _) _
  rw[hV2]
  exact⟨h8.os,h8.tape,h8.output,h8.size,h8.block⟩
 rw[<-hV2]
 clear hV2
 have hr2:=(hB2.block _ (bA hr1)).trans hr1
 have z0:V2.cell? ⟨w.heap.size,0,none⟩=some (.string (⟨#[]⟩:ByteArray)):=aj hr2 0
 have z1:V2.cell? ⟨w.heap.size,1,none⟩=some (.string (⟨#[]⟩:ByteArray)):=aj hr2 1
 have f0:=aX hr2 0
 have f1:=aX hr2 1
 have hs:=heap_set (heap_set hr2 0 (.string (⟨#[]⟩:ByteArray))) 1 (.string (⟨#[]⟩:ByteArray))
 have HB2:=Lib.hid (And.intro hB2 hs)
 clear hB2 hr2 hr1 hs
 go_wp2
 apply bodyPost_ret
 ·exact iV rfl _ _ w.heap.size 47 #[.string (⟨#[]⟩:ByteArray),.string (⟨#[]⟩:ByteArray)] (0,0) _ rfl HB2.out.2 Tryz.underlying47 rfl (by kernel_rfl)
 ·rfl
 ·obtain⟨hq1,hf1,hi1⟩:=H1.out
  obtain⟨h2,_,hBw⟩:=Dr.out
  have how:=Ky (bR cs s.ws) (s.H.length+1) s
  rw[HPO.out] at how
  have h3:=(h2.queue hq1 how.1 how.2 hf1 hi1).below HB2.out.1
  refine⟨rfl,Sq1,?_,?_,fun k hk=>(hi1 k hk).imp id (fun h9=>Nat.le_trans hBw.size h9)⟩
  ·refine h3.fr (T:=fun k=>k=w.heap.size) (((Fr.refl (fun k=>k=w.heap.size) V2).set (p:=⟨w.heap.size,0,none⟩) (.inl rfl) _).set (p:=⟨w.heap.size,1,none⟩) (.inl rfl) _) (by omega) (fun k e hk=>?_) (fun k e hk=>?_) (fun k e hk=>?_)
   ·have:=HIX.out k hk;omega
   ·have:=HSO.out k hk;omega
   ·rcases hi1 k hk with h9|h9
    ·have:=HSI.out k h9;omega
    ·have h10:=HV1.out;omega
  ·exact((((Fr.dL (S:=Sq) hBw).trans hf1 (fun i hi=> .inl hi)).below HB2.out.1).set (p:=⟨w.heap.size,0,none⟩) (.inr (Nat.le_refl _)) _).set (p:=⟨w.heap.size,1,none⟩) (.inr (Nat.le_refl _)) _
end
end Go.Proofs.YtilpincgjlclpaaGreat.Ob
end
