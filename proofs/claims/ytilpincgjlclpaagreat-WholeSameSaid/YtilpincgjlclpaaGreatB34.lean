import Derived.Laws.AppendOwnNone
import Derived.Laws.CopyOwn
import Derived.Lib.BufferRead
import Derived.Lib.ConvBytes
import Derived.Lib.Hide
import Derived.Lib.SlBytesRow
import Derived.Lib.Strings
import Derived.StillTailTactics
import Derived.Stop.Asserts
import Derived.Test.YtilpincgjlclpaaGreatB10
import Derived.Test.YtilpincgjlclpaaGreatB11
import Derived.Test.YtilpincgjlclpaaGreatB4
set_option linter.unusedVariables false
set_option linter.unusedSimpArgs false
section
namespace Go.Proofs.YtilpincgjlclpaaGreat.kJ
open Go.RowKit Bs Go.Proofs.ae.au
abbrev TS:Nat:=239
abbrev T8:Nat:=5
theorem Nk:(Tryz.prog.info? 5).map (fun i=>(i.zero,i.size,i.bytes))=some (some (.int .u8 0),1,1):=by kernel_rfl
def cells (l:List UInt8):List Value:=l.map fun c=> .int .u8 c.toNat
theorem kD (l:List UInt8):(cells l).length=l.length:=by simp[cells]
theorem xU (l:List UInt8) (c:UInt8):cells (l++[c])=cells l++[.int .u8 c.toNat]:=by simp[cells]
theorem Pw (l:List UInt8):cells l=nums .u8 (l.map fun c=>(c.toNat:Int)):=by simp[cells,nums]
theorem Wu (l:List UInt8):strOfNums (l.map fun c=>(c.toNat:Int))=⟨l.toArray⟩:=by
 unfold strOfNums
 simp[Function.comp_def]
def At (B b:Nat) (ob:Option Nat) (lim:Int) (bs:List UInt8) (bad:Bool) (w:World):Prop:=
 ∃v,B<=b/\w.heap[b]?=some (.cells #[.int .i64 lim,v,.bool bad] TS (0,0))/\w.ownsRow B T8 1 v bs.length (cells bs)/\v.ownBlock=ob
section
variable {B b:Nat} {ob:Option Nat} {lim:Int} {bs:List UInt8} {bad:Bool} {w w':World}
theorem At.lt (h:At B b ob lim bs bad w):b<w.heap.size:=by
 obtain⟨v,_,hb,_⟩:=h
 exact Bs.bA hb
theorem At.row (h:At B b ob lim bs bad w) {g:Nat} (hg:ob=some g):B<=g/\g<w.heap.size/\g≠b:=by
 obtain⟨v,_,hb,ho,rfl⟩:=h
 exact⟨(eG ho hg).1,(eG ho hg).2,fun e=>Bs.own_ne ho hb (by decide) (by rw[hg,e])⟩
theorem At.fr {S:Nat->Prop} (h:At B b ob lim bs bad w) (hf:Fr S w w') (h1:¬S b) (h2:∀g,ob=some g->¬S g):At B b ob lim bs bad w':=by
 obtain⟨v,hB,hb,ho,rfl⟩:=h
 exact⟨v,hB,hf.heap hb h1,hf.own ho h2,rfl⟩
theorem At.fresh (w:World) (B:Nat) (hB:B<=w.heap.size) (lim:Int):At B w.heap.size none lim [] false (w.alloc (.cells #[.int .i64 lim,.slice none 0 0,.bool false] TS)):=
 ⟨_,hB,bG w _,⟨by simp[cells],.inl ⟨rfl,rfl⟩⟩,rfl⟩
end
def xQ (b:Nat) (ob:Option Nat) (k:Nat):Prop:=k=b\/ob=some k
def uO (w:World) (ob xK:Option Nat):Prop:=xK=none\/xK=ob\/∃g,xK=some g/\w.heap.size<=g
def YH:List UInt8:=[9,10,13,32]
def gap (c:UInt8):Bool:=YH.contains c
theorem Vu (c:UInt8):decide (Lib.indexByte YH c>=0)=gap c:=by
 unfold YH gap Lib.indexByte YH Lib.indexByte Lib.indexByte Lib.indexByte Lib.indexByte
 by_cases h1:(9:UInt8)=c
 ·subst h1;rfl
 ·by_cases h2:(10:UInt8)=c
  ·subst h2;rfl
  ·by_cases h3:(13:UInt8)=c
   ·subst h3;rfl
   ·by_cases h4:(32:UInt8)=c
    ·subst h4;rfl
    ·simp[h1,h2,h3,h4,Ne.symm h1,Ne.symm h2,Ne.symm h3,Ne.symm h4]
set_option maxHeartbeats 1000000 in
set_option maxRecDepth 100000 in
theorem gap_c (c:Int) (w:World):Calls Tryz.prog 134 #[.int .u8 c] w fun e w'=>e= .returned (.bool (gap c.toNat.toUInt8))/\∃q,w'=w.drewN q:=by
 go_enter Tryz.func134,Tryz.ntmps134
 go_wp2_with (go_at_call 161;refine(Tryz.strings_IndexByte _ c _).mono ?_;rintro e w1 ⟨rfl,rfl⟩)
 have hg:=Vu c.toNat.toUInt8
 unfold YH at hg
 go_ret
 refine⟨?_,⟨0,rfl⟩⟩
 rw[<-hg]
 rfl
set_option maxHeartbeats 1000000 in
set_option maxRecDepth 100000 in
theorem TV (lim:Int) (w:World):Calls Tryz.prog 93 #[.int .i64 lim] w fun e w'=>e= .returned (.pointer (some ⟨w.heap.size,0,none⟩))/\w'=w.alloc (.cells #[.int .i64 (max lim 1),.slice none 0 0,.bool false] TS):=by
 go_enter Tryz.func93,Tryz.ntmps93
 go_wp2
 go_ret
 exact⟨rfl,rfl⟩
set_option maxHeartbeats 1000000 in
set_option maxRecDepth 100000 in
theorem open_c (B b:Nat) (ob:Option Nat) (lim:Int) (bs:List UInt8) (bad:Bool) (w:World) (h:At B b ob lim bs bad w):
  Calls Tryz.prog 136 #[.pointer (some ⟨b,0,none⟩)] w fun e w'=>e= .returned (.int .i64 bs.length)/\w'=w:=by
 obtain⟨v,hB,hb,ho,rfl⟩:=h
 obtain⟨ao,cap,rfl⟩:=Bs.bU ho
 have c1:w.cell? ⟨b,1,none⟩=some (.slice ao bs.length cap):=by rw[aj hb];rfl
 go_enter Tryz.func136,Tryz.ntmps136
 go_wp2
 go_ret
 exact⟨rfl,rfl⟩
theorem xM (ao:Option Addr) (n cap:Nat):(Value.slice ao n cap).ownBlock=(Value.slice ao 0 cap).ownBlock:=by cases ao<;>rfl
theorem own_cut {B n cap:Nat} {e:TypeId} {ao:Option Addr} {xs:List Value} {w:World} (h:w.ownsRow B e 1 (.slice ao n cap) n xs):w.ownsRow B e 1 (.slice ao 0 cap) 0 []:=by
 refine⟨rfl,?_⟩
 rcases h.2 with⟨he,_⟩|⟨g,cp,cur,he,hg,hh,_,hm,hs,_⟩
 ·cases he
  exact .inl ⟨rfl,rfl⟩
 ·cases he
  exact .inr ⟨g,cap,cur,rfl,hg,hh,Nat.zero_le _,hm,hs,by simp⟩
set_option maxHeartbeats 2000000 in
set_option maxRecDepth 100000 in
theorem aaD (B b:Nat) (ob:Option Nat) (lim:Int) (bs:List UInt8) (bad:Bool) (w:World) (h:At B b ob lim bs bad w) (hbig:bs.length<=140737488355328):
  Calls Tryz.prog 135 #[.pointer (some ⟨b,0,none⟩)] w fun e w'=>e= .returned (.string ⟨bs.toArray⟩)/\At B b ob lim [] bad w'/\Fr (fun k=>k=b) w w':=by
 obtain⟨v,hB,hb,ho,rfl⟩:=h
 obtain⟨i0,hi,hz0,hz1,hz2⟩:=info_parts Nk
 have hne:=Bs.own_ne ho hb (show TS≠T8 by decide)
 obtain⟨ao,cap,rfl⟩:=Bs.bU ho
 have c1:w.cell? ⟨b,1,none⟩=some (.slice ao bs.length cap):=by rw[aj hb];rfl
 go_enter Tryz.func135,Tryz.ntmps135
 go_wp2_with (first
  |(at_make;refine wpList_make_full _ rfl _ _ 129 rfl w.heap.size T8 i0 (.int .u8 0) 1 Tryz.underlying129 hi hz0 hz1 _ _ _ _ bs.length rfl rfl rfl rfl ?m1 ?m2 (Nat.le_refl _) ?_)
  |go_in)
 case m1=>rw[hz2];omega
 case m2=>unfold maxLen;omega
 intro w1 hown1 hgr1
 have hB1:Below w.heap.size w w1:=(Below.refl _ w).grown hgr1 (Nat.le_refl _) (fun _ h=>by cases h)
 have hf1:Fr (fun _=>False) w w1:=(Fr.refl _ w).grown hgr1 (fun _ h=>by cases h)
 have hz:∃zs:List Value,zs.length=bs.length/\w1.heap[w.heap.size]?=some (.cells zs.toArray T8 (0,0)):=by
  rcases hown1.2 with⟨h,_⟩|⟨g,cp,cur,he,_,hg,_,_,hs,_⟩
  ·cases h
  ·cases he
   exact⟨cur.toList,by simpa using hs,by simpa using hg⟩
 obtain⟨zs,hzl,hzg⟩:=hz
 clear hown1
 have hb1:w1.heap[b]?=some (.cells #[.int .i64 lim,.slice ao bs.length cap,.bool bad] TS (0,0)):=hf1.heap hb (fun h=>h)
 have ho1:=hf1.own ho (fun _ _ h=>h)
 have d1:w1.cell? ⟨b,1,none⟩=some (.slice ao bs.length cap):=by rw[aj hb1];rfl
 have hsrc:0<(cells bs).length->∃ad,ao=some ad/\∀j v,(cells bs)[j]?=some v->w1.cell? (ad.add j)=some v:=by
  intro hp
  rcases ho1.2 with⟨he,h0⟩|⟨g,cp,cur,he,_⟩
  ·rw[kD] at hp;omega
  ·cases he
   exact⟨_,rfl,ho1.cells (g:=g) rfl⟩
 have hone:∀v∈cells bs,v.oneCell'=true:=by
  intro v hv
  obtain⟨c,_,rfl⟩:=List.mem_map.1 hv
  rfl
 have HS:=Lib.hid hsrc
 have HO:=Lib.hid hone
 have HO0:=Lib.hid ho
 have HZ:=Lib.hid hzg
 clear hsrc hone ho ho1 hzg
 obtain⟨cs,hcs⟩:∃cs,cs=cells bs:=⟨_,rfl⟩
 rw[<-hcs] at HS HO
 have HC:=Lib.hid hcs
 have hcl:cs.length=bs.length:=by rw[hcs,kD]
 clear hcs
 have hsz:(Tryz.prog.info? T8).map (·.size)=some 1:=by rw[show Tryz.prog.info? T8=some i0 from hi];simp[hz1]
 go_wp2_with (first
  |(refine wpList_copy_splice rfl _ _ 129 129 rfl T8 Tryz.underlying129 hsz _ _ _ _ _ _ rfl rfl w.heap.size 0 zs T8 HZ.out cs ?k1 (fun hp=>⟨rfl,HS.out hp⟩) ?k2 HO.out w.heap.size w hB1 (Nat.le_refl _) ?_)
  |go_in)
 case k1=>simp[hcl]
 case k2=>omega
 intro w2 HG hB2
 have hf2:Fr (fun _=>False) w w2:=Fr.dL hB2
 have hb2:w2.heap[b]?=some (.cells #[.int .i64 lim,.slice ao bs.length cap,.bool bad] TS (0,0)):=hf2.heap hb (fun h=>h)
 have e1:w2.cell? ⟨b,1,none⟩=some (.slice ao bs.length cap):=by rw[aj hb2];rfl
 have e2:w2.frozen? ⟨b,1,none⟩=false:=aX hb2 1
 have hspl:splice zs 0 cs=cells bs:=by
  rw[<-HC.out]
  simp only[splice,List.take_zero,List.nil_append,Nat.zero_add]
  rw[List.drop_of_length_le (by omega),List.append_nil]
 rw[hspl] at HG
 have hcv:∀u,(convert 129 9 (.slice (some ⟨w.heap.size,0,none⟩) bs.length bs.length)).run Tryz.prog (w2.setCell ⟨b,1,none⟩ u)= .ok (.string ⟨bs.toArray⟩) (w2.setCell ⟨b,1,none⟩ u):=by
  intro u
  have hg:=dI HG.out (p:=⟨b,1,none⟩) (by have:=Bs.bA hb;show w.heap.size≠b;omega) u
  rw[Pw] at hg
  have:=Qv (P:=Tryz.prog) (w:=w2.setCell ⟨b,1,none⟩ u) (base:=0) (n:=bs.length) (e':=T8) (v:= .slice (some ⟨w.heap.size,0,none⟩) bs.length bs.length) (xs:=bs.map fun c=>(c.toNat:Int)) Tryz.underlying129 Tryz.underlying5 Tryz.underlying9
   ⟨by simp[nums],.inr ⟨_,_,_,rfl,Nat.zero_le _,hg,Nat.le_refl _,by unfold maxLen;omega,by simp[nums],by rw[List.take_of_length_le (by simp[nums])]⟩⟩
  rw[Wu] at this
  exact this
 have HO2:=Lib.hid (hf2.own HO0.out (fun _ _ h=>h))
 have hfin:∀u,Fr (fun k=>k=b) w (w2.setCell ⟨b,1,none⟩ u):=fun u=>Fr.set (S:=fun k=>k=b) (hf2.mono (fun _ h=>h.elim)) (p:=⟨b,1,none⟩) (.inl rfl) u
 have HF:=Lib.hid hfin
 clear hfin
 go_wp2
 go_ret
 have hown:=own_cut HO2.out
 have hne2:∀g,(Value.slice ao 0 cap).ownBlock=some g->g≠b:=fun g hg e=>hne (by rw[xM,hg,e])
 refine⟨rfl,⟨.slice ao 0 cap,hB,by simpa using heap_set hb2 1 (.slice ao 0 cap),?_,(xM ao bs.length cap).symm⟩,HF.out _⟩
 exact((Fr.refl (fun k=>k=b) w2).set (p:=⟨b,1,none⟩) (.inl rfl) (.slice ao 0 cap)).own hown hne2
end Go.Proofs.YtilpincgjlclpaaGreat.kJ
namespace Go.Proofs.YtilpincgjlclpaaGreat.kJ
open Go.RowKit Bs Go.Proofs.ae.au
abbrev TX:Nat:=9
theorem infoX:(Tryz.prog.info? 9).map (fun i=>(i.zero,i.size,i.bytes))=some (some (.string ByteArray.empty),1,16):=by kernel_rfl
def strs (l:List (List UInt8)):List Value:=l.map fun s=> .string ⟨s.toArray⟩
theorem Wy (l:List (List UInt8)) (s:List UInt8):strs (l++[s])=strs l++[.string ⟨s.toArray⟩]:=by simp[strs]
def eD (lim:Int):List UInt8->List UInt8->List (List UInt8)->List (List UInt8)×Bool×List UInt8
 |op,[],out=>(out,true,op)
 |op,c::l,out=>
  if gap c=true then(if op=[] then eD lim [] l out else eD lim [] l (out++[op]))
  else if(op.length+1:Int)<=lim then eD lim (op++[c]) l out else(out,false,[])
def Piece (w:World) (b:Nat) (ob:Option Nat) (A:Option Addr) (xs:List UInt8):Prop:=
 0<xs.length->∃g off,A=some ⟨g,off,none⟩/\g≠b/\ob≠some g/\∀j,j<xs.length->w.cell? ⟨g,off+j,none⟩=some (.int .u8 (xs.getD j 0).toNat)
theorem gap_x (c:UInt8) (w:World):Calls Tryz.prog 134 #[.int .u8 c.toNat] w fun e w'=>e= .returned (.bool (gap c))/\∃q,w'=w.drewN q:=by
 have:=gap_c c.toNat w
 rwa[show((c.toNat:Int).toNat.toUInt8)=c by simp] at this
theorem qZ (l:List UInt8) (k:Nat) (h:k<l.length):l.drop k=l.getD k 0::l.drop (k+1):=by
 rw[List.drop_eq_getElem_cons h]
 congr 1
 rw[List.getD_eq_getElem?_getD,List.getElem?_eq_getElem h]
 rfl
theorem At.drewN {B b:Nat} {ob:Option Nat} {lim:Int} {bs:List UInt8} {bad:Bool} {w:World} (h:At B b ob lim bs bad w) (q:Nat):At B b ob lim bs bad (w.drewN q):=h
theorem own_drewN {B n:Nat} {e:TypeId} {v:Value} {xs:List Value} {w:World} (h:w.ownsRow B e 1 v n xs) (q:Nat):(w.drewN q).ownsRow B e 1 v n xs:=h
theorem zL {B B' n n':Nat} {e e':TypeId} {v v':Value} {xs xs':List Value} {w:World} (h:w.ownsRow B e 1 v n xs) (h':w.ownsRow B' e' 1 v' n' xs') (hne:e≠e') {g:Nat} (hg:v.ownBlock=some g) (hg':v'.ownBlock=some g):False:=by
 rcases h.2 with⟨rfl,_⟩|⟨g1,cp1,cur1,rfl,_,hh,_⟩
 ·cases hg
 ·exact Bs.own_ne h' (by simpa[Value.ownBlock] using(by cases hg;exact hh:w.heap[g]?=_)) hne hg'
def Rel (w:World) (B b:Nat) (ob:Option Nat) (lim:Int) (bs xs:List UInt8) (v6 v19:Value) (wr:World):Prop:=
 ∃(k:Nat) (xK:Option Nat) (op:List UInt8) (out:List (List UInt8)),k<=xs.length/\v19= .int .i64 k/\eD lim bs xs []=eD lim op (xs.drop k) out/\At B b xK lim op false wr/\uO w ob xK/\
  Fr (xQ b ob) w wr/\wr.ownsRow w.heap.size TX 1 v6 out.length (strs out)/\op.length<=bs.length+k/\out.length<=k
theorem PU {w wr:World} {b:Nat} {ob xK:Option Nat} (hm:uO w ob xK):∀i,xQ b xK i->xQ b ob i\/w.heap.size<=i:=by
 intro i hi
 rcases hi with rfl|hi
 ·exact .inl (.inl rfl)
 ·rcases hm with rfl|rfl|⟨g,rfl,hg⟩
  ·cases hi
  ·exact .inl (.inr hi)
  ·cases hi
   exact .inr hg
theorem Ny {w wr:World} {ob o1 o2:Option Nat} (h1:uO w ob o1) (hs:w.heap.size<=wr.heap.size) (h2:uO wr o1 o2):uO w ob o2:=by
 rcases h2 with rfl|rfl|⟨g,rfl,hg⟩
 ·exact .inl rfl
 ·exact h1
 ·exact .inr (.inr ⟨g,rfl,by omega⟩)
set_option maxHeartbeats 4000000 in
set_option maxRecDepth 100000 in
theorem Yx (B b:Nat) (ob:Option Nat) (lim:Int) (bs:List UInt8) (A:Option Addr) (cp:Nat) (xs:List UInt8) (w:World) (h:At B b ob lim bs false w) (hP:Piece w b ob A xs) (hBw:B<=w.heap.size) (hbig:bs.length+xs.length<=1000000000):
  Calls Tryz.prog 94 #[.pointer (some ⟨b,0,none⟩),.slice A xs.length cp] w fun e w'=>∃v xK,e= .returned (.tuple #[v,.bool (eD lim bs xs []).2.1])/\
   w'.ownsRow w.heap.size TX 1 v (eD lim bs xs []).1.length (strs (eD lim bs xs []).1)/\At B b xK lim (eD lim bs xs []).2.2 (!(eD lim bs xs []).2.1) w'/\uO w ob xK/\Fr (xQ b ob) w w':=by
 obtain⟨i0,hi,hz0,hz1,hz2⟩:=info_parts Nk
 obtain⟨i1,hx,hx0,hx1,hx2⟩:=info_parts infoX
 have H:=h
 obtain⟨v0,hB,hb,ho,VD⟩:=h
 have HOB:=Lib.hid VD
 have c2:w.cell? ⟨b,2,none⟩=some (.bool false):=by rw[aj hb];rfl
 have HH:=Lib.hid H
 have HPP:=Lib.hid hP
 clear H hP ho hb VD
 go_enter Tryz.func94,Tryz.ntmps94
 go_wp2
 go_loopw [6,19] (fun v6 v19 wr=>Rel w B b ob lim bs xs v6 v19 wr) (fun _ v19 _=>xs.length-(intOf v19).toNat)
 case atStart=>exact⟨0,ob,bs,[],Nat.zero_le _,rfl,by simp,HH.out,.inr (.inl rfl),Fr.refl _ _,⟨rfl,.inl ⟨rfl,rfl⟩⟩,by simp,Nat.le_refl _⟩
 case round=>
  obtain⟨k,xK,op,out,hk,rfl,ML,hat,hmv,hfr,hout,hopl,houtl⟩:=hrel
  by_cases hlt:k<xs.length
  ·obtain⟨g,off,rfl,hgb,hog,hcs⟩:=HPP.out (by omega)
   have hcx:=hfr.cell (hcs k hlt) (fun hx=>hx.elim hgb (fun e=>hog e))
   have hstep:eD lim bs xs []=eD lim op (xs.getD k 0::xs.drop (k+1)) out:=by rw[ML,qZ xs k hlt]
   rw[eD] at hstep
   generalize xs.getD k 0=x at hcx hstep
   have HS:=Lib.hid hstep
   have HA:=Lib.hid hat
   have HM:=Lib.hid hmv
   have HR:=Lib.hid hfr
   have HO:=Lib.hid hout
   clear hstep hat hmv hfr hout ML hcs
   by_cases hg:gap x=true
   ·have hs2:=HS.out
    rw[if_pos hg] at hs2
    clear HS
    have HS:=Lib.hid hs2
    clear hs2
    go_wp2_with fail
    refine(gap_x x _).mono ?_
    rintro e w1 ⟨rfl,⟨q,rfl⟩⟩
    obtain⟨v1,hB1,hb1,ho1,hob1⟩:=HA.out.drewN q
    obtain⟨ao,cap,rfl⟩:=Bs.bU ho1
    have c1:(wr.drewN q).cell? ⟨b,1,none⟩=some (.slice ao op.length cap):=by rw[aj hb1];rfl
    clear hb1 ho1 hob1
    by_cases hop:op=[]
    ·subst hop
     have hs2:=HS.out
     rw[if_pos rfl] at hs2
     go_wp2_with fail
     go_roundw
     case rel=>exact⟨k+1,xK,[],out,by omega,by go_num,hs2,HA.out.drewN q,HM.out,HR.out.drewN q,own_drewN HO.out q,by simp,by omega⟩
     case measure=>simp[intOf];omega
    ·have hl0:0<op.length:=List.length_pos_iff.2 hop
     have hs2:=HS.out
     rw[if_neg hop] at hs2
     clear HS
     have HS:=Lib.hid hs2
     clear hs2 hop
     go_wp2_with fail
     refine(aaD B b xK lim op false _ (HA.out.drewN q) (by omega)).mono ?_
     rintro e w2 ⟨rfl,kL,hfr2⟩
     have YW:Fr (xQ b ob) w w2:=(HR.out.drewN q).trans hfr2 (fun i hi=> .inl (.inl hi))
     have hown2:w2.ownsRow w.heap.size TX 1 u6 out.length (strs out):=by
      refine hfr2.own (own_drewN HO.out q) (fun g hg e=>?_)
      obtain⟨v9,_,Vz,_,_⟩:=HA.out
      exact Bs.own_ne HO.out Vz (show TS≠TX by decide) (by rw[hg,e])
     have HA2:=Lib.hid kL
     have HR3:=Lib.hid YW
     have HOW2:=Lib.hid hown2
     clear kL hfr2 YW hown2 c1
     go_wp2_with (at_builtin;refine wpList_append_own_at _ rfl _ _ 54 rfl w.heap.size TX i1 (.string ByteArray.empty) 1 16 Tryz.underlying54 hx hx0 hx1 hx2 rfl (by decide) _ _ _ rfl (HOW2.out.alloc _) ⟨w2.heap.size,0,none⟩ 1 1 [.string ⟨op.toArray⟩] rfl rfl ?c1 ?c2 ?c3 ?c4 ?c5 ?_)
     case c1=>exact Bs.Mo _ _ _
     case c2=>intro u hu;simp at hu;subst hu;rfl
     case c3=>unfold maxLen;omega
     case c4=>omega
     case c5=>have:=HR3.out.size;simp;omega
     intro v' w3 hown3 hgrow _ PX
     have HG3:=Lib.hid hgrow
     have HO3:=Lib.hid hown3
     clear hgrow hown3 PX
     go_wp2
     go_roundw
     case rel=>
      have hne:∀g,u6.ownBlock=some g->w.heap.size<=g:=fun g hg=>(eG HOW2.out hg).1
      refine⟨k+1,xK,[],out++[op],by omega,by go_num,HS.out,?_,HM.out,(HR3.out.alloc _).grown HG3.out (fun g hg=> .inr (hne g hg)),?_,by simp,by simp;omega⟩
      ·refine(HA2.out.fr ((Fr.refl (fun _=>False) w2).alloc _) (fun h=>h) (fun _ _ h=>h)).fr (S:=fun k=>u6.ownBlock=some k) ⟨HG3.out.os,HG3.out.tape,HG3.out.output,HG3.out.size,fun k hk hn=>HG3.out.block k hk (fun e=>hn e.symm)⟩ ?_ ?_
       ·intro e
        obtain⟨v9,_,Vz,_,_⟩:=HA2.out
        exact Bs.own_ne HOW2.out Vz (show TS≠TX by decide) e
       ·intro g9 hg9 e
        obtain⟨v9,_,Vz,ho9,hob9⟩:=HA2.out
        rw[<-hob9] at hg9
        exact zL ho9 HOW2.out (by decide) hg9 e
      ·rw[Wy,List.length_append]
       exact HO3.out
     case measure=>simp[intOf];omega
   ·have hs2:=HS.out
    rw[if_neg hg] at hs2
    clear HS
    have HS:=Lib.hid hs2
    clear hs2
    have hgf:gap x=false:=by simpa using hg
    clear hg
    go_wp2_with fail
    refine(gap_x x _).mono ?_
    rintro e w1 ⟨rfl,⟨q,rfl⟩⟩
    rw[hgf]
    obtain⟨v1,hB1,hb1,ho1,hob1⟩:=HA.out.drewN q
    obtain⟨ao,cap,rfl⟩:=Bs.bU ho1
    have c1:(wr.drewN q).cell? ⟨b,1,none⟩=some (.slice ao op.length cap):=by rw[aj hb1];rfl
    have hne:=Bs.own_ne ho1 hb1 (show TS≠T8 by decide)
    have HO1:=Lib.hid ho1
    have HB1:=Lib.hid hb1
    have HOB1:=Lib.hid hob1
    clear ho1 hb1 hob1
    go_wp2_with (at_builtin;refine wpList_append_own_at _ rfl _ _ 129 rfl B T8 i0 (.int .u8 0) 1 1 Tryz.underlying129 hi hz0 hz1 hz2 rfl (by decide) _ _ _ rfl (HO1.out.alloc _) ⟨(wr.drewN q).heap.size,0,none⟩ 1 1 [.int .u8 x.toNat] rfl rfl ?c1 ?c2 ?c3 ?c4 ?c5 ?_)
    case c1=>exact Bs.Mo _ _ _
    case c2=>intro u hu;simp at hu;subst hu;rfl
    case c3=>unfold maxLen;omega
    case c4=>omega
    case c5=>have:=HR.out.size;simp;omega
    intro v' w2 hown2 hgrow _ kL
    have hb2:w2.heap[b]?=some (.cells #[.int .i64 lim,.slice ao op.length cap,.bool false] TS (0,0)):=by
     rw[hgrow.block b (by have:=Bs.bA HB1.out;simp at this ⊢;omega) (fun e=>hne e.symm)]
     exact dw HB1.out _
    have d1:w2.frozen? ⟨b,1,none⟩=false:=aX hb2 1
    have hb3:(w2.setCell ⟨b,1,none⟩ v').heap[b]?=some (.cells #[.int .i64 lim,v',.bool false] TS (0,0)):=by simpa using heap_set hb2 1 v'
    have YW:Fr (xQ b ob) w (w2.setCell ⟨b,1,none⟩ v'):=by
     refine((((HR.out.drewN q).alloc _).grown hgrow (fun k hk=>?_))).set (.inl (.inl rfl)) _
     exact PU (wr:=wr) HM.out k (.inr (by rw[<-HOB1.out];exact hk))
    have hmv:uO w ob v'.ownBlock:=by
     refine Ny HM.out HR.out.size ?_
     rcases kL with e|e
     ·exact .inr (.inl (by rw[e,HOB1.out]))
     ·exact .inr (.inr ⟨_,e,by simp⟩)
    have hne2:=Bs.own_ne hown2 hb2 (show TS≠T8 by decide)
    have hown3:(w2.setCell ⟨b,1,none⟩ v').ownsRow B T8 1 v' (op++[x]).length (cells (op++[x])):=by
     have:=((Fr.refl (fun k=>k=b) w2).set (p:=⟨b,1,none⟩) (.inl rfl) v').own hown2 (fun g hg e=>hne2 (by rw[hg,e]))
     rw[xU,List.length_append]
     exact this
    have hout3:(w2.setCell ⟨b,1,none⟩ v').ownsRow w.heap.size TX 1 u6 out.length (strs out):=by
     have h0:=(own_drewN HO.out q).alloc (.cells #[.int .u8 x.toNat] T8)
     have h1:=Fr.own (S:=fun k=>(Value.slice ao op.length cap).ownBlock=some k) ⟨hgrow.os,hgrow.tape,hgrow.output,hgrow.size,fun k hk hn=>hgrow.block k hk (fun e=>hn e.symm)⟩ h0 (fun g hg e=>zL (HO1.out.alloc _) h0 (by decide) e hg)
     exact((Fr.refl (fun k=>k=b) w2).set (p:=⟨b,1,none⟩) (.inl rfl) v').own h1 (fun g hg e=>Bs.own_ne h1 hb2 (show TS≠TX by decide) (by rw[hg,e]))
    obtain⟨g',cap',rfl⟩:∃g cap,v'= .slice (some ⟨g,0,none⟩) (op.length+1) cap:=by
     rcases hown2.2 with⟨_,h0⟩|⟨g,cap,cur,hv,_⟩
     ·omega
     ·exact⟨g,cap,hv⟩
    have e0:(w2.setCell ⟨b,1,none⟩ (.slice (some ⟨g',0,none⟩) (op.length+1) cap')).cell? ⟨b,0,none⟩=some (.int .i64 lim):=by rw[aj hb3];rfl
    have e1:(w2.setCell ⟨b,1,none⟩ (.slice (some ⟨g',0,none⟩) (op.length+1) cap')).cell? ⟨b,1,none⟩=some (.slice (some ⟨g',0,none⟩) (op.length+1) cap'):=by rw[aj hb3];rfl
    have d0:w2.cell? ⟨b,1,none⟩=some (.slice ao op.length cap):=by rw[aj hb2];rfl
    have d2:w2.cell? ⟨b,2,none⟩=some (.bool false):=by rw[aj hb2];rfl
    have f2:w2.frozen? ⟨b,2,none⟩=false:=aX hb2 2
    have HB3:=Lib.hid hb3
    have HR3:=Lib.hid YW
    have Lx:=Lib.hid hmv
    have HO3:=Lib.hid hown3
    have HX3:=Lib.hid hout3
    clear hb3 YW hmv hown3 hout3 hown2 hgrow kL
    by_cases hl:(op.length+1:Int)<=lim
    ·have hs2:=HS.out
     rw[if_pos hl] at hs2
     clear HS
     have HS:=Lib.hid hs2
     clear hs2
     go_wp2_with fail
     go_region
     go_wp2_with fail
     go_roundw
     case rel=>exact⟨k+1,_,op++[x],out,by omega,by go_num,HS.out,⟨_,hB1,HB3.out,HO3.out,rfl⟩,Lx.out,HR3.out.drew,HX3.out,by simp;omega,by omega⟩
     case measure=>simp[intOf];omega
    ·have hs2:=HS.out
     rw[if_neg hl] at hs2
     clear HS
     have HS:=Lib.hid hs2
     clear hs2
     go_wp2_with fail
     go_region
     go_wp2_with fail
     go_ret2
     have hA4:=heap_set (heap_set HB3.out 2 (.bool true)) 1 (.slice none 0 0)
     have uw:=((HR3.out.set (p:=⟨b,2,none⟩) (.inl (.inl rfl)) (.bool true)).set (p:=⟨b,1,none⟩) (.inl (.inl rfl)) (.slice none 0 0)).drew
     have hX4:∀g,u6.ownBlock=some g->g≠b:=fun g hg e=>Bs.own_ne HX3.out HB3.out (show TS≠TX by decide) (by rw[hg,e])
     have hO4:=((Fr.refl (fun k=>k=b) _).set (p:=⟨b,1,none⟩) (.inl rfl) (.slice none 0 0)).own (((Fr.refl (fun k=>k=b) _).set (p:=⟨b,2,none⟩) (.inl rfl) (.bool true)).own HX3.out hX4) hX4
     refine⟨u6,none,by rw[HS.out];rfl,?_,?_,.inl rfl,uw⟩
     ·rw[HS.out]
      exact hO4
     ·rw[HS.out]
      simp at hA4
      exact⟨.slice none 0 0,hB1,hA4,⟨rfl,.inl ⟨rfl,rfl⟩⟩,rfl⟩
  ·have hkl:xs.drop k=[]:=List.drop_of_length_le (by omega)
   rw[hkl,eD] at ML
   have HS:=Lib.hid ML
   have HA:=Lib.hid hat
   have HM:=Lib.hid hmv
   have HR:=Lib.hid hfr
   have HO:=Lib.hid hout
   clear ML hat hmv hfr hout hkl
   go_wp2_with fail
   go_ret2
   refine⟨u6,xK,by rw[HS.out];rfl,?_,?_,HM.out,HR.out⟩
   ·rw[HS.out]
    exact HO.out
   ·rw[HS.out]
    exact HA.out
def rq (op:List UInt8):List (List UInt8):=if op=[] then[] else[op]
set_option maxHeartbeats 1000000 in
set_option maxRecDepth 100000 in
theorem end_c (B b:Nat) (ob:Option Nat) (lim:Int) (bs:List UInt8) (bad:Bool) (w:World) (h:At B b ob lim bs bad w) (hBw:B<=w.heap.size) (hbig:bs.length<=1000000000):
  Calls Tryz.prog 95 #[.pointer (some ⟨b,0,none⟩)] w fun e w'=>∃v,e= .returned v/\w'.ownsRow w.heap.size TX 1 v (rq bs).length (strs (rq bs))/\At B b ob lim [] bad w'/\Fr (fun k=>k=b) w w':=by
 have HA:=Lib.hid h
 clear h
 go_enter Tryz.func95,Tryz.ntmps95
 go_wp2_with fail
 refine(open_c B b ob lim bs bad _ HA.out).mono ?_
 rintro e w1 ⟨rfl,rfl⟩
 by_cases h0:bs=[]
 ·subst h0
  go_wp2_with fail
  go_ret
  exact⟨_,rfl,⟨rfl,.inl ⟨rfl,rfl⟩⟩,HA.out,Fr.refl _ _⟩
 ·have hl0:0<bs.length:=List.length_pos_iff.2 h0
  go_wp2_with fail
  refine(aaD B b ob lim bs bad _ HA.out (by omega)).mono ?_
  rintro e w2 ⟨rfl,kL,hfr2⟩
  have HA2:=Lib.hid kL
  have HR2:=Lib.hid hfr2
  clear kL hfr2
  go_wp2_with fail
  go_ret
  have hsz:=HR2.out.size
  refine⟨_,rfl,?_,(HA2.out.fr ((Fr.refl (fun _=>False) w2).alloc _) (fun h=>h) (fun _ _ h=>h)),HR2.out.alloc _⟩
  rw[rq,if_neg h0]
  refine⟨rfl,.inr ⟨_,_,_,rfl,hsz,bG _ _,by simp,by unfold maxLen;omega,rfl,rfl⟩⟩
end Go.Proofs.YtilpincgjlclpaaGreat.kJ
namespace Go.Proofs.YtilpincgjlclpaaGreat.kJ
open Go.RowKit Bs Go.Proofs.ae.au
theorem zb (lim:Int) (pre:List (List UInt8)):∀(xs op:List UInt8) (out:List (List UInt8)),eD lim op xs (pre++out)=(pre++(eD lim op xs out).1,(eD lim op xs out).2)
 |[],op,out=>rfl
 |c::l,op,out=>by
  rw[eD,eD]
  split
  ·split
   ·exact zb lim pre l [] out
   ·rw[List.append_assoc]
    exact zb lim pre l [] (out++[op])
  ·split
   ·exact zb lim pre l (op++[c]) out
   ·rfl
theorem yZ (lim:Int) (ys:List UInt8):∀(xs op:List UInt8) (out:List (List UInt8)),eD lim op (xs++ys) out=if(eD lim op xs out).2.1=true then eD lim (eD lim op xs out).2.2 ys (eD lim op xs out).1 else eD lim op xs out
 |[],op,out=>by simp[eD]
 |c::l,op,out=>by
  rw[List.cons_append,eD,eD]
  split
  ·split
   ·exact yZ lim ys l [] out
   ·exact yZ lim ys l [] (out++[op])
  ·split
   ·exact yZ lim ys l (op++[c]) out
   ·simp
end Go.Proofs.YtilpincgjlclpaaGreat.kJ
namespace Go.Proofs.YtilpincgjlclpaaGreat.Pr
open Go.RowKit Bs Go.Proofs.ae.au Go.Proofs.ae.aZ Go.Proofs.ae.bE
def ym (l:List UInt8):ByteArray:=⟨l.toArray⟩
theorem Wx (l:List (List UInt8)):kJ.strs l=encs Value.string (l.map ym):=by simp[kJ.strs,encs,ym,Function.comp_def]
theorem za (lim:Int):∀(xs op:List UInt8) (out:List (List UInt8)),(kJ.eD lim op xs out).1.length<=out.length+xs.length/\(kJ.eD lim op xs out).2.2.length<=op.length+xs.length
 |[],op,out=>by simp[kJ.eD]
 |c::l,op,out=>by
  rw[kJ.eD]
  split
  ·split
   ·have:=za lim l [] out
    simp at this ⊢;omega
   ·have:=za lim l [] (out++[op])
    simp at this ⊢;omega
  ·split
   ·have:=za lim l (op++[c]) out
    simp at this ⊢;omega
   ·simp
end Go.Proofs.YtilpincgjlclpaaGreat.Pr
namespace Go.Proofs.YtilpincgjlclpaaGreat.Pure
open Go.RowKit Pr Go.Proofs.ae.au Go.Proofs.ae.aZ
open kJ (gap eD rq)
def jX:List UInt8->List UInt8->List (List UInt8)
 |op,[]=>rq op
 |op,c::l=>if gap c=true then(if op=[] then jX [] l else op::jX [] l) else jX (op++[c]) l
end Go.Proofs.YtilpincgjlclpaaGreat.Pure
namespace Go.Proofs.YtilpincgjlclpaaGreat.Pure
open Go.RowKit Pr Go.Proofs.ae.au Go.Proofs.ae.aZ
open kJ (gap eD rq)
def fZ (L:List ByteArray):List UInt8:=L.flatMap fun s=>s.data.toList
theorem rd_get (L:List ByteArray) (i:Nat) (hi:i<L.length):dH ByteArray.empty L (i:Int)=L[i]:=by
 unfold dH
 rw[Int.toNat_natCast,List.getD_eq_getElem?_getD,List.getElem?_eq_getElem hi]
 rfl
end Go.Proofs.YtilpincgjlclpaaGreat.Pure
end
section
namespace Go.Proofs.YtilpincgjlclpaaGreat.Src
open Go.RowKit Bs Go.Proofs.ae.au Go.Proofs.ae.aZ Go.Proofs.ae.bE
abbrev TC:Nat:=106
abbrev TX:Nat:=9
def Dy (B b:Nat) (ob:Option Nat) (l:List ByteArray) (i:Nat) (fail:Int) (w:World):Prop:=
 ∃v,B<=b/\w.heap[b]?=some (.cells #[v,.int .i64 i,.int .i64 fail] TC (0,0))/\w.ownsRow B TX 1 v l.length (l.map Value.string)/\v.ownBlock=ob
section
variable {B b:Nat} {ob:Option Nat} {l:List ByteArray} {i:Nat} {fail:Int} {w w':World}
theorem Dy.lt (h:Dy B b ob l i fail w):b<w.heap.size:=by
 obtain⟨v,_,hb,_⟩:=h
 exact Bs.bA hb
theorem Dy.le (h:Dy B b ob l i fail w):B<=b:=by
 obtain⟨v,hB,_⟩:=h
 exact hB
theorem Dy.row (h:Dy B b ob l i fail w) {g:Nat} (hg:ob=some g):B<=g/\g<w.heap.size/\g≠b:=by
 obtain⟨v,_,hb,ho,rfl⟩:=h
 exact⟨(eG ho hg).1,(eG ho hg).2,fun e=>Bs.own_ne ho hb (by decide) (by rw[hg,e])⟩
theorem Dy.fr {S:Nat->Prop} (h:Dy B b ob l i fail w) (hf:Fr S w w') (h1:¬S b) (h2:∀g,ob=some g->¬S g):Dy B b ob l i fail w':=by
 obtain⟨v,hB,hb,ho,rfl⟩:=h
 exact⟨v,hB,hf.heap hb h1,hf.own ho h2,rfl⟩
end
def told (fail:Int):Nat->List ByteArray->List ByteArray×Int
 |i,[]=>([],if(i:Int)=fail then 3 else 0)
 |i,s::r=>if(i:Int)=fail then([],3) else if s=ByteArray.empty then told fail (i+1) r else(s::(told fail (i+1) r).1,(told fail (i+1) r).2)
theorem Bp {w:World} {A:Option Addr} {l:List ByteArray} (h:Kd.C Kd.string w A l.length l) (hp:0<l.length):∃g o,A=some ⟨g,o,none⟩/\∀j,j<l.length->w.cell? ⟨g,o+j,none⟩=some (.string (l.getD j ByteArray.empty)):=by
 obtain⟨ad,rfl,h0⟩:=Kd.dx h 0 (by omega) (by omega)
 obtain⟨g,o,sp⟩:=ad
 have:sp=none:=by
  cases sp with
  |none=>rfl
  |some x=>
   simp only[World.cell?,Addr.add] at h0
   split at h0
   ·simp at h0
   ·cases h0
 subst this
 refine⟨g,o,rfl,fun j hj=>?_⟩
 obtain⟨ad,he,hc⟩:=Kd.dx h (j:Int) (by omega) (by omega)
 cases he
 rw[Int.toNat_natCast] at hc
 rw[show(⟨g,o+j,none⟩:Addr)=Addr.add ⟨g,o,none⟩ j from(by simp[Addr.add]),hc,Pure.rd_get l j hj,List.getD_eq_getElem?_getD,List.getElem?_eq_getElem hj]
 rfl
set_option maxHeartbeats 1000000 in
set_option maxRecDepth 100000 in
theorem clone_c (A:Option Addr) (c:Nat) (l:List ByteArray) (w:World) (h:Kd.C Kd.string w A l.length l) (hbig:l.length<=1000000):
  Calls Tryz.prog 55 #[.slice A l.length c] w fun e w'=>∃v,e= .returned v/\w'.ownsRow w.heap.size TX 1 v l.length (l.map Value.string)/\Below w.heap.size w w':=by
 cases A with
 |none=>
  have:l=[]:=by
   cases l with
   |nil=>rfl
   |cons s r=>
    obtain⟨g,o,he,_⟩:=Bp h (by simp)
    cases he
  subst this
  refine(Tryz.slices_Clone_string_nil _ _ _).mono ?_
  rintro e w' ⟨rfl,rfl⟩
  exact⟨_,rfl,⟨rfl,.inl ⟨rfl,rfl⟩⟩,Below.refl _ _⟩
 |some ad=>
  by_cases hp:0<l.length
  ·obtain⟨g,o,he,hc⟩:=Bp h hp
   cases he
   refine(Tryz.slices_Clone_string g o l.length c l w (Nat.le_refl _) (by omega) hc).mono ?_
   rintro e w' ⟨v,rfl,ho,_,hb⟩
   rw[List.take_of_length_le (Nat.le_refl _)] at ho
   exact⟨_,rfl,ho,hb⟩
  ·have:l=[]:=List.eq_nil_of_length_eq_zero (by omega)
   subst this
   refine(Tryz.slices_Clone_string_zero _ _ _).mono ?_
   rintro e w' ⟨v,rfl,ho,_,hb⟩
   exact⟨_,rfl,ho,hb⟩
set_option maxHeartbeats 1000000 in
set_option maxRecDepth 100000 in
theorem TV (A:Option Addr) (c:Nat) (l:List ByteArray) (fail:Int) (w:World) (h:Kd.C Kd.string w A l.length l) (hbig:l.length<=1000000):
  Calls Tryz.prog 19 #[.slice A l.length c,.int .i64 fail] w fun e w'=>∃b ob,e= .returned (.pointer (some ⟨b,0,none⟩))/\Dy w.heap.size b ob l 0 fail w'/\Fr (fun _=>False) w w':=by
 have HC:=Lib.hid (clone_c A c l w h hbig)
 clear h
 go_enter Tryz.func19,Tryz.ntmps19
 go_wp2_with fail
 refine HC.out.mono ?_
 rintro e w1 ⟨v,rfl,ho,hb⟩
 obtain⟨A1,c1,rfl⟩:=Bs.bU ho
 have HO:=Lib.hid ho
 have HB:=Lib.hid hb
 clear ho hb HC
 go_wp2_with fail
 go_ret
 have hf:Fr (fun _=>False) w1 (w1.alloc (.cells #[.slice A1 l.length c1,.int .i64 0,.int .i64 fail] TC)):=(Fr.refl _ _).alloc _
 exact⟨w1.heap.size,_,rfl,⟨_,HB.out.size,bG _ _,hf.own HO.out (fun _ _ h=>h),rfl⟩,(Fr.dL HB.out).trans hf (fun _ h=>h.elim)⟩
def uC (fail:Int):Nat->List ByteArray->Option ByteArray×Int×Nat
 |i,[]=>if(i:Int)=fail then(none,3,i) else(none,0,i)
 |i,s::r=>if(i:Int)=fail then(none,3,i) else if s=ByteArray.empty then uC fail (i+1) r else(some s,0,i+1)
def Hands (w0:World) (e:Ending) (w':World) (o:Option ByteArray) (err:Int):Prop:=
 match o with
 |none=>e= .returned (.tuple #[.slice none 0 0,.bool false,.int .i64 err])
 |some s=>∃cp,e= .returned (.tuple #[.slice (some ⟨w0.heap.size,0,none⟩) s.size cp,.bool true,.int .i64 err])/\w'.heap[w0.heap.size]?=some (.cells (Lib.bytesCells w0 5 s) 5 ((Lib.bytesCells w0 5 s).size,(Lib.bytesCells w0 5 s).size+1))
theorem Yp {s:ByteArray} (h:s.toList.isEmpty=true):s=ByteArray.empty:=by
 have h2:s.data.toList=[]:=by
  have:=List.isEmpty_iff.1 h
  rwa[ByteArray.toList_eq] at this
 cases s with
 |mk d=>simp at h2;subst h2;rfl
def TW (w:World) (b o:Nat):Nat:=match w.cell? ⟨b,o,none⟩ with
 |some (.int _ i)=>i.toNat
 |_=>0
theorem Dy.step {B b:Nat} {ob:Option Nat} {l:List ByteArray} {j:Nat} {fail:Int} {w:World} (h:Dy B b ob l j fail w):Dy B b ob l (j+1) fail (w.setCell ⟨b,1,none⟩ (.int .i64 ((j:Int)+1))):=by
 obtain⟨v,hB,hb,ho,rfl⟩:=h
 have hne:=Bs.own_ne ho hb (show TC≠TX by decide)
 refine⟨v,hB,?_,?_,rfl⟩
 ·have:=heap_set hb 1 (.int .i64 ((j:Int)+1))
  exact this
 ·exact((Fr.refl (fun k=>k=b) w).set (p:=⟨b,1,none⟩) (.inl rfl) _).own ho (fun g hg e=>hne (by rw[hg,e]))
theorem ZJ {w:World} {b o:Nat} {t:IntKind} {i:Int} (h:w.cell? ⟨b,o,none⟩=some (.int t i)):TW w b o=i.toNat:=by simp[TW,h]
theorem Dy.at {B b:Nat} {ob:Option Nat} {l:List ByteArray} {j:Nat} {fail:Int} {w:World} (h:Dy B b ob l j fail w):TW w b 1=j:=by
 obtain⟨v,hB,hb,_⟩:=h
 rw[ZJ (show w.cell? ⟨b,1,none⟩=some (.int .i64 j) by rw[aj hb];rfl)]
 simp
set_option maxHeartbeats 4000000 in
set_option maxRecDepth 100000 in
theorem ZH (B b:Nat) (ob:Option Nat) (l:List ByteArray) (i:Nat) (fail:Int) (w:World) (h:Dy B b ob l i fail w) (hi:i<=l.length) (hbig:l.length<=1000000):
  Calls Tryz.prog 255 #[.pointer (some ⟨b,0,none⟩)] w fun e w'=>∃w0:World,w0.heap.size=w.heap.size/\Hands w0 e w' (uC fail i (l.drop i)).1 (uC fail i (l.drop i)).2.1/\Dy B b ob l (uC fail i (l.drop i)).2.2 fail w'/\Fr (fun k=>k=b) w w':=by
 have HS:=Lib.hid h
 have hcv:=fun W s=>Lib.run_convert_string_bytes (P:=Tryz.prog) W 9 129 5 s Tryz.underlying9 Tryz.underlying129 Tryz.underlying5
 clear h
 go_enter Tryz.func255,Tryz.ntmps255
 go_wp2_with fail
 go_loopw [10] (fun v10 wr=>∃j,j<=l.length/\uC fail j (l.drop j)=uC fail i (l.drop i)/\wr.heap.size=w.heap.size/\Dy B b ob l j fail wr/\Fr (fun k=>k=b) w wr) (fun _ wr=>l.length+1-TW wr b 1)
 case atStart=>exact⟨i,hi,rfl,rfl,HS.out,Fr.refl _ _⟩
 case round=>
  obtain⟨j,hj,hn,hsz,hs,hfr⟩:=hrel
  have HS2:=Lib.hid hs
  obtain⟨v,hB,hb,ho,VD⟩:=hs
  obtain⟨A1,c1,rfl⟩:=Bs.bU ho
  have k0:wr.cell? ⟨b,0,none⟩=some (.slice A1 l.length c1):=by rw[aj hb];rfl
  have k1:wr.cell? ⟨b,1,none⟩=some (.int .i64 j):=by rw[aj hb];rfl
  have k2:wr.cell? ⟨b,2,none⟩=some (.int .i64 fail):=by rw[aj hb];rfl
  have kf:wr.frozen? ⟨b,1,none⟩=false:=aX hb 1
  have HB:=Lib.hid hb
  have HO:=Lib.hid ho
  have HF:=Lib.hid hfr
  have HN:=Lib.hid hn
  clear hb ho hfr hn
  by_cases hjf:(j:Int)=fail
  ·have hx:uC fail j (l.drop j)=(none,3,j):=by
    cases l.drop j<;>(rw[uC,if_pos hjf])
   go_wp2_with fail
   go_region
   go_wp2_with fail
   go_region
   go_wp2_with fail
   go_ret3
   rw[<-HN.out,hx]
   exact⟨wr,hsz,rfl,HS2.out,HF.out.drew.drew⟩
  ·by_cases hjl:j=l.length
   ·have hx:uC fail j (l.drop j)=(none,0,j):=by
     rw[hjl,List.drop_length,uC,if_neg (by rw[<-hjl];exact hjf)]
    have HJL:=Lib.hid hjl
    go_wp2_with fail
    go_region
    go_wp2_with fail
    go_region
    go_wp2_with fail
    go_region
    go_wp2_with fail
    go_ret3
    rw[<-HN.out,hx]
    exact⟨wr,hsz,rfl,HS2.out,HF.out.drew.drew.drew⟩
   ·have hlt:j<l.length:=by omega
    have hd:l.drop j=l[j]::l.drop (j+1):=List.drop_eq_getElem_cons hlt
    obtain⟨g,rfl⟩:∃g,A1=some ⟨g,0,none⟩:=by
     rcases HO.out.2 with⟨he,h0⟩|⟨g,cp,cur,he,_⟩
     ·simp at h0;subst h0;simp at hlt
     ·cases he;exact⟨g,rfl⟩
    have hgb:g≠b:=fun e=>Bs.own_ne HO.out HB.out (by decide) (by rw[e];rfl)
    have kc:wr.cell? ⟨g,j,none⟩=some (.string l[j]):=by
     have:=HO.out.cells (g:=g) rfl j _ (by simp[hlt]:(l.map Value.string)[j]?=some (.string l[j]))
     rw[show(⟨g,j,none⟩:Addr)=Addr.add ⟨g,0,none⟩ j from(by simp[Addr.add])]
     exact this
    have HD:=Lib.hid hd
    clear hd
    generalize hpc:l[j]=pc at *
    by_cases he:pc=ByteArray.empty
    ·subst he
     go_wp2_with fail
     go_region
     go_wp2_with fail
     go_region
     go_wp2_with fail
     go_region
     go_wp2_with fail
     go_region
     go_wp2_with fail
     have hs2:Dy B b ob l (j+1) fail (wr.setCell ⟨b,1,none⟩ (.int .i64 ((j:Int)+1))).drew.drew.drew.drew:=HS2.out.step
     refine⟨⟨j+1,by omega,?_,by simp[World.setCell,World.drew,hsz],hs2,(HF.out.set (.inl rfl) _).drew.drew.drew.drew⟩,?_⟩
     ·rw[<-HN.out,HD.out,uC,if_neg hjf,if_pos rfl]
     ·rw[hs2.at,HS2.out.at]
      omega
    ·have hpe:pc.toList.isEmpty=false:=by
      cases hq:pc.toList.isEmpty with
      |false=>rfl
      |true=>exact absurd (Yp hq) he
     go_wp2_with fail
     go_region
     go_wp2_with fail
     go_region
     go_wp2_with fail
     go_region
     go_wp2_with fail
     go_region
     go_wp2_with fail
     have hx:uC fail j (l.drop j)=(some pc,0,j+1):=by rw[HD.out,uC,if_neg hjf,if_neg he]
     obtain⟨W,hW⟩:∃W,W=(wr.setCell ⟨b,1,none⟩ (.int .i64 ((j:Int)+1))).drew.drew.drew.drew:=⟨_,rfl⟩
     have hWs:W.heap.size=w.heap.size:=by rw[hW];simp[World.setCell,World.drew,hsz]
     have hs2:Dy B b ob l (j+1) fail W:=by rw[hW];exact HS2.out.step
     have hf2:Fr (fun k=>k=b) w W:=by rw[hW];exact(HF.out.set (.inl rfl) _).drew.drew.drew.drew
     have m0:W.cell? ⟨b,0,none⟩=some (.slice (some ⟨g,0,none⟩) l.length c1):=by
      rw[hW]
      exact(aj (heap_set HB.out 1 (.int .i64 ((j:Int)+1))) 0).trans rfl
     have m1:W.cell? ⟨b,1,none⟩=some (.int .i64 ((j:Int)+1)):=by
      rw[hW]
      exact(aj (heap_set HB.out 1 (.int .i64 ((j:Int)+1))) 1).trans rfl
     have mc:W.cell? ⟨g,j,none⟩=some (.string pc):=by
      rw[hW]
      exact((Fr.refl (fun k=>k=b) wr).set (p:=⟨b,1,none⟩) (.inl rfl) (.int .i64 ((j:Int)+1))).cell kc hgb
     rw[<-hW]
     have HS3:=Lib.hid hs2
     have Xg:=Lib.hid hf2
     have HWS:=Lib.hid hWs
     clear hW hs2 hf2 hWs k0 k1 kc kf HF HS2
     go_region
     go_wp2_with fail
     go_ret3
     have hfb:=yQ W.drew 5 pc
     have hn3:=Lib.bytesWorld_at_new W.drew 5 pc
     have hs3:Dy B b ob l (j+1) fail (Lib.bytesWorld W.drew 5 pc):=Dy.fr (w:=W.drew) HS3.out hfb (fun h=>h) (fun _ _ h=>h)
     have hf3:Fr (fun k=>k=b) w (Lib.bytesWorld W.drew 5 pc):=Xg.out.drew.trans hfb (fun _ h=>h.elim)
     rw[<-HN.out,hx]
     refine⟨W.drew,HWS.out,?_,hs3,hf3⟩
     refine⟨grownCap W.drew pc.size 0 5,?_,hn3⟩
     rfl
end Go.Proofs.YtilpincgjlclpaaGreat.Src
namespace Go.Proofs.YtilpincgjlclpaaGreat.Src
open Go.RowKit Bs Go.Proofs.ae.au Go.Proofs.ae.aZ Go.Proofs.ae.bE
abbrev PC:Nat:=57
theorem mNextS (a:Addr) (w:World) (n:Nat) (hn:n=438):(method n PC (.pointer (some a)) "Next").run Tryz.prog w= .ok (255,.pointer (some a)) w:=by subst hn;kernel_rfl
theorem isScr (v:Value) (xT:TypeId) (w:World):(Instr.typeAssert (.iface PC v) xT 170 true).run Tryz.prog w= .ok (.tuple #[.iface PC v,.bool true]) w:=run_typeAssert_hasB Tryz.underlying170 (by kernel_rfl) v xT w
end Go.Proofs.YtilpincgjlclpaaGreat.Src
namespace Go.Proofs.YtilpincgjlclpaaGreat.Src
open Go.RowKit Bs Go.Proofs.ae.au
theorem Hands.some {w0 w':World} {e:Ending} {s:ByteArray} {err:Int} (h:Hands w0 e w' (some s) err):∃cp,e= .returned (.tuple #[.slice (some ⟨w0.heap.size,0,none⟩) s.size cp,.bool true,.int .i64 err])/\Lib.Bytes w' w0.heap.size 0 s/\
  ∃cs:Array Value,w'.heap[w0.heap.size]?=some (.cells cs 5 (cs.size,cs.size+1))/\s.size<=cs.size:=by
 obtain⟨cp,rfl,hh⟩:=h
 refine⟨cp,rfl,fun i hi=>?_,_,hh,by have:s.data.size=s.size:=rfl;simp[Lib.bytesCells]⟩
 rw[Nat.zero_add,xS hh i hi]
 congr 3
 simp[List.getD,hi]
 rfl
end Go.Proofs.YtilpincgjlclpaaGreat.Src
namespace Go.Proofs.YtilpincgjlclpaaGreat.Src
open Go.RowKit Bs Go.Proofs.ae.au
def Tells (fail:Int) (i:Nat) (r:List ByteArray):Option ByteArray×Int×Nat->Prop
 |(some s,e,j)=>e=0/\i<j/\j<=i+r.length/\told fail i r=(s::(told fail j (r.drop (j-i))).1,(told fail j (r.drop (j-i))).2)/\s≠ByteArray.empty
 |(none,e,j)=>i<=j/\j<=i+r.length/\told fail i r=([],e)/\told fail j (r.drop (j-i))=([],e)
theorem Ov (fail:Int):∀(r:List ByteArray) (i:Nat),Tells fail i r (uC fail i r)
 |[],i=>by
  rw[uC]
  split
  ·rename_i h;refine⟨Nat.le_refl _,by simp,by rw[told,if_pos h],by simp[told,h]⟩
  ·rename_i h;refine⟨Nat.le_refl _,by simp,by rw[told,if_neg h],by simp[told,h]⟩
 |s::r,i=>by
  rw[uC]
  by_cases h:(i:Int)=fail
  ·rw[if_pos h]
   refine⟨Nat.le_refl _,by omega,by rw[told,if_pos h],?_⟩
   rw[Nat.sub_self,List.drop_zero,told,if_pos h]
  ·rw[if_neg h]
   by_cases hs:s=ByteArray.empty
   ·rw[if_pos hs]
    have ih:=Ov fail r (i+1)
    have ht:told fail i (s::r)=told fail (i+1) r:=by rw[told,if_neg h,if_pos hs]
    generalize uC fail (i+1) r=q at *
    obtain⟨o,e,j⟩:=q
    cases o with
    |none=>
     obtain⟨h1,h2,h3,h4⟩:=ih
     refine⟨by omega,by simp;omega,by rw[ht];exact h3,?_⟩
     rw[show j-i=(j-(i+1))+1 by omega,List.drop_succ_cons]
     exact h4
    |some t=>
     obtain⟨h0,h1,h2,h3,h4⟩:=ih
     refine⟨h0,by omega,by simp;omega,?_,h4⟩
     rw[ht,show j-i=(j-(i+1))+1 by omega,List.drop_succ_cons]
     exact h3
   ·rw[if_neg hs]
    refine⟨rfl,by omega,by simp,?_,hs⟩
    rw[show i+1-i=0+1 by omega,List.drop_succ_cons,List.drop_zero,told,if_neg h,if_neg hs]
theorem FE {fail:Int} {i:Nat} {l:List ByteArray} (hi:i<=l.length):Tells fail i (l.drop i) (uC fail i (l.drop i)):=Ov fail _ i
theorem GX {i j:Nat} {l:List ByteArray} (h:i<=j):(l.drop i).drop (j-i)=l.drop j:=by rw[List.drop_drop,show i+(j-i)=j by omega]
end Go.Proofs.YtilpincgjlclpaaGreat.Src
end
