import Derived.Test.YtilpincgjlclpaaGreatD12
import Derived.Test.YtilpincgjlclpaaGreatD14
set_option linter.unusedVariables false
set_option linter.unusedSimpArgs false
section
namespace Go.Proofs.YtilpincgjlclpaaGreat.Ob
open Go Go.RowKit Go.Proofs.ae.au Pr Mp
open uA (iJ oz wi jB good jN jW iR ql qa zC kT kK)
structure Rs (Y:List ByteArray) (L:List SW):Prop where
 srt:L.Pairwise fun a b=>dl a.f0<dl b.f0
 cn:∀x∈L,x.f1=((lN Y x.f0:Nat):Int)/\x.f0∈Y
 al:∀s∈Y,∃x∈L,x.f0=s
theorem zD {y:ByteArray} {s:Int} {z:SW}:∀{L:List SW},z∈zy y s L↔z=⟨y,s⟩\/(z∈L/\z.f0≠y)
 |[]=>by simp[zy]
 |x::r=>by
  rw[zy]
  split
  ·rename_i h
   have hne:=lt_ne h
   rw[List.mem_cons,zD (L:=r),List.mem_cons]
   constructor
   ·rintro(rfl|h1|⟨h1,h2⟩)
    ·exact .inr ⟨.inl rfl,hne⟩
    ·exact .inl h1
    ·exact .inr ⟨.inr h1,h2⟩
   ·rintro(h1|⟨rfl|h1,h2⟩)
    ·exact .inr (.inl h1)
    ·exact .inl rfl
    ·exact .inr (.inr ⟨h1,h2⟩)
  ·rw[List.mem_cons,List.mem_filter]
   simp
theorem Uk {y:ByteArray} {s:Int}:∀{L:List SW},(L.Pairwise fun a b=>dl a.f0<dl b.f0)->(zy y s L).Pairwise fun a b=>dl a.f0<dl b.f0
 |[],_=>by simp[zy]
 |x::r,h=>by
  obtain⟨h1,h2⟩:=List.pairwise_cons.1 h
  rw[zy]
  split
  ·rename_i hl
   refine List.pairwise_cons.2 ⟨fun z hz=>?_,Uk h2⟩
   rcases zD.1 hz with rfl|⟨hz,_⟩
   ·exact(vO _ _).1 hl
   ·exact h1 z hz
  ·rename_i hl
   have hge:¬dl x.f0<dl y:=fun h9=>hl ((vO _ _).2 h9)
   refine List.pairwise_cons.2 ⟨fun z hz=>?_,h.filter _⟩
   obtain⟨hz1,hz2⟩:=List.mem_filter.1 hz
   have hzn:z.f0≠y:=by simpa using hz2
   have hle:dl y<=dl z.f0:=by
    rcases List.mem_cons.1 hz1 with rfl|hz1
    ·exact List.not_lt.1 hge
    ·exact List.le_trans (List.not_lt.1 hge) (List.le_of_lt (h1 z hz1))
   show dl y<dl z.f0
   rcases Classical.em (dl y<dl z.f0) with h9|h9
   ·exact h9
   ·exact(hzn (Ql (List.le_antisymm (List.not_lt.1 h9) hle))).elim
theorem SF {Y:List ByteArray} {y:ByteArray}:∀{L:List SW},(∀x∈L,x.f1=((lN Y x.f0:Nat):Int))->((∃x∈L,x.f0=y)\/lN Y y=0)->rE y L=((lN Y y:Nat):Int)
 |[],_,h=>by
  rcases h with⟨x,hx,_⟩|h
  ·simp at hx
  ·rw[rE,h];rfl
 |x::r,h,h2=>by
  rw[rE]
  by_cases e:x.f0=y
  ·rw[if_pos e,h x (by simp),e]
  ·rw[if_neg e]
   refine SF (fun z hz=>h z (by simp[hz])) ?_
   rcases h2 with⟨z,hz,rfl⟩|h2
   ·rcases List.mem_cons.1 hz with rfl|hz
    ·exact(e rfl).elim
    ·exact .inl ⟨z,hz,rfl⟩
   ·exact .inr h2
theorem Rs.get {Y:List ByteArray} {L:List SW} (h:Rs Y L) (y:ByteArray):rE y L=((lN Y y:Nat):Int):=by
 refine SF (fun x hx=>(h.cn x hx).1) ?_
 by_cases hc:lN Y y=0
 ·exact .inr hc
 ·exact .inl (h.al y (vg.1 hc))
theorem Rs.add {Y:List ByteArray} {L:List SW} (h:Rs Y L) (y:ByteArray):Rs (Y++[y]) (zy y (rE y L+1) L):=by
 have hc:∀s,lN (Y++[y]) s=lN Y s+if y=s then 1 else 0:=fun s=>by rw[DU,lN,lN];omega
 refine⟨Uk h.srt,fun x hx=>?_,fun s hs=>?_⟩
 ·rcases zD.1 hx with rfl|⟨hx,hn⟩
  ·refine⟨?_,by simp⟩
   show rE y L+1=((lN (Y++[y]) y:Nat):Int)
   rw[hc,if_pos rfl,h.get]
   omega
  ·obtain⟨h1,h2⟩:=h.cn x hx
   exact⟨by rw[hc,if_neg (fun e=>hn e.symm),h1];rfl,by simp[h2]⟩
 ·by_cases e:s=y
  ·exact⟨_,zD.2 (.inl rfl),e.symm⟩
  ·rcases List.mem_append.1 hs with hs|hs
   ·obtain⟨x,hx,hx2⟩:=h.al s hs
    exact⟨x,zD.2 (.inr ⟨hx,by rw[hx2];exact e⟩),hx2⟩
   ·simp at hs
    exact(e hs).elim
theorem Tu (y:ByteArray) (s:Int):∀L:List SW,(zy y s L).length<=L.length+1
 |[]=>by simp[zy]
 |x::r=>by
  have:=Tu y s r
  rw[zy]
  split
  ·simp;omega
  ·have:=List.length_filter_le (fun z:SW=>decide (z.f0≠y)) (x::r)
   rw[List.length_cons]
   omega
theorem of_f {Y:List ByteArray} (hy:NE Y) (hn:Y.length<=300) (hz:∀y∈Y,y.size<=1000) (k:Nat) (hk:4000<=k):∃L,eO.f k Y=some L/\Rs Y L:=by
 have loop:∀m i k (L:List SW),i+m=Y.length->m+3001<=k->Rs (Y.take i) L->L.length<=i->∃L',eO.l0 k Y L (i:Int)=some L'/\Rs Y L':=by
  intro m
  induction m with
  |zero=>
   intro i k L hi hk h hl
   obtain⟨k,rfl⟩:∃k',k=k'+1:=⟨k-1,by omega⟩
   rw[List.take_of_length_le (by omega)] at h
   rw[eO.l0,if_neg (by omega)]
   exact⟨L,rfl,h⟩
  |succ m ih=>
   intro i k L hi hk h hl
   obtain⟨k,rfl⟩:∃k',k=k'+1:=⟨k-1,by omega⟩
   have hlt:i<Y.length:=by omega
   have hyi:=List.getElem_mem hlt
   have hg:=h.get Y[i]
   have hle:=yV Y[i] (Y.take i)
   rw[List.length_take] at hle
   have hrd:dH ByteArray.empty Y (i:Int)=Y[i]:=gJ.WR Y i hlt
   rw[eO.l0,if_pos (by omega),if_pos (by omega),hrd,add_f (by omega) (fun x hx=>by
    have:=(h.cn x hx).2
    have:=hz _ (List.mem_of_mem_take this)
    omega) (hz _ hyi) (hy _ hyi) (by omega) (by omega) k (by omega),Option.bind_some,wi i (by omega)]
   refine ih (i+1) k _ (by omega) (by omega) ?_ (by have:=Tu Y[i] (rE Y[i] L+1) L;simp only;omega)
   rw[List.take_succ_eq_append_getElem hlt]
   exact h.add _
 exact loop Y.length 0 k [] (by omega) (by omega) ⟨by simp,fun x hx=>by simp at hx,fun s hs=>by simp at hs⟩ (Nat.le_refl _)
theorem Rs.is {Y:List ByteArray} {L:List SW} (h:Rs Y L) (hy:NE Y) (hn:Y.length<=1000000):lY Y=L:=by
 have:=Uq hn hy (L:=L.map fun x=>(x.f0,x.f1)) ?_ ?_ ?_
 ·unfold lY
  rw[this,List.map_map]
  conv=>rhs;rw[<-List.map_id L]
  rfl
 ·rw[List.map_map,List.pairwise_map]
  exact h.srt
 ·intro x hx
  obtain⟨z,hz,rfl⟩:=List.mem_map.1 hx
  exact h.cn z hz
 ·intro s hs
  obtain⟨x,hx,rfl⟩:=h.al s hs
  exact List.mem_map.2 ⟨(x.f0,x.f1),List.mem_map.2 ⟨x,hx,rfl⟩,rfl⟩
theorem of_is {Y:List ByteArray} (hy:NE Y) (hn:Y.length<=300) (hz:∀y∈Y,y.size<=1000):eO.f 4000 Y=some (lY Y)/\Rs Y (lY Y):=by
 obtain⟨L,h1,h2⟩:=of_f hy hn hz 4000 (Nat.le_refl _)
 rw[h2.is hy (by omega)]
 exact⟨h1,h2⟩
theorem same7_f (a:List SW) (ha:a.length<=1000000):dW.f (a.length+1) a a=some true:=by
 have loop:∀m i k,i+m=a.length->m+1<=k->dW.l0 k a a (i:Int)=some true:=by
  intro m
  induction m with
  |zero=>
   intro i k hi hk
   obtain⟨k,rfl⟩:∃k',k=k'+1:=⟨k-1,by omega⟩
   rw[dW.l0,if_neg (by omega)]
  |succ m ih=>
   intro i k hi hk
   obtain⟨k,rfl⟩:∃k',k=k'+1:=⟨k-1,by omega⟩
   rw[dW.l0,if_pos (by omega),if_pos (by omega),if_pos (by omega),if_neg (by simp),wi i (by omega)]
   exact ih (i+1) k (by omega) (by omega)
 unfold dW.f
 rw[if_pos rfl]
 exact loop a.length 0 _ (by omega) (by omega)
theorem Mq {l:List SW} {a:ByteArray} {p:Int}:∀k (a:ByteArray) (n i:Int),dG.l0 k l a l n i=some (p,0)->p= -1:=by
 intro k
 induction k with
 |zero=>intro a n i h;simp[dG.l0] at h
 |succ k ih=>
  intro a n i h
  rw[dG.l0] at h
  split at h
  ·split at h
   ·split at h
    ·obtain⟨t,ht,h⟩:=Option.bind_eq_some_iff.1 h
     split at h
     ·exact ih _ _ _ h
     ·rename_i hne
      injection h with h
      injection h with h1 h2
      exact(hne h2).elim
    ·cases h
   ·cases h
  ·obtain⟨t,ht,h⟩:=Option.bind_eq_some_iff.1 h
   split at h
   ·injection h with h
    injection h with h1 h2
    exact h1.symm
   ·injection h with h
    injection h with h1 h2
    exact absurd h2 (by decide)
theorem Yh:∀(l:List SW) (acc:Int),0<=acc->acc+90000*(l.length:Int)<=9223372036854775807->(∀x∈l,0<=x.f1/\x.f1<=300/\x.f0.size<=300)->(iR acc (l.map (·.f1)) (l.map ql)).2=true
 |[],acc,_,_,_=>rfl
 |x::l,acc,h0,h1,h=>by
  obtain⟨a1,a2,a3⟩:=h x (by simp)
  have hp:0<=ql x/\ql x<=300:=by unfold ql;omega
  have hm0:0<=x.f1*ql x:=Int.mul_nonneg a1 hp.1
  have hm1:x.f1*ql x<=300*300:=Int.mul_le_mul a2 hp.2 hp.1 (by omega)
  rw[List.length_cons] at h1
  rw[List.map_cons,List.map_cons,iR]
  generalize ql x=q at *
  have hmv:kT x.f1 q=(x.f1*q,true):=by unfold kT;rw[if_pos ⟨a1,hp.1,by omega⟩]
  have hav:kK acc (x.f1*q)=(acc+x.f1*q,true):=by unfold kK;rw[if_pos ⟨h0,hm0,by omega⟩]
  rw[hmv,if_pos rfl]
  show(if(kK acc (x.f1*q)).2=true then iR (kK acc (x.f1*q)).1 (l.map (·.f1)) (l.map ql) else(0,false)).2=true
  rw[hav,if_pos rfl]
  exact Yh l _ (by show 0<=acc+x.f1*q;omega) (by show acc+x.f1*q+_<=_;omega) (fun y hy=>h y (by simp[hy]))
theorem SH:∀(l:List SW) (a:ByteArray),(∀x∈l,dl a<dl x.f0)->(l.Pairwise fun a b=>dl a.f0<dl b.f0)->(∀x∈l,1<=x.f1/\x.f0≠ByteArray.empty)->good a l=true
 |[],a,_,_,_=>rfl
 |x::l,a,h1,h2,h3=>by
  obtain⟨g1,g2⟩:=List.pairwise_cons.1 h2
  obtain⟨c1,c2⟩:=h3 x (by simp)
  have hne2:¬x.f0.toList=[]:=by
   have:(ByteArray.empty).toList=[]:=by decide+kernel
   rw[<-this]
   exact fun h=>c2 ((Aa _ _).1 h)
  have hb:Op.bytesLess a.toList x.f0.toList=true:=by
   rw[<-zC]
   have e1:∀s:ByteArray,s.toList=dl s:=fun s=>ByteArray.toList_eq s
   rw[e1,e1]
   exact(vO _ _).2 (h1 x (by simp))
  rw[good,if_neg hne2,if_neg (by omega),if_pos hb]
  exact SH l x.f0 g1 g2 (fun y hy=>h3 y (by simp[hy]))
theorem Vg {Y:List ByteArray} (hy:NE Y) (hs:(Y.map ByteArray.size).sum<=300):∃K,dG.f K (lY Y)=some (-1,0):=by
 obtain⟨hf,_,hn,hl⟩:=Br hy hs
 have hr:=(of_is hy (by omega) (fun y hm=>by
  have:y.size<=(Y.map ByteArray.size).sum:=Df (List.mem_map.2 ⟨y,hm,rfl⟩)
  omega)).2
 obtain⟨p,e,h1,h2⟩:=qa (lY Y) hf
 have hpos:∀x∈lY Y,1<=x.f1/\x.f1<=300:=fun x hx=>by
  obtain⟨c1,c2⟩:=hr.cn x hx
  have:=vg.2 c2
  have:=yV x.f0 Y
  omega
 have h0:e=0:=by
  rw[h2,jW]
  refine⟨SH _ _ (fun x hx=>?_) hr.srt (fun x hx=>⟨(hpos x hx).1,hy _ (hr.cn x hx).2⟩),Yh _ 0 (by omega) (by have:=hf.1;omega) (fun x hx=>⟨by have:=(hpos x hx).1;omega,(hpos x hx).2,(hf.2 x hx).1⟩)⟩
  have hne:=hy _ (hr.cn x hx).2
  have:dl ByteArray.empty=[]:=rfl
  rw[this]
  rcases hd:dl x.f0 with _|⟨c,r⟩
  ·exact(hne (Ql (by rw[show x.f0.data.toList=[] from hd];rfl))).elim
  ·simp
 subst h0
 have h3:=h1 3000 (Nat.le_refl _)
 have hp:p= -1:=Mq (l:=lY Y) (a:=ByteArray.empty) _ _ _ _ h3
 rw[hp] at h3
 exact⟨_,h3⟩
end Go.Proofs.YtilpincgjlclpaaGreat.Ob
end
section
namespace Go.Proofs.YtilpincgjlclpaaGreat.Pr
open Go Go.RowKit Bs Ob Go.Proofs.ae.au Go.Proofs.ae.aZ Go.Proofs.ae.bE
theorem aaf (S:List UInt8) (h:S.length<=300):Aj.RD 65536 S 0=(0,(Pure.jX [] S).map ym):=by
 unfold Aj.RD
 rw[if_neg (by omega),if_pos (Pure.Ji 65536 S [] [] (by simp;omega)).1,if_pos rfl]
def iy.f (a0:ByteArray) (l1:List Int):Option Bool:=if a0.size<=maxLen/\∀x∈l1,0<=x/\x<65536 then some true else none
set_option maxHeartbeats 8000000 in
set_option maxRecDepth 100000 in
theorem iy.calls (a0:ByteArray) (A1:Option Addr) (c1:Nat) (l1:List Int) (r:Bool) (w:World) (hr1:Kd.C (Kd.int .u16) w A1 l1.length l1) (hc1:l1.length<=c1) (h:iy.f a0 l1=some r):
  Calls Tryz.prog 5 #[.string a0,.slice A1 l1.length c1] w fun e w'=>e= .returned (.bool r)/\Below w.heap.size w w':=by
 unfold iy.f at h
 split at h
 ·rename_i hcond
  cases h
  obtain⟨hsz,hu16⟩:=hcond
  have HC:=Lib.hid hr1
  have HU:=Lib.hid hu16
  clear hr1 hu16
  go_enter Tryz.func5,Tryz.ntmps5
  go_wp2_with fail
  refine(jK.calls true _ rfl).mono ?_
  rintro e w1 ⟨rfl,hb1⟩
  have HB1:=Lib.hid hb1
  have Ch:=Lib.hid (Kd.bY HC.out hb1)
  clear hb1 HC
  by_cases hbig:300<a0.size
  ·go_wp2_with fail
   go_ret
   exact⟨rfl,HB1.out⟩
  ·by_cases hbig2:60<l1.length
   ·go_wp2_with fail
    go_ret
    exact⟨rfl,HB1.out⟩
   ·obtain⟨K,P,hcut,hPw,hPl⟩:=cut_f a0 l1 (by omega) HU.out (by omega)
    have hlen:a0.data.toList.length=a0.size:=by simp
    obtain⟨Y,hY⟩:∃Y,Y=(Pure.jX [] a0.data.toList).map ym:=⟨_,rfl⟩
    have hRD:Aj.RD 65536 a0.data.toList 0=(0,Y):=by rw[hY];exact aaf _ (by omega)
    obtain⟨hne,hsum⟩:=RD_ne hRD
    rw[hlen] at hsum
    obtain⟨hf,_,hYl,hTl⟩:=Br hne (by omega)
    have hysz:∀y∈Y,y.size<=300:=fun y hm=>by
     have:y.size<=(Y.map ByteArray.size).sum:=Df (List.mem_map.2 ⟨y,hm,rfl⟩)
     omega
    obtain⟨hof,hrs⟩:=of_is hne hYl (fun y hm=>by have:=hysz y hm;omega)
    obtain⟨K2,hck⟩:=Vg hne (by omega)
    have hwd:=Pure.Rz (k:=10000) a0 (by omega) (by omega)
    rw[<-hY] at hwd
    have heT:=(Ur (by omega) hne).1
    have HF:=Lib.hid (And.intro hcut (And.intro hwd (And.intro hof (And.intro hck (And.intro heT (And.intro hf hTl))))))
    have HP:=Lib.hid (And.intro hPw (And.intro hRD hysz))
    clear hcut hwd hof hck heT hf hPw hRD hY hne hsum hrs hysz
    go_wp2_with fail
    refine(eF.calls K a0 A1 c1 l1 P _ Ch.out hc1 HF.out.1).mono ?_
    rintro e w2 ⟨v2,rfl,hR2,hB2⟩
    obtain⟨A2,c2,rfl,hc2,hC2⟩:=Kd.lZ hR2
    have HC2:=Lib.hid hC2
    have HB2:=Lib.hid (HB1.out.trans (hB2.mono HB1.out.size))
    clear hR2 hB2 hC2 Ch HB1
    go_wp2_with fail
    refine(Src.TV A2 c2 P (-1) _ HC2.out (by omega)).mono ?_
    rintro e w3 ⟨b,ob,rfl,hs3,hf3⟩
    obtain⟨ht1,ht2⟩:=Aj.Ou P 0
    have hread:=Aj.NQ (Aj.scrS w2.heap.size b ob P (-1) (by omega)) (Src.told (-1) 0 P).1 0 65536 (fun k=>k=b\/ob=some k) w3 0 Y ⟨0,Nat.zero_le _,Prod.ext rfl ht1,hs3,fun k=>Iff.rfl⟩ (by rw[ht2,HP.out.1,hlen];omega) (by rw[ht2,HP.out.1];exact HP.out.2.1)
    have hB3:Below w.heap.size w w3:=HB2.out.trans ((hf3.toBelow (fun _ h=>h.elim) (Nat.le_refl _)).mono HB2.out.size)
    have hMb:∀k,(k=b\/ob=some k)->w.heap.size<=k:=fun k hk=>Nat.le_trans HB2.out.size (hk.elim (fun e=>by rw[e];exact hs3.le) (fun e=>(hs3.row e).1))
    have HRD:=Lib.hid hread
    have HB3:=Lib.hid (And.intro hB3 hMb)
    clear hs3 hf3 ht1 ht2 hread hB3 hMb
    go_wp2_with fail
    refine HRD.out.mono ?_
    clear HRD
    rintro e w4 ⟨JF,A4,c4,rfl,hc4,YI⟩
    have wG:=Lib.hid (HB3.out.1.trans (JF.toBelow HB3.out.2 HB3.out.1.size))
    have UR:=Lib.hid YI
    clear JF YI HB3 HB2 HC2
    go_wp2_with fail
    refine(bK.calls 10000 a0 Y _ HF.out.2.1).mono ?_
    rintro e w5 ⟨v5,rfl,hR5,wL⟩
    obtain⟨A5,c5,rfl,hc5,hC5⟩:=Kd.lZ hR5
    have HC45:=Lib.hid (Kd.bY UR.out wL)
    have HC5:=Lib.hid hC5
    have GG:=Lib.hid (wG.out.trans (wL.mono wG.out.size))
    clear hR5 wL hC5 UR wG
    go_wp2_with fail
    refine(dO.calls (Y.length+1) A4 c4 Y A5 c5 Y true _ HC45.out hc4 HC5.out hc5 (Pure.RP Y (by omega) (Nat.le_refl _))).mono ?_
    rintro e w6 ⟨rfl,⟨q6,rfl⟩⟩
    have Pk:=Lib.hid (Kd.dB HC45.out q6)
    have yJ:=Lib.hid (GG.out.trans (af (Below.refl _ w5) q6 |>.mono GG.out.size))
    clear HC45 HC5 GG
    go_wp2_with fail
    refine(Oq Pk.out hc4 (by omega) (fun x hx=>by have:=HP.out.2.2 x hx;unfold maxLen;omega)).mono ?_
    rintro e w7 ⟨uu,v7,rfl,_,Lg⟩
    have heT:=HF.out.2.2.2.2.1
    obtain⟨A7,c7,rfl⟩:=Bs.bU (Lg heT)
    obtain⟨_,hc7,hC7⟩:=OE (Lg heT) (show(Bq Y).length<=1000000 by omega)
    rw[heT]
    have e7:((fz (fH [] Y).1).map wS)=lY Y:=rfl
    have e8:(fz (fH [] Y).1).length=(lY Y).length:=by rw[<-e7,List.length_map]
    rw[e8] at hc7
    rw[e7] at hC7
    rw[e8]
    have HC7:=Lib.hid hC7
    have HC67:=Lib.hid (Kd.bY Pk.out uu)
    have HB7:=Lib.hid (yJ.out.trans (uu.mono yJ.out.size))
    have BP:(lY Y).length<=300:=by rw[<-e8];exact hTl
    have IX:=Lib.hid (And.intro HF.out.2.2.1 HF.out.2.2.2.1)
    clear uu Lg heT e7 e8 hC7 Pk yJ HF
    generalize lY Y=T at *
    go_wp2_with fail
    refine(dG.calls K2 A7 c7 T (-1) 0 _ HC7.out hc7 IX.out.2).mono ?_
    rintro e w8 ⟨rfl,hB8⟩
    have HC8:=Lib.hid (Kd.bY HC7.out hB8)
    have HC68:=Lib.hid (Kd.bY HC67.out hB8)
    have HB8:=Lib.hid (HB7.out.trans (hB8.mono HB7.out.size))
    clear hB8 HC7 HC67 HB7
    go_wp2_with fail
    refine(eO.calls 4000 A4 c4 Y T _ HC68.out hc4 IX.out.1).mono ?_
    rintro e w9 ⟨v9,rfl,hR9,hB9⟩
    obtain⟨A9,c9,rfl,hc9,hC9⟩:=Kd.lZ hR9
    have HC9:=Lib.hid hC9
    have HC89:=Lib.hid (Kd.bY HC8.out hB9)
    have HB9:=Lib.hid (HB8.out.trans (hB9.mono HB8.out.size))
    clear hR9 hB9 hC9 HC8 HC68 HB8
    go_wp2_with fail
    refine(dW.calls (T.length+1) A7 c7 T A9 c9 T true _ HC89.out hc7 HC9.out hc9 (same7_f T (by omega))).mono ?_
    rintro e w10 ⟨rfl,⟨q10,rfl⟩⟩
    have HB10:=Lib.hid (HB9.out.trans (af (Below.refl _ w9) q10 |>.mono HB9.out.size))
    go_wp2_with fail
    go_ret
    exact⟨rfl,HB10.out⟩
 ·cases h
end Go.Proofs.YtilpincgjlclpaaGreat.Pr
end
