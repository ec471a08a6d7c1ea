import Derived.Test.YtilpincgjlclpaaGreatS14
set_option linter.unusedVariables false
set_option linter.unusedSimpArgs false
namespace Go.Proofs.YtilpincgjlclpaaGreat.Pr
open Go Go.RowKit Bs Ob aaK Go.Proofs.ae.au Go.Proofs.ae.aZ Go.Proofs.ae.bE
theorem new6 (w:World):Calls Tryz.prog 30 #[] w fun e w'=>e= .returned (.pointer (some ⟨w.heap.size,0,none⟩))/\Lj w.heap.size w' w.heap.size [] (fun k=>k=w.heap.size)/\Below w.heap.size w w'/\w'.heap.size=w.heap.size+1:=by
 refine(Mw w).mono ?_
 rintro e w' ⟨rfl,rfl⟩
 exact⟨rfl,Lj.new w (Nat.le_refl _),(Below.refl _ w).alloc (Nat.le_refl _) _,by simp⟩
theorem blk_lt_cell {w:World} {p:Addr} {v:Value} (h:w.cell? p=some v):p.block<w.heap.size:=World.block_lt_of_cell? _ _ h
theorem gpB_size (i:Nat):(gpB i).size<=2:=by
 unfold gpB
 split
 ·decide
 ·split<;>decide
def gluepottop_WholeSame.f (a0:ByteArray) (l1 l2:List Int) (a3_0 a3_1 a3_2:Int):Option Bool:=if a0.size<=maxLen/\(∀x∈l1,0<=x/\x<65536)/\∀x∈l2,0<=x/\x<65536 then some true else none
set_option maxHeartbeats 8000000 in
set_option maxRecDepth 100000 in
theorem gluepottop_WholeSame.calls (a0:ByteArray) (A1:Option Addr) (c1:Nat) (l1:List Int) (A2:Option Addr) (c2:Nat) (l2:List Int) (a3_0 a3_1 a3_2:Int) (r:Bool) (w:World) (hr1:Kd.C (Kd.int .u16) w A1 l1.length l1) (hc1:l1.length<=c1) (hr2:Kd.C (Kd.int .u16) w A2 l2.length l2) (hc2:l2.length<=c2) (h:gluepottop_WholeSame.f a0 l1 l2 a3_0 a3_1 a3_2=some r):
  Calls Tryz.prog 7 #[.string a0,.slice A1 l1.length c1,.slice A2 l2.length c2,.agg #[.int .i64 a3_0,.int .i64 a3_1,.int .i64 a3_2]] w fun e w'=>e= .returned (.bool r)/\Below w.heap.size w w':=by
 unfold gluepottop_WholeSame.f at h
 split at h
 ·rename_i hcond
  cases h
  obtain⟨hsz,hu1,hu2⟩:=hcond
  obtain⟨W0,hW0⟩:∃W0,W0=w.alloc (.cells #[.int .i64 a3_0,.int .i64 a3_1,.int .i64 a3_2] 24):=⟨_,rfl⟩
  have hB0:Below w.heap.size w W0:=by rw[hW0];exact(Below.refl _ w).alloc (Nat.le_refl _) _
  have hs0:W0.heap.size=w.heap.size+1:=by rw[hW0];simp
  have hbx:W0.heap[w.heap.size]?=some (.cells #[.int .i64 a3_0,.int .i64 a3_1,.int .i64 a3_2] 24 (0,0)):=by rw[hW0];exact bG _ _
  have Ch:=Lib.hid (Kd.bY hr1 hB0)
  have HC2:=Lib.hid (Kd.bY hr2 hB0)
  have HU:=Lib.hid (And.intro hu1 hu2)
  have HX:=Lib.hid (And.intro hB0 (And.intro hs0 hbx))
  clear hr1 hr2 hu1 hu2 hB0 hs0 hbx
  go_enter Tryz.func7,Tryz.ntmps7
  go_wp2_with fail
  rw[<-hW0]
  clear hW0
  refine(jK.calls true _ rfl).mono ?_
  rintro e w1 ⟨rfl,hb1⟩
  have HB1:=Lib.hid hb1
  clear hb1
  by_cases hbig:300<a0.size
  ·go_wp2_with fail
   go_ret
   exact⟨rfl,HX.out.1.trans (HB1.out.mono HX.out.1.size)⟩
  by_cases hbig1:300<l1.length
  ·go_wp2_with fail
   go_ret
   exact⟨rfl,HX.out.1.trans (HB1.out.mono HX.out.1.size)⟩
  by_cases hbig2:60<l2.length
  ·go_wp2_with fail
   go_ret
   exact⟨rfl,HX.out.1.trans (HB1.out.mono HX.out.1.size)⟩
  have hlen:a0.data.toList.length=a0.size:=by simp
  obtain⟨Y,hY⟩:∃Y,Y=(Pure.jX [] a0.data.toList).map ym:=⟨_,rfl⟩
  have hwd:=Pure.Rz (k:=10000) a0 (by omega) (by omega)
  rw[<-hY] at hwd
  have hYl:Y.length<=301:=by rw[hY,List.length_map];have:=Pure.wordsW_len a0.data.toList [];omega
  have HY:=Lib.hid (And.intro hY hwd)
  have h0own:(w1.alloc (.cells #[] 9)).ownsRow w1.heap.size Src.TX 1 (.slice (some ⟨w1.heap.size,0,none⟩) 0 0) ([]:List ByteArray).length (([]:List ByteArray).map Value.string):=
   ⟨rfl,.inr ⟨_,0,#[],rfl,Nat.le_refl _,bG _ _,Nat.le_refl _,by unfold maxLen;omega,rfl,rfl⟩⟩
  have HN0:=Lib.hid (And.intro h0own ((Below.refl w1.heap.size w1).alloc (Nat.le_refl _) (.cells #[] 9)))
  clear hY hwd h0own hlen
  go_wp2_with (first
   |(go_at_call 22;refine(bK.calls 10000 a0 Y _ HY.out.2).mono ?_;rintro e w2 ⟨v2,rfl,hR2,hB2⟩;obtain⟨A3,c3,rfl,hc3,hC3⟩:=Kd.lZ hR2;have Ci:=Lib.hid hC3;have HB2:=Lib.hid (HN0.out.2.trans (hB2.mono (by simp)));have HO2:=Lib.hid ((Fr.dL (S:=fun _=>False) hB2).own HN0.out.1 (fun _ _ h=>h));clear hR2 hB2 hC3 HN0)
   |(at_builtin;refine Src.append_read rfl _ _ rfl w1.heap.size _ [] Y A3 c3 rfl rfl HO2.out Ci.out HB2.out.size (by simp;omega) ?_))
  intro v4 w4 hown4 hfr4 hblk4
  obtain⟨A4,c4,rfl⟩:=Bs.bU hown4
  have HO4:=Lib.hid (show w4.ownsRow w1.heap.size Src.TX 1 (.slice A4 Y.length c4) Y.length (Y.map Value.string) from hown4)
  have hk4:∀k,(Value.slice (some ⟨w1.heap.size,0,none⟩) 0 0).ownBlock=some k->w1.heap.size<=k:=fun k hk=>Nat.le_of_eq (Option.some.inj hk)
  have wG:=Lib.hid (HB2.out.trans (hfr4.toBelow hk4 HB2.out.size))
  clear hk4
  clear hown4 hfr4 hblk4 Ci HB2 HO2
  have HLen:=Lib.hid hYl
  go_upto_block 0 with fail
  go_cut [10,11,12,13,14] from 42 to 80 (fun v10 v11 v12 v13 v14 wx=>∃M:List ByteArray,Hid (M.Perm Y)/\Hid (wx.ownsRow w1.heap.size Src.TX 1 (.slice A4 Y.length c4) Y.length (M.map Value.string))/\Hid (Below w1.heap.size w1 wx))
  case first=>
   go_wp2_with fail
   go_loopg [10] l1.length (fun gk v10 wr=>∃(i:Nat) (M:List ByteArray),v10= .int .i64 (i:Int)/\i+gk=l1.length/\Hid (M.Perm Y)/\Hid (wr.ownsRow w1.heap.size Src.TX 1 (.slice A4 Y.length c4) Y.length (M.map Value.string))/\Hid (Below w1.heap.size w1 wr))
   case atStart=>exact⟨0,Y,rfl,by omega,Lib.hid (List.Perm.refl _),HO4,wG⟩
   case round=>
    obtain⟨i,M,rfl,qy,HM,HO,HB⟩:=hrel
    by_cases hi:i<l1.length
    ·by_cases hy0:0<Y.length
     ·have hMl:M.length=Y.length:=HM.out.length_eq
      obtain⟨gk,rfl⟩:∃g,gk=g+1:=⟨gk-1,by omega⟩
      obtain⟨ad,rfl,hcell⟩:=Kd.kW (Kd.bY Ch.out HB1.out) (i:Int) (by omega) (by omega)
      have hrng:=HU.out.1 (rd l1 (i:Int)) (by unfold rd;rw[List.getD_eq_getElem?_getD,Int.toNat_natCast,List.getElem?_eq_getElem (by omega)];exact List.getElem_mem _)
      have hcell2:=HB.out.cell (World.block_lt_of_cell? _ _ hcell) |>.trans hcell
      rw[Int.toNat_natCast] at hcell2
      generalize rd l1 (i:Int)=x at *
      obtain⟨a,ha⟩:∃a:Nat,a=i%Y.length:=⟨_,rfl⟩
      obtain⟨b,hb⟩:∃b:Nat,b=x.toNat%Y.length:=⟨_,rfl⟩
      have hal:a<Y.length:=by rw[ha];exact Nat.mod_lt _ hy0
      have hbl:b<Y.length:=by rw[hb];exact Nat.mod_lt _ hy0
      obtain⟨g,rfl,hg1,hg2,hgc,hcl,hfz⟩:=gz HO.out hy0
      have hn0:¬((Y.length:Int)=0):=by omega
      have hm1:Int.tmod (i:Int) (Y.length:Int)=(a:Int):=by rw[ha];rfl
      have hm2:Int.tmod x (Y.length:Int)=(b:Int):=by
       obtain⟨y,rfl⟩:=Int.eq_ofNat_of_zero_le hrng.1
       rw[hb];rfl
      have hwx:wrap64 x=x:=by unfold wrap64;omega
      have ea:wr.cell? ⟨g,a,none⟩=some (.string (M.getD a ByteArray.empty)):=hcl a _ (by rw[List.getElem?_map,List.getD_eq_getElem?_getD,List.getElem?_eq_getElem (by omega)];rfl)
      have eb:wr.cell? ⟨g,b,none⟩=some (.string (M.getD b ByteArray.empty)):=hcl b _ (by rw[List.getElem?_map,List.getD_eq_getElem?_getD,List.getElem?_eq_getElem (by omega)];rfl)
      have HA:=Lib.hid (And.intro hMl (And.intro hg1 (And.intro hg2 hfz)))
      have fa:=hfz a
      have fb:=hfz b
      have fs:∀(q:Nat) (u:Value),((wr.drewN q).setCell ⟨g,a,none⟩ u).frozen? ⟨g,b,none⟩=false:=fun q u=>by
       obtain⟨g',e',_,_,_,_,hz⟩:=gz (tO HO.out a u) hy0
       cases e'
       exact hz b
      have cs:∀q:Nat,((wr.drewN q).setCell ⟨g,a,none⟩ (.string (M.getD b ByteArray.empty))).cell? ⟨g,b,none⟩=some (.string (M.getD b ByteArray.empty)):=fun q=>by
       obtain⟨g',e',_,_,_,hz,_⟩:=gz (tO HO.out a (.string (M.getD b ByteArray.empty))) hy0
       cases e'
       refine hz b _ ?_
       by_cases hab:a=b
       ·rw[hab,List.getElem?_set_self (by rw[List.length_map];omega)]
       ·rw[List.getElem?_set_ne hab,List.getElem?_map,List.getD_eq_getElem?_getD,List.getElem?_eq_getElem (by omega)]
        rfl
      clear hMl hg1 hg2 hfz hcl ha hb hcell
      generalize hxa:M.getD a ByteArray.empty=xa at *
      generalize hxb:M.getD b ByteArray.empty=xb at *
      have HXA:=Lib.hid (And.intro hxa hxb)
      clear hxa hxb
      go_wp2_with fail
      go_quiet (fail)
      go_wp2_with fail
      go_quiet (fail)
      go_wp2_with fail
      go_roundg gk
      case measure=>omega
      case rel=>
       have h1:=tO (tO HO.out a (.string xb)) b (.string xa)
       have h2:((M.map Value.string).set a (.string xb)).set b (.string xa)=(swp M a b).map Value.string:=by
        unfold swp
        rw[HXA.out.1,HXA.out.2,List.map_set,List.map_set]
       rw[h2] at h1
       refine⟨i+1,swp M a b,by simp,by omega,Lib.hid ((swp_perm (by rw[HA.out.1];exact hal) (by rw[HA.out.1];exact hbl)).trans HM.out),Lib.hid h1,Lib.hid ?_⟩
       have hgb:=HA.out.2.1
       exact HB.out.trans (((((Fr.refl (fun k=>k=g) wr).drewN _).set (p:=⟨g,a,none⟩) (.inl rfl) _).set (p:=⟨g,b,none⟩) (.inl rfl) _).toBelow (fun i hi=>by rw[show i=g from hi];exact hgb) HB.out.size)
     ·go_wp2_with fail
      go_meet
      case rel=>exact⟨M,HM,HO,HB⟩
    ·go_wp2_with fail
     go_meet
     case rel=>exact⟨M,HM,HO,HB⟩
  case rest=>
   obtain⟨M,HM,HO5,GG⟩:=hcut
   have hMl:M.length=Y.length:=HM.out.length_eq
   have hMg:∀x∈M,aaK.Good (bl x):=fun x hx=>by
    have h1:=HM.out.mem_iff.1 hx
    rw[HY.out.1] at h1
    obtain⟨t,ht,rfl⟩:=List.mem_map.1 h1
    exact words_good _ [] (by simp) t ht
   have hMs:(M.map ByteArray.size).sum<=300:=by
    rw[(HM.out.map ByteArray.size).sum_nat,HY.out.1,mkB_sum]
    have:=Bz a0.data.toList []
    simp at this
    omega
   have hMx:∀x∈M,x.size<=300:=fun x hx=>Nat.le_trans (Df (List.mem_map.2 ⟨x,hx,rfl⟩)) hMs
   have hMe:∀x∈M,x≠ByteArray.empty:=fun x hx e=>(hMg x hx).1 (by rw[e];rfl)
   have h00:=(Ur (by omega) hMe).1
   have HMM:=Lib.hid (And.intro hMl (And.intro hMg (And.intro hMs (And.intro hMx (And.intro hMe h00)))))
   obtain⟨i0,hi0,hz0,hz1,hz2⟩:=info_parts infoW
   have hn3:¬((3:Int)=0):=by omega
   clear hMl hMg hMs hMx hMe h00
   go_wp2_with (go_at_call 30;refine(new6 _).mono ?_;rintro e w6 ⟨rfl,hw6⟩;have H6:=Lib.hid hw6;clear hw6)
   have HO6:=Lib.hid ((Fr.dL (S:=fun _=>False) H6.out.2.1).own HO5.out (fun _ _ h=>h))
   have hs6:=H6.out.2.2
   go_wp2_with fail
   go_loopg [15,17,18] M.length (fun gk v15 v17 v18 wr=>∃(D R:List ByteArray) (m':List SM) (S':Nat->Prop),v18= .int .i64 (D.length:Int)/\v15= .string (oth D)/\R.length=gk/\Hid (M=D++R)/\Hid (fH m' R=fH [] M)/\Hid (m'.length<=D.length)/\Hid (Lj wc.heap.size wr wc.heap.size m' S')/\Hid (wr.ownsRow w6.heap.size TWd 2 v17 D.length ((D.map Ob.one).flatMap AP))/\Hid (∀k,v17.ownBlock=some k->¬S' k)/\Hid (D=[]->v17= .slice none 0 0)/\Hid (Fr (fun k=>k=wc.heap.size) w6 wr)/\Hid (Into w6 (fun k=>k=wc.heap.size) S'))
   case atStart=>exact⟨[],M,[],_,rfl,rfl,rfl,Lib.hid rfl,Lib.hid rfl,Lib.hid (Nat.le_refl _),Lib.hid H6.out.1,Lib.hid (World.ownsRow_nil _ _ _ _),Lib.hid (fun k hk=>by cases hk),Lib.hid (fun _=>rfl),Lib.hid (Fr.refl _ _),Lib.hid (Into.refl _ _)⟩
   case round=>
    obtain⟨D,R,m',S',rfl,rfl,qy,HX2,WH,HL2,Pk,HR6,HS6,HN6,HF6,HI6⟩:=hrel
    cases R with
    |nil=>
     have hDM:M=D:=by rw[HX2.out];simp
     have hge:¬D.length<Y.length:=by rw[<-hDM,HMM.out.1];omega
     subst hDM
     obtain⟨A7,c7,hv7⟩:=Bs.bU HR6.out
     subst hv7
     have hs0:=HX.out.2.1
     have PW:Below W0.heap.size W0 wc:=HB1.out.trans (GG.out.mono HB1.out.size)
     have hB06:Below W0.heap.size W0 wr:=(PW.trans (H6.out.2.1.mono PW.size)).trans (HF6.out.toBelow (fun k hk=>by rw[show k=wc.heap.size from hk];exact PW.size) (PW.trans (H6.out.2.1.mono PW.size)).size)
     have hB06w:Below W0.heap.size W0 wr:=hB06
     have bx:=(hB06.block w.heap.size (by omega)).trans HX.out.2.2
     have x0:wr.cell? ⟨w.heap.size,0,none⟩=some (.int .i64 a3_0):=aj bx 0
     have x1:wr.cell? ⟨w.heap.size,1,none⟩=some (.int .i64 a3_1):=aj bx 1
     have x2:wr.cell? ⟨w.heap.size,2,none⟩=some (.int .i64 a3_2):=aj bx 2
     have hxw:w.heap.size<wr.heap.size:=Bs.bA bx
     have hMG:=HMM.out.2.1
     have hMl9:=HMM.out.1
     obtain⟨E,Z1,Z2,hq1,hq2,hn1,hn2,hs1,hs2,hE,hF,hS,hok⟩:=same_run HY.out.1 HM.out hMG (by omega) a3_0 a3_1 a3_2
     have hosz:(oth M).size<=1000:=by have h1:=oth_size M;have h2:=HMM.out.2.2.1;omega
     obtain⟨K2,P,hcut,hPw,hPl⟩:=cut_big (oth M) l2 hosz HU.out.2 (by omega)
     have hcw:=fun V=>whole_c a0 a3_0 a3_1 a3_2 (by omega) E Z1 hq1 hn1 hs1 V
     have hol:(oth M).data.toList.length=(oth M).size:=by simp
     have hcr:=fun V b ob (hV:Below wr.heap.size wr V) (hs:Src.Dy wr.heap.size b ob P 0 (-1) V)=>run_at hV (bu:=a3_0) (mn:=a3_1) (li:=a3_2) (E:=E) (Y:=Z2) hs (by omega) (by rw[hPw];omega) (by rw[hPw];exact hq2) hn2 hs2
     rw[hE,hF,hS] at hcr
     obtain⟨F0,hF0⟩:∃F0,F0=aal E Z1 a3_0 a3_1 a3_2:=⟨_,rfl⟩
     obtain⟨S0,hS0⟩:∃S0,S0=runS E Z1 a3_0 a3_1 a3_2:=⟨_,rfl⟩
     obtain⟨r0,hr0⟩:∃r0,r0=Gu E Z1 a3_0 a3_1 a3_2:=⟨_,rfl⟩
     rw[<-hF0,<-hS0,<-hr0] at hcr hcw
     rw[<-hF0,<-hr0] at hok
     obtain⟨s0,s1,s2,s3,s4,s5⟩:=S0
     have HWh:=Lib.hid hcw
     have HRu:=Lib.hid hcr
     have hcc:=fun V (hV:Below wr.heap.size wr V)=>cut_at hV (a:=oth M) (K:=K2) (P:=P) (Kd.bY HC2.out hB06w) hc2 hcut
     have HCu:=Lib.hid hcc
     have HNe:=Lib.hid (fun V A9 c9 (hV:Below wr.heap.size wr V) (hC:Kd.C Kd.string V A9 P.length P)=>new_at hV (c:=c9) hC (show P.length<=1000000 by omega))
     have HSS:=Lib.hid (fun V (hV:Below wr.heap.size wr V)=>(⟨(hV.cell (p:=⟨w.heap.size,0,none⟩) hxw).trans x0,(hV.cell (p:=⟨w.heap.size,1,none⟩) hxw).trans x1,(hV.cell (p:=⟨w.heap.size,2,none⟩) hxw).trans x2⟩:V.cell? ⟨w.heap.size,0,none⟩=some (.int .i64 a3_0)/\V.cell? ⟨w.heap.size,1,none⟩=some (.int .i64 a3_1)/\V.cell? ⟨w.heap.size,2,none⟩=some (.int .i64 a3_2)))
     have HQ:=Lib.hid (And.intro hok (And.intro hB06 bx))
     clear hq1 hq2 hn1 hn2 hs1 hs2 hE hF hS hok hcut hPw hPl hcw hcr hF0 hS0 hr0 hcc PW hB06 hB06w bx hMG hMl9 hosz hol x0 x1 x2
     go_upto_region 21 with fail
     go_cut [19,20] from 114 to 123 (fun v19 v20 wx=>∃(p1 p2:Nat),v19= .pointer (some ⟨p1,0,none⟩)/\v20= .pointer (some ⟨p2,0,none⟩)/\Hid (Fin21 wr F0 ⟨s0,s1,s2,s3,s4,s5⟩ r0 p1 p2 wx))
     case first=>
      refine wp_region_any (by kernel_rfl) ?_
      show wpAny _ _ _ _ _ _ _ wr.drew
      refine wpAny_take (i:=0) (v:=(.string a0)) rfl (by kernel_rfl) (by kernel_rfl) (by kernel_rfl) (fun _ _ _ h=>h) (Or.inl ⟨by rfl,fun w=>by go_simp⟩) ?_
      change wpAny _ _ _ _ _ _ (Act.put _ (some 114) _) _
      simp only[Act.put,List.setIfInBounds_toArray,List.set_cons_zero,List.set_cons_succ]
      refine wpAny_take (i:=3) (v:=(.string (oth M))) rfl (by kernel_rfl) (by kernel_rfl) (by kernel_rfl) (fun _ _ _ h=>h) (Or.inl ⟨by rfl,fun w=>by go_simp⟩) ?_
      change wpAny _ _ _ _ _ _ (Act.put _ (some 117) _) _
      simp only[Act.put,List.setIfInBounds_toArray,List.set_cons_zero,List.set_cons_succ]
      refine wpAny_take (i:=4) (v:=(.slice A2 l2.length c2)) rfl (by kernel_rfl) (by kernel_rfl) (by kernel_rfl) (fun _ _ _ h=>h) (Or.inl ⟨by rfl,fun w=>by go_simp⟩) ?_
      change wpAny _ _ _ _ _ _ (Act.put _ (some 118) _) _
      simp only[Act.put,List.setIfInBounds_toArray,List.set_cons_zero,List.set_cons_succ]
      refine Ow.FV (S:=fun w'=>w'.cell? ⟨w.heap.size,0,none⟩=some (.int .i64 a3_0)/\w'.cell? ⟨w.heap.size,1,none⟩=some (.int .i64 a3_1)/\w'.cell? ⟨w.heap.size,2,none⟩=some (.int .i64 a3_2)) (late:=fun _=>false) _ _ _ _ ?_
      have hq0:Below wr.heap.size wr wr.drew:=(Below.refl _ wr).drew
      refine Ow.Cf (i:=1) (v:=(.agg #[.int .i64 a3_0,.int .i64 a3_1,.int .i64 a3_2])) rfl (by kernel_rfl) (by kernel_rfl) (by kernel_rfl) (by kernel_rfl) (fun _ _ _ h=>h) (Or.inl ⟨by rfl,fun w hS=>by have h0:=hS.1;have h1:=hS.2.1;have h2:=hS.2.2;clear hS;go_simp⟩) (HSS.out _ hq0) ?_
      change Ow.oG _ _ _ _ _ _ _ _ (Act.put _ (some 115) _) _
      simp only[Act.put,List.setIfInBounds_toArray,List.set_cons_zero,List.set_cons_succ]
      refine Ow.Cf (i:=8) (v:=(.agg #[.int .i64 a3_0,.int .i64 a3_1,.int .i64 a3_2])) rfl (by kernel_rfl) (by kernel_rfl) (by kernel_rfl) (by kernel_rfl) (fun _ _ _ h=>h) (Or.inl ⟨by rfl,fun w hS=>by have h0:=hS.1;have h1:=hS.2.1;have h2:=hS.2.2;clear hS;go_simp⟩) (HSS.out _ hq0) ?_
      change Ow.oG _ _ _ _ _ _ _ _ (Act.put _ (some 122) _) _
      simp only[Act.put,List.setIfInBounds_toArray,List.set_cons_zero,List.set_cons_succ]
      refine start21 (wr:=wr) (a0:=a0) (aaN:=oth M) (aaI:= .agg #[.int .i64 a3_0,.int .i64 a3_1,.int .i64 a3_2]) (aaF:= .slice A2 l2.length c2) (P:=P) (F0:=F0) (S0:=⟨s0,s1,s2,s3,s4,s5⟩) (r0:=r0) ⟨⟨_,_,rfl,rfl,rfl,rfl⟩,⟨_,_,rfl,rfl,rfl,rfl⟩,⟨_,_,rfl,rfl,rfl,rfl⟩,⟨_,rfl,rfl,rfl,rfl⟩,⟨_,_,rfl,rfl,rfl,rfl⟩,⟨_,rfl,rfl,rfl,rfl⟩,⟨_,rfl,rfl,rfl,rfl⟩,⟨_,rfl,rfl,rfl,rfl⟩,⟨_,rfl,rfl,rfl,rfl⟩,fun k d1 d2 hk=>by rcases(show k=0\/k=1\/k=2\/k=3\/k=4\/k=5 by omega) with rfl|rfl|rfl|rfl|rfl|rfl<;>cases d1<;>cases d2<;>decide+kernel,by decide+kernel,by decide+kernel⟩ ⟨HWh.out,HCu.out,HNe.out,HRu.out⟩ ?size HSS.out rfl rfl rfl rfl rfl hq0 ?fin
      case size=>exact Nat.le_refl 173
      case fin=>
       intro s p1 p2 v1 v2 v3 v4 v5 W hs hF
       subst hs
       have HF:=Lib.hid hF
       clear hF
       simp only[aaJ.act,ot,List.setIfInBounds_toArray,List.set_cons_zero,List.set_cons_succ]
       go_wp2_with fail
       go_meet
       case rel=>exact⟨p1,p2,rfl,rfl,HF⟩
     case rest=>
      obtain⟨p1,p2,rfl,rfl,HK⟩:=hcut
      obtain⟨Av,aaE,lv,lw,cv,cw,n1,n2,k1,k2,hB21⟩:=HK.out
      obtain⟨y0,y1,y2,y3,y4,y5,y6,y7,y8,y9⟩:=nP k1
      obtain⟨z0,z1,z2,z3,z4,z5,z6',z7,z8,z9⟩:=nP k2
      have hB0V:Below W0.heap.size W0 wc:=HQ.out.2.1.trans (hB21.mono HQ.out.2.1.size)
      have HBV:=Lib.hid (And.intro hB0V (And.intro hB21 (And.intro k1 (HX.out.1.trans (hB0V.mono HX.out.1.size)))))
      have hFF:(F0.toList==F0.toList)=true:=by simp
      clear k1 k2 hB0V hB21 HK
      simp only at y2 y3 y4 y5 y6 y7 z2 z3 z4 z5 z6' z7
      by_cases hr0:r0=0
      ·obtain⟨herr,hF0⟩:=HQ.out.1 hr0
       subst hr0
       have yE:(M.map Ob.one).length=M.length:=List.length_map _
       have hm':m'=(fH [] M).1:=by rw[<-WH.out];rfl
       have hMe:=HMM.out.2.2.2.2.1
       obtain⟨htf,hts,hMl3,hTl⟩:=Br hMe HMM.out.2.2.1
       have hB1:Below wr.heap.size wr (wc.alloc (.cells #[.slice A7 M.length c7] 22)):=HBV.out.2.1.alloc HBV.out.2.1.size _
       have hO1:=(Fr.dL (S:=fun _=>False) hB1).own HR6.out (fun _ _ h=>h)
       have hb1:(wc.alloc (.cells #[.slice A7 M.length c7] 22)).cell? ⟨wc.heap.size,0,none⟩=some (.slice A7 (M.map Ob.one).length c7):=by rw[yE];exact aj (Bs.bG wc _) 0
       have hmg:=merge_c (b:=wc.heap.size) (c:=c7) (A:=A7) (Y:=M) (by rw[yE];exact hO1) hb1 (fun e=>by have h8:=HN6.out e;injection h8 with h8 h9 h10;exact⟨h8,h10⟩) (by omega) (fun y hy=>by have:=HMM.out.2.2.2.1 y hy;unfold maxLen;omega) HMM.out.2.2.2.2.2
       have e7:((fz (fH [] M).1).map wS)=lY M:=rfl
       have e8:(fz (fH [] M).1).length=(lY M).length:=by rw[<-e7,List.length_map]
       have htb:=fun V A c (hC:Kd.C lQ V A (lY M).length (lY M)) (hc:(lY M).length<=c)=>tab_m hC hc htf (show ko (lY M)<=6000 by unfold ko;omega) a3_0 a3_1 a3_2
       have htF:aay (lY M) a3_0 a3_1 a3_2=F0:=by unfold aay;rw[if_pos herr,hF0]
       rw[htF,herr] at htb
       have hfz:=fun V (hV:Below wr.heap.size wr V)=>PK (Pk.out.below hV) (by have:=HL2.out;omega)
       rw[hm'] at hfz
       have HMG:=Lib.hid hmg
       have HTB:=Lib.hid htb
       have HFZ:=Lib.hid hfz
       have HE:=Lib.hid (And.intro e7 (And.intro e8 (And.intro hTl hB1)))
       clear hmg htb hfz e7 e8 hTl hB1 hO1 hb1 yE hm' hMe htf hts htF hF0 herr
       go_upto_region 27 with(first
        |(go_at_call 34;refine HMG.out.mono ?_;clear HMG;rintro e V3 ⟨v3,rfl,ho3,hB3⟩;have H3:=Lib.hid (And.intro ho3 hB3);clear ho3 hB3)
        |fail)
       obtain⟨A9,c9,rfl⟩:=Bs.bU H3.out.1
       have h8:=HE.out.2.1
       obtain⟨_,hc9,hC9⟩:=OE H3.out.1 (by rw[h8];have h1:=HE.out.2.2.1;have h2:(lY M).length=(Bq M).length:=List.length_map _;omega)
       rw[h8] at hc9 ⊢
       rw[HE.out.1] at hC9
       have HCm:=Lib.hid (And.intro hC9 hc9)
       have sG:Below wr.heap.size wr V3:=HE.out.2.2.2.trans (H3.out.2.mono HE.out.2.2.2.size)
       have bx3:=(sG.block _ (Bs.bA HQ.out.2.2)).trans HQ.out.2.2
       have hVV:Below wc.heap.size wc V3:=((Below.refl _ wc).alloc (Nat.le_refl _) _).trans (H3.out.2.mono (by simp))
       have bp3:=(hVV.block _ (Bs.bA HBV.out.2.2.1)).trans HBV.out.2.2.1
       have hst:Below V3.heap.size V3 V3.drew/\V3.drew.cell? ⟨w.heap.size,0,none⟩=some (.int .i64 a3_0)/\V3.drew.cell? ⟨w.heap.size,1,none⟩=some (.int .i64 a3_1)/\V3.drew.cell? ⟨w.heap.size,2,none⟩=some (.int .i64 a3_2)/\V3.drew.cell? ⟨p1,0,none⟩=some (.string F0):=⟨(Below.refl _ V3).drew,aj bx3 0,aj bx3 1,aj bx3 2,aj bp3 0⟩
       have HBW:=Lib.hid (And.intro sG (HX.out.1.trans ((HQ.out.2.1.trans (sG.mono HQ.out.2.1.size)).mono HX.out.1.size)))
       obtain⟨N,hN⟩:∃N,N=(lY M).length:=⟨_,rfl⟩
       have HFZ2:Hid (∀V,Below wr.heap.size wr V->Calls Tryz.prog 35 #[.pointer (some ⟨_,0,none⟩)] V fun e w'=>∃A c,e= .returned (.slice A N c)/\N<=c/\Kd.C lQ w' A (lY M).length (lY M)/\Below V.heap.size V w'):=Lib.hid fun V hV=>by
        refine(HFZ.out V hV).mono ?_
        rintro e w' ⟨v,rfl,ho,hB⟩
        obtain⟨A,c,rfl⟩:=Bs.bU ho
        obtain⟨_,g1,g2⟩:=OE ho (by rw[h8];have h1:=HE.out.2.2.1;have h2:(lY M).length=(Bq M).length:=List.length_map _;omega)
        rw[h8] at g1
        rw[HE.out.1] at g2
        exact⟨A,c,by rw[hN,h8],by rw[hN];exact g1,g2,hB⟩
       have HTB2:Hid (∀V A c,Kd.C lQ V A (lY M).length (lY M)->N<=c->Calls Tryz.prog 10 #[.slice A N c,.agg #[.int .i64 a3_0,.int .i64 a3_1,.int .i64 a3_2]] V fun e w'=>Below V.heap.size V w'/\∃Am lm cm s6 n,e= .returned (uz F0 (.slice Am lm cm) s6 n 0)):=Lib.hid fun V A c h1 h2=>by
        rw[hN] at h2 ⊢
        refine(HTB.out V A c h1 h2).mono ?_
        rintro e w' ⟨hB,Am,cm,s6,n,rfl,_⟩
        exact⟨hB,Am,_,cm,s6,n,rfl⟩
       have HCN:=Lib.hid (show N<=c9 from by rw[hN];exact hc9)
       rw[<-hN]
       clear hN h8 HFZ HTB hc9 hC9 sG bx3 hVV bp3 HMM HE H3
       have hfd:=fun(W:World)=>field_file W F0
       go_region_held3 (fun w'=>Below V3.heap.size V3 w'/\w'.cell? ⟨w.heap.size,0,none⟩=some (.int .i64 a3_0)/\w'.cell? ⟨w.heap.size,1,none⟩=some (.int .i64 a3_1)/\w'.cell? ⟨w.heap.size,2,none⟩=some (.int .i64 a3_2)/\w'.cell? ⟨p1,0,none⟩=some (.string F0)) (first
        |exact hst
        |exact keep27 (by assumption) (by assumption)) (first
        |(go_at_call 35;refine(HFZ2.out _ (HBW.out.1.drew)).mono ?_;rintro e w5 ⟨A5,c5,rfl,hc5,hC5,wL⟩;have HC5:=Lib.hid (And.intro hC5 hc5);have GG:=Lib.hid (((Below.refl _ V3).drew).trans wL);clear hC5 hc5)
        |(go_at_call 10;refine(HTB2.out _ A5 c5 HC5.out.1 HC5.out.2).mono ?_;clear HC5;rintro e w6 ⟨xx,Am,lm,cm,s6,n6,rfl⟩;obtain⟨t0,t1,t2,t3,t4,t5⟩:=s6;unfold uz lW;simp only;have yJ:=Lib.hid (GG.out.trans (xx.mono GG.out.size)))
        |(go_at_call 10;refine(HTB2.out _ A9 c9 (Kd.bY HCm.out.1 yJ.out) HCN.out).mono ?_;rintro e w7 ⟨uu,Am2,lm2,cm2,s7,n7,rfl⟩;obtain⟨r0,r1,r2,r3,r4,r5⟩:=s7;unfold uz lW;simp only;have HB7:=Lib.hid (yJ.out.trans (uu.mono yJ.out.size))))
       go_wp2_with fail
       go_ret
       exact⟨rfl,HBW.out.2.trans (HB7.out.mono HBW.out.2.size)⟩
      ·go_wp2_with fail
       go_ret
       exact⟨rfl,HBV.out.2.2.2⟩
    |cons x R=>
     obtain⟨gk,rfl⟩:∃g,gk=g+1:=⟨R.length,by simpa using qy.symm⟩
     have hxi:M[D.length]?=some x:=by rw[HX2.out];simp
     have hlt:D.length<M.length:=(List.getElem?_eq_some_iff.1 hxi).1
     have hxm:=List.mem_of_getElem? hxi
     have hlt2:D.length<Y.length:=by rw[<-HMM.out.1];exact hlt
     obtain⟨g,hA4,hg1,hg2,hgc,hcl,hfz⟩:=gz HO6.out (by omega)
     have hgn:g≠wc.heap.size:=by
      obtain⟨g',e',_,hg',_⟩:=gz HO5.out (show 0<Y.length by omega)
      rw[hA4] at e'
      cases e'
      omega
     have e0:wr.cell? ⟨g,D.length,none⟩=some (.string x):=HF6.out.cell (hcl _ _ (by rw[List.getElem?_map,hxi];rfl)) hgn
     have hos:=oth_size D
     have hosn:=oth_snoc D x
     have hDs:(D.map ByteArray.size).sum+x.size<=300:=by
      have h1:=HMM.out.2.2.1
      rw[HX2.out,List.map_append,List.map_cons,List.sum_append,List.sum_cons] at h1
      omega
     have hgp:=gpB_size D.length
     obtain⟨od,hod⟩:∃od,od=oth D:=⟨_,rfl⟩
     obtain⟨gg,hgg⟩:∃gg,gg=gpB D.length:=⟨_,rfl⟩
     obtain⟨k3,hk3⟩:∃k3:Nat,k3=D.length%3:=⟨_,rfl⟩
     have hk3l:k3<3:=by rw[hk3];exact Nat.mod_lt _ (by omega)
     have hm3:Int.tmod (D.length:Int) 3=(k3:Int):=by rw[hk3];rfl
     have hgc3:∀W:World,(W.alloc (.cells #[.string ⟨#[32]⟩,.string ⟨#[10,10]⟩,.string ⟨#[9]⟩] 9)).cell? ⟨W.heap.size,k3,none⟩=some (.string gg):=fun W=>by
      rw[aj (bG W _) k3,hgg]
      unfold gpB
      rw[<-hk3]
      have h3:k3=0\/k3=1\/k3=2:=by omega
      rcases h3 with rfl|rfl|rfl<;>rfl
     rw[<-hod] at hos hosn ⊢
     rw[<-hgg] at hosn hgp
     have HOD:=Lib.hid (And.intro hod hosn)
     have f1:¬(9223372036854775807<(od.size:Int)+(gg.size:Int)):=by omega
     have f2:¬(9223372036854775807<(od.size:Int)+(gg.size:Int)+(x.size:Int)):=by omega
     have hk3i:(k3:Int)<3:=by omega
     have hgw:g<wr.heap.size:=blk_lt_cell e0
     have e1:∀o,(wr.alloc o).cell? ⟨g,D.length,none⟩=some (.string x):=fun o=>(((Below.refl _ wr).alloc (Nat.le_refl _) o).cell (p:=⟨g,D.length,none⟩) hgw).trans e0
     have e2:∀o,(wr.alloc o).drew.cell? ⟨g,D.length,none⟩=some (.string x):=e1
     have hc1:=hgc3 wr
     have hc2:=hgc3 wr.drew
     subst hA4
     have hSg:¬S' g:=fun h=>(HI6.out g h).elim (fun e=>hgn e) (fun h2=>by omega)
     have hcl1:=fun V (hV:Below wr.heap.size wr V)=>ctr_add (Pk.out.below hV) (by have:=HL2.out;omega) (s:=x) (by have:=HMM.out.2.2.2.1 x hxm;unfold maxLen;omega) (n:=1) (lD.mk (by omega) (by omega))
     have HQ:=WH.out
     rw[fH] at HQ
     have hml2:=LZ m' x 1
     obtain⟨m2,r,hmr⟩:∃m2 r,oQ m' x 1=(m2,r):=⟨_,_,rfl⟩
     rw[hmr] at hcl1 HQ hml2
     simp only at hcl1 HQ hml2
     have hr0:r=0:=by
      by_cases h:r=0
      ·exact h
      ·rw[if_neg h] at HQ
       have h2:=HMM.out.2.2.2.2.2
       rw[<-HQ] at h2
       exact absurd h2 h
     subst hr0
     rw[if_pos rfl] at HQ
     have Sa:=Lib.hid hcl1
     have HQQ:=Lib.hid (And.intro HQ (And.intro hml2 hSg))
     obtain⟨A7,c7,hv7⟩:=Bs.bU HR6.out
     subst hv7
     clear hod hosn hgg hk3 hgc3 hcl hos hDs hg1 hg2 hgn hxi hcl1 HQ hml2 hmr hSg hxm
     go_upto_region 18 with fail
     go_region
     go_wp2_with (first
      |(go_at_call 31;refine(Sa.out _ (((Below.refl _ wr).alloc (Nat.le_refl _) _).drew)).mono ?_;clear Sa;rintro e w7 ⟨rfl,S1,hs1,hf1,hi1⟩;have e7:w7.cell? ⟨g,D.length,none⟩=some (.string x):=hf1.cell (p:=⟨g,D.length,none⟩) (e2 _) HQQ.out.2.2;have Lg:=hf1.own (HR6.out.alloc _) (fun k hk=>HS6.out k hk);have H7:=Lib.hid (And.intro hs1 (And.intro hf1 (And.intro hi1 Lg)));clear hs1 hf1 hi1 Lg)
      |(at_builtin;refine wpList_append_own_at _ rfl _ _ 22 rfl w6.heap.size TWd i0 (.agg #[.string ByteArray.empty,.int .i64 0]) 2 24 Tryz.underlying22 hi0 hz0 hz1 hz2 rfl (by decide) _ _ _ rfl (H7.out.2.2.2.alloc _) _ 1 1 [.string x,.int .i64 1] rfl rfl ?c1 ?c2 ?c3 ?c4 ?c5 ?_))
     case c1=>exact mr _ _ _
     case c2=>intro u hu;simp at hu;rcases hu with rfl|rfl<;>rfl
     case c3=>unfold maxLen;omega
     case c4=>omega
     case c5=>have h1:=HF6.out.size;have h2:=H7.out.2.1.size;simp at h2 ⊢;omega
     intro v' w9 hown9 hgrow9 _ hat9
     have H9:=Lib.hid (And.intro hown9 (And.intro hgrow9 hat9))
     clear hown9 hgrow9 hat9
     go_wp2_with fail
     go_roundg R.length
     case measure=>simp at qy;omega
     case rel=>
      obtain⟨hs1,hf1,hi1,Lg⟩:=H7.out
      obtain⟨hown9,hgrow9,hat9⟩:=H9.out
      have hw7:wr.heap.size+1<=w7.heap.size:=by have h2:=hf1.size;simp at h2;omega
      have hf9:=((Fr.refl (fun k=>(Value.slice A7 D.length c7).ownBlock=some k) w7).alloc (.cells [.string x,.int .i64 1].toArray TWd)).grown hgrow9 (fun k hk=> .inl hk)
      have hin:=hs1.oq
      have hno:∀k,(Value.slice A7 D.length c7).ownBlock=some k->¬S1 k:=fun k hk h1=>by
       have h3:=(eG HR6.out hk).2
       rcases hi1 k h1 with h2|h2
       ·exact HS6.out k hk h2
       ·simp at h2;omega
      refine⟨D++[x],R,m2,S1,by rw[List.length_append,List.length_singleton];simp,by rw[HOD.out.2],rfl,Lib.hid (by rw[HX2.out];simp),Lib.hid HQQ.out.1,Lib.hid (by have:=HQQ.out.2.1;have:=HL2.out;rw[List.length_append,List.length_singleton];omega),Lib.hid (hs1.same fun k hk=>hf9.blk k (hin k hk).2 (fun e=>hno k e hk)),Lib.hid ?_,Lib.hid ?_,Lib.hid (fun e=>by simp at e),Lib.hid ?_,Lib.hid ?_⟩
      ·rw[List.length_append,List.length_singleton,List.map_append,List.flatMap_append,H6.out.2.2]
       exact hown9
      ·intro k hk h1
       rcases hat9 with e|e
       ·exact hno k (e▸hk) h1
       ·rw[e] at hk
        have h2:=(hin k h1).2
        have h3:=Option.some.inj hk
        omega
      ·have h1:=(((HF6.out.alloc _).drew).trans hf1 (fun k hk=>HI6.out k hk))
       exact h1.trans hf9 (fun k hk=> .inr (eG HR6.out hk).1)
      ·exact HI6.out.trans hi1 ((HF6.out.alloc _).drew).size
 ·cases h
end Go.Proofs.YtilpincgjlclpaaGreat.Pr
