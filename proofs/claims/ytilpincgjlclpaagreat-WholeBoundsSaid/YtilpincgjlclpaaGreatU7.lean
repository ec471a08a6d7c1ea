import Derived.Test.YtilpincgjlclpaaGreatU2
set_option linter.unusedVariables false
set_option linter.unusedSimpArgs false
namespace Go.Proofs.YtilpincgjlclpaaGreat.Pr
open Go.RowKit Go.Proofs.ae.au Go.Proofs.ae.aZ Go.Proofs.ae.bE
attribute [local go_sem] bQ min2_int cB min_two max_three min_three max_four min_four
def jr.f (eB:Int) (fo:Int) (ed:Int) (iX:Int) (iP:Int) (jw:Int) (a1:Int) (a2:Int):Option (Bool):=if eB=a1 then(if fo=a2 then(if ed>=0 then(if ed<=(wrap64 (5*a1)) then(if iP>=0 then(if iP<=(wrap64 ((wrap64 (5*a1))+1)) then(if iX>=0 then(if iX<=ed then(if jw>=0 then(some (decide (fo<=a1))) else(some false)) else(some false)) else(some false)) else(some false)) else(some false)) else(some false)) else(some false)) else(some false)) else(some false)
set_option maxHeartbeats 8000000 in
set_option maxRecDepth 100000 in
theorem jr.calls (eB:Int) (fo:Int) (ed:Int) (iX:Int) (iP:Int) (jw:Int) (a1:Int) (a2:Int) (r:Bool) (w:World) (h:jr.f eB fo ed iX iP jw a1 a2=some r):
  Calls Tryz.prog 28 #[.agg #[.int .i64 eB,.int .i64 fo,.int .i64 ed,.int .i64 iX,.int .i64 iP,.int .i64 jw],.int .i64 a1,.int .i64 a2] w fun e w'=>e= .returned (.bool r)/\Below w.heap.size w w':=by
 have hu29:=Tryz.underlying29
 have HB:=ai.mk (Below.refl w.heap.size w)
 have H:(if eB=a1 then(if fo=a2 then(if ed>=0 then(if ed<=(wrap64 (5*a1)) then(if iP>=0 then(if iP<=(wrap64 ((wrap64 (5*a1))+1)) then(if iX>=0 then(if iX<=ed then(if jw>=0 then(some (decide (fo<=a1))) else(some false)) else(some false)) else(some false)) else(some false)) else(some false)) else(some false)) else(some false)) else(some false)) else(some false))=some r:=h
 clear h
 by_cases c4:eB=a1
 ·rw[if_pos c4] at H
  have iw:(eB==a1)=true:=beq_iff_eq.mpr c4
  have ve:(eB != a1)=false:=bne_eq_false_iff_eq.mpr c4
  clear c4
  by_cases c5:fo=a2
  ·rw[if_pos c5] at H
   have iC:(fo==a2)=true:=beq_iff_eq.mpr c5
   have oD:(fo != a2)=false:=bne_eq_false_iff_eq.mpr c5
   clear c5
   by_cases c6:ed>=0
   ·rw[if_pos c6] at H
    have yR:decide (0<=ed)=true:=decide_eq_true c6
    clear c6
    by_cases c7:ed<=(wrap64 (5*a1))
    ·rw[if_pos c7] at H
     have jU:decide (ed<=(wrap64 (5*a1)))=true:=decide_eq_true c7
     clear c7
     by_cases c8:iP>=0
     ·rw[if_pos c8] at H
      have qN:decide (0<=iP)=true:=decide_eq_true c8
      clear c8
      by_cases c9:iP<=(wrap64 ((wrap64 (5*a1))+1))
      ·rw[if_pos c9] at H
       have qx:decide (iP<=(wrap64 ((wrap64 (5*a1))+1)))=true:=decide_eq_true c9
       clear c9
       by_cases c10:iX>=0
       ·rw[if_pos c10] at H
        have lU:decide (0<=iX)=true:=decide_eq_true c10
        clear c10
        by_cases c11:iX<=ed
        ·rw[if_pos c11] at H
         have kX:decide (iX<=ed)=true:=decide_eq_true c11
         clear c11
         by_cases c12:jw>=0
         ·rw[if_pos c12] at H
          have GQ:decide (0<=jw)=true:=decide_eq_true c12
          clear c12
          obtain rfl:=Option.some.inj H
          go_enter Tryz.func28,Tryz.ntmps28
          go_wp2_with (first|((with_reducible refine di (N:=3) rfl ?_);refine bW ?hg (N:=3) ?hd (cs:=#[.int .i64 eB,.int .i64 fo,.int .i64 ed,.int .i64 iX,.int .i64 iP,.int .i64 jw]) (t:=29) ?hr ?_;(case hd=>rfl);(case hg=>rfl);(case hr=>first|(go_simp;done)|(go_simp;rfl));intro dJ hg w13 dm hb;have bN:=ai.mk (bn (by repeat(first|(with_reducible first|exact HB.out|apply ag|apply af|apply ah)|exact HB.out)) hb);have bP:=ai.mk (dm);have cz:=ai.mk ((by rw[hg];exact(ay (by repeat(first|(with_reducible first|exact HB.out|apply ag|apply af|apply ah)|exact HB.out))):w.heap.size<=dJ));have fC:=ai.mk ((by rw[hg];exact(ay (by repeat(first|(with_reducible first|exact HB.out|apply ag|apply af|apply ah)|exact HB.out))):w.heap.size<=dJ));clear HB;have HB:=bN;have bS:=bP;have yH:=cz;have mO:=fC;clear bN bP cz fC;clear hb dm hg;have hcz14_0:w13.cell? ⟨dJ,0,none⟩=some (.int .i64 eB):=(ax bS.out 0).trans rfl;have hcz14_1:w13.cell? ⟨dJ,1,none⟩=some (.int .i64 fo):=(ax bS.out 1).trans rfl;have hcz14_2:w13.cell? ⟨dJ,2,none⟩=some (.int .i64 ed):=(ax bS.out 2).trans rfl;have hcz14_3:w13.cell? ⟨dJ,3,none⟩=some (.int .i64 iX):=(ax bS.out 3).trans rfl;have hcz14_4:w13.cell? ⟨dJ,4,none⟩=some (.int .i64 iP):=(ax bS.out 4).trans rfl;have hcz14_5:w13.cell? ⟨dJ,5,none⟩=some (.int .i64 jw):=(ax bS.out 5).trans rfl;have hfz14_0:=ak bS.out 0;have hfz14_1:=ak bS.out 1;have hfz14_2:=ak bS.out 2;have hfz14_3:=ak bS.out 3;have hfz14_4:=ak bS.out 4;have hfz14_5:=ak bS.out 5))
          go_ret
          exact⟨by first|rfl|(simp[aC,aD]<;>rfl)|(simp[*,aC,aD]<;>rfl),by repeat(first|(with_reducible first|exact HB.out|apply ag|apply af|apply ah|refine az ?_ mO.out)|exact HB.out)⟩
         ·rw[if_neg c12] at H
          have GQ:decide (0<=jw)=false:=decide_eq_false c12
          clear c12
          obtain rfl:=Option.some.inj H
          go_enter Tryz.func28,Tryz.ntmps28
          go_wp2_with (first|((with_reducible refine di (N:=3) rfl ?_);refine bW ?hg (N:=3) ?hd (cs:=#[.int .i64 eB,.int .i64 fo,.int .i64 ed,.int .i64 iX,.int .i64 iP,.int .i64 jw]) (t:=29) ?hr ?_;(case hd=>rfl);(case hg=>rfl);(case hr=>first|(go_simp;done)|(go_simp;rfl));intro dJ hg OY dm hb;have bN:=ai.mk (bn (by repeat(first|(with_reducible first|exact HB.out|apply ag|apply af|apply ah)|exact HB.out)) hb);have bP:=ai.mk (dm);have cz:=ai.mk ((by rw[hg];exact(ay (by repeat(first|(with_reducible first|exact HB.out|apply ag|apply af|apply ah)|exact HB.out))):w.heap.size<=dJ));have fC:=ai.mk ((by rw[hg];exact(ay (by repeat(first|(with_reducible first|exact HB.out|apply ag|apply af|apply ah)|exact HB.out))):w.heap.size<=dJ));clear HB;have HB:=bN;have bS:=bP;have yH:=cz;have mO:=fC;clear bN bP cz fC;clear hb dm hg;have wM:OY.cell? ⟨dJ,0,none⟩=some (.int .i64 eB):=(ax bS.out 0).trans rfl;have wN:OY.cell? ⟨dJ,1,none⟩=some (.int .i64 fo):=(ax bS.out 1).trans rfl;have Jr:OY.cell? ⟨dJ,2,none⟩=some (.int .i64 ed):=(ax bS.out 2).trans rfl;have hcz16_3:OY.cell? ⟨dJ,3,none⟩=some (.int .i64 iX):=(ax bS.out 3).trans rfl;have hcz16_4:OY.cell? ⟨dJ,4,none⟩=some (.int .i64 iP):=(ax bS.out 4).trans rfl;have hcz16_5:OY.cell? ⟨dJ,5,none⟩=some (.int .i64 jw):=(ax bS.out 5).trans rfl;have wO:=ak bS.out 0;have wP:=ak bS.out 1;have JJ:=ak bS.out 2;have hfz16_3:=ak bS.out 3;have hfz16_4:=ak bS.out 4;have hfz16_5:=ak bS.out 5))
          go_ret
          exact⟨by first|rfl|(simp[aC,aD]<;>rfl)|(simp[*,aC,aD]<;>rfl),by repeat(first|(with_reducible first|exact HB.out|apply ag|apply af|apply ah|refine az ?_ mO.out)|exact HB.out)⟩
        ·rw[if_neg c11] at H
         have kX:decide (iX<=ed)=false:=decide_eq_false c11
         clear c11
         obtain rfl:=Option.some.inj H
         go_enter Tryz.func28,Tryz.ntmps28
         go_wp2_with (first|((with_reducible refine di (N:=3) rfl ?_);refine bW ?hg (N:=3) ?hd (cs:=#[.int .i64 eB,.int .i64 fo,.int .i64 ed,.int .i64 iX,.int .i64 iP,.int .i64 jw]) (t:=29) ?hr ?_;(case hd=>rfl);(case hg=>rfl);(case hr=>first|(go_simp;done)|(go_simp;rfl));intro dJ hg Cv dm hb;have bN:=ai.mk (bn (by repeat(first|(with_reducible first|exact HB.out|apply ag|apply af|apply ah)|exact HB.out)) hb);have bP:=ai.mk (dm);have cz:=ai.mk ((by rw[hg];exact(ay (by repeat(first|(with_reducible first|exact HB.out|apply ag|apply af|apply ah)|exact HB.out))):w.heap.size<=dJ));have fC:=ai.mk ((by rw[hg];exact(ay (by repeat(first|(with_reducible first|exact HB.out|apply ag|apply af|apply ah)|exact HB.out))):w.heap.size<=dJ));clear HB;have HB:=bN;have bS:=bP;have yH:=cz;have mO:=fC;clear bN bP cz fC;clear hb dm hg;have CK:Cv.cell? ⟨dJ,0,none⟩=some (.int .i64 eB):=(ax bS.out 0).trans rfl;have CL:Cv.cell? ⟨dJ,1,none⟩=some (.int .i64 fo):=(ax bS.out 1).trans rfl;have Jv:Cv.cell? ⟨dJ,2,none⟩=some (.int .i64 ed):=(ax bS.out 2).trans rfl;have hcz18_3:Cv.cell? ⟨dJ,3,none⟩=some (.int .i64 iX):=(ax bS.out 3).trans rfl;have hcz18_4:Cv.cell? ⟨dJ,4,none⟩=some (.int .i64 iP):=(ax bS.out 4).trans rfl;have hcz18_5:Cv.cell? ⟨dJ,5,none⟩=some (.int .i64 jw):=(ax bS.out 5).trans rfl;have CQ:=ak bS.out 0;have CR:=ak bS.out 1;have JN:=ak bS.out 2;have hfz18_3:=ak bS.out 3;have hfz18_4:=ak bS.out 4;have hfz18_5:=ak bS.out 5))
         go_ret
         exact⟨by first|rfl|(simp[aC,aD]<;>rfl)|(simp[*,aC,aD]<;>rfl),by repeat(first|(with_reducible first|exact HB.out|apply ag|apply af|apply ah|refine az ?_ mO.out)|exact HB.out)⟩
       ·rw[if_neg c10] at H
        have lU:decide (0<=iX)=false:=decide_eq_false c10
        clear c10
        obtain rfl:=Option.some.inj H
        go_enter Tryz.func28,Tryz.ntmps28
        go_wp2_with (first|((with_reducible refine di (N:=3) rfl ?_);refine bW ?hg (N:=3) ?hd (cs:=#[.int .i64 eB,.int .i64 fo,.int .i64 ed,.int .i64 iX,.int .i64 iP,.int .i64 jw]) (t:=29) ?hr ?_;(case hd=>rfl);(case hg=>rfl);(case hr=>first|(go_simp;done)|(go_simp;rfl));intro dJ hg WT dm hb;have bN:=ai.mk (bn (by repeat(first|(with_reducible first|exact HB.out|apply ag|apply af|apply ah)|exact HB.out)) hb);have bP:=ai.mk (dm);have cz:=ai.mk ((by rw[hg];exact(ay (by repeat(first|(with_reducible first|exact HB.out|apply ag|apply af|apply ah)|exact HB.out))):w.heap.size<=dJ));have fC:=ai.mk ((by rw[hg];exact(ay (by repeat(first|(with_reducible first|exact HB.out|apply ag|apply af|apply ah)|exact HB.out))):w.heap.size<=dJ));clear HB;have HB:=bN;have bS:=bP;have yH:=cz;have mO:=fC;clear bN bP cz fC;clear hb dm hg;have hcz20_0:WT.cell? ⟨dJ,0,none⟩=some (.int .i64 eB):=(ax bS.out 0).trans rfl;have hcz20_1:WT.cell? ⟨dJ,1,none⟩=some (.int .i64 fo):=(ax bS.out 1).trans rfl;have hcz20_2:WT.cell? ⟨dJ,2,none⟩=some (.int .i64 ed):=(ax bS.out 2).trans rfl;have hcz20_3:WT.cell? ⟨dJ,3,none⟩=some (.int .i64 iX):=(ax bS.out 3).trans rfl;have hcz20_4:WT.cell? ⟨dJ,4,none⟩=some (.int .i64 iP):=(ax bS.out 4).trans rfl;have hcz20_5:WT.cell? ⟨dJ,5,none⟩=some (.int .i64 jw):=(ax bS.out 5).trans rfl;have hfz20_0:=ak bS.out 0;have hfz20_1:=ak bS.out 1;have hfz20_2:=ak bS.out 2;have hfz20_3:=ak bS.out 3;have hfz20_4:=ak bS.out 4;have hfz20_5:=ak bS.out 5))
        go_ret
        exact⟨by first|rfl|(simp[aC,aD]<;>rfl)|(simp[*,aC,aD]<;>rfl),by repeat(first|(with_reducible first|exact HB.out|apply ag|apply af|apply ah|refine az ?_ mO.out)|exact HB.out)⟩
      ·rw[if_neg c9] at H
       have qx:decide (iP<=(wrap64 ((wrap64 (5*a1))+1)))=false:=decide_eq_false c9
       clear c9
       obtain rfl:=Option.some.inj H
       go_enter Tryz.func28,Tryz.ntmps28
       go_wp2_with (first|((with_reducible refine di (N:=3) rfl ?_);refine bW ?hg (N:=3) ?hd (cs:=#[.int .i64 eB,.int .i64 fo,.int .i64 ed,.int .i64 iX,.int .i64 iP,.int .i64 jw]) (t:=29) ?hr ?_;(case hd=>rfl);(case hg=>rfl);(case hr=>first|(go_simp;done)|(go_simp;rfl));intro dJ hg w21 dm hb;have bN:=ai.mk (bn (by repeat(first|(with_reducible first|exact HB.out|apply ag|apply af|apply ah)|exact HB.out)) hb);have bP:=ai.mk (dm);have cz:=ai.mk ((by rw[hg];exact(ay (by repeat(first|(with_reducible first|exact HB.out|apply ag|apply af|apply ah)|exact HB.out))):w.heap.size<=dJ));have fC:=ai.mk ((by rw[hg];exact(ay (by repeat(first|(with_reducible first|exact HB.out|apply ag|apply af|apply ah)|exact HB.out))):w.heap.size<=dJ));clear HB;have HB:=bN;have bS:=bP;have yH:=cz;have mO:=fC;clear bN bP cz fC;clear hb dm hg;have hcz22_0:w21.cell? ⟨dJ,0,none⟩=some (.int .i64 eB):=(ax bS.out 0).trans rfl;have hcz22_1:w21.cell? ⟨dJ,1,none⟩=some (.int .i64 fo):=(ax bS.out 1).trans rfl;have hcz22_2:w21.cell? ⟨dJ,2,none⟩=some (.int .i64 ed):=(ax bS.out 2).trans rfl;have hcz22_3:w21.cell? ⟨dJ,3,none⟩=some (.int .i64 iX):=(ax bS.out 3).trans rfl;have hcz22_4:w21.cell? ⟨dJ,4,none⟩=some (.int .i64 iP):=(ax bS.out 4).trans rfl;have hcz22_5:w21.cell? ⟨dJ,5,none⟩=some (.int .i64 jw):=(ax bS.out 5).trans rfl;have hfz22_0:=ak bS.out 0;have hfz22_1:=ak bS.out 1;have hfz22_2:=ak bS.out 2;have hfz22_3:=ak bS.out 3;have hfz22_4:=ak bS.out 4;have hfz22_5:=ak bS.out 5))
       go_ret
       exact⟨by first|rfl|(simp[aC,aD]<;>rfl)|(simp[*,aC,aD]<;>rfl),by repeat(first|(with_reducible first|exact HB.out|apply ag|apply af|apply ah|refine az ?_ mO.out)|exact HB.out)⟩
     ·rw[if_neg c8] at H
      have qN:decide (0<=iP)=false:=decide_eq_false c8
      clear c8
      obtain rfl:=Option.some.inj H
      go_enter Tryz.func28,Tryz.ntmps28
      go_wp2_with (first|((with_reducible refine di (N:=3) rfl ?_);refine bW ?hg (N:=3) ?hd (cs:=#[.int .i64 eB,.int .i64 fo,.int .i64 ed,.int .i64 iX,.int .i64 iP,.int .i64 jw]) (t:=29) ?hr ?_;(case hd=>rfl);(case hg=>rfl);(case hr=>first|(go_simp;done)|(go_simp;rfl));intro dJ hg OZ dm hb;have bN:=ai.mk (bn (by repeat(first|(with_reducible first|exact HB.out|apply ag|apply af|apply ah)|exact HB.out)) hb);have bP:=ai.mk (dm);have cz:=ai.mk ((by rw[hg];exact(ay (by repeat(first|(with_reducible first|exact HB.out|apply ag|apply af|apply ah)|exact HB.out))):w.heap.size<=dJ));have fC:=ai.mk ((by rw[hg];exact(ay (by repeat(first|(with_reducible first|exact HB.out|apply ag|apply af|apply ah)|exact HB.out))):w.heap.size<=dJ));clear HB;have HB:=bN;have bS:=bP;have yH:=cz;have mO:=fC;clear bN bP cz fC;clear hb dm hg;have hcz24_0:OZ.cell? ⟨dJ,0,none⟩=some (.int .i64 eB):=(ax bS.out 0).trans rfl;have hcz24_1:OZ.cell? ⟨dJ,1,none⟩=some (.int .i64 fo):=(ax bS.out 1).trans rfl;have hcz24_2:OZ.cell? ⟨dJ,2,none⟩=some (.int .i64 ed):=(ax bS.out 2).trans rfl;have hcz24_3:OZ.cell? ⟨dJ,3,none⟩=some (.int .i64 iX):=(ax bS.out 3).trans rfl;have hcz24_4:OZ.cell? ⟨dJ,4,none⟩=some (.int .i64 iP):=(ax bS.out 4).trans rfl;have hcz24_5:OZ.cell? ⟨dJ,5,none⟩=some (.int .i64 jw):=(ax bS.out 5).trans rfl;have hfz24_0:=ak bS.out 0;have hfz24_1:=ak bS.out 1;have hfz24_2:=ak bS.out 2;have hfz24_3:=ak bS.out 3;have hfz24_4:=ak bS.out 4;have hfz24_5:=ak bS.out 5))
      go_ret
      exact⟨by first|rfl|(simp[aC,aD]<;>rfl)|(simp[*,aC,aD]<;>rfl),by repeat(first|(with_reducible first|exact HB.out|apply ag|apply af|apply ah|refine az ?_ mO.out)|exact HB.out)⟩
    ·rw[if_neg c7] at H
     have jU:decide (ed<=(wrap64 (5*a1)))=false:=decide_eq_false c7
     clear c7
     obtain rfl:=Option.some.inj H
     go_enter Tryz.func28,Tryz.ntmps28
     go_wp2_with (first|((with_reducible refine di (N:=3) rfl ?_);refine bW ?hg (N:=3) ?hd (cs:=#[.int .i64 eB,.int .i64 fo,.int .i64 ed,.int .i64 iX,.int .i64 iP,.int .i64 jw]) (t:=29) ?hr ?_;(case hd=>rfl);(case hg=>rfl);(case hr=>first|(go_simp;done)|(go_simp;rfl));intro dJ hg w25 dm hb;have bN:=ai.mk (bn (by repeat(first|(with_reducible first|exact HB.out|apply ag|apply af|apply ah)|exact HB.out)) hb);have bP:=ai.mk (dm);have cz:=ai.mk ((by rw[hg];exact(ay (by repeat(first|(with_reducible first|exact HB.out|apply ag|apply af|apply ah)|exact HB.out))):w.heap.size<=dJ));have fC:=ai.mk ((by rw[hg];exact(ay (by repeat(first|(with_reducible first|exact HB.out|apply ag|apply af|apply ah)|exact HB.out))):w.heap.size<=dJ));clear HB;have HB:=bN;have bS:=bP;have yH:=cz;have mO:=fC;clear bN bP cz fC;clear hb dm hg;have SS:w25.cell? ⟨dJ,0,none⟩=some (.int .i64 eB):=(ax bS.out 0).trans rfl;have SV:w25.cell? ⟨dJ,1,none⟩=some (.int .i64 fo):=(ax bS.out 1).trans rfl;have hcz26_2:w25.cell? ⟨dJ,2,none⟩=some (.int .i64 ed):=(ax bS.out 2).trans rfl;have hcz26_3:w25.cell? ⟨dJ,3,none⟩=some (.int .i64 iX):=(ax bS.out 3).trans rfl;have hcz26_4:w25.cell? ⟨dJ,4,none⟩=some (.int .i64 iP):=(ax bS.out 4).trans rfl;have hcz26_5:w25.cell? ⟨dJ,5,none⟩=some (.int .i64 jw):=(ax bS.out 5).trans rfl;have Td:=ak bS.out 0;have Te:=ak bS.out 1;have hfz26_2:=ak bS.out 2;have hfz26_3:=ak bS.out 3;have hfz26_4:=ak bS.out 4;have hfz26_5:=ak bS.out 5))
     go_ret
     exact⟨by first|rfl|(simp[aC,aD]<;>rfl)|(simp[*,aC,aD]<;>rfl),by repeat(first|(with_reducible first|exact HB.out|apply ag|apply af|apply ah|refine az ?_ mO.out)|exact HB.out)⟩
   ·rw[if_neg c6] at H
    have yR:decide (0<=ed)=false:=decide_eq_false c6
    clear c6
    obtain rfl:=Option.some.inj H
    go_enter Tryz.func28,Tryz.ntmps28
    go_wp2_with (first|((with_reducible refine di (N:=3) rfl ?_);refine bW ?hg (N:=3) ?hd (cs:=#[.int .i64 eB,.int .i64 fo,.int .i64 ed,.int .i64 iX,.int .i64 iP,.int .i64 jw]) (t:=29) ?hr ?_;(case hd=>rfl);(case hg=>rfl);(case hr=>first|(go_simp;done)|(go_simp;rfl));intro dJ hg w27 dm hb;have bN:=ai.mk (bn (by repeat(first|(with_reducible first|exact HB.out|apply ag|apply af|apply ah)|exact HB.out)) hb);have bP:=ai.mk (dm);have cz:=ai.mk ((by rw[hg];exact(ay (by repeat(first|(with_reducible first|exact HB.out|apply ag|apply af|apply ah)|exact HB.out))):w.heap.size<=dJ));have fC:=ai.mk ((by rw[hg];exact(ay (by repeat(first|(with_reducible first|exact HB.out|apply ag|apply af|apply ah)|exact HB.out))):w.heap.size<=dJ));clear HB;have HB:=bN;have bS:=bP;have yH:=cz;have mO:=fC;clear bN bP cz fC;clear hb dm hg;have hcz28_0:w27.cell? ⟨dJ,0,none⟩=some (.int .i64 eB):=(ax bS.out 0).trans rfl;have hcz28_1:w27.cell? ⟨dJ,1,none⟩=some (.int .i64 fo):=(ax bS.out 1).trans rfl;have hcz28_2:w27.cell? ⟨dJ,2,none⟩=some (.int .i64 ed):=(ax bS.out 2).trans rfl;have hcz28_3:w27.cell? ⟨dJ,3,none⟩=some (.int .i64 iX):=(ax bS.out 3).trans rfl;have hcz28_4:w27.cell? ⟨dJ,4,none⟩=some (.int .i64 iP):=(ax bS.out 4).trans rfl;have hcz28_5:w27.cell? ⟨dJ,5,none⟩=some (.int .i64 jw):=(ax bS.out 5).trans rfl;have hfz28_0:=ak bS.out 0;have hfz28_1:=ak bS.out 1;have hfz28_2:=ak bS.out 2;have hfz28_3:=ak bS.out 3;have hfz28_4:=ak bS.out 4;have hfz28_5:=ak bS.out 5))
    go_ret
    exact⟨by first|rfl|(simp[aC,aD]<;>rfl)|(simp[*,aC,aD]<;>rfl),by repeat(first|(with_reducible first|exact HB.out|apply ag|apply af|apply ah|refine az ?_ mO.out)|exact HB.out)⟩
  ·rw[if_neg c5] at H
   have iC:(fo==a2)=false:=beq_eq_false_iff_ne.mpr c5
   have oD:(fo != a2)=true:=bne_iff_ne.mpr c5
   obtain rfl:=Option.some.inj H
   go_enter Tryz.func28,Tryz.ntmps28
   go_wp2_with (first|((with_reducible refine di (N:=3) rfl ?_);refine bW ?hg (N:=3) ?hd (cs:=#[.int .i64 eB,.int .i64 fo,.int .i64 ed,.int .i64 iX,.int .i64 iP,.int .i64 jw]) (t:=29) ?hr ?_;(case hd=>rfl);(case hg=>rfl);(case hr=>first|(go_simp;done)|(go_simp;rfl));intro dJ hg w29 dm hb;have bN:=ai.mk (bn (by repeat(first|(with_reducible first|exact HB.out|apply ag|apply af|apply ah)|exact HB.out)) hb);have bP:=ai.mk (dm);have cz:=ai.mk ((by rw[hg];exact(ay (by repeat(first|(with_reducible first|exact HB.out|apply ag|apply af|apply ah)|exact HB.out))):w.heap.size<=dJ));have fC:=ai.mk ((by rw[hg];exact(ay (by repeat(first|(with_reducible first|exact HB.out|apply ag|apply af|apply ah)|exact HB.out))):w.heap.size<=dJ));clear HB;have HB:=bN;have bS:=bP;have yH:=cz;have mO:=fC;clear bN bP cz fC;clear hb dm hg;have hcz30_0:w29.cell? ⟨dJ,0,none⟩=some (.int .i64 eB):=(ax bS.out 0).trans rfl;have hcz30_1:w29.cell? ⟨dJ,1,none⟩=some (.int .i64 fo):=(ax bS.out 1).trans rfl;have hcz30_2:w29.cell? ⟨dJ,2,none⟩=some (.int .i64 ed):=(ax bS.out 2).trans rfl;have hcz30_3:w29.cell? ⟨dJ,3,none⟩=some (.int .i64 iX):=(ax bS.out 3).trans rfl;have hcz30_4:w29.cell? ⟨dJ,4,none⟩=some (.int .i64 iP):=(ax bS.out 4).trans rfl;have hcz30_5:w29.cell? ⟨dJ,5,none⟩=some (.int .i64 jw):=(ax bS.out 5).trans rfl;have hfz30_0:=ak bS.out 0;have hfz30_1:=ak bS.out 1;have hfz30_2:=ak bS.out 2;have hfz30_3:=ak bS.out 3;have hfz30_4:=ak bS.out 4;have hfz30_5:=ak bS.out 5))
   go_ret
   exact⟨by first|rfl|(simp[aC,aD]<;>rfl)|(simp[*,aC,aD]<;>rfl),by repeat(first|(with_reducible first|exact HB.out|apply ag|apply af|apply ah|refine az ?_ mO.out)|exact HB.out)⟩
 ·rw[if_neg c4] at H
  have iw:(eB==a1)=false:=beq_eq_false_iff_ne.mpr c4
  have ve:(eB != a1)=true:=bne_iff_ne.mpr c4
  obtain rfl:=Option.some.inj H
  go_enter Tryz.func28,Tryz.ntmps28
  go_wp2_with (first|((with_reducible refine di (N:=3) rfl ?_);refine bW ?hg (N:=3) ?hd (cs:=#[.int .i64 eB,.int .i64 fo,.int .i64 ed,.int .i64 iX,.int .i64 iP,.int .i64 jw]) (t:=29) ?hr ?_;(case hd=>rfl);(case hg=>rfl);(case hr=>first|(go_simp;done)|(go_simp;rfl));intro dJ hg w31 dm hb;have bN:=ai.mk (bn (by repeat(first|(with_reducible first|exact HB.out|apply ag|apply af|apply ah)|exact HB.out)) hb);have bP:=ai.mk (dm);have cz:=ai.mk ((by rw[hg];exact(ay (by repeat(first|(with_reducible first|exact HB.out|apply ag|apply af|apply ah)|exact HB.out))):w.heap.size<=dJ));have fC:=ai.mk ((by rw[hg];exact(ay (by repeat(first|(with_reducible first|exact HB.out|apply ag|apply af|apply ah)|exact HB.out))):w.heap.size<=dJ));clear HB;have HB:=bN;have bS:=bP;have yH:=cz;have mO:=fC;clear bN bP cz fC;clear hb dm hg;have hcz32_0:w31.cell? ⟨dJ,0,none⟩=some (.int .i64 eB):=(ax bS.out 0).trans rfl;have hcz32_1:w31.cell? ⟨dJ,1,none⟩=some (.int .i64 fo):=(ax bS.out 1).trans rfl;have hcz32_2:w31.cell? ⟨dJ,2,none⟩=some (.int .i64 ed):=(ax bS.out 2).trans rfl;have hcz32_3:w31.cell? ⟨dJ,3,none⟩=some (.int .i64 iX):=(ax bS.out 3).trans rfl;have hcz32_4:w31.cell? ⟨dJ,4,none⟩=some (.int .i64 iP):=(ax bS.out 4).trans rfl;have hcz32_5:w31.cell? ⟨dJ,5,none⟩=some (.int .i64 jw):=(ax bS.out 5).trans rfl;have hfz32_0:=ak bS.out 0;have hfz32_1:=ak bS.out 1;have hfz32_2:=ak bS.out 2;have hfz32_3:=ak bS.out 3;have hfz32_4:=ak bS.out 4;have hfz32_5:=ak bS.out 5))
  go_ret
  exact⟨by first|rfl|(simp[aC,aD]<;>rfl)|(simp[*,aC,aD]<;>rfl),by repeat(first|(with_reducible first|exact HB.out|apply ag|apply af|apply ah|refine az ?_ mO.out)|exact HB.out)⟩
end Go.Proofs.YtilpincgjlclpaaGreat.Pr
