import Derived.Test.YtilpincgjlclpaaGreatB2
set_option linter.unusedVariables false
set_option linter.unusedSimpArgs false
section
namespace Go.Proofs.YtilpincgjlclpaaGreat.Pr
open Go.RowKit Go.Proofs.ae.au Go.Proofs.ae.aZ Go.Proofs.ae.bE
attribute [local go_sem] bQ min2_int cB min_two max_three min_three max_four min_four
def fV.f (eB:Int) (fo:Int) (ed:Int):Option (Int):=if eB<0 then(some 2) else(if eB>1048576 then(some 2) else(if fo<1 then(some 2) else(if ed<1 then(some 2) else(if ed>65536 then(some 2) else(some 0)))))
set_option maxHeartbeats 8000000 in
set_option maxRecDepth 100000 in
theorem fV.calls (eB:Int) (fo:Int) (ed:Int) (r:Int) (w:World) (h:fV.f eB fo ed=some r):
  Calls Tryz.prog 62 #[.agg #[.int .i64 eB,.int .i64 fo,.int .i64 ed]] w fun e w'=>e= .returned (.int .i64 r)/\Below w.heap.size w w':=by
 have hu24:=Tryz.underlying24
 have HB:=ai.mk (Below.refl w.heap.size w)
 have H:(if eB<0 then(some 2) else(if eB>1048576 then(some 2) else(if fo<1 then(some 2) else(if ed<1 then(some 2) else(if ed>65536 then(some 2) else(some 0))))))=some r:=h
 clear h
 by_cases c2:eB<0
 ·rw[if_pos c2] at H
  have jV:decide (eB<0)=true:=decide_eq_true c2
  clear c2
  obtain rfl:=Option.some.inj H
  go_enter Tryz.func62,Tryz.ntmps62
  go_wp2_with (first|((with_reducible refine di (N:=1) rfl ?_);refine bW ?hg (N:=1) ?hd (cs:=#[.int .i64 eB,.int .i64 fo,.int .i64 ed]) (t:=24) ?hr ?_;(case hd=>rfl);(case hg=>rfl);(case hr=>first|(go_simp;done)|(go_simp;rfl));intro jq hg w3 dm hb;have bN:=ai.mk (bn (by repeat(first|(with_reducible first|exact HB.out|apply ag|apply af|apply ah)|exact HB.out)) hb);have bP:=ai.mk (dm);have cz:=ai.mk ((by rw[hg];exact(ay (by repeat(first|(with_reducible first|exact HB.out|apply ag|apply af|apply ah)|exact HB.out))):w.heap.size<=jq));have fC:=ai.mk ((by rw[hg];exact(ay (by repeat(first|(with_reducible first|exact HB.out|apply ag|apply af|apply ah)|exact HB.out))):w.heap.size<=jq));clear HB;have HB:=bN;have iF:=bP;have Ls:=cz;have uF:=fC;clear bN bP cz fC;clear hb dm hg;have PZ:w3.cell? ⟨jq,0,none⟩=some (.int .i64 eB):=(ax iF.out 0).trans rfl;have Qa:w3.cell? ⟨jq,1,none⟩=some (.int .i64 fo):=(ax iF.out 1).trans rfl;have Qb:w3.cell? ⟨jq,2,none⟩=some (.int .i64 ed):=(ax iF.out 2).trans rfl;have Qc:=ak iF.out 0;have Qd:=ak iF.out 1;have Qe:=ak iF.out 2))
  go_ret
  exact⟨by first|rfl|(simp[aC,aD]<;>rfl)|(simp[*,aC,aD]<;>rfl),by repeat(first|(with_reducible first|exact HB.out|apply ag|apply af|apply ah|refine az ?_ uF.out)|exact HB.out)⟩
 ·rw[if_neg c2] at H
  have jV:decide (eB<0)=false:=decide_eq_false c2
  clear c2
  by_cases c5:eB>1048576
  ·rw[if_pos c5] at H
   have iC:decide (1048576<eB)=true:=decide_eq_true c5
   clear c5
   obtain rfl:=Option.some.inj H
   go_enter Tryz.func62,Tryz.ntmps62
   go_wp2_with (first|((with_reducible refine di (N:=1) rfl ?_);refine bW ?hg (N:=1) ?hd (cs:=#[.int .i64 eB,.int .i64 fo,.int .i64 ed]) (t:=24) ?hr ?_;(case hd=>rfl);(case hg=>rfl);(case hr=>first|(go_simp;done)|(go_simp;rfl));intro jq hg w6 dm hb;have bN:=ai.mk (bn (by repeat(first|(with_reducible first|exact HB.out|apply ag|apply af|apply ah)|exact HB.out)) hb);have bP:=ai.mk (dm);have cz:=ai.mk ((by rw[hg];exact(ay (by repeat(first|(with_reducible first|exact HB.out|apply ag|apply af|apply ah)|exact HB.out))):w.heap.size<=jq));have fC:=ai.mk ((by rw[hg];exact(ay (by repeat(first|(with_reducible first|exact HB.out|apply ag|apply af|apply ah)|exact HB.out))):w.heap.size<=jq));clear HB;have HB:=bN;have iF:=bP;have Ls:=cz;have uF:=fC;clear bN bP cz fC;clear hb dm hg;have JA:w6.cell? ⟨jq,0,none⟩=some (.int .i64 eB):=(ax iF.out 0).trans rfl;have JB:w6.cell? ⟨jq,1,none⟩=some (.int .i64 fo):=(ax iF.out 1).trans rfl;have YT:w6.cell? ⟨jq,2,none⟩=some (.int .i64 ed):=(ax iF.out 2).trans rfl;have JS:=ak iF.out 0;have JU:=ak iF.out 1;have YX:=ak iF.out 2))
   go_ret
   exact⟨by first|rfl|(simp[aC,aD]<;>rfl)|(simp[*,aC,aD]<;>rfl),by repeat(first|(with_reducible first|exact HB.out|apply ag|apply af|apply ah|refine az ?_ uF.out)|exact HB.out)⟩
  ·rw[if_neg c5] at H
   have iC:decide (1048576<eB)=false:=decide_eq_false c5
   clear c5
   by_cases c8:fo<1
   ·rw[if_pos c8] at H
    have qN:decide (fo<1)=true:=decide_eq_true c8
    clear c8
    obtain rfl:=Option.some.inj H
    go_enter Tryz.func62,Tryz.ntmps62
    go_wp2_with (first|((with_reducible refine di (N:=1) rfl ?_);refine bW ?hg (N:=1) ?hd (cs:=#[.int .i64 eB,.int .i64 fo,.int .i64 ed]) (t:=24) ?hr ?_;(case hd=>rfl);(case hg=>rfl);(case hr=>first|(go_simp;done)|(go_simp;rfl));intro jq hg w9 dm hb;have bN:=ai.mk (bn (by repeat(first|(with_reducible first|exact HB.out|apply ag|apply af|apply ah)|exact HB.out)) hb);have bP:=ai.mk (dm);have cz:=ai.mk ((by rw[hg];exact(ay (by repeat(first|(with_reducible first|exact HB.out|apply ag|apply af|apply ah)|exact HB.out))):w.heap.size<=jq));have fC:=ai.mk ((by rw[hg];exact(ay (by repeat(first|(with_reducible first|exact HB.out|apply ag|apply af|apply ah)|exact HB.out))):w.heap.size<=jq));clear HB;have HB:=bN;have iF:=bP;have Ls:=cz;have uF:=fC;clear bN bP cz fC;clear hb dm hg;have Jp:w9.cell? ⟨jq,0,none⟩=some (.int .i64 eB):=(ax iF.out 0).trans rfl;have Jq:w9.cell? ⟨jq,1,none⟩=some (.int .i64 fo):=(ax iF.out 1).trans rfl;have hcz10_2:w9.cell? ⟨jq,2,none⟩=some (.int .i64 ed):=(ax iF.out 2).trans rfl;have JH:=ak iF.out 0;have JI:=ak iF.out 1;have hfz10_2:=ak iF.out 2))
    go_ret
    exact⟨by first|rfl|(simp[aC,aD]<;>rfl)|(simp[*,aC,aD]<;>rfl),by repeat(first|(with_reducible first|exact HB.out|apply ag|apply af|apply ah|refine az ?_ uF.out)|exact HB.out)⟩
   ·rw[if_neg c8] at H
    have qN:decide (fo<1)=false:=decide_eq_false c8
    clear c8
    by_cases c11:ed<1
    ·rw[if_pos c11] at H
     have kX:decide (ed<1)=true:=decide_eq_true c11
     clear c11
     obtain rfl:=Option.some.inj H
     go_enter Tryz.func62,Tryz.ntmps62
     go_wp2_with (first|((with_reducible refine di (N:=1) rfl ?_);refine bW ?hg (N:=1) ?hd (cs:=#[.int .i64 eB,.int .i64 fo,.int .i64 ed]) (t:=24) ?hr ?_;(case hd=>rfl);(case hg=>rfl);(case hr=>first|(go_simp;done)|(go_simp;rfl));intro jq hg RS dm hb;have bN:=ai.mk (bn (by repeat(first|(with_reducible first|exact HB.out|apply ag|apply af|apply ah)|exact HB.out)) hb);have bP:=ai.mk (dm);have cz:=ai.mk ((by rw[hg];exact(ay (by repeat(first|(with_reducible first|exact HB.out|apply ag|apply af|apply ah)|exact HB.out))):w.heap.size<=jq));have fC:=ai.mk ((by rw[hg];exact(ay (by repeat(first|(with_reducible first|exact HB.out|apply ag|apply af|apply ah)|exact HB.out))):w.heap.size<=jq));clear HB;have HB:=bN;have iF:=bP;have Ls:=cz;have uF:=fC;clear bN bP cz fC;clear hb dm hg;have zi:RS.cell? ⟨jq,0,none⟩=some (.int .i64 eB):=(ax iF.out 0).trans rfl;have zk:RS.cell? ⟨jq,1,none⟩=some (.int .i64 fo):=(ax iF.out 1).trans rfl;have hcz13_2:RS.cell? ⟨jq,2,none⟩=some (.int .i64 ed):=(ax iF.out 2).trans rfl;have zl:=ak iF.out 0;have zm:=ak iF.out 1;have hfz13_2:=ak iF.out 2))
     go_ret
     exact⟨by first|rfl|(simp[aC,aD]<;>rfl)|(simp[*,aC,aD]<;>rfl),by repeat(first|(with_reducible first|exact HB.out|apply ag|apply af|apply ah|refine az ?_ uF.out)|exact HB.out)⟩
    ·rw[if_neg c11] at H
     have kX:decide (ed<1)=false:=decide_eq_false c11
     clear c11
     by_cases c14:ed>65536
     ·rw[if_pos c14] at H
      have uj:decide (65536<ed)=true:=decide_eq_true c14
      clear c14
      obtain rfl:=Option.some.inj H
      go_enter Tryz.func62,Tryz.ntmps62
      go_wp2_with (first|((with_reducible refine di (N:=1) rfl ?_);refine bW ?hg (N:=1) ?hd (cs:=#[.int .i64 eB,.int .i64 fo,.int .i64 ed]) (t:=24) ?hr ?_;(case hd=>rfl);(case hg=>rfl);(case hr=>first|(go_simp;done)|(go_simp;rfl));intro jq hg OY dm hb;have bN:=ai.mk (bn (by repeat(first|(with_reducible first|exact HB.out|apply ag|apply af|apply ah)|exact HB.out)) hb);have bP:=ai.mk (dm);have cz:=ai.mk ((by rw[hg];exact(ay (by repeat(first|(with_reducible first|exact HB.out|apply ag|apply af|apply ah)|exact HB.out))):w.heap.size<=jq));have fC:=ai.mk ((by rw[hg];exact(ay (by repeat(first|(with_reducible first|exact HB.out|apply ag|apply af|apply ah)|exact HB.out))):w.heap.size<=jq));clear HB;have HB:=bN;have iF:=bP;have Ls:=cz;have uF:=fC;clear bN bP cz fC;clear hb dm hg;have wM:OY.cell? ⟨jq,0,none⟩=some (.int .i64 eB):=(ax iF.out 0).trans rfl;have wN:OY.cell? ⟨jq,1,none⟩=some (.int .i64 fo):=(ax iF.out 1).trans rfl;have Jr:OY.cell? ⟨jq,2,none⟩=some (.int .i64 ed):=(ax iF.out 2).trans rfl;have wO:=ak iF.out 0;have wP:=ak iF.out 1;have JJ:=ak iF.out 2))
      go_ret
      exact⟨by first|rfl|(simp[aC,aD]<;>rfl)|(simp[*,aC,aD]<;>rfl),by repeat(first|(with_reducible first|exact HB.out|apply ag|apply af|apply ah|refine az ?_ uF.out)|exact HB.out)⟩
     ·rw[if_neg c14] at H
      have uj:decide (65536<ed)=false:=decide_eq_false c14
      clear c14
      obtain rfl:=Option.some.inj H
      go_enter Tryz.func62,Tryz.ntmps62
      go_wp2_with (first|((with_reducible refine di (N:=1) rfl ?_);refine bW ?hg (N:=1) ?hd (cs:=#[.int .i64 eB,.int .i64 fo,.int .i64 ed]) (t:=24) ?hr ?_;(case hd=>rfl);(case hg=>rfl);(case hr=>first|(go_simp;done)|(go_simp;rfl));intro jq hg Cv dm hb;have bN:=ai.mk (bn (by repeat(first|(with_reducible first|exact HB.out|apply ag|apply af|apply ah)|exact HB.out)) hb);have bP:=ai.mk (dm);have cz:=ai.mk ((by rw[hg];exact(ay (by repeat(first|(with_reducible first|exact HB.out|apply ag|apply af|apply ah)|exact HB.out))):w.heap.size<=jq));have fC:=ai.mk ((by rw[hg];exact(ay (by repeat(first|(with_reducible first|exact HB.out|apply ag|apply af|apply ah)|exact HB.out))):w.heap.size<=jq));clear HB;have HB:=bN;have iF:=bP;have Ls:=cz;have uF:=fC;clear bN bP cz fC;clear hb dm hg;have CK:Cv.cell? ⟨jq,0,none⟩=some (.int .i64 eB):=(ax iF.out 0).trans rfl;have CL:Cv.cell? ⟨jq,1,none⟩=some (.int .i64 fo):=(ax iF.out 1).trans rfl;have Jv:Cv.cell? ⟨jq,2,none⟩=some (.int .i64 ed):=(ax iF.out 2).trans rfl;have CQ:=ak iF.out 0;have CR:=ak iF.out 1;have JN:=ak iF.out 2))
      go_ret
      exact⟨by first|rfl|(simp[aC,aD]<;>rfl)|(simp[*,aC,aD]<;>rfl),by repeat(first|(with_reducible first|exact HB.out|apply ag|apply af|apply ah|refine az ?_ uF.out)|exact HB.out)⟩
end Go.Proofs.YtilpincgjlclpaaGreat.Pr
end
section
namespace Go.Proofs.YtilpincgjlclpaaGreat.Pr
open Go.RowKit Go.Proofs.ae.au Go.Proofs.ae.aZ Go.Proofs.ae.bE
attribute [local go_sem] bQ min2_int cB min_two max_three min_three max_four min_four
def eZ.l0:Nat->List (dN)->Int->Int->Int->Int->Int->Option (Int)
 |0,_,_,_,_,_,_=>none
 |k+1,x13,x14,x15,x243000,x243001,UK=>if x15<x14 then(if 0<=x15 then(if x15<(x13.length:Int) then(if(((aU x13 x15).f0).size:Int)>UK then(some 4) else(eZ.l0 k x13 x14 (wrap64 (x15+1)) x243000 x243001 UK)) else(none)) else(none)) else(some 0)
def eZ.f (k:Nat) (l0:List (dN)) (bz:Int) (bD:Int) (dA:Int):Option (Int):=(fV.f bz bD dA).bind fun t243=>(if t243=0 then(eZ.l0 k l0 (l0.length:Int) 0 bz bD dA) else(some t243))
set_option maxHeartbeats 8000000 in
set_option maxRecDepth 100000 in
theorem eZ.calls (k:Nat) (A0:Option Addr) (c0:Nat) (l0:List (dN)) (bz:Int) (bD:Int) (dA:Int) (r:Int) (w:World) (hr0:Kd.C lQ w A0 l0.length l0) (hc0:l0.length<=c0) (h:eZ.f k l0 bz bD dA=some r):
  Calls Tryz.prog 79 #[.slice A0 l0.length c0,.agg #[.int .i64 bz,.int .i64 bD,.int .i64 dA]] w fun e w'=>e= .returned (.int .i64 r)/\Below w.heap.size w w':=by
 have hu24:=Tryz.underlying24
 have Zg:=Tryz.underlying45
 have gq:=ai.mk hr0
 have lC:=ai.mk hc0
 clear hr0 hc0
 have HB:=ai.mk (Below.refl w.heap.size w)
 have H:((fV.f bz bD dA).bind fun t243=>(if t243=0 then(eZ.l0 k l0 (l0.length:Int) 0 bz bD dA) else(some t243)))=some r:=h
 clear h
 replace H:=Option.bind_eq_some_iff.mp H
 obtain⟨t243,RX,H⟩:=H
 replace H:(if t243=0 then(eZ.l0 k l0 (l0.length:Int) 0 bz bD dA) else(some t243))=some r:=H
 have A3:=ai.mk RX
 clear RX
 by_cases c4:t243=0
 ·rw[if_pos c4] at H
  have iw:(t243==0)=true:=beq_iff_eq.mpr c4
  have ve:(t243 != 0)=false:=bne_eq_false_iff_eq.mpr c4
  clear c4
  have H':=ai.mk H
  clear H
  go_enter Tryz.func79,Tryz.ntmps79
  go_wp2_with (first|((with_reducible refine di (N:=3) rfl ?_);refine bW ?hg (N:=3) ?hd (cs:=#[.int .i64 bz,.int .i64 bD,.int .i64 dA]) (t:=24) ?hr ?_;(case hd=>rfl);(case hg=>rfl);(case hr=>first|(go_simp;done)|(go_simp;rfl));intro jQ hg w5 dm hb;have bN:=ai.mk (bn (by repeat(first|(with_reducible first|exact HB.out|apply ag|apply af|apply ah)|exact HB.out)) hb);have bP:=ai.mk (dm);have cz:=ai.mk ((by rw[hg];exact(ay (by repeat(first|(with_reducible first|exact HB.out|apply ag|apply af|apply ah)|exact HB.out))):w.heap.size<=jQ));have fC:=ai.mk ((by rw[hg];exact(ay (by repeat(first|(with_reducible first|exact HB.out|apply ag|apply af|apply ah)|exact HB.out))):w.heap.size<=jQ));clear HB;have HB:=bN;have il:=bP;have GW242:=cz;have qA:=fC;clear bN bP cz fC;clear hb dm hg;have vE:w5.cell? ⟨jQ,0,none⟩=some (.int .i64 bz):=(ax il.out 0).trans rfl;have vF:w5.cell? ⟨jQ,1,none⟩=some (.int .i64 bD):=(ax il.out 1).trans rfl;have Ef:w5.cell? ⟨jQ,2,none⟩=some (.int .i64 dA):=(ax il.out 2).trans rfl;have vG:=ak il.out 0;have vH:=ak il.out 1;have Eg:=ak il.out 2)|((with_reducible refine bL (f:=62) rfl ?_);refine eQ (some 9) rfl rfl Tryz.func62 (by kernel_rfl) rfl #[.agg #[.int .i64 bz,.int .i64 bD,.int .i64 dA]] rfl (by(try simp only[List.map_toArray,List.map_cons,List.map_nil]);first|done|rfl|(simp only[List.length_drop,List.length_take];rfl)) ?_;(with_reducible refine(fV.calls bz bD dA t243 _ A3.out).mono ?_);rintro e w7 ⟨rfl,hb⟩;refine⟨_,rfl,?_⟩;have bN:=ai.mk (fQ (g:=jQ) (o:= .cells #[.int .i64 bz,.int .i64 bD,.int .i64 dA] 24 (0,0)) (by(with_reducible repeat(first|refine aW ?_ _|refine bC ?_|refine bf ?_ _));exact il.out) hb);have bP:=ai.mk (bn (by repeat(first|(with_reducible first|exact HB.out|apply ag|apply af|apply ah|refine az ?_ qA.out)|exact HB.out)) hb);clear il;clear HB;have il:=bN;have HB:=bP;clear bN bP;(try clear hb);(try clear hb2);(try clear hk);(try clear hi)))
  go_loopg [15] k (fun kq v15 w'=>∃(mE:Int),v15= .int .i64 mE/\ai (eZ.l0 kq l0 (l0.length:Int) mE bz bD dA=some r)/\ai (kq<=k)/\ai (w'.heap[jQ]?=some (.cells #[.int .i64 bz,.int .i64 bD,.int .i64 dA] 24 (0,0)))/\ai (Below w.heap.size w w'))
  case atStart=>exact⟨(0),(by first|rfl|(simp;done)|(simp[*];done)),H',⟨Nat.le_refl _⟩,⟨by(with_reducible repeat(first|refine aW ?_ _|refine bC ?_|refine bf ?_ _));exact il.out⟩,⟨by repeat(first|(with_reducible first|exact HB.out|apply ag|apply af|apply ah|refine az ?_ qA.out)|exact HB.out)⟩⟩
  case round=>
   clear H'
   try clear p2
   try clear c4
   try clear iw
   try clear ve
   try clear c6
   try clear c7
   try clear vE
   try clear vF
   try clear Ef
   try clear vG
   try clear vH
   try clear Eg
   obtain⟨mE,rfl,HA,gH,il,HB⟩:=hrel
   cases gk with
   |zero=>exact absurd HA.out (by simp[eZ.l0])
   |succ k1=>
    have H:=HA.out
    clear HA
    simp only[eZ.l0] at H
    by_cases c8:mE<(l0.length:Int)
    ·rw[if_pos c8] at H
     have qN:decide (mE<(l0.length:Int))=true:=decide_eq_true c8
     clear c8
     by_cases c9:0<=mE
     ·rw[if_pos c9] at H
      have qx:decide (0<=mE)=true:=decide_eq_true c9
      clear c9
      by_cases c10:mE<(l0.length:Int)
      ·rw[if_pos c10] at H
       have lU:decide (mE<(l0.length:Int))=true:=decide_eq_true c10
       clear c10
       by_cases c11:(((aU l0 mE).f0).size:Int)>dA
       ·rw[if_pos c11] at H
        have kX:decide (dA<(((aU l0 mE).f0).size:Int))=true:=decide_eq_true c11
        clear c11
        obtain rfl:=Option.some.inj H
        have QH:0<=(mE:Int):=of_decide_eq_true (by first|(with_reducible assumption)|assumption)
        have Ri:mE<(l0.length:Int):=of_decide_eq_true (by first|(with_reducible assumption)|assumption)
        obtain⟨ad244,e244,sW,sZ⟩:=eP gq.out mE QH Ri
        cases e244
        replace sW:=(HB.out.cell (World.block_lt_of_cell? w _ sW)).trans sW
        replace sZ:=(HB.out.cell (World.block_lt_of_cell? w _ sZ)).trans sZ
        replace QH:=eq_true QH
        replace Ri:=eq_true Ri
        go_wp2_with (first|((with_reducible refine di (N:=7) rfl ?_);refine bW ?hg (N:=7) ?hd (cs:=#[.string (⟨#[]⟩:ByteArray),.int .i64 0]) (t:=45) ?hr ?_;(case hd=>rfl);(case hg=>rfl);(case hr=>first|(go_simp;done)|(go_simp;rfl));intro rC hg RS dm hb;have bN:=ai.mk (fQ (g:=jQ) (o:= .cells #[.int .i64 bz,.int .i64 bD,.int .i64 dA] 24 (0,0)) (by(with_reducible repeat(first|refine aW ?_ _|refine bC ?_|refine bf ?_ _));exact il.out) hb);have bP:=ai.mk (bn (by repeat(first|(with_reducible first|exact HB.out|apply ag|apply af|apply ah|refine az ?_ qA.out)|exact HB.out)) hb);have cz:=ai.mk (dm);have fC:=ai.mk ((by rw[hg];exact(ay (by repeat(first|(with_reducible first|exact HB.out|apply ag|apply af|apply ah|refine az ?_ qA.out)|exact HB.out))):w.heap.size<=rC));have zG:=ai.mk ((by rw[hg];exact(ay (by repeat(first|(with_reducible first|exact HB.out|apply ag|apply af|apply ah|refine az ?_ qA.out)|exact HB.out))):w.heap.size<=rC));have EB:=ai.mk ((by rw[hg];exact Nat.ne_of_lt (bA (g:=jQ) (o:= .cells #[.int .i64 bz,.int .i64 bD,.int .i64 dA] 24 (0,0)) (by(with_reducible repeat(first|refine aW ?_ _|refine bC ?_|refine bf ?_ _));exact il.out)):jQ≠rC));have NA:=ai.mk ((by rw[hg];exact Nat.ne_of_gt (bA (g:=jQ) (o:= .cells #[.int .i64 bz,.int .i64 bD,.int .i64 dA] 24 (0,0)) (by(with_reducible repeat(first|refine aW ?_ _|refine bC ?_|refine bf ?_ _));exact il.out)):rC≠jQ));clear il;clear HB;have il:=bN;have HB:=bP;have yF:=cz;have GW245:=fC;have Xc:=zG;have qX:=EB;have Az:=NA;clear bN bP cz fC zG EB NA;clear hb dm hg;have hnb13:=Az.out;have hnc13:=qX.out;have hcz14_0:RS.cell? ⟨rC,0,none⟩=some (.string (⟨#[]⟩:ByteArray)):=(ax yF.out 0).trans rfl;have hcz14_1:RS.cell? ⟨rC,1,none⟩=some (.int .i64 0):=(ax yF.out 1).trans rfl;have hfz14_0:=ak yF.out 0;have hfz14_1:=ak yF.out 1;have hcz15_0:RS.cell? ⟨jQ,0,none⟩=some (.int .i64 bz):=(ax il.out 0).trans rfl;have hcz15_1:RS.cell? ⟨jQ,1,none⟩=some (.int .i64 bD):=(ax il.out 1).trans rfl;have hcz15_2:RS.cell? ⟨jQ,2,none⟩=some (.int .i64 dA):=(ax il.out 2).trans rfl;have hfz15_0:=ak il.out 0;have hfz15_1:=ak il.out 1;have hfz15_2:=ak il.out 2))
        go_ret
        exact⟨by first|rfl|(simp[aC,aD]<;>rfl)|(simp[*,aC,aD]<;>rfl),by repeat(first|(with_reducible first|exact HB.out|apply ag|apply af|apply ah|refine az ?_ qA.out|refine az ?_ Xc.out)|exact HB.out)⟩
       ·rw[if_neg c11] at H
        have kX:decide (dA<(((aU l0 mE).f0).size:Int))=false:=decide_eq_false c11
        clear c11
        have H':=ai.mk H
        clear H
        have QH:0<=(mE:Int):=of_decide_eq_true (by first|(with_reducible assumption)|assumption)
        have Ri:mE<(l0.length:Int):=of_decide_eq_true (by first|(with_reducible assumption)|assumption)
        obtain⟨ad244,e244,sW,sZ⟩:=eP gq.out mE QH Ri
        cases e244
        replace sW:=(HB.out.cell (World.block_lt_of_cell? w _ sW)).trans sW
        replace sZ:=(HB.out.cell (World.block_lt_of_cell? w _ sZ)).trans sZ
        replace QH:=eq_true QH
        replace Ri:=eq_true Ri
        go_wp2_with (first|((with_reducible refine di (N:=7) rfl ?_);refine bW ?hg (N:=7) ?hd (cs:=#[.string (⟨#[]⟩:ByteArray),.int .i64 0]) (t:=45) ?hr ?_;(case hd=>rfl);(case hg=>rfl);(case hr=>first|(go_simp;done)|(go_simp;rfl));intro rC hg w16 dm hb;have bN:=ai.mk (fQ (g:=jQ) (o:= .cells #[.int .i64 bz,.int .i64 bD,.int .i64 dA] 24 (0,0)) (by(with_reducible repeat(first|refine aW ?_ _|refine bC ?_|refine bf ?_ _));exact il.out) hb);have bP:=ai.mk (bn (by repeat(first|(with_reducible first|exact HB.out|apply ag|apply af|apply ah|refine az ?_ qA.out)|exact HB.out)) hb);have cz:=ai.mk (dm);have fC:=ai.mk ((by rw[hg];exact(ay (by repeat(first|(with_reducible first|exact HB.out|apply ag|apply af|apply ah|refine az ?_ qA.out)|exact HB.out))):w.heap.size<=rC));have zG:=ai.mk ((by rw[hg];exact(ay (by repeat(first|(with_reducible first|exact HB.out|apply ag|apply af|apply ah|refine az ?_ qA.out)|exact HB.out))):w.heap.size<=rC));have EB:=ai.mk ((by rw[hg];exact Nat.ne_of_lt (bA (g:=jQ) (o:= .cells #[.int .i64 bz,.int .i64 bD,.int .i64 dA] 24 (0,0)) (by(with_reducible repeat(first|refine aW ?_ _|refine bC ?_|refine bf ?_ _));exact il.out)):jQ≠rC));have NA:=ai.mk ((by rw[hg];exact Nat.ne_of_gt (bA (g:=jQ) (o:= .cells #[.int .i64 bz,.int .i64 bD,.int .i64 dA] 24 (0,0)) (by(with_reducible repeat(first|refine aW ?_ _|refine bC ?_|refine bf ?_ _));exact il.out)):rC≠jQ));clear il;clear HB;have il:=bN;have HB:=bP;have yF:=cz;have GW245:=fC;have Xc:=zG;have qX:=EB;have Az:=NA;clear bN bP cz fC zG EB NA;clear hb dm hg;have hnb17:=Az.out;have hnc17:=qX.out;have CK:w16.cell? ⟨rC,0,none⟩=some (.string (⟨#[]⟩:ByteArray)):=(ax yF.out 0).trans rfl;have CL:w16.cell? ⟨rC,1,none⟩=some (.int .i64 0):=(ax yF.out 1).trans rfl;have CQ:=ak yF.out 0;have CR:=ak yF.out 1;have CO:w16.cell? ⟨jQ,0,none⟩=some (.int .i64 bz):=(ax il.out 0).trans rfl;have CP:w16.cell? ⟨jQ,1,none⟩=some (.int .i64 bD):=(ax il.out 1).trans rfl;have hcz19_2:w16.cell? ⟨jQ,2,none⟩=some (.int .i64 dA):=(ax il.out 2).trans rfl;have CS:=ak il.out 0;have CU:=ak il.out 1;have hfz19_2:=ak il.out 2))
        go_roundg k1
        case measure=>have:=gH.out;omega
        case rel=>exact⟨(wrap64 (mE+1)),(by first|rfl|(simp;done)|(simp[*];done)),H',⟨by have:=gH.out;omega⟩,⟨by(with_reducible repeat(first|refine aW ?_ _|refine bC ?_|refine bf ?_ _));refine Sn ?_ qX.out _;(with_reducible repeat(first|refine aW ?_ _|refine bC ?_|refine bf ?_ _));refine Sn ?_ qX.out _;(with_reducible repeat(first|refine aW ?_ _|refine bC ?_|refine bf ?_ _));exact il.out⟩,⟨by repeat(first|(with_reducible first|exact HB.out|apply ag|apply af|apply ah|refine az ?_ qA.out|refine az ?_ Xc.out)|exact HB.out)⟩⟩
      ·rw[if_neg c10] at H
       exact absurd H (by simp)
     ·rw[if_neg c9] at H
      exact absurd H (by simp)
    ·rw[if_neg c8] at H
     have qN:decide (mE<(l0.length:Int))=false:=decide_eq_false c8
     clear c8
     obtain rfl:=Option.some.inj H
     go_wp2
     go_ret
     exact⟨by first|rfl|(simp[aC,aD]<;>rfl)|(simp[*,aC,aD]<;>rfl),by repeat(first|(with_reducible first|exact HB.out|apply ag|apply af|apply ah|refine az ?_ qA.out)|exact HB.out)⟩
 ·rw[if_neg c4] at H
  have iw:(t243==0)=false:=beq_eq_false_iff_ne.mpr c4
  have ve:(t243 != 0)=true:=bne_iff_ne.mpr c4
  obtain rfl:=Option.some.inj H
  go_enter Tryz.func79,Tryz.ntmps79
  go_wp2_with (first|((with_reducible refine di (N:=3) rfl ?_);refine bW ?hg (N:=3) ?hd (cs:=#[.int .i64 bz,.int .i64 bD,.int .i64 dA]) (t:=24) ?hr ?_;(case hd=>rfl);(case hg=>rfl);(case hr=>first|(go_simp;done)|(go_simp;rfl));intro jQ hg Dh dm hb;have bN:=ai.mk (bn (by repeat(first|(with_reducible first|exact HB.out|apply ag|apply af|apply ah)|exact HB.out)) hb);have bP:=ai.mk (dm);have cz:=ai.mk ((by rw[hg];exact(ay (by repeat(first|(with_reducible first|exact HB.out|apply ag|apply af|apply ah)|exact HB.out))):w.heap.size<=jQ));have fC:=ai.mk ((by rw[hg];exact(ay (by repeat(first|(with_reducible first|exact HB.out|apply ag|apply af|apply ah)|exact HB.out))):w.heap.size<=jQ));clear HB;have HB:=bN;have il:=bP;have GW242:=cz;have qA:=fC;clear bN bP cz fC;clear hb dm hg;have Jw:Dh.cell? ⟨jQ,0,none⟩=some (.int .i64 bz):=(ax il.out 0).trans rfl;have Jy:Dh.cell? ⟨jQ,1,none⟩=some (.int .i64 bD):=(ax il.out 1).trans rfl;have Jz:Dh.cell? ⟨jQ,2,none⟩=some (.int .i64 dA):=(ax il.out 2).trans rfl;have JO:=ak il.out 0;have JP:=ak il.out 1;have JQ:=ak il.out 2)|((with_reducible refine bL (f:=62) rfl ?_);refine eQ (some 9) rfl rfl Tryz.func62 (by kernel_rfl) rfl #[.agg #[.int .i64 bz,.int .i64 bD,.int .i64 dA]] rfl (by(try simp only[List.map_toArray,List.map_cons,List.map_nil]);first|done|rfl|(simp only[List.length_drop,List.length_take];rfl)) ?_;(with_reducible refine(fV.calls bz bD dA t243 _ A3.out).mono ?_);rintro e w22 ⟨rfl,hb⟩;refine⟨_,rfl,?_⟩;have bN:=ai.mk (fQ (g:=jQ) (o:= .cells #[.int .i64 bz,.int .i64 bD,.int .i64 dA] 24 (0,0)) (by(with_reducible repeat(first|refine aW ?_ _|refine bC ?_|refine bf ?_ _));exact il.out) hb);have bP:=ai.mk (bn (by repeat(first|(with_reducible first|exact HB.out|apply ag|apply af|apply ah|refine az ?_ qA.out)|exact HB.out)) hb);clear il;clear HB;have il:=bN;have HB:=bP;clear bN bP;(try clear hb);(try clear hb2);(try clear hk);(try clear hi)))
  go_ret
  exact⟨by first|rfl|(simp[aC,aD]<;>rfl)|(simp[*,aC,aD]<;>rfl),by repeat(first|(with_reducible first|exact HB.out|apply ag|apply af|apply ah|refine az ?_ qA.out)|exact HB.out)⟩
end Go.Proofs.YtilpincgjlclpaaGreat.Pr
end
