import Derived.Lib.Strings
import Derived.Test.YtilpincgjlclpaaGreatT5
set_option linter.unusedVariables false
set_option linter.unusedSimpArgs false
section
namespace Go.Proofs.YtilpincgjlclpaaGreat.Pr
open Go.RowKit Go.Proofs.ae.au Go.Proofs.ae.aZ Go.Proofs.ae.bE
attribute [local go_sem] bQ min2_int cB min_two max_three min_three max_four min_four
attribute [local go_sem high] eqA47
def dX.l0:Nat->List (eu)->List (eu)->Int->Option (Bool)
 |0,_,_,_=>none
 |k+1,x0,x1,x5=>if x5<(x0.length:Int) then(if 0<=x5 then(if x5<(x1.length:Int) then(if(!((((bM x0 x5).f0).toList)==(((bM x1 x5).f0).toList))||(!((((bM x0 x5).f1).toList)==(((bM x1 x5).f1).toList))))=true then(some false) else(dX.l0 k x0 x1 (wrap64 (x5+1)))) else(none)) else(none)) else(some true)
def dX.f (k:Nat) (l0:List (eu)) (l1:List (eu)):Option (Bool):=if(l0.length:Int)=(l1.length:Int) then(dX.l0 k l0 l1 0) else(some false)
set_option maxHeartbeats 8000000 in
set_option maxRecDepth 100000 in
theorem dX.calls (k:Nat) (A0:Option Addr) (c0:Nat) (l0:List (eu)) (A1:Option Addr) (c1:Nat) (l1:List (eu)) (r:Bool) (w:World) (hr0:Kd.C qj w A0 l0.length l0) (hc0:l0.length<=c0) (hr1:Kd.C qj w A1 l1.length l1) (hc1:l1.length<=c1) (h:dX.f k l0 l1=some r):
  Calls Tryz.prog 12 #[.slice A0 l0.length c0,.slice A1 l1.length c1] w fun e w'=>e= .returned (.bool r)/\aJ w w':=by
 have VF:=Tryz.underlying47
 have gq:=ai.mk hr0
 have lC:=ai.mk hc0
 clear hr0 hc0
 have HR1:=ai.mk hr1
 have Ch:=ai.mk hc1
 clear hr1 hc1
 have H:(if(l0.length:Int)=(l1.length:Int) then(dX.l0 k l0 l1 0) else(some false))=some r:=h
 clear h
 by_cases c3:(l0.length:Int)=(l1.length:Int)
 ·rw[if_pos c3] at H
  have iY:((l0.length:Int)==(l1.length:Int))=true:=beq_iff_eq.mpr c3
  have qp:((l0.length:Int) != (l1.length:Int))=false:=bne_eq_false_iff_eq.mpr c3
  have DL:(l0.length==l1.length)=true:=by first|simpa using c3|(simp at c3 ⊢;omega)
  clear c3
  have H':=ai.mk H
  clear H
  go_enter Tryz.func12,Tryz.ntmps12
  go_wp2
  repeat(go_quiet (fail);try go_wp2)
  go_loopg [5] k (fun kq v5 w'=>∃(aT:Int),v5= .int .i64 aT/\ai (dX.l0 kq l0 l1 aT=some r)/\ai (kq<=k)/\aJ w w')
  case atStart=>exact⟨(0),(by first|rfl|(simp;done)|(simp[*];done)),H',⟨Nat.le_refl _⟩,by repeat(first|exact aJ.refl _|apply aJ.step)⟩
  case round=>
   clear H'
   try clear c1
   try clear p2
   try clear c3
   try clear iY
   try clear qp
   try clear DL
   obtain⟨aT,rfl,HA,gH,⟨m1,rfl⟩⟩:=hrel
   cases gk with
   |zero=>exact absurd HA.out (by simp[dX.l0])
   |succ k1=>
    have H:=HA.out
    clear HA
    simp only[dX.l0] at H
    by_cases c4:aT<(l0.length:Int)
    ·rw[if_pos c4] at H
     have iw:decide (aT<(l0.length:Int))=true:=decide_eq_true c4
     clear c4
     by_cases c5:0<=aT
     ·rw[if_pos c5] at H
      have iC:decide (0<=aT)=true:=decide_eq_true c5
      clear c5
      by_cases c6:aT<(l1.length:Int)
      ·rw[if_pos c6] at H
       have yR:decide (aT<(l1.length:Int))=true:=decide_eq_true c6
       clear c6
       by_cases c7:(!((((bM l0 aT).f0).toList)==(((bM l1 aT).f0).toList))||(!((((bM l0 aT).f1).toList)==(((bM l1 aT).f1).toList))))=true
       ·rw[if_pos c7] at H
        have jU:(!((((bM l0 aT).f0).toList)==(((bM l1 aT).f0).toList))||(!((((bM l0 aT).f1).toList)==(((bM l1 aT).f1).toList))))=true:=c7
        clear c7
        obtain rfl:=Option.some.inj H
        have QC:0<=(aT:Int):=of_decide_eq_true (by first|(with_reducible assumption)|assumption)
        have Rb:aT<(l0.length:Int):=of_decide_eq_true (by first|(with_reducible assumption)|assumption)
        obtain⟨ad211,e211,hx211_0,hx211_1⟩:=jm gq.out aT QC Rb
        cases e211
        replace QC:=eq_true QC
        replace Rb:=eq_true Rb
        have QD:0<=(aT:Int):=of_decide_eq_true (by first|(with_reducible assumption)|assumption)
        have Rc:aT<(l1.length:Int):=of_decide_eq_true (by first|(with_reducible assumption)|assumption)
        obtain⟨ad212,e212,hx212_0,hx212_1⟩:=jm HR1.out aT QD Rc
        cases e212
        replace QD:=eq_true QD
        replace Rc:=eq_true Rc
        go_wp2
        repeat(go_quiet (fail);try go_wp2)
        go_ret
        exact⟨by first|rfl|(simp;done)|(simp[*];done),by repeat(first|exact aJ.refl _|apply aJ.step)⟩
       ·rw[if_neg c7] at H
        have jU:(!((((bM l0 aT).f0).toList)==(((bM l1 aT).f0).toList))||(!((((bM l0 aT).f1).toList)==(((bM l1 aT).f1).toList))))=false:=by simpa using c7
        clear c7
        have H':=ai.mk H
        clear H
        have QC:0<=(aT:Int):=of_decide_eq_true (by first|(with_reducible assumption)|assumption)
        have Rb:aT<(l0.length:Int):=of_decide_eq_true (by first|(with_reducible assumption)|assumption)
        obtain⟨ad211,e211,hx211_0,hx211_1⟩:=jm gq.out aT QC Rb
        cases e211
        replace QC:=eq_true QC
        replace Rb:=eq_true Rb
        have QD:0<=(aT:Int):=of_decide_eq_true (by first|(with_reducible assumption)|assumption)
        have Rc:aT<(l1.length:Int):=of_decide_eq_true (by first|(with_reducible assumption)|assumption)
        obtain⟨ad212,e212,hx212_0,hx212_1⟩:=jm HR1.out aT QD Rc
        cases e212
        replace QD:=eq_true QD
        replace Rc:=eq_true Rc
        go_wp2
        repeat(go_quiet (fail);try go_wp2)
        go_roundg k1
        case measure=>have:=gH.out;omega
        case rel=>exact⟨(wrap64 (aT+1)),(by first|rfl|(simp;done)|(simp[*];done)),H',⟨by have:=gH.out;omega⟩,by repeat(first|exact aJ.refl _|apply aJ.step)⟩
      ·rw[if_neg c6] at H
       exact absurd H (by simp)
     ·rw[if_neg c5] at H
      exact absurd H (by simp)
    ·rw[if_neg c4] at H
     have iw:decide (aT<(l0.length:Int))=false:=decide_eq_false c4
     clear c4
     obtain rfl:=Option.some.inj H
     go_wp2
     repeat(go_quiet (fail);try go_wp2)
     go_ret
     exact⟨by first|rfl|(simp;done)|(simp[*];done),by repeat(first|exact aJ.refl _|apply aJ.step)⟩
 ·rw[if_neg c3] at H
  have iY:((l0.length:Int)==(l1.length:Int))=false:=beq_eq_false_iff_ne.mpr c3
  have qp:((l0.length:Int) != (l1.length:Int))=true:=bne_iff_ne.mpr c3
  have DL:(l0.length==l1.length)=false:=by first|simpa using c3|(simp at c3 ⊢;omega)
  obtain rfl:=Option.some.inj H
  go_enter Tryz.func12,Tryz.ntmps12
  go_wp2
  repeat(go_quiet (fail);try go_wp2)
  go_ret
  exact⟨by first|rfl|(simp;done)|(simp[*];done),by repeat(first|exact aJ.refl _|apply aJ.step)⟩
end Go.Proofs.YtilpincgjlclpaaGreat.Pr
end
section
namespace Go.Proofs.YtilpincgjlclpaaGreat.Pure
open Go.RowKit Go.Proofs.ae.au
theorem Ic (l m:List UInt8):(⟨l.toArray⟩:ByteArray)++⟨m.toArray⟩=⟨(l++m).toArray⟩:=by
 apply ByteArray.ext
 simp
theorem mk_size (l:List UInt8):(⟨l.toArray⟩:ByteArray).size=l.length:=by simp[ByteArray.size]
theorem pF (s:ByteArray):s.data.toList.length=s.size:=by simp only[Array.length_toList];rfl
end Go.Proofs.YtilpincgjlclpaaGreat.Pure
end
section
namespace Go.Proofs.YtilpincgjlclpaaGreat.Pr
open Go.RowKit Go.Proofs.ae.au Go.Proofs.ae.aZ Go.Proofs.ae.bE
attribute [local go_sem] bQ min2_int cB min_two max_three min_three max_four min_four
def fE.f (eB:Int) (fo:Int) (ed:Int):Option (Int):=if eB<0 then(some 2) else(if eB>1048576 then(some 2) else(if fo<1 then(some 2) else(if ed<1 then(some 2) else(if ed>65536 then(some 2) else(some 0)))))
set_option maxHeartbeats 8000000 in
set_option maxRecDepth 100000 in
theorem fE.calls (eB:Int) (fo:Int) (ed:Int) (r:Int) (w:World) (h:fE.f eB fo ed=some r):
  Calls Tryz.prog 72 #[.agg #[.int .i64 eB,.int .i64 fo,.int .i64 ed]] w fun e w'=>e= .returned (.int .i64 r)/\Below w.heap.size w w':=by
 have hu24:=Tryz.underlying24
 have HB:=ai.mk (Below.refl w.heap.size w)
 have H:(if eB<0 then(some 2) else(if eB>1048576 then(some 2) else(if fo<1 then(some 2) else(if ed<1 then(some 2) else(if ed>65536 then(some 2) else(some 0))))))=some r:=h
 clear h
 by_cases c2:eB<0
 ·rw[if_pos c2] at H
  have jV:decide (eB<0)=true:=decide_eq_true c2
  clear c2
  obtain rfl:=Option.some.inj H
  go_enter Tryz.func72,Tryz.ntmps72
  go_wp2_with (first|((with_reducible refine di (N:=1) rfl ?_);refine bW ?hg (N:=1) ?hd (cs:=#[.int .i64 eB,.int .i64 fo,.int .i64 ed]) (t:=24) ?hr ?_;(case hd=>rfl);(case hg=>rfl);(case hr=>first|(go_simp;done)|(go_simp;rfl));intro jo hg w3 dm hb;have bN:=ai.mk (bn (by repeat(first|(with_reducible first|exact HB.out|apply ag|apply af|apply ah)|exact HB.out)) hb);have bP:=ai.mk (dm);have cz:=ai.mk ((by rw[hg];exact(ay (by repeat(first|(with_reducible first|exact HB.out|apply ag|apply af|apply ah)|exact HB.out))):w.heap.size<=jo));have fC:=ai.mk ((by rw[hg];exact(ay (by repeat(first|(with_reducible first|exact HB.out|apply ag|apply af|apply ah)|exact HB.out))):w.heap.size<=jo));clear HB;have HB:=bN;have iE:=bP;have Lp:=cz;have uD:=fC;clear bN bP cz fC;clear hb dm hg;have PZ:w3.cell? ⟨jo,0,none⟩=some (.int .i64 eB):=(ax iE.out 0).trans rfl;have Qa:w3.cell? ⟨jo,1,none⟩=some (.int .i64 fo):=(ax iE.out 1).trans rfl;have Qb:w3.cell? ⟨jo,2,none⟩=some (.int .i64 ed):=(ax iE.out 2).trans rfl;have Qc:=ak iE.out 0;have Qd:=ak iE.out 1;have Qe:=ak iE.out 2))
  go_ret
  exact⟨by first|rfl|(simp[aC,aD]<;>rfl)|(simp[*,aC,aD]<;>rfl),by repeat(first|(with_reducible first|exact HB.out|apply ag|apply af|apply ah|refine az ?_ uD.out)|exact HB.out)⟩
 ·rw[if_neg c2] at H
  have jV:decide (eB<0)=false:=decide_eq_false c2
  clear c2
  by_cases c5:eB>1048576
  ·rw[if_pos c5] at H
   have iC:decide (1048576<eB)=true:=decide_eq_true c5
   clear c5
   obtain rfl:=Option.some.inj H
   go_enter Tryz.func72,Tryz.ntmps72
   go_wp2_with (first|((with_reducible refine di (N:=1) rfl ?_);refine bW ?hg (N:=1) ?hd (cs:=#[.int .i64 eB,.int .i64 fo,.int .i64 ed]) (t:=24) ?hr ?_;(case hd=>rfl);(case hg=>rfl);(case hr=>first|(go_simp;done)|(go_simp;rfl));intro jo hg w6 dm hb;have bN:=ai.mk (bn (by repeat(first|(with_reducible first|exact HB.out|apply ag|apply af|apply ah)|exact HB.out)) hb);have bP:=ai.mk (dm);have cz:=ai.mk ((by rw[hg];exact(ay (by repeat(first|(with_reducible first|exact HB.out|apply ag|apply af|apply ah)|exact HB.out))):w.heap.size<=jo));have fC:=ai.mk ((by rw[hg];exact(ay (by repeat(first|(with_reducible first|exact HB.out|apply ag|apply af|apply ah)|exact HB.out))):w.heap.size<=jo));clear HB;have HB:=bN;have iE:=bP;have Lp:=cz;have uD:=fC;clear bN bP cz fC;clear hb dm hg;have JA:w6.cell? ⟨jo,0,none⟩=some (.int .i64 eB):=(ax iE.out 0).trans rfl;have JB:w6.cell? ⟨jo,1,none⟩=some (.int .i64 fo):=(ax iE.out 1).trans rfl;have YT:w6.cell? ⟨jo,2,none⟩=some (.int .i64 ed):=(ax iE.out 2).trans rfl;have JS:=ak iE.out 0;have JU:=ak iE.out 1;have YX:=ak iE.out 2))
   go_ret
   exact⟨by first|rfl|(simp[aC,aD]<;>rfl)|(simp[*,aC,aD]<;>rfl),by repeat(first|(with_reducible first|exact HB.out|apply ag|apply af|apply ah|refine az ?_ uD.out)|exact HB.out)⟩
  ·rw[if_neg c5] at H
   have iC:decide (1048576<eB)=false:=decide_eq_false c5
   clear c5
   by_cases c8:fo<1
   ·rw[if_pos c8] at H
    have qN:decide (fo<1)=true:=decide_eq_true c8
    clear c8
    obtain rfl:=Option.some.inj H
    go_enter Tryz.func72,Tryz.ntmps72
    go_wp2_with (first|((with_reducible refine di (N:=1) rfl ?_);refine bW ?hg (N:=1) ?hd (cs:=#[.int .i64 eB,.int .i64 fo,.int .i64 ed]) (t:=24) ?hr ?_;(case hd=>rfl);(case hg=>rfl);(case hr=>first|(go_simp;done)|(go_simp;rfl));intro jo hg w9 dm hb;have bN:=ai.mk (bn (by repeat(first|(with_reducible first|exact HB.out|apply ag|apply af|apply ah)|exact HB.out)) hb);have bP:=ai.mk (dm);have cz:=ai.mk ((by rw[hg];exact(ay (by repeat(first|(with_reducible first|exact HB.out|apply ag|apply af|apply ah)|exact HB.out))):w.heap.size<=jo));have fC:=ai.mk ((by rw[hg];exact(ay (by repeat(first|(with_reducible first|exact HB.out|apply ag|apply af|apply ah)|exact HB.out))):w.heap.size<=jo));clear HB;have HB:=bN;have iE:=bP;have Lp:=cz;have uD:=fC;clear bN bP cz fC;clear hb dm hg;have Jp:w9.cell? ⟨jo,0,none⟩=some (.int .i64 eB):=(ax iE.out 0).trans rfl;have Jq:w9.cell? ⟨jo,1,none⟩=some (.int .i64 fo):=(ax iE.out 1).trans rfl;have hcz10_2:w9.cell? ⟨jo,2,none⟩=some (.int .i64 ed):=(ax iE.out 2).trans rfl;have JH:=ak iE.out 0;have JI:=ak iE.out 1;have hfz10_2:=ak iE.out 2))
    go_ret
    exact⟨by first|rfl|(simp[aC,aD]<;>rfl)|(simp[*,aC,aD]<;>rfl),by repeat(first|(with_reducible first|exact HB.out|apply ag|apply af|apply ah|refine az ?_ uD.out)|exact HB.out)⟩
   ·rw[if_neg c8] at H
    have qN:decide (fo<1)=false:=decide_eq_false c8
    clear c8
    by_cases c11:ed<1
    ·rw[if_pos c11] at H
     have kX:decide (ed<1)=true:=decide_eq_true c11
     clear c11
     obtain rfl:=Option.some.inj H
     go_enter Tryz.func72,Tryz.ntmps72
     go_wp2_with (first|((with_reducible refine di (N:=1) rfl ?_);refine bW ?hg (N:=1) ?hd (cs:=#[.int .i64 eB,.int .i64 fo,.int .i64 ed]) (t:=24) ?hr ?_;(case hd=>rfl);(case hg=>rfl);(case hr=>first|(go_simp;done)|(go_simp;rfl));intro jo hg RS dm hb;have bN:=ai.mk (bn (by repeat(first|(with_reducible first|exact HB.out|apply ag|apply af|apply ah)|exact HB.out)) hb);have bP:=ai.mk (dm);have cz:=ai.mk ((by rw[hg];exact(ay (by repeat(first|(with_reducible first|exact HB.out|apply ag|apply af|apply ah)|exact HB.out))):w.heap.size<=jo));have fC:=ai.mk ((by rw[hg];exact(ay (by repeat(first|(with_reducible first|exact HB.out|apply ag|apply af|apply ah)|exact HB.out))):w.heap.size<=jo));clear HB;have HB:=bN;have iE:=bP;have Lp:=cz;have uD:=fC;clear bN bP cz fC;clear hb dm hg;have zi:RS.cell? ⟨jo,0,none⟩=some (.int .i64 eB):=(ax iE.out 0).trans rfl;have zk:RS.cell? ⟨jo,1,none⟩=some (.int .i64 fo):=(ax iE.out 1).trans rfl;have hcz13_2:RS.cell? ⟨jo,2,none⟩=some (.int .i64 ed):=(ax iE.out 2).trans rfl;have zl:=ak iE.out 0;have zm:=ak iE.out 1;have hfz13_2:=ak iE.out 2))
     go_ret
     exact⟨by first|rfl|(simp[aC,aD]<;>rfl)|(simp[*,aC,aD]<;>rfl),by repeat(first|(with_reducible first|exact HB.out|apply ag|apply af|apply ah|refine az ?_ uD.out)|exact HB.out)⟩
    ·rw[if_neg c11] at H
     have kX:decide (ed<1)=false:=decide_eq_false c11
     clear c11
     by_cases c14:ed>65536
     ·rw[if_pos c14] at H
      have uj:decide (65536<ed)=true:=decide_eq_true c14
      clear c14
      obtain rfl:=Option.some.inj H
      go_enter Tryz.func72,Tryz.ntmps72
      go_wp2_with (first|((with_reducible refine di (N:=1) rfl ?_);refine bW ?hg (N:=1) ?hd (cs:=#[.int .i64 eB,.int .i64 fo,.int .i64 ed]) (t:=24) ?hr ?_;(case hd=>rfl);(case hg=>rfl);(case hr=>first|(go_simp;done)|(go_simp;rfl));intro jo hg OY dm hb;have bN:=ai.mk (bn (by repeat(first|(with_reducible first|exact HB.out|apply ag|apply af|apply ah)|exact HB.out)) hb);have bP:=ai.mk (dm);have cz:=ai.mk ((by rw[hg];exact(ay (by repeat(first|(with_reducible first|exact HB.out|apply ag|apply af|apply ah)|exact HB.out))):w.heap.size<=jo));have fC:=ai.mk ((by rw[hg];exact(ay (by repeat(first|(with_reducible first|exact HB.out|apply ag|apply af|apply ah)|exact HB.out))):w.heap.size<=jo));clear HB;have HB:=bN;have iE:=bP;have Lp:=cz;have uD:=fC;clear bN bP cz fC;clear hb dm hg;have wM:OY.cell? ⟨jo,0,none⟩=some (.int .i64 eB):=(ax iE.out 0).trans rfl;have wN:OY.cell? ⟨jo,1,none⟩=some (.int .i64 fo):=(ax iE.out 1).trans rfl;have Jr:OY.cell? ⟨jo,2,none⟩=some (.int .i64 ed):=(ax iE.out 2).trans rfl;have wO:=ak iE.out 0;have wP:=ak iE.out 1;have JJ:=ak iE.out 2))
      go_ret
      exact⟨by first|rfl|(simp[aC,aD]<;>rfl)|(simp[*,aC,aD]<;>rfl),by repeat(first|(with_reducible first|exact HB.out|apply ag|apply af|apply ah|refine az ?_ uD.out)|exact HB.out)⟩
     ·rw[if_neg c14] at H
      have uj:decide (65536<ed)=false:=decide_eq_false c14
      clear c14
      obtain rfl:=Option.some.inj H
      go_enter Tryz.func72,Tryz.ntmps72
      go_wp2_with (first|((with_reducible refine di (N:=1) rfl ?_);refine bW ?hg (N:=1) ?hd (cs:=#[.int .i64 eB,.int .i64 fo,.int .i64 ed]) (t:=24) ?hr ?_;(case hd=>rfl);(case hg=>rfl);(case hr=>first|(go_simp;done)|(go_simp;rfl));intro jo hg Cv dm hb;have bN:=ai.mk (bn (by repeat(first|(with_reducible first|exact HB.out|apply ag|apply af|apply ah)|exact HB.out)) hb);have bP:=ai.mk (dm);have cz:=ai.mk ((by rw[hg];exact(ay (by repeat(first|(with_reducible first|exact HB.out|apply ag|apply af|apply ah)|exact HB.out))):w.heap.size<=jo));have fC:=ai.mk ((by rw[hg];exact(ay (by repeat(first|(with_reducible first|exact HB.out|apply ag|apply af|apply ah)|exact HB.out))):w.heap.size<=jo));clear HB;have HB:=bN;have iE:=bP;have Lp:=cz;have uD:=fC;clear bN bP cz fC;clear hb dm hg;have CK:Cv.cell? ⟨jo,0,none⟩=some (.int .i64 eB):=(ax iE.out 0).trans rfl;have CL:Cv.cell? ⟨jo,1,none⟩=some (.int .i64 fo):=(ax iE.out 1).trans rfl;have Jv:Cv.cell? ⟨jo,2,none⟩=some (.int .i64 ed):=(ax iE.out 2).trans rfl;have CQ:=ak iE.out 0;have CR:=ak iE.out 1;have JN:=ak iE.out 2))
      go_ret
      exact⟨by first|rfl|(simp[aC,aD]<;>rfl)|(simp[*,aC,aD]<;>rfl),by repeat(first|(with_reducible first|exact HB.out|apply ag|apply af|apply ah|refine az ?_ uD.out)|exact HB.out)⟩
end Go.Proofs.YtilpincgjlclpaaGreat.Pr
end
