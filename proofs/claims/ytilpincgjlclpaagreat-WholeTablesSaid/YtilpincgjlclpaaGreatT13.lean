import Derived.Test.YtilpincgjlclpaaGreatT11
import Derived.Test.YtilpincgjlclpaaGreatT6
set_option linter.unusedVariables false
set_option linter.unusedSimpArgs false
namespace Go.Proofs.YtilpincgjlclpaaGreat.Pr
open Go.RowKit Go.Proofs.ae.au Go.Proofs.ae.aZ Go.Proofs.ae.bE
attribute [local go_sem] bQ min2_int cB min_two max_three min_three max_four min_four
def dh.l0:Nat->List (dN)->Int->Int->Int->Int->Option ((List (eu))×Int)
 |0,_,_,_,_,_=>none
 |k+1,x0,x7,UE,UF,UG=>if x7<(x0.length:Int) then(if 0<=x7 then(if(((aU x0 x7).f0).size:Int)>UG then(some (([]:List (eu)),4)) else(dh.l0 k x0 (wrap64 (x7+1)) UE UF UG)) else(none)) else((aH.f k x0).bind fun bt173=>(if bt173.2=0 then((av.f k x0 UE UF).bind fun t175=>(some (t175,0))) else(some (([]:List (eu)),bt173.2))))
def dh.f (k:Nat) (l0:List (dN)) (bz:Int) (bD:Int) (dA:Int):Option ((List (eu))×Int):=(fE.f bz bD dA).bind fun t171=>(if t171=0 then(dh.l0 k l0 0 bz bD dA) else(some (([]:List (eu)),t171)))
set_option maxHeartbeats 8000000 in
set_option maxRecDepth 100000 in
theorem dh.calls (k:Nat) (A0:Option Addr) (c0:Nat) (l0:List (dN)) (bz:Int) (bD:Int) (dA:Int) (r1:List (eu)) (r2:Int) (w:World) (hr0:Kd.C lQ w A0 l0.length l0) (hc0:l0.length<=c0) (h:dh.f k l0 bz bD dA=some (r1,r2)):
  Calls Tryz.prog 42 #[.slice A0 l0.length c0,.agg #[.int .i64 bz,.int .i64 bD,.int .i64 dA]] w fun e w'=>∃rU:Value,e= .returned (.tuple #[rU,.int .i64 r2])/\Kd.R qj 47 w' w.heap.size (fun _=>True) rU r1/\Below w.heap.size w w':=by
 have hu24:=Tryz.underlying24
 have gq:=ai.mk hr0
 have lC:=ai.mk hc0
 clear hr0 hc0
 have HB:=ai.mk (Below.refl w.heap.size w)
 have H:((fE.f bz bD dA).bind fun t171=>(if t171=0 then(dh.l0 k l0 0 bz bD dA) else(some (([]:List (eu)),t171))))=some (r1,r2):=h
 clear h
 replace H:=Option.bind_eq_some_iff.mp H
 obtain⟨t171,RX,H⟩:=H
 have A3:=ai.mk RX
 clear RX
 by_cases c4:t171=0
 ·rw[if_pos c4] at H
  have ve:(t171 != 0)=false:=bne_eq_false_iff_eq.mpr c4
  clear c4
  have H':=ai.mk H
  clear H
  go_enter Tryz.func42,Tryz.ntmps42
  go_wp2_with (first|((with_reducible refine di (N:=3) rfl ?_);refine bW ?hg (N:=3) ?hd (cs:=#[.int .i64 bz,.int .i64 bD,.int .i64 dA]) (t:=24) ?hr ?_;(case hd=>rfl);(case hg=>rfl);(case hr=>first|(go_simp;done)|(go_simp;rfl));intro fF hg w5 dm hb;have bN:=ai.mk (bn (by repeat(first|(with_reducible first|exact HB.out|apply ag|apply af|apply ah)|exact HB.out)) hb);have bP:=ai.mk (dm);have cz:=ai.mk ((by rw[hg];exact(ay (by repeat(first|(with_reducible first|exact HB.out|apply ag|apply af|apply ah)|exact HB.out))):w.heap.size<=fF));have fC:=ai.mk ((by rw[hg];exact(ay (by repeat(first|(with_reducible first|exact HB.out|apply ag|apply af|apply ah)|exact HB.out))):w.heap.size<=fF));clear HB;have HB:=bN;have bX:=bP;have Lr:=cz;have jS:=fC;clear bN bP cz fC;clear hb dm hg;have vE:w5.cell? ⟨fF,0,none⟩=some (.int .i64 bz):=(ax bX.out 0).trans rfl;have vF:w5.cell? ⟨fF,1,none⟩=some (.int .i64 bD):=(ax bX.out 1).trans rfl;have Ef:w5.cell? ⟨fF,2,none⟩=some (.int .i64 dA):=(ax bX.out 2).trans rfl;have vG:=ak bX.out 0;have vH:=ak bX.out 1;have Eg:=ak bX.out 2)|(go_at_call 72;(with_reducible refine(fE.calls bz bD dA t171 _ A3.out).mono ?_);rintro e w7 ⟨rfl,hb⟩;have bN:=ai.mk (fQ (g:=fF) (o:= .cells #[.int .i64 bz,.int .i64 bD,.int .i64 dA] 24 (0,0)) (by(with_reducible repeat(first|refine aW ?_ _|refine bC ?_|refine bf ?_ _));exact bX.out) hb);have bP:=ai.mk (bn (by repeat(first|(with_reducible first|exact HB.out|apply ag|apply af|apply ah|refine az ?_ jS.out)|exact HB.out)) hb);clear bX;clear HB;have bX:=bN;have HB:=bP;clear bN bP;(try clear hb);(try clear hb2);(try clear hk);(try clear hi)))
  go_loopg [7] k (fun kq v7 w'=>∃(gN:Int),v7= .int .i64 gN/\ai (dh.l0 kq l0 gN bz bD dA=some (r1,r2))/\ai (kq<=k)/\ai (w'.heap[fF]?=some (.cells #[.int .i64 bz,.int .i64 bD,.int .i64 dA] 24 (0,0)))/\ai (Below w.heap.size w w'))
  case atStart=>exact⟨(0),(by simp[*]),H',⟨Nat.le_refl _⟩,⟨by(with_reducible repeat(first|refine aW ?_ _|refine bC ?_|refine bf ?_ _));exact bX.out⟩,⟨by repeat(first|(with_reducible first|exact HB.out|apply ag|apply af|apply ah|refine az ?_ jS.out)|exact HB.out)⟩⟩
  case round=>
   clear H'
   obtain⟨gN,rfl,HA,gH,bX,HB⟩:=hrel
   cases gk with
   |zero=>exact absurd HA.out (by simp[dh.l0])
   |succ k1=>
    have H:=HA.out
    clear HA
    simp only[dh.l0] at H
    by_cases c8:gN<(l0.length:Int)
    ·rw[if_pos c8] at H
     have qN:decide (gN<(l0.length:Int))=true:=decide_eq_true c8
     clear c8
     by_cases c9:0<=gN
     ·rw[if_pos c9] at H
      have qx:decide (0<=gN)=true:=decide_eq_true c9
      clear c9
      by_cases c10:(((aU l0 gN).f0).size:Int)>dA
      ·rw[if_pos c10] at H
       have lU:decide (dA<(((aU l0 gN).f0).size:Int))=true:=decide_eq_true c10
       clear c10
       simp only[Option.some.injEq,Prod.mk.injEq] at H
       obtain⟨rfl,rfl⟩:=H
       have Qz:0<=(gN:Int):=of_decide_eq_true (by first|(with_reducible assumption)|assumption)
       have QY:gN<(l0.length:Int):=of_decide_eq_true (by first|(with_reducible assumption)|assumption)
       obtain⟨ad172,e172,sO,sS⟩:=eP gq.out gN Qz QY
       cases e172
       replace sO:=(HB.out.cell (World.block_lt_of_cell? w _ sO)).trans sO
       replace sS:=(HB.out.cell (World.block_lt_of_cell? w _ sS)).trans sS
       replace Qz:=eq_true Qz
       replace QY:=eq_true QY
       have SK:wr.cell? ⟨fF,0,none⟩=some (.int .i64 bz):=(ax bX.out 0).trans rfl
       have SL:wr.cell? ⟨fF,1,none⟩=some (.int .i64 bD):=(ax bX.out 1).trans rfl
       have hcz11_2:wr.cell? ⟨fF,2,none⟩=some (.int .i64 dA):=(ax bX.out 2).trans rfl
       have SX:=ak bX.out 0
       have SY:=ak bX.out 1
       have hfz11_2:=ak bX.out 2
       go_wp2
       repeat(go_quiet (fail);try go_wp2)
       go_ret2
       exact⟨_,by first|rfl|(simp[aC,aD]<;>rfl)|(simp[*,aC,aD]<;>rfl),by first|exact Kd.jM _ _ _ _ _|exact Kd.kQ _ _ _ _ _|exact Kd.kS _ _ _ _ _|exact Kd.kR _ _ _ _ _|exact Kd.kg _ _ _ _ _,by repeat(first|(with_reducible first|exact HB.out|apply ag|apply af|apply ah|refine az ?_ jS.out)|exact HB.out)⟩
      ·rw[if_neg c10] at H
       have lU:decide (dA<(((aU l0 gN).f0).size:Int))=false:=decide_eq_false c10
       clear c10
       have H':=ai.mk H
       clear H
       have Qz:0<=(gN:Int):=of_decide_eq_true (by first|(with_reducible assumption)|assumption)
       have QY:gN<(l0.length:Int):=of_decide_eq_true (by first|(with_reducible assumption)|assumption)
       obtain⟨ad172,e172,sO,sS⟩:=eP gq.out gN Qz QY
       cases e172
       replace sO:=(HB.out.cell (World.block_lt_of_cell? w _ sO)).trans sO
       replace sS:=(HB.out.cell (World.block_lt_of_cell? w _ sS)).trans sS
       replace Qz:=eq_true Qz
       replace QY:=eq_true QY
       have SN:wr.cell? ⟨fF,0,none⟩=some (.int .i64 bz):=(ax bX.out 0).trans rfl
       have SQ:wr.cell? ⟨fF,1,none⟩=some (.int .i64 bD):=(ax bX.out 1).trans rfl
       have hcz12_2:wr.cell? ⟨fF,2,none⟩=some (.int .i64 dA):=(ax bX.out 2).trans rfl
       have Ta:=ak bX.out 0
       have Tc:=ak bX.out 1
       have hfz12_2:=ak bX.out 2
       go_wp2
       repeat(go_quiet (fail);try go_wp2)
       go_roundg k1
       case measure=>have:=gH.out;omega
       case rel=>exact⟨(wrap64 (gN+1)),(by simp[*]),H',⟨by have:=gH.out;omega⟩,⟨by(with_reducible repeat(first|refine aW ?_ _|refine bC ?_|refine bf ?_ _));exact bX.out⟩,⟨by repeat(first|(with_reducible first|exact HB.out|apply ag|apply af|apply ah|refine az ?_ jS.out)|exact HB.out)⟩⟩
     ·rw[if_neg c9] at H
      exact absurd H (by simp)
    ·rw[if_neg c8] at H
     have qN:decide (gN<(l0.length:Int))=false:=decide_eq_false c8
     clear c8
     replace H:=Option.bind_eq_some_iff.mp H
     obtain⟨⟨t173,t174⟩,WU,H⟩:=H
     have A13:=ai.mk WU
     clear WU
     by_cases c14:t174=0
     ·rw[if_pos c14] at H
      have c14b1:(t174 != 0)=false:=bne_eq_false_iff_eq.mpr c14
      clear c14
      replace H:=Option.bind_eq_some_iff.mp H
      obtain⟨t175,WX,H⟩:=H
      replace H:(some (t175,0))=some (r1,r2):=H
      have A15:=ai.mk WX
      clear WX
      simp only[Option.some.injEq,Prod.mk.injEq] at H
      obtain⟨rfl,rfl⟩:=H
      go_wp2_with (first|(go_at_call 73;(with_reducible refine(aH.calls k1 _ _ l0 t173 t174 _ ?gM ?gW A13.out).mono ?_);(case gM=>repeat(first|exact(Kd.bY gq.out HB.out)|(with_reducible refine Kd.dD ?_ _)|(with_reducible refine Kd.dB ?_ _)|(with_reducible refine Kd.fA ?_)));(case gW=>exact lC.out);rintro e w16 ⟨rfl,hb⟩;have bN:=ai.mk (fQ (g:=fF) (o:= .cells #[.int .i64 bz,.int .i64 bD,.int .i64 dA] 24 (0,0)) (by(with_reducible repeat(first|refine aW ?_ _|refine bC ?_|refine bf ?_ _));exact bX.out) hb);have bP:=ai.mk (bn (by repeat(first|(with_reducible first|exact HB.out|apply ag|apply af|apply ah|refine az ?_ jS.out)|exact HB.out)) hb);clear bX;clear HB;have bX:=bN;have HB:=bP;clear bN bP;(try clear hb);(try clear hb2);(try clear hk);(try clear hi);have Js:w16.cell? ⟨fF,0,none⟩=some (.int .i64 bz):=(ax bX.out 0).trans rfl;have Jt:w16.cell? ⟨fF,1,none⟩=some (.int .i64 bD):=(ax bX.out 1).trans rfl;have Ju:w16.cell? ⟨fF,2,none⟩=some (.int .i64 dA):=(ax bX.out 2).trans rfl;have JK:=ak bX.out 0;have JL:=ak bX.out 1;have JM:=ak bX.out 2)|(go_at_call 74;(with_reducible refine(av.calls k1 _ _ l0 bz bD t175 _ ?gM ?gW A15.out).mono ?_);(case gM=>repeat(first|exact(Kd.bY gq.out HB.out)|(with_reducible refine Kd.dD ?_ _)|(with_reducible refine Kd.dB ?_ _)|(with_reducible refine Kd.fA ?_)));(case gW=>exact lC.out);rintro e w18 ⟨v176,rfl,ho0,hb⟩;have bN:=ai.mk (Kd.lF ho0 (ay (by repeat(first|(with_reducible first|exact HB.out|apply ag|apply af|apply ah|refine az ?_ jS.out)|exact HB.out))));have bP:=ai.mk (fQ (g:=fF) (o:= .cells #[.int .i64 bz,.int .i64 bD,.int .i64 dA] 24 (0,0)) (by(with_reducible repeat(first|refine aW ?_ _|refine bC ?_|refine bf ?_ _));exact bX.out) hb);have cz:=ai.mk (bn (by repeat(first|(with_reducible first|exact HB.out|apply ag|apply af|apply ah|refine az ?_ jS.out)|exact HB.out)) hb);clear bX;clear HB;have Xl:=bN;have bX:=bP;have HB:=cz;clear bN bP cz;(try clear hb);(try clear hb2);(try clear hk);(try clear hi);(try clear ho0)))
      go_ret2
      exact⟨_,by first|rfl|(simp[aC,aD]<;>rfl)|(simp[*,aC,aD]<;>rfl),by(with_reducible repeat(first|apply Kd.aM|apply Kd.aK|apply Kd.aV));exact Xl.out,by repeat(first|(with_reducible first|exact HB.out|apply ag|apply af|apply ah|refine az ?_ jS.out)|exact HB.out)⟩
     ·rw[if_neg c14] at H
      simp only[Option.some.injEq,Prod.mk.injEq] at H
      obtain⟨rfl,rfl⟩:=H
      go_wp2_with (first|(go_at_call 73;(with_reducible refine(aH.calls k1 _ _ l0 t173 t174 _ ?gM ?gW A13.out).mono ?_);(case gM=>repeat(first|exact(Kd.bY gq.out HB.out)|(with_reducible refine Kd.dD ?_ _)|(with_reducible refine Kd.dB ?_ _)|(with_reducible refine Kd.fA ?_)));(case gW=>exact lC.out);rintro e WT ⟨rfl,hb⟩;have bN:=ai.mk (fQ (g:=fF) (o:= .cells #[.int .i64 bz,.int .i64 bD,.int .i64 dA] 24 (0,0)) (by(with_reducible repeat(first|refine aW ?_ _|refine bC ?_|refine bf ?_ _));exact bX.out) hb);have bP:=ai.mk (bn (by repeat(first|(with_reducible first|exact HB.out|apply ag|apply af|apply ah|refine az ?_ jS.out)|exact HB.out)) hb);clear bX;clear HB;have bX:=bN;have HB:=bP;clear bN bP;(try clear hb);(try clear hb2);(try clear hk);(try clear hi)))
      go_ret2
      exact⟨_,by first|rfl|(simp[aC,aD]<;>rfl)|(simp[*,aC,aD]<;>rfl),by first|exact Kd.jM _ _ _ _ _|exact Kd.kQ _ _ _ _ _|exact Kd.kS _ _ _ _ _|exact Kd.kR _ _ _ _ _|exact Kd.kg _ _ _ _ _,by repeat(first|(with_reducible first|exact HB.out|apply ag|apply af|apply ah|refine az ?_ jS.out)|exact HB.out)⟩
 ·rw[if_neg c4] at H
  simp only[Option.some.injEq,Prod.mk.injEq] at H
  obtain⟨rfl,rfl⟩:=H
  go_enter Tryz.func42,Tryz.ntmps42
  go_wp2_with (first|((with_reducible refine di (N:=3) rfl ?_);refine bW ?hg (N:=3) ?hd (cs:=#[.int .i64 bz,.int .i64 bD,.int .i64 dA]) (t:=24) ?hr ?_;(case hd=>rfl);(case hg=>rfl);(case hr=>first|(go_simp;done)|(go_simp;rfl));intro fF hg Dh dm hb;have bN:=ai.mk (bn (by repeat(first|(with_reducible first|exact HB.out|apply ag|apply af|apply ah)|exact HB.out)) hb);have bP:=ai.mk (dm);have cz:=ai.mk ((by rw[hg];exact(ay (by repeat(first|(with_reducible first|exact HB.out|apply ag|apply af|apply ah)|exact HB.out))):w.heap.size<=fF));have fC:=ai.mk ((by rw[hg];exact(ay (by repeat(first|(with_reducible first|exact HB.out|apply ag|apply af|apply ah)|exact HB.out))):w.heap.size<=fF));clear HB;have HB:=bN;have bX:=bP;have Lr:=cz;have jS:=fC;clear bN bP cz fC;clear hb dm hg;have Jw:Dh.cell? ⟨fF,0,none⟩=some (.int .i64 bz):=(ax bX.out 0).trans rfl;have Jy:Dh.cell? ⟨fF,1,none⟩=some (.int .i64 bD):=(ax bX.out 1).trans rfl;have Jz:Dh.cell? ⟨fF,2,none⟩=some (.int .i64 dA):=(ax bX.out 2).trans rfl;have JO:=ak bX.out 0;have JP:=ak bX.out 1;have JQ:=ak bX.out 2)|(go_at_call 72;(with_reducible refine(fE.calls bz bD dA t171 _ A3.out).mono ?_);rintro e w22 ⟨rfl,hb⟩;have bN:=ai.mk (fQ (g:=fF) (o:= .cells #[.int .i64 bz,.int .i64 bD,.int .i64 dA] 24 (0,0)) (by(with_reducible repeat(first|refine aW ?_ _|refine bC ?_|refine bf ?_ _));exact bX.out) hb);have bP:=ai.mk (bn (by repeat(first|(with_reducible first|exact HB.out|apply ag|apply af|apply ah|refine az ?_ jS.out)|exact HB.out)) hb);clear bX;clear HB;have bX:=bN;have HB:=bP;clear bN bP;(try clear hb);(try clear hb2);(try clear hk);(try clear hi)))
  go_ret2
  exact⟨_,by first|rfl|(simp[aC,aD]<;>rfl)|(simp[*,aC,aD]<;>rfl),by first|exact Kd.jM _ _ _ _ _|exact Kd.kQ _ _ _ _ _|exact Kd.kS _ _ _ _ _|exact Kd.kR _ _ _ _ _|exact Kd.kg _ _ _ _ _,by repeat(first|(with_reducible first|exact HB.out|apply ag|apply af|apply ah|refine az ?_ jS.out)|exact HB.out)⟩
end Go.Proofs.YtilpincgjlclpaaGreat.Pr
