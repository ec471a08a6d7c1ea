import Derived.Test.YtilpincgjlclpaaGreatB27
import Derived.Test.YtilpincgjlclpaaGreatT5
import Derived.Test.YtilpincgjlclpaaGreatT8
set_option linter.unusedVariables false
set_option linter.unusedSimpArgs false
section
namespace Go.Proofs.YtilpincgjlclpaaGreat.Pr
open Go.RowKit Go.Proofs.ae.au Go.Proofs.ae.aZ Go.Proofs.ae.bE
attribute [local go_sem] bQ min2_int cB min_two max_three min_three max_four min_four
set_option maxHeartbeats 8000000 in
set_option maxRecDepth 100000 in
theorem aH.calls (k:Nat) (A0:Option Addr) (c0:Nat) (l0:List (dN)) (r1:Int) (r2:Int) (w:World) (hr0:Kd.C lQ w A0 l0.length l0) (hc0:l0.length<=c0) (h:aH.f k l0=some (r1,r2)):
  Calls Tryz.prog 73 #[.slice A0 l0.length c0] w fun e w'=>e= .returned (.tuple #[.int .i64 r1,.int .i64 r2])/\Below w.heap.size w w':=by
 have gq:=ai.mk hr0
 have lC:=ai.mk hc0
 clear hr0 hc0
 have HB:=ai.mk (Below.refl w.heap.size w)
 have H:(aH.l0 k l0 0)=some (r1,r2):=h
 clear h
 have H':=ai.mk H
 clear H
 go_enter Tryz.func73,Tryz.ntmps73
 go_wp2
 go_loopg [4] k (fun kq v4 w'=>∃(bq:Int),v4= .int .i64 bq/\ai (aH.l0 kq l0 bq=some (r1,r2))/\ai (kq<=k)/\ai (Below w.heap.size w w'))
 case atStart=>exact⟨(0),(by simp[*]),H',⟨Nat.le_refl _⟩,⟨by repeat(first|(with_reducible first|exact HB.out|apply ag|apply af|apply ah)|exact HB.out)⟩⟩
 case round=>
  clear H'
  obtain⟨bq,rfl,HA,gH,HB⟩:=hrel
  cases gk with
  |zero=>exact absurd HA.out (by simp[aH.l0])
  |succ k1=>
   have H:=HA.out
   clear HA
   simp only[aH.l0] at H
   by_cases c2:bq<(l0.length:Int)
   ·rw[if_pos c2] at H
    have jV:decide (bq<(l0.length:Int))=true:=decide_eq_true c2
    clear c2
    have Ci:=ai.mk H
    clear H
    go_upto_region 4 with(fail)
    go_cut [26] (fun v26 wc=>∃(kq:Nat) (UL:Bool),v26= .bool UL/\ai (aH.j1 kq l0 bq UL=some (r1,r2))/\ai (kq<=k1)/\ai (Below w.heap.size w wc))
    case first=>
     have H:=Ci.out
     clear Ci
     by_cases c4:0<=bq
     ·rw[if_pos c4] at H
      have iw:decide (0<=bq)=true:=decide_eq_true c4
      clear c4
      (first|rw[iw]|(simp only[jY,lV];rw[iw])|skip)
      by_cases c5:((aU l0 bq).f0).toList=([]:List UInt8)
      ·rw[if_pos c5] at H
       have iC:(((aU l0 bq).f0).toList==([]:List UInt8))=true:=beq_iff_eq.mpr c5
       clear c5
       have H':=ai.mk H
       clear H
       have NH:0<=(bq:Int):=of_decide_eq_true (by first|(with_reducible assumption)|assumption)
       have NN:bq<(l0.length:Int):=of_decide_eq_true (by first|(with_reducible assumption)|assumption)
       obtain⟨ad116,e116,qE,qF⟩:=eP gq.out bq NH NN
       cases e116
       replace qE:=(HB.out.cell (World.block_lt_of_cell? w _ qE)).trans qE
       replace qF:=(HB.out.cell (World.block_lt_of_cell? w _ qF)).trans qF
       replace NH:=eq_true NH
       replace NN:=eq_true NN
       go_wp2
       go_meet
       case rel=>exact⟨_,(true),(by simp[*]),H',⟨by have:=gH.out;first|omega|exact Nat.le_refl _⟩,⟨by repeat(first|(with_reducible first|exact HB.out|apply ag|apply af|apply ah)|exact HB.out)⟩⟩
      ·rw[if_neg c5] at H
       have H':=ai.mk H
       clear H
       have NH:0<=(bq:Int):=of_decide_eq_true (by first|(with_reducible assumption)|assumption)
       have NN:bq<(l0.length:Int):=of_decide_eq_true (by first|(with_reducible assumption)|assumption)
       obtain⟨ad116,e116,qE,qF⟩:=eP gq.out bq NH NN
       cases e116
       replace qE:=(HB.out.cell (World.block_lt_of_cell? w _ qE)).trans qE
       replace qF:=(HB.out.cell (World.block_lt_of_cell? w _ qF)).trans qF
       replace NH:=eq_true NH
       replace NN:=eq_true NN
       have p117:0<=(bq:Int):=of_decide_eq_true (by first|(with_reducible assumption)|assumption)
       have q117:bq<(l0.length:Int):=of_decide_eq_true (by first|(with_reducible assumption)|assumption)
       obtain⟨ad117,e117,CV,CW⟩:=eP gq.out bq p117 q117
       obtain rfl:ad116=ad117:=(by injection e117)
       replace CV:=(HB.out.cell (World.block_lt_of_cell? w _ CV)).trans CV
       replace CW:=(HB.out.cell (World.block_lt_of_cell? w _ CW)).trans CW
       replace p117:=eq_true p117
       replace q117:=eq_true q117
       go_wp2
       go_meet
       case rel=>exact⟨_,(decide (((aU l0 bq).f1)<1)),(by simp[*]),H',⟨by have:=gH.out;first|omega|exact Nat.le_refl _⟩,⟨by repeat(first|(with_reducible first|exact HB.out|apply ag|apply af|apply ah)|exact HB.out)⟩⟩
     ·rw[if_neg c4] at H
      exact absurd H (by simp)
    case rest=>
     clear Ci
     obtain⟨kq,UL,rfl,HA,HJ2,HB⟩:=hcut
     cases kq with
     |zero=>exact absurd HA.out (by simp[aH.j1])
     |succ Nq=>
      have H:=HA.out
      clear HA
      simp only[aH.j1] at H
      by_cases c6:UL=true
      ·subst c6
       have H1:(some (bq,1))=some (r1,r2):=by rw[if_pos rfl] at H;exact H
       clear H
       have H:=H1
       clear H1
       simp only[Option.some.injEq,Prod.mk.injEq] at H
       obtain⟨rfl,rfl⟩:=H
       go_wp2
       go_ret2
       exact⟨by first|rfl|(simp[aC,aD]<;>rfl)|(simp[*,aC,aD]<;>rfl),by repeat(first|(with_reducible first|exact HB.out|apply ag|apply af|apply ah)|exact HB.out)⟩
      ·replace c6:=Bool.eq_false_iff.mpr c6
       subst c6
       have H1:(if 0<=bq then(if bq<(l0.length:Int) then(if(((aU l0 bq).f0).size:Int)>65536 then(some (bq,4)) else(if bq>0 then(if 0<=(wrap64 (bq-1)) then(if(wrap64 (bq-1))<(l0.length:Int) then((bI.f ((aU l0 (wrap64 (bq-1))).f0) ((aU l0 bq).f0)).bind fun t121=>(if t121=true then(aH.l0 Nq l0 (wrap64 (bq+1))) else(some (bq,6)))) else(none)) else(none)) else(aH.l0 Nq l0 (wrap64 (bq+1))))) else(none)) else(none))=some (r1,r2):=by rw[if_neg (show¬(false=true) by decide)] at H;exact H
       clear H
       have H:=H1
       clear H1
       by_cases c7:0<=bq
       ·rw[if_pos c7] at H
        have jU:decide (0<=bq)=true:=decide_eq_true c7
        clear c7
        by_cases c8:bq<(l0.length:Int)
        ·rw[if_pos c8] at H
         clear c8
         by_cases c9:(((aU l0 bq).f0).size:Int)>65536
         ·rw[if_pos c9] at H
          have qx:decide (65536<(((aU l0 bq).f0).size:Int))=true:=decide_eq_true c9
          clear c9
          simp only[Option.some.injEq,Prod.mk.injEq] at H
          obtain⟨rfl,rfl⟩:=H
          have yn:0<=(bq:Int):=of_decide_eq_true (by first|(with_reducible assumption)|assumption)
          have yu:bq<(l0.length:Int):=of_decide_eq_true (by first|(with_reducible assumption)|assumption)
          obtain⟨Dz,e118,kE,kF⟩:=eP gq.out bq yn yu
          cases e118
          replace kE:=(HB.out.cell (World.block_lt_of_cell? w _ kE)).trans kE
          replace kF:=(HB.out.cell (World.block_lt_of_cell? w _ kF)).trans kF
          replace yn:=eq_true yn
          replace yu:=eq_true yu
          go_wp2
          go_ret2
          exact⟨by first|rfl|(simp[aC,aD]<;>rfl)|(simp[*,aC,aD]<;>rfl),by repeat(first|(with_reducible first|exact HB.out|apply ag|apply af|apply ah)|exact HB.out)⟩
         ·rw[if_neg c9] at H
          have qx:decide (65536<(((aU l0 bq).f0).size:Int))=false:=decide_eq_false c9
          clear c9
          by_cases c10:bq>0
          ·rw[if_pos c10] at H
           have lU:decide (0<bq)=true:=decide_eq_true c10
           clear c10
           obtain⟨rG,Tg⟩:∃j_:Int,(wrap64 (bq-1))=j_:=⟨_,rfl⟩
           replace H:(if 0<=(rG) then(if(rG)<(l0.length:Int) then((bI.f ((aU l0 (rG)).f0) ((aU l0 bq).f0)).bind fun t121=>(if t121=true then(aH.l0 Nq l0 (wrap64 (bq+1))) else(some (bq,6)))) else(none)) else(none))=some (r1,r2):=by first|(rw[Tg] at H;exact H)|(simp only[Tg] at H ⊢;exact H)
           have hji11w:(IntKind.i64.wrap (bq-1))=rG:=(jY _).trans Tg
           by_cases c12:0<=(rG)
           ·rw[if_pos c12] at H
            have GQ:decide (0<=(rG))=true:=decide_eq_true c12
            clear c12
            by_cases c13:(rG)<(l0.length:Int)
            ·rw[if_pos c13] at H
             have Su:decide ((rG)<(l0.length:Int))=true:=decide_eq_true c13
             clear c13
             replace H:=Option.bind_eq_some_iff.mp H
             obtain⟨t121,WV,H⟩:=H
             have A14:=ai.mk WV
             clear WV
             by_cases c15:t121=true
             ·subst c15
              have H1:(aH.l0 Nq l0 (wrap64 (bq+1)))=some (r1,r2):=by rw[if_pos rfl] at H;exact H
              clear H
              have H:=H1
              clear H1
              have H':=ai.mk H
              clear H
              have yn:0<=(bq:Int):=of_decide_eq_true (by first|(with_reducible assumption)|assumption)
              have yu:bq<(l0.length:Int):=of_decide_eq_true (by first|(with_reducible assumption)|assumption)
              obtain⟨Dz,e118,kE,kF⟩:=eP gq.out bq yn yu
              cases e118
              replace kE:=(HB.out.cell (World.block_lt_of_cell? w _ kE)).trans kE
              replace kF:=(HB.out.cell (World.block_lt_of_cell? w _ kF)).trans kF
              replace yn:=eq_true yn
              replace yu:=eq_true yu
              have Qx:0<=((rG):Int):=of_decide_eq_true (by first|(with_reducible assumption)|assumption)
              have QW:(rG)<(l0.length:Int):=of_decide_eq_true (by first|(with_reducible assumption)|assumption)
              obtain⟨XF,e119,sJ,sK⟩:=eP gq.out (rG) Qx QW
              obtain rfl:Dz=XF:=(by injection e119)
              replace sJ:=(HB.out.cell (World.block_lt_of_cell? w _ sJ)).trans sJ
              replace sK:=(HB.out.cell (World.block_lt_of_cell? w _ sK)).trans sK
              replace Qx:=eq_true Qx
              replace QW:=eq_true QW
              have Qy:0<=(bq:Int):=of_decide_eq_true (by first|(with_reducible assumption)|assumption)
              have QX:bq<(l0.length:Int):=of_decide_eq_true (by first|(with_reducible assumption)|assumption)
              obtain⟨XG,e120,sM,sN⟩:=eP gq.out bq Qy QX
              obtain rfl:Dz=XG:=(by injection e120)
              replace sM:=(HB.out.cell (World.block_lt_of_cell? w _ sM)).trans sM
              replace sN:=(HB.out.cell (World.block_lt_of_cell? w _ sN)).trans sN
              replace Qy:=eq_true Qy
              replace QX:=eq_true QX
              go_wp2_with fail
              repeat(go_quiet (first|(go_at_call 50;(with_reducible refine(bI.calls ((aU l0 (rG)).f0) ((aU l0 bq).f0) true _ A14.out).mono ?_);rintro e w' ⟨rfl,⟨nd,rfl⟩⟩;(try first|exact⟨rfl,_,World.drewN_drewN _ _ _⟩|exact⟨rfl,_,Eq.trans (World.drewN_drewN _ _ _) (congrArg (World.drewN _) (Nat.add_assoc _ _ _))⟩)));try go_wp2_with fail)
              go_roundg Nq
              case measure=>have:=gH.out;have:=HJ2.out;omega
              case rel=>exact⟨(wrap64 (bq+1)),(by simp[*]),H',⟨by have:=gH.out;have:=HJ2.out;omega⟩,⟨by repeat(first|(with_reducible first|exact HB.out|apply ag|apply af|apply ah)|exact HB.out)⟩⟩
             ·replace c15:=Bool.eq_false_iff.mpr c15
              subst c15
              have H1:(some (bq,6))=some (r1,r2):=by rw[if_neg (show¬(false=true) by decide)] at H;exact H
              clear H
              have H:=H1
              clear H1
              simp only[Option.some.injEq,Prod.mk.injEq] at H
              obtain⟨rfl,rfl⟩:=H
              have yn:0<=(bq:Int):=of_decide_eq_true (by first|(with_reducible assumption)|assumption)
              have yu:bq<(l0.length:Int):=of_decide_eq_true (by first|(with_reducible assumption)|assumption)
              obtain⟨Dz,e118,kE,kF⟩:=eP gq.out bq yn yu
              cases e118
              replace kE:=(HB.out.cell (World.block_lt_of_cell? w _ kE)).trans kE
              replace kF:=(HB.out.cell (World.block_lt_of_cell? w _ kF)).trans kF
              replace yn:=eq_true yn
              replace yu:=eq_true yu
              have Qx:0<=((rG):Int):=of_decide_eq_true (by first|(with_reducible assumption)|assumption)
              have QW:(rG)<(l0.length:Int):=of_decide_eq_true (by first|(with_reducible assumption)|assumption)
              obtain⟨XF,e119,sJ,sK⟩:=eP gq.out (rG) Qx QW
              obtain rfl:Dz=XF:=(by injection e119)
              replace sJ:=(HB.out.cell (World.block_lt_of_cell? w _ sJ)).trans sJ
              replace sK:=(HB.out.cell (World.block_lt_of_cell? w _ sK)).trans sK
              replace Qx:=eq_true Qx
              replace QW:=eq_true QW
              have Qy:0<=(bq:Int):=of_decide_eq_true (by first|(with_reducible assumption)|assumption)
              have QX:bq<(l0.length:Int):=of_decide_eq_true (by first|(with_reducible assumption)|assumption)
              obtain⟨XG,e120,sM,sN⟩:=eP gq.out bq Qy QX
              obtain rfl:Dz=XG:=(by injection e120)
              replace sM:=(HB.out.cell (World.block_lt_of_cell? w _ sM)).trans sM
              replace sN:=(HB.out.cell (World.block_lt_of_cell? w _ sN)).trans sN
              replace Qy:=eq_true Qy
              replace QX:=eq_true QX
              go_wp2_with fail
              repeat(go_quiet (first|(go_at_call 50;(with_reducible refine(bI.calls ((aU l0 (rG)).f0) ((aU l0 bq).f0) false _ A14.out).mono ?_);rintro e w' ⟨rfl,⟨nd,rfl⟩⟩;(try first|exact⟨rfl,_,World.drewN_drewN _ _ _⟩|exact⟨rfl,_,Eq.trans (World.drewN_drewN _ _ _) (congrArg (World.drewN _) (Nat.add_assoc _ _ _))⟩)));try go_wp2_with fail)
              go_ret2
              exact⟨by first|rfl|(simp[aC,aD]<;>rfl)|(simp only[<-Tg];first|rfl|(simp[aC,aD]<;>rfl))|(simp[*,aC,aD]<;>rfl),by repeat(first|(with_reducible first|exact HB.out|apply ag|apply af|apply ah)|exact HB.out)⟩
            ·rw[if_neg c13] at H
             exact absurd H (by simp)
           ·rw[if_neg c12] at H
            exact absurd H (by simp)
          ·rw[if_neg c10] at H
           have lU:decide (0<bq)=false:=decide_eq_false c10
           clear c10
           have H':=ai.mk H
           clear H
           have yn:0<=(bq:Int):=of_decide_eq_true (by first|(with_reducible assumption)|assumption)
           have yu:bq<(l0.length:Int):=of_decide_eq_true (by first|(with_reducible assumption)|assumption)
           obtain⟨Dz,e118,kE,kF⟩:=eP gq.out bq yn yu
           cases e118
           replace kE:=(HB.out.cell (World.block_lt_of_cell? w _ kE)).trans kE
           replace kF:=(HB.out.cell (World.block_lt_of_cell? w _ kF)).trans kF
           replace yn:=eq_true yn
           replace yu:=eq_true yu
           go_wp2
           repeat(go_quiet (fail);try go_wp2)
           go_roundg Nq
           case measure=>have:=gH.out;have:=HJ2.out;omega
           case rel=>exact⟨(wrap64 (bq+1)),(by simp[*]),H',⟨by have:=gH.out;have:=HJ2.out;omega⟩,⟨by repeat(first|(with_reducible first|exact HB.out|apply ag|apply af|apply ah)|exact HB.out)⟩⟩
        ·rw[if_neg c8] at H
         exact absurd H (by simp)
       ·rw[if_neg c7] at H
        exact absurd H (by simp)
   ·rw[if_neg c2] at H
    have jV:decide (bq<(l0.length:Int))=false:=decide_eq_false c2
    clear c2
    replace H:=Option.bind_eq_some_iff.mp H
    obtain⟨⟨t114,t115⟩,A160,H⟩:=H
    replace H:(if t115=true then(some ((-1),0)) else(some ((l0.length:Int),5)))=some (r1,r2):=H
    have A16:=ai.mk A160
    clear A160
    by_cases c17:t115=true
    ·subst c17
     have H1:(some ((-1),0))=some (r1,r2):=by rw[if_pos rfl] at H;exact H
     clear H
     have H:=H1
     clear H1
     simp only[Option.some.injEq,Prod.mk.injEq] at H
     obtain⟨rfl,rfl⟩:=H
     go_wp2_with (first|(go_at_call 107;(with_reducible refine(bg.calls k1 _ _ l0 t114 true _ ?gM ?gW A16.out).mono ?_);(case gM=>repeat(first|exact(Kd.bY gq.out HB.out)|(with_reducible refine Kd.dD ?_ _)|(with_reducible refine Kd.dB ?_ _)|(with_reducible refine Kd.fA ?_)));(case gW=>exact lC.out);rintro e w18 ⟨rfl,hb⟩;have bN:=ai.mk (bn (by repeat(first|(with_reducible first|exact HB.out|apply ag|apply af|apply ah)|exact HB.out)) hb);clear HB;have HB:=bN;clear bN;(try clear hb);(try clear hb2);(try clear hk);(try clear hi)))
     repeat(go_quiet (first|(go_at_call 107;(with_reducible refine(bg.calls k1 _ _ l0 t114 true _ ?gM ?gW A16.out).mono ?_);(case gM=>repeat(first|exact(Kd.bY gq.out HB.out)|(with_reducible refine Kd.dD ?_ _)|(with_reducible refine Kd.dB ?_ _)|(with_reducible refine Kd.fA ?_)));(case gW=>exact lC.out);rintro e w18 ⟨rfl,hb⟩;have bN:=ai.mk (bn (by repeat(first|(with_reducible first|exact HB.out|apply ag|apply af|apply ah)|exact HB.out)) hb);clear HB;have HB:=bN;clear bN;(try clear hb);(try clear hb2);(try clear hk);(try clear hi)));try go_wp2_with (first|(go_at_call 107;(with_reducible refine(bg.calls k1 _ _ l0 t114 true _ ?gM ?gW A16.out).mono ?_);(case gM=>repeat(first|exact(Kd.bY gq.out HB.out)|(with_reducible refine Kd.dD ?_ _)|(with_reducible refine Kd.dB ?_ _)|(with_reducible refine Kd.fA ?_)));(case gW=>exact lC.out);rintro e w18 ⟨rfl,hb⟩;have bN:=ai.mk (bn (by repeat(first|(with_reducible first|exact HB.out|apply ag|apply af|apply ah)|exact HB.out)) hb);clear HB;have HB:=bN;clear bN;(try clear hb);(try clear hb2);(try clear hk);(try clear hi))))
     go_ret2
     exact⟨by first|rfl|(simp[aC,aD]<;>rfl)|(simp[*,aC,aD]<;>rfl),by repeat(first|(with_reducible first|exact HB.out|apply ag|apply af|apply ah)|exact HB.out)⟩
    ·replace c17:=Bool.eq_false_iff.mpr c17
     subst c17
     have H1:(some ((l0.length:Int),5))=some (r1,r2):=by rw[if_neg (show¬(false=true) by decide)] at H;exact H
     clear H
     have H:=H1
     clear H1
     simp only[Option.some.injEq,Prod.mk.injEq] at H
     obtain⟨rfl,rfl⟩:=H
     go_wp2_with (first|(go_at_call 107;(with_reducible refine(bg.calls k1 _ _ l0 t114 false _ ?gM ?gW A16.out).mono ?_);(case gM=>repeat(first|exact(Kd.bY gq.out HB.out)|(with_reducible refine Kd.dD ?_ _)|(with_reducible refine Kd.dB ?_ _)|(with_reducible refine Kd.fA ?_)));(case gW=>exact lC.out);rintro e WT ⟨rfl,hb⟩;have bN:=ai.mk (bn (by repeat(first|(with_reducible first|exact HB.out|apply ag|apply af|apply ah)|exact HB.out)) hb);clear HB;have HB:=bN;clear bN;(try clear hb);(try clear hb2);(try clear hk);(try clear hi)))
     repeat(go_quiet (first|(go_at_call 107;(with_reducible refine(bg.calls k1 _ _ l0 t114 false _ ?gM ?gW A16.out).mono ?_);(case gM=>repeat(first|exact(Kd.bY gq.out HB.out)|(with_reducible refine Kd.dD ?_ _)|(with_reducible refine Kd.dB ?_ _)|(with_reducible refine Kd.fA ?_)));(case gW=>exact lC.out);rintro e WT ⟨rfl,hb⟩;have bN:=ai.mk (bn (by repeat(first|(with_reducible first|exact HB.out|apply ag|apply af|apply ah)|exact HB.out)) hb);clear HB;have HB:=bN;clear bN;(try clear hb);(try clear hb2);(try clear hk);(try clear hi)));try go_wp2_with (first|(go_at_call 107;(with_reducible refine(bg.calls k1 _ _ l0 t114 false _ ?gM ?gW A16.out).mono ?_);(case gM=>repeat(first|exact(Kd.bY gq.out HB.out)|(with_reducible refine Kd.dD ?_ _)|(with_reducible refine Kd.dB ?_ _)|(with_reducible refine Kd.fA ?_)));(case gW=>exact lC.out);rintro e WT ⟨rfl,hb⟩;have bN:=ai.mk (bn (by repeat(first|(with_reducible first|exact HB.out|apply ag|apply af|apply ah)|exact HB.out)) hb);clear HB;have HB:=bN;clear bN;(try clear hb);(try clear hb2);(try clear hk);(try clear hi))))
     go_ret2
     exact⟨by first|rfl|(simp[aC,aD]<;>rfl)|(simp[*,aC,aD]<;>rfl),by repeat(first|(with_reducible first|exact HB.out|apply ag|apply af|apply ah)|exact HB.out)⟩
end Go.Proofs.YtilpincgjlclpaaGreat.Pr
end
section
namespace Go.Proofs.YtilpincgjlclpaaGreat.uA
open Go.RowKit Pr Go.Proofs.ae.au Go.Proofs.ae.aZ
theorem xX {d:Bool}:∀{a:ByteArray} {l:List dN},jN d a l=5->d=false
 |_,[],h=>by cases d<;>simp[jN] at h ⊢
 |a,x::r,h=>by
  rw[jN] at h
  split at h
  ·simp at h
  ·split at h
   ·simp at h
   ·split at h
    ·exact xX h
    ·simp at h
end Go.Proofs.YtilpincgjlclpaaGreat.uA
end
