import Derived.Test.YtilpincgjlclpaaGreatD3
import Derived.Test.YtilpincgjlclpaaGreatD7
import Derived.Test.YtilpincgjlclpaaGreatD9
set_option linter.unusedVariables false
set_option linter.unusedSimpArgs false
namespace Go.Proofs.YtilpincgjlclpaaGreat.Pr
open Go.RowKit Go.Proofs.ae.au Go.Proofs.ae.aZ Go.Proofs.ae.bE
attribute [local go_sem] bQ min2_int cB min_two max_three min_three max_four min_four
mutual
def aY.j0:Nat->List (dN)->ByteArray->Int->Bool->Option ((List (dN))×Int)
 |0,_,_,_,_=>none
 |k+1,x0,x1,x2,x18=>if x18=true then(some (x0,1)) else((dE.f k x0 x1).bind fun FC=>((cK.f FC x2).bind fun BJ=>(if BJ.2=true then(aY.l0 k x0 x1 BJ.1 ([]:List (dN)) false 0) else(some (x0,5)))))
def aY.l0:Nat->List (dN)->ByteArray->Int->List (dN)->Bool->Int->Option ((List (dN))×Int)
 |0,_,_,_,_,_,_=>none
 |k+1,x0,x1,x8,qo,IP,wE=>if wE<(x0.length:Int) then(if IP=true then(aY.j2 k x0 x1 x8 qo IP wE false) else(if 0<=wE then((bI.f ((aU x0 wE).f0) x1).bind fun RO=>(aY.j2 k x0 x1 x8 qo IP wE (!RO))) else(none))) else(if IP=true then(some (qo,0)) else(if qo.length<5864062014805 then(some ((qo++[(⟨x1,x8⟩:dN)]),0)) else(none)))
def aY.j2:Nat->List (dN)->ByteArray->Int->List (dN)->Bool->Int->Bool->Option ((List (dN))×Int)
 |0,_,_,_,_,_,_,_=>none
 |k+1,x0,x1,x8,qo,IP,wE,x48=>if x48=true then(if qo.length<5864062014805 then((some (qo++[(⟨x1,x8⟩:dN)]:List (dN))).bind fun yC=>(if 0<=wE then(if wE<(x0.length:Int) then(if((aU x0 wE).f0).toList=x1.toList then(aY.l0 k x0 x1 x8 yC true (wrap64 (wE+1))) else(if yC.length<5864062014805 then(aY.l0 k x0 x1 x8 (yC++[(⟨(aU x0 wE).f0,(aU x0 wE).f1⟩:dN)]) true (wrap64 (wE+1))) else(none))) else(none)) else(none))) else(none)) else(if 0<=wE then(if wE<(x0.length:Int) then(if((aU x0 wE).f0).toList=x1.toList then(aY.l0 k x0 x1 x8 qo IP (wrap64 (wE+1))) else(if qo.length<5864062014805 then(aY.l0 k x0 x1 x8 (qo++[(⟨(aU x0 wE).f0,(aU x0 wE).f1⟩:dN)]) IP (wrap64 (wE+1))) else(none))) else(none)) else(none))
end
def aY.f (k:Nat) (l0:List (dN)) (a1:ByteArray) (a2:Int):Option ((List (dN))×Int):=if a1.toList=([]:List UInt8) then(aY.j0 k l0 a1 a2 true) else(aY.j0 k l0 a1 a2 (decide (a2<1)))
set_option maxHeartbeats 8000000 in
set_option maxRecDepth 100000 in
theorem aY.calls (k:Nat) (xu:Nat->Prop) (KU:Value) (l0:List (dN)) (a1:ByteArray) (a2:Int) (r1:List (dN)) (r2:Int) (w0 w:World) (hB:Below w0.heap.size w0 w) (ho0:Kd.R lQ 45 w w0.heap.size xu KU l0) (h:aY.f k l0 a1 a2=some (r1,r2)):
  Calls Tryz.prog 59 #[KU,.string a1,.int .i64 a2] w fun e w'=>∃rU:Value,e= .returned (.tuple #[rU,.int .i64 r2])/\Kd.R lQ 45 w' w0.heap.size (fun k_=>(xu k_\/w.heap.size<=k_)) rU r1/\Below w0.heap.size w0 w'/\Kept w w' (fun k_=>xu k_):=by
 have Zg:=Tryz.underlying45
 have HO0:=ai.mk (show Kd.R lQ 45 w w0.heap.size (fun k_=>(xu k_\/w.heap.size<=k_)) KU l0 from Kd.dU ho0 (fun k_ hk=>(.inl hk)))
 have HK:=ai.mk (Kept.refl w (fun k_=>xu k_))
 have HW0:=ai.mk hB.size
 have HB:=ai.mk hB
 clear hB
 have H:(if a1.toList=([]:List UInt8) then(aY.j0 k l0 a1 a2 true) else(aY.j0 k l0 a1 a2 (decide (a2<1))))=some (r1,r2):=h
 clear h
 have UR:=ai.mk H
 clear H
 go_enter Tryz.func59,Tryz.ntmps59
 go_upto_region 1 with(fail)
 go_cut [18] (fun v18 wc=>∃(kq:Nat) (UH:Bool),v18= .bool UH/\ai (aY.j0 kq l0 a1 a2 UH=some (r1,r2))/\ai (kq<=k)/\ai (Kd.R lQ 45 wc w0.heap.size (fun k_=>(xu k_\/w.heap.size<=k_)) KU l0)/\ai (Kept w wc (fun k_=>xu k_))/\ai (Below w0.heap.size w0 wc))
 case first=>
  have H:=UR.out
  clear UR
  by_cases c5:a1.toList=([]:List UInt8)
  ·rw[if_pos c5] at H
   have iC:(a1.toList==([]:List UInt8))=true:=beq_iff_eq.mpr c5
   have oD:(a1.toList != ([]:List UInt8))=false:=bne_eq_false_iff_eq.mpr c5
   clear c5
   (first|rw[iC]|(simp only[jY,lV];rw[iC])|skip)
   have H':=ai.mk H
   clear H
   go_wp2
   go_meet
   case rel=>exact⟨_,(true),(by first|rfl|(simp;done)|(simp[*];done)),H',⟨by first|omega|exact Nat.le_refl _⟩,⟨by(with_reducible repeat(first|apply Kd.aM|apply Kd.aK|apply Kd.aV));exact HO0.out⟩,⟨by repeat(first|(with_reducible first|exact HK.out|apply Kept.alloc|apply Kept.drewN|apply Kept.drew)|exact HK.out)⟩,⟨by repeat(first|(with_reducible first|exact HB.out|apply ag|apply af|apply ah)|exact HB.out)⟩⟩
  ·rw[if_neg c5] at H
   have iC:(a1.toList==([]:List UInt8))=false:=beq_eq_false_iff_ne.mpr c5
   have oD:(a1.toList != ([]:List UInt8))=true:=bne_iff_ne.mpr c5
   (first|rw[iC]|(simp only[jY,lV];rw[iC])|skip)
   have H':=ai.mk H
   clear H
   go_wp2
   go_meet
   case rel=>exact⟨_,(decide (a2<1)),(by first|rfl|(simp;done)|(simp[*];done)),H',⟨by first|omega|exact Nat.le_refl _⟩,⟨by(with_reducible repeat(first|apply Kd.aM|apply Kd.aK|apply Kd.aV));exact HO0.out⟩,⟨by repeat(first|(with_reducible first|exact HK.out|apply Kept.alloc|apply Kept.drewN|apply Kept.drew)|exact HK.out)⟩,⟨by repeat(first|(with_reducible first|exact HB.out|apply ag|apply af|apply ah)|exact HB.out)⟩⟩
 case rest=>
  clear UR
  try clear p2
  try clear c5
  try clear iC
  try clear oD
  obtain⟨kq,UH,rfl,HA,HJ3,jT,HK,HB⟩:=hcut
  cases kq with
  |zero=>exact absurd HA.out (by simp[aY.j0])
  |succ kj3=>
   have H:=HA.out
   clear HA
   simp only[aY.j0] at H
   by_cases c6:UH=true
   ·subst c6
    have H1:(some (l0,1))=some (r1,r2):=by rw[if_pos rfl] at H;exact H
    clear H
    have H:=H1
    clear H1
    simp only[Option.some.injEq,Prod.mk.injEq] at H
    obtain⟨rfl,rfl⟩:=H
    go_wp2
    go_ret2
    exact⟨_,by first|rfl|(simp[aC,aD]<;>rfl)|(simp[*,aC,aD]<;>rfl),by(with_reducible repeat(first|apply Kd.aM|apply Kd.aK|apply Kd.aV));exact jT.out,by repeat(first|(with_reducible first|exact HB.out|apply ag|apply af|apply ah)|exact HB.out),by repeat(first|(with_reducible first|exact HK.out|apply Kept.alloc|apply Kept.drewN|apply Kept.drew)|exact HK.out)⟩
   ·replace c6:=Bool.eq_false_iff.mpr c6
    subst c6
    have H1:((dE.f kj3 l0 a1).bind fun FC=>((cK.f FC a2).bind fun BJ=>(if BJ.2=true then(aY.l0 kj3 l0 a1 BJ.1 ([]:List (dN)) false 0) else(some (l0,5)))))=some (r1,r2):=by rw[if_neg (show¬(false=true) by decide)] at H;exact H
    clear H
    have H:=H1
    clear H1
    replace H:=Option.bind_eq_some_iff.mp H
    obtain⟨FC,A70,H⟩:=H
    replace H:((cK.f FC a2).bind fun BJ=>(if BJ.2=true then(aY.l0 kj3 l0 a1 BJ.1 ([]:List (dN)) false 0) else(some (l0,5))))=some (r1,r2):=H
    have A7:=ai.mk A70
    clear A70
    replace H:=Option.bind_eq_some_iff.mp H
    obtain⟨⟨mH,t572⟩,Xa,H⟩:=H
    replace H:(if t572=true then(aY.l0 kj3 l0 a1 mH ([]:List (dN)) false 0) else(some (l0,5)))=some (r1,r2):=H
    have A8:=ai.mk Xa
    clear Xa
    by_cases c9:t572=true
    ·subst c9
     have H1:(aY.l0 kj3 l0 a1 mH ([]:List (dN)) false 0)=some (r1,r2):=by rw[if_pos rfl] at H;exact H
     clear H
     have H:=H1
     clear H1
     have H':=ai.mk H
     clear H
     obtain⟨Aq,xW,PO⟩:=Kd.gL jT.out
     subst PO
     go_wp2_with (first|((with_reducible refine bL (f:=98) rfl ?_);refine eQ (some 23) rfl rfl Tryz.func98 (by kernel_rfl) rfl #[.slice Aq l0.length xW,.string a1] rfl (by(try simp only[List.map_toArray,List.map_cons,List.map_nil]);first|done|rfl|(simp only[List.length_drop,List.length_take];rfl)) ?_;(with_reducible refine(dE.calls kj3 _ _ l0 a1 FC _ ?gM ?gW A7.out).mono ?_);(case gM=>repeat(first|exact(Kd.dP jT.out).2.2|(with_reducible refine Kd.dD ?_ _)|(with_reducible refine Kd.dB ?_ _)|(with_reducible refine Kd.fA ?_)));(case gW=>exact(Kd.dP jT.out).2.1);rintro e w' ⟨rfl,⟨nd,rfl⟩⟩;refine⟨_,rfl,?_⟩)|((with_reducible refine bL (f:=97) rfl ?_);refine eQ (some 25) rfl rfl Tryz.func97 (by kernel_rfl) rfl #[.int .i64 FC,.int .i64 a2] rfl (by(try simp only[List.map_toArray,List.map_cons,List.map_nil]);first|done|rfl|(simp only[List.length_drop,List.length_take];rfl)) ?_;(with_reducible refine(cK.calls FC a2 mH true _ A8.out).mono ?_);rintro e w' ⟨rfl,⟨nd,rfl⟩⟩;refine⟨_,rfl,?_⟩))
     go_loopg [10,11,12] kj3 (fun kq v10 v11 v12 w'=>∃(je:List (dN)) (jv:Bool) (bV:Int),v11= .bool jv/\v12= .int .i64 bV/\ai (aY.l0 kq l0 a1 mH je jv bV=some (r1,r2))/\ai (kq<=kj3)/\ai (Kd.R lQ 45 w' w0.heap.size (fun k_=>(xu k_\/w.heap.size<=k_)/\some k_≠(v10:Value).ownBlock) (.slice Aq l0.length xW) l0)/\ai (Kd.R lQ 45 w' w0.heap.size (fun k_=>(xu k_\/w.heap.size<=k_)/\some k_≠((.slice Aq l0.length xW):Value).ownBlock) v10 je)/\ai (Kept w w' (fun k_=>xu k_))/\ai (Below w0.heap.size w0 w'))
     case atStart=>exact⟨(([]:List (dN))),(false),(0),(by first|rfl|(simp;done)|(simp[*];done)),(by first|rfl|(simp;done)|(simp[*];done)),H',⟨Nat.le_refl _⟩,⟨by(with_reducible repeat(first|apply Kd.aM|apply Kd.aK|apply Kd.aV));exact Kd.dU jT.out (fun _ hk=>⟨hk,(by simp[Value.ownBlock])⟩)⟩,⟨by first|exact Kd.jM _ _ _ _ _|exact Kd.kQ _ _ _ _ _|exact Kd.kS _ _ _ _ _|exact Kd.kR _ _ _ _ _|exact Kd.kg _ _ _ _ _⟩,⟨by repeat(first|(with_reducible first|exact HK.out|apply Kept.alloc|apply Kept.drewN|apply Kept.drew)|exact HK.out)⟩,⟨by repeat(first|(with_reducible first|exact HB.out|apply ag|apply af|apply ah)|exact HB.out)⟩⟩
     case round=>
      clear H'
      try clear p2
      try clear c5
      try clear iC
      try clear oD
      try clear c6
      try clear c9
      try clear p2
      obtain⟨je,jv,bV,rfl,rfl,HA,qB,jT,fe,HK,HB⟩:=hrel
      cases gk with
      |zero=>exact absurd HA.out (by simp[aY.l0])
      |succ k2=>
       have H:=HA.out
       clear HA
       simp only[aY.l0] at H
       by_cases c11:bV<(l0.length:Int)
       ·rw[if_pos c11] at H
        have kX:decide (bV<(l0.length:Int))=true:=decide_eq_true c11
        clear c11
        have HC12:=ai.mk H
        clear H
        go_upto_region 11 with(fail)
        go_cut [48] (fun v48 wc=>∃(kq:Nat) (La:Bool),v48= .bool La/\ai (aY.j2 kq l0 a1 mH je jv bV La=some (r1,r2))/\ai (kq<=k2)/\ai (Kd.R lQ 45 wc w0.heap.size (fun k_=>(xu k_\/w.heap.size<=k_)/\some k_≠(u10:Value).ownBlock) (.slice Aq l0.length xW) l0)/\ai (Kd.R lQ 45 wc w0.heap.size (fun k_=>(xu k_\/w.heap.size<=k_)/\some k_≠((.slice Aq l0.length xW):Value).ownBlock) u10 je)/\ai (Kept w wc (fun k_=>xu k_))/\ai (Below w0.heap.size w0 wc))
        case first=>
         have H:=HC12.out
         clear HC12
         by_cases c13:jv=true
         ·subst c13
          have H1:(aY.j2 k2 l0 a1 mH je true bV false)=some (r1,r2):=by rw[if_pos rfl] at H;exact H
          clear H
          have H:=H1
          clear H1
          have H':=ai.mk H
          clear H
          go_wp2
          go_meet
          case rel=>exact⟨_,(false),(by first|rfl|(simp;done)|(simp[*];done)),H',⟨by have:=HJ3.out;have:=qB.out;first|omega|exact Nat.le_refl _⟩,⟨by(with_reducible repeat(first|apply Kd.aM|apply Kd.aK|apply Kd.aV));exact jT.out⟩,⟨by(with_reducible repeat(first|apply Kd.aM|apply Kd.aK|apply Kd.aV));exact fe.out⟩,⟨by repeat(first|(with_reducible first|exact HK.out|apply Kept.alloc|apply Kept.drewN|apply Kept.drew)|exact HK.out)⟩,⟨by repeat(first|(with_reducible first|exact HB.out|apply ag|apply af|apply ah)|exact HB.out)⟩⟩
         ·replace c13:=Bool.eq_false_iff.mpr c13
          subst c13
          have H1:(if 0<=bV then((bI.f ((aU l0 bV).f0) a1).bind fun RO=>(aY.j2 k2 l0 a1 mH je false bV (!RO))) else(none))=some (r1,r2):=by rw[if_neg (show¬(false=true) by decide)] at H;exact H
          clear H
          have H:=H1
          clear H1
          by_cases c14:0<=bV
          ·rw[if_pos c14] at H
           have uj:decide (0<=bV)=true:=decide_eq_true c14
           clear c14
           (first|rw[uj]|(simp only[jY,lV];rw[uj])|skip)
           replace H:=Option.bind_eq_some_iff.mp H
           obtain⟨RO,WX,H⟩:=H
           replace H:(aY.j2 k2 l0 a1 mH je false bV (!RO))=some (r1,r2):=H
           have A15:=ai.mk WX
           clear WX
           have H':=ai.mk H
           clear H
           have p576:0<=(bV:Int):=of_decide_eq_true (by first|(with_reducible assumption)|assumption)
           have q576:bV<(l0.length:Int):=of_decide_eq_true (by first|(with_reducible assumption)|assumption)
           obtain⟨ad576,e576,hx576_0,hx576_1⟩:=eP (Kd.dP jT.out).2.2 bV p576 q576
           cases e576
           replace p576:=eq_true p576
           replace q576:=eq_true q576
           go_wp2_with (first|(go_at_call 50;(with_reducible refine(bI.calls ((aU l0 bV).f0) a1 RO _ A15.out).mono ?_);rintro e w' ⟨rfl,⟨nd,rfl⟩⟩))
           go_meet
           case rel=>exact⟨_,(!RO),(by first|rfl|(simp;done)|(simp[*];done)),H',⟨by have:=HJ3.out;have:=qB.out;first|omega|exact Nat.le_refl _⟩,⟨by(with_reducible repeat(first|apply Kd.aM|apply Kd.aK|apply Kd.aV));exact jT.out⟩,⟨by(with_reducible repeat(first|apply Kd.aM|apply Kd.aK|apply Kd.aV));exact fe.out⟩,⟨by repeat(first|(with_reducible first|exact HK.out|apply Kept.alloc|apply Kept.drewN|apply Kept.drew)|exact HK.out)⟩,⟨by repeat(first|(with_reducible first|exact HB.out|apply ag|apply af|apply ah)|exact HB.out)⟩⟩
          ·rw[if_neg c14] at H
           exact absurd H (by simp)
        case rest=>
         clear HC12
         try clear c1
         try clear p2
         try clear c5
         try clear iC
         try clear oD
         try clear p5
         try clear q5
         try clear hx5
         try clear c6
         try clear c9
         try clear c11
         try clear kX
         try clear c13
         try clear c14
         try clear uj
         try clear hx576_0
         try clear hx576_1
         try clear p2
         try clear p576
         try clear q576
         obtain⟨kq,La,rfl,HA,Lv,jT,fe,HK,HB⟩:=hcut
         cases kq with
         |zero=>exact absurd HA.out (by simp[aY.j2])
         |succ Cr=>
          have H:=HA.out
          clear HA
          simp only[aY.j2] at H
          by_cases c16:La=true
          ·subst c16
           have H1:(if je.length<5864062014805 then((some (je++[(⟨a1,mH⟩:dN)]:List (dN))).bind fun yC=>(if 0<=bV then(if bV<(l0.length:Int) then(if((aU l0 bV).f0).toList=a1.toList then(aY.l0 Cr l0 a1 mH yC true (wrap64 (bV+1))) else(if yC.length<5864062014805 then(aY.l0 Cr l0 a1 mH (yC++[(⟨(aU l0 bV).f0,(aU l0 bV).f1⟩:dN)]) true (wrap64 (bV+1))) else(none))) else(none)) else(none))) else(none))=some (r1,r2):=by rw[if_pos rfl] at H;exact H
           clear H
           have H:=H1
           clear H1
           by_cases c17:je.length<5864062014805
           ·rw[if_pos c17] at H
            have LMc17:=ai.mk c17
            clear c17
            obtain⟨yC,Ng⟩:∃y_:List (dN),y_=(je++[(⟨a1,mH⟩:dN)]):=⟨_,rfl⟩
            replace H:(if 0<=bV then(if bV<(l0.length:Int) then(if((aU l0 bV).f0).toList=a1.toList then(aY.l0 Cr l0 a1 mH yC true (wrap64 (bV+1))) else(if yC.length<5864062014805 then(aY.l0 Cr l0 a1 mH (yC++[(⟨(aU l0 bV).f0,(aU l0 bV).f1⟩:dN)]) true (wrap64 (bV+1))) else(none))) else(none)) else(none))=some (r1,r2):=by first|(rw[Ng];with_reducible exact H)|(have iB:=(Option.bind_some _ _).symm.trans H;rw[Ng];with_reducible exact iB)|(have iB:=(Option.bind_some _ _).symm.trans H;with_reducible exact iB)|with_reducible exact H|(rw[Ng];exact H)|exact H
            have Ny578:=ai.mk Ng
            clear Ng
            by_cases c18:0<=bV
            ·rw[if_pos c18] at H
             have Ml:decide (0<=bV)=true:=decide_eq_true c18
             clear c18
             by_cases c19:bV<(l0.length:Int)
             ·rw[if_pos c19] at H
              have c19b0:decide (bV<(l0.length:Int))=true:=decide_eq_true c19
              clear c19
              by_cases c20:((aU l0 bV).f0).toList=a1.toList
              ·rw[if_pos c20] at H
               have Mm:(((aU l0 bV).f0).toList==a1.toList)=true:=beq_iff_eq.mpr c20
               have c20b1:(((aU l0 bV).f0).toList != a1.toList)=false:=bne_eq_false_iff_eq.mpr c20
               clear c20
               have H':=ai.mk H
               clear H
               go_wp2_with (first|((with_reducible refine bH (b:= .append) (xs:=#[.tmp 49,.tmp 53]) rfl ?_);at_builtin;refine Kd.bT lQ (w0:=w0) w0.heap.size rfl (.tmp 49) (.tmp 53) 22 45 (.agg #[(.string ⟨#[]⟩),(.int .i64 0)]) 24 rfl Tryz.underlying22 Ei rfl (by decide) (by omega) u10 je (⟨a1,mH⟩:dN) [.string a1,.int .i64 mH] (fun k_=>(xu k_\/w.heap.size<=k_)/\some k_≠(.slice Aq l0.length xW:Value).ownBlock) (fun _=>False) rfl rfl ?aP (fun _ hk=>hk.elim) ?aF ?aO ?aB ?aS ?aL ?_;(case aP=>exact zA _ _ _ (⟨a1,mH⟩:dN));(case aB=>exact(by repeat(first|(with_reducible first|exact HB.out|apply ag|apply af|apply ah)|exact HB.out)));(case aF=>exact(fun k_ hk=>⟨(.inr (Nat.le_trans (by first|exact HK.out.1|exact(show Kept w _ (fun k_=>xu k_) from by repeat(first|(with_reducible first|exact HK.out|apply Kept.alloc|apply Kept.drewN|apply Kept.drew)|exact HK.out)).1) hk)),Kd.fresh' (Kd.AJ (by(with_reducible repeat(first|apply Kd.aM|apply Kd.aK|apply Kd.aV));exact jT.out)) k_ hk⟩));(case aO=>exact(by(with_reducible repeat(first|apply Kd.aM|apply Kd.aK|apply Kd.aV));exact fe.out));(case aS=>exact(ay (by repeat(first|(with_reducible first|exact HB.out|apply ag|apply af|apply ah)|exact HB.out))));(case aL=>have:=LMc17.out;omega);intro v579 w21 ho hb hg hat;rw[<-Ny578.out] at ho;have bN:=ai.mk (Kd.oN (ok:=(fun k_=>(xu k_\/w.heap.size<=k_))) (by(with_reducible repeat(first|apply Kd.aM|apply Kd.aK|apply Kd.aV));exact jT.out) hg hat);have bP:=ai.mk (hb);have cz:=ai.mk (Kept.vU (S:=(fun k_=>xu k_)) hg (by repeat(first|(with_reducible first|exact HK.out|apply Kept.alloc|apply Kept.drewN|apply Kept.drew)|exact HK.out)) (fun k_ e_=>(fe.out.1 k_ e_).1));have fC:=ai.mk (ho);clear jT;clear HB;clear HK;clear fe;have jT:=bN;have HB:=bP;have HK:=cz;have LD:=fC;clear bN bP cz fC;clear ho hb hg hat;have QR:0<=(bV:Int):=of_decide_eq_true (by first|(with_reducible assumption)|assumption);have Ru:bV<(l0.length:Int):=of_decide_eq_true (by first|(with_reducible assumption)|assumption);obtain⟨XK,e581,hx581_0,hx581_1⟩:=eP (Kd.dP jT.out).2.2 bV QR Ru;cases e581;replace QR:=eq_true QR;replace Ru:=eq_true Ru))
               go_roundg Cr
               case measure=>have:=HJ3.out;have:=qB.out;have:=Lv.out;omega
               case rel=>exact⟨(yC),(true),(wrap64 (bV+1)),(by first|rfl|(simp;done)|(simp[*];done)),(by first|rfl|(simp;done)|(simp[*];done)),H',⟨by have:=HJ3.out;have:=qB.out;have:=Lv.out;omega⟩,⟨by(with_reducible repeat(first|apply Kd.aM|apply Kd.aK|apply Kd.aV));exact jT.out⟩,⟨by(with_reducible repeat(first|apply Kd.aM|apply Kd.aK|apply Kd.aV));exact LD.out⟩,⟨by repeat(first|(with_reducible first|exact HK.out|apply Kept.alloc|apply Kept.drewN|apply Kept.drew)|exact HK.out)⟩,⟨by repeat(first|(with_reducible first|exact HB.out|apply ag|apply af|apply ah)|exact HB.out)⟩⟩
              ·rw[if_neg c20] at H
               have Mm:(((aU l0 bV).f0).toList==a1.toList)=false:=beq_eq_false_iff_ne.mpr c20
               have c20b1:(((aU l0 bV).f0).toList != a1.toList)=true:=bne_iff_ne.mpr c20
               by_cases IZ:yC.length<5864062014805
               ·rw[if_pos IZ] at H
                have qW:=ai.mk IZ
                clear IZ
                obtain⟨y583,Nh⟩:∃y_:List (dN),y_=(yC++[(⟨(aU l0 bV).f0,(aU l0 bV).f1⟩:dN)]):=⟨_,rfl⟩
                replace H:(aY.l0 Cr l0 a1 mH y583 true (wrap64 (bV+1)))=some (r1,r2):=by first|(rw[Nh];with_reducible exact H)|(have iB:=(Option.bind_some _ _).symm.trans H;rw[Nh];with_reducible exact iB)|(have iB:=(Option.bind_some _ _).symm.trans H;with_reducible exact iB)|with_reducible exact H|(rw[Nh];exact H)|exact H
                have Ny583:=ai.mk Nh
                clear Nh
                have H':=ai.mk H
                clear H
                go_wp2_with (first|((with_reducible refine bH (b:= .append) (xs:=#[.tmp 49,.tmp 53]) rfl ?_);at_builtin;refine Kd.bT lQ (w0:=w0) w0.heap.size rfl (.tmp 49) (.tmp 53) 22 45 (.agg #[(.string ⟨#[]⟩),(.int .i64 0)]) 24 rfl Tryz.underlying22 Ei rfl (by decide) (by omega) u10 je (⟨a1,mH⟩:dN) [.string a1,.int .i64 mH] (fun k_=>(xu k_\/w.heap.size<=k_)/\some k_≠(.slice Aq l0.length xW:Value).ownBlock) (fun _=>False) rfl rfl ?aP (fun _ hk=>hk.elim) ?aF ?aO ?aB ?aS ?aL ?_;(case aP=>exact zA _ _ _ (⟨a1,mH⟩:dN));(case aB=>exact(by repeat(first|(with_reducible first|exact HB.out|apply ag|apply af|apply ah)|exact HB.out)));(case aF=>exact(fun k_ hk=>⟨(.inr (Nat.le_trans (by first|exact HK.out.1|exact(show Kept w _ (fun k_=>xu k_) from by repeat(first|(with_reducible first|exact HK.out|apply Kept.alloc|apply Kept.drewN|apply Kept.drew)|exact HK.out)).1) hk)),Kd.fresh' (Kd.AJ (by(with_reducible repeat(first|apply Kd.aM|apply Kd.aK|apply Kd.aV));exact jT.out)) k_ hk⟩));(case aO=>exact(by(with_reducible repeat(first|apply Kd.aM|apply Kd.aK|apply Kd.aV));exact fe.out));(case aS=>exact(ay (by repeat(first|(with_reducible first|exact HB.out|apply ag|apply af|apply ah)|exact HB.out))));(case aL=>have:=LMc17.out;omega);intro v579 OZ ho hb hg hat;rw[<-Ny578.out] at ho;have bN:=ai.mk (Kd.oN (ok:=(fun k_=>(xu k_\/w.heap.size<=k_))) (by(with_reducible repeat(first|apply Kd.aM|apply Kd.aK|apply Kd.aV));exact jT.out) hg hat);have bP:=ai.mk (hb);have cz:=ai.mk (Kept.vU (S:=(fun k_=>xu k_)) hg (by repeat(first|(with_reducible first|exact HK.out|apply Kept.alloc|apply Kept.drewN|apply Kept.drew)|exact HK.out)) (fun k_ e_=>(fe.out.1 k_ e_).1));have fC:=ai.mk (ho);clear jT;clear HB;clear HK;clear fe;have jT:=bN;have HB:=bP;have HK:=cz;have LD:=fC;clear bN bP cz fC;clear ho hb hg hat;have QR:0<=(bV:Int):=of_decide_eq_true (by first|(with_reducible assumption)|assumption);have Ru:bV<(l0.length:Int):=of_decide_eq_true (by first|(with_reducible assumption)|assumption);obtain⟨XK,e581,hx581_0,hx581_1⟩:=eP (Kd.dP jT.out).2.2 bV QR Ru;cases e581;replace QR:=eq_true QR;replace Ru:=eq_true Ru;have p582:0<=(bV:Int):=of_decide_eq_true (by first|(with_reducible assumption)|assumption);have q582:bV<(l0.length:Int):=of_decide_eq_true (by first|(with_reducible assumption)|assumption);obtain⟨ad582,e582,hx582_0,hx582_1⟩:=eP (Kd.dP jT.out).2.2 bV p582 q582;obtain rfl:XK=ad582:=(by injection e582);replace p582:=eq_true p582;replace q582:=eq_true q582)|((with_reducible refine bH (b:= .append) (xs:=#[.tmp 62,.tmp 67]) rfl ?_);at_builtin;refine Kd.bT lQ (w0:=w0) w0.heap.size rfl (.tmp 62) (.tmp 67) 22 45 (.agg #[(.string ⟨#[]⟩),(.int .i64 0)]) 24 rfl Tryz.underlying22 Ei rfl (by decide) (by omega) v579 yC (⟨(aU l0 bV).f0,(aU l0 bV).f1⟩:dN) [.string ((aU l0 bV).f0),.int .i64 ((aU l0 bV).f1)] (fun k_=>(xu k_\/w.heap.size<=k_)/\some k_≠(.slice (some XK) l0.length xW:Value).ownBlock) (fun _=>False) rfl rfl ?aP (fun _ hk=>hk.elim) ?aF ?aO ?aB ?aS ?aL ?_;(case aP=>exact zA _ _ _ (⟨(aU l0 bV).f0,(aU l0 bV).f1⟩:dN));(case aB=>exact(by repeat(first|(with_reducible first|exact HB.out|apply ag|apply af|apply ah)|exact HB.out)));(case aF=>exact(fun k_ hk=>⟨(.inr (Nat.le_trans (by first|exact HK.out.1|exact(show Kept w _ (fun k_=>xu k_) from by repeat(first|(with_reducible first|exact HK.out|apply Kept.alloc|apply Kept.drewN|apply Kept.drew)|exact HK.out)).1) hk)),Kd.fresh' (Kd.AJ (by(with_reducible repeat(first|apply Kd.aM|apply Kd.aK|apply Kd.aV));exact jT.out)) k_ hk⟩));(case aO=>exact(by(with_reducible repeat(first|apply Kd.aM|apply Kd.aK|apply Kd.aV));exact LD.out));(case aS=>exact(ay (by repeat(first|(with_reducible first|exact HB.out|apply ag|apply af|apply ah)|exact HB.out))));(case aL=>have:=qW.out;omega);intro v584 w24 ho hb hg hat;rw[<-Ny583.out] at ho;have bN:=ai.mk (Kd.oN (ok:=(fun k_=>(xu k_\/w.heap.size<=k_))) (by(with_reducible repeat(first|apply Kd.aM|apply Kd.aK|apply Kd.aV));exact jT.out) hg hat);have bP:=ai.mk (hb);have cz:=ai.mk (Kept.vU (S:=(fun k_=>xu k_)) hg (by repeat(first|(with_reducible first|exact HK.out|apply Kept.alloc|apply Kept.drewN|apply Kept.drew)|exact HK.out)) (fun k_ e_=>(LD.out.1 k_ e_).1));have fC:=ai.mk (ho);clear jT;clear HB;clear HK;clear LD;have jT:=bN;have HB:=bP;have HK:=cz;have HO585:=fC;clear bN bP cz fC;clear ho hb hg hat))
                go_roundg Cr
                case measure=>have:=HJ3.out;have:=qB.out;have:=Lv.out;omega
                case rel=>exact⟨(y583),(true),(wrap64 (bV+1)),(by first|rfl|(simp;done)|(simp[*];done)),(by first|rfl|(simp;done)|(simp[*];done)),H',⟨by have:=HJ3.out;have:=qB.out;have:=Lv.out;omega⟩,⟨by(with_reducible repeat(first|apply Kd.aM|apply Kd.aK|apply Kd.aV));exact jT.out⟩,⟨by(with_reducible repeat(first|apply Kd.aM|apply Kd.aK|apply Kd.aV));exact HO585.out⟩,⟨by repeat(first|(with_reducible first|exact HK.out|apply Kept.alloc|apply Kept.drewN|apply Kept.drew)|exact HK.out)⟩,⟨by repeat(first|(with_reducible first|exact HB.out|apply ag|apply af|apply ah)|exact HB.out)⟩⟩
               ·rw[if_neg IZ] at H
                exact absurd H (by simp)
             ·rw[if_neg c19] at H
              exact absurd H (by simp)
            ·rw[if_neg c18] at H
             exact absurd H (by simp)
           ·rw[if_neg c17] at H
            exact absurd H (by simp)
          ·replace c16:=Bool.eq_false_iff.mpr c16
           subst c16
           have H1:(if 0<=bV then(if bV<(l0.length:Int) then(if((aU l0 bV).f0).toList=a1.toList then(aY.l0 Cr l0 a1 mH je jv (wrap64 (bV+1))) else(if je.length<5864062014805 then(aY.l0 Cr l0 a1 mH (je++[(⟨(aU l0 bV).f0,(aU l0 bV).f1⟩:dN)]) jv (wrap64 (bV+1))) else(none))) else(none)) else(none))=some (r1,r2):=by rw[if_neg (show¬(false=true) by decide)] at H;exact H
           clear H
           have H:=H1
           clear H1
           by_cases c25:0<=bV
           ·rw[if_pos c25] at H
            have c25b0:decide (0<=bV)=true:=decide_eq_true c25
            clear c25
            by_cases c26:bV<(l0.length:Int)
            ·rw[if_pos c26] at H
             have c26b0:decide (bV<(l0.length:Int))=true:=decide_eq_true c26
             clear c26
             by_cases Vd:((aU l0 bV).f0).toList=a1.toList
             ·rw[if_pos Vd] at H
              have c27b0:(((aU l0 bV).f0).toList==a1.toList)=true:=beq_iff_eq.mpr Vd
              have c27b1:(((aU l0 bV).f0).toList != a1.toList)=false:=bne_eq_false_iff_eq.mpr Vd
              clear Vd
              have H':=ai.mk H
              clear H
              have QS:0<=(bV:Int):=of_decide_eq_true (by first|(with_reducible assumption)|assumption)
              have Rv:bV<(l0.length:Int):=of_decide_eq_true (by first|(with_reducible assumption)|assumption)
              obtain⟨XL,e586,hx586_0,hx586_1⟩:=eP (Kd.dP jT.out).2.2 bV QS Rv
              cases e586
              replace QS:=eq_true QS
              replace Rv:=eq_true Rv
              go_wp2
              go_roundg Cr
              case measure=>have:=HJ3.out;have:=qB.out;have:=Lv.out;omega
              case rel=>exact⟨(je),(jv),(wrap64 (bV+1)),(by first|rfl|(simp;done)|(simp[*];done)),(by first|rfl|(simp;done)|(simp[*];done)),H',⟨by have:=HJ3.out;have:=qB.out;have:=Lv.out;omega⟩,⟨by(with_reducible repeat(first|apply Kd.aM|apply Kd.aK|apply Kd.aV));exact jT.out⟩,⟨by(with_reducible repeat(first|apply Kd.aM|apply Kd.aK|apply Kd.aV));exact fe.out⟩,⟨by repeat(first|(with_reducible first|exact HK.out|apply Kept.alloc|apply Kept.drewN|apply Kept.drew)|exact HK.out)⟩,⟨by repeat(first|(with_reducible first|exact HB.out|apply ag|apply af|apply ah)|exact HB.out)⟩⟩
             ·rw[if_neg Vd] at H
              have c27b0:(((aU l0 bV).f0).toList==a1.toList)=false:=beq_eq_false_iff_ne.mpr Vd
              have c27b1:(((aU l0 bV).f0).toList != a1.toList)=true:=bne_iff_ne.mpr Vd
              by_cases c28:je.length<5864062014805
              ·rw[if_pos c28] at H
               have LMc28:=ai.mk c28
               clear c28
               obtain⟨y588,Ni⟩:∃y_:List (dN),y_=(je++[(⟨(aU l0 bV).f0,(aU l0 bV).f1⟩:dN)]):=⟨_,rfl⟩
               replace H:(aY.l0 Cr l0 a1 mH y588 jv (wrap64 (bV+1)))=some (r1,r2):=by first|(rw[Ni];with_reducible exact H)|(have iB:=(Option.bind_some _ _).symm.trans H;rw[Ni];with_reducible exact iB)|(have iB:=(Option.bind_some _ _).symm.trans H;with_reducible exact iB)|with_reducible exact H|(rw[Ni];exact H)|exact H
               have Ny588:=ai.mk Ni
               clear Ni
               have H':=ai.mk H
               clear H
               have QS:0<=(bV:Int):=of_decide_eq_true (by first|(with_reducible assumption)|assumption)
               have Rv:bV<(l0.length:Int):=of_decide_eq_true (by first|(with_reducible assumption)|assumption)
               obtain⟨XL,e586,hx586_0,hx586_1⟩:=eP (Kd.dP jT.out).2.2 bV QS Rv
               cases e586
               replace QS:=eq_true QS
               replace Rv:=eq_true Rv
               have p587:0<=(bV:Int):=of_decide_eq_true (by first|(with_reducible assumption)|assumption)
               have q587:bV<(l0.length:Int):=of_decide_eq_true (by first|(with_reducible assumption)|assumption)
               obtain⟨ad587,e587,hx587_0,hx587_1⟩:=eP (Kd.dP jT.out).2.2 bV p587 q587
               obtain rfl:XL=ad587:=(by injection e587)
               replace p587:=eq_true p587
               replace q587:=eq_true q587
               go_wp2_with (first|((with_reducible refine bH (b:= .append) (xs:=#[.tmp 62,.tmp 67]) rfl ?_);at_builtin;refine Kd.bT lQ (w0:=w0) w0.heap.size rfl (.tmp 62) (.tmp 67) 22 45 (.agg #[(.string ⟨#[]⟩),(.int .i64 0)]) 24 rfl Tryz.underlying22 Ei rfl (by decide) (by omega) u10 je (⟨(aU l0 bV).f0,(aU l0 bV).f1⟩:dN) [.string ((aU l0 bV).f0),.int .i64 ((aU l0 bV).f1)] (fun k_=>(xu k_\/w.heap.size<=k_)/\some k_≠(.slice (some XL) l0.length xW:Value).ownBlock) (fun _=>False) rfl rfl ?aP (fun _ hk=>hk.elim) ?aF ?aO ?aB ?aS ?aL ?_;(case aP=>exact zA _ _ _ (⟨(aU l0 bV).f0,(aU l0 bV).f1⟩:dN));(case aB=>exact(by repeat(first|(with_reducible first|exact HB.out|apply ag|apply af|apply ah)|exact HB.out)));(case aF=>exact(fun k_ hk=>⟨(.inr (Nat.le_trans (by first|exact HK.out.1|exact(show Kept w _ (fun k_=>xu k_) from by repeat(first|(with_reducible first|exact HK.out|apply Kept.alloc|apply Kept.drewN|apply Kept.drew)|exact HK.out)).1) hk)),Kd.fresh' (Kd.AJ (by(with_reducible repeat(first|apply Kd.aM|apply Kd.aK|apply Kd.aV));exact jT.out)) k_ hk⟩));(case aO=>exact(by(with_reducible repeat(first|apply Kd.aM|apply Kd.aK|apply Kd.aV));exact fe.out));(case aS=>exact(ay (by repeat(first|(with_reducible first|exact HB.out|apply ag|apply af|apply ah)|exact HB.out))));(case aL=>have:=LMc28.out;omega);intro v589 w29 ho hb hg hat;rw[<-Ny588.out] at ho;have bN:=ai.mk (Kd.oN (ok:=(fun k_=>(xu k_\/w.heap.size<=k_))) (by(with_reducible repeat(first|apply Kd.aM|apply Kd.aK|apply Kd.aV));exact jT.out) hg hat);have bP:=ai.mk (hb);have cz:=ai.mk (Kept.vU (S:=(fun k_=>xu k_)) hg (by repeat(first|(with_reducible first|exact HK.out|apply Kept.alloc|apply Kept.drewN|apply Kept.drew)|exact HK.out)) (fun k_ e_=>(fe.out.1 k_ e_).1));have fC:=ai.mk (ho);clear jT;clear HB;clear HK;clear fe;have jT:=bN;have HB:=bP;have HK:=cz;have HO590:=fC;clear bN bP cz fC;clear ho hb hg hat))
               go_roundg Cr
               case measure=>have:=HJ3.out;have:=qB.out;have:=Lv.out;omega
               case rel=>exact⟨(y588),(jv),(wrap64 (bV+1)),(by first|rfl|(simp;done)|(simp[*];done)),(by first|rfl|(simp;done)|(simp[*];done)),H',⟨by have:=HJ3.out;have:=qB.out;have:=Lv.out;omega⟩,⟨by(with_reducible repeat(first|apply Kd.aM|apply Kd.aK|apply Kd.aV));exact jT.out⟩,⟨by(with_reducible repeat(first|apply Kd.aM|apply Kd.aK|apply Kd.aV));exact HO590.out⟩,⟨by repeat(first|(with_reducible first|exact HK.out|apply Kept.alloc|apply Kept.drewN|apply Kept.drew)|exact HK.out)⟩,⟨by repeat(first|(with_reducible first|exact HB.out|apply ag|apply af|apply ah)|exact HB.out)⟩⟩
              ·rw[if_neg c28] at H
               exact absurd H (by simp)
            ·rw[if_neg c26] at H
             exact absurd H (by simp)
           ·rw[if_neg c25] at H
            exact absurd H (by simp)
       ·rw[if_neg c11] at H
        have kX:decide (bV<(l0.length:Int))=false:=decide_eq_false c11
        clear c11
        by_cases c30:jv=true
        ·subst c30
         have H1:(some (je,0))=some (r1,r2):=by rw[if_pos rfl] at H;exact H
         clear H
         have H:=H1
         clear H1
         simp only[Option.some.injEq,Prod.mk.injEq] at H
         obtain⟨rfl,rfl⟩:=H
         go_wp2
         go_ret2
         exact⟨_,by first|rfl|(simp[aC,aD]<;>rfl)|(simp[*,aC,aD]<;>rfl),by(with_reducible repeat(first|apply Kd.aM|apply Kd.aK|apply Kd.aV));exact Kd.dU fe.out (fun _ hk=>hk.1),by repeat(first|(with_reducible first|exact HB.out|apply ag|apply af|apply ah)|exact HB.out),by repeat(first|(with_reducible first|exact HK.out|apply Kept.alloc|apply Kept.drewN|apply Kept.drew)|exact HK.out)⟩
        ·replace c30:=Bool.eq_false_iff.mpr c30
         subst c30
         have H1:(if je.length<5864062014805 then(some ((je++[(⟨a1,mH⟩:dN)]),0)) else(none))=some (r1,r2):=by rw[if_neg (show¬(false=true) by decide)] at H;exact H
         clear H
         have H:=H1
         clear H1
         by_cases c31:je.length<5864062014805
         ·rw[if_pos c31] at H
          have LMc31:=ai.mk c31
          clear c31
          obtain⟨y573,Nf⟩:∃y_:List (dN),y_=(je++[(⟨a1,mH⟩:dN)]):=⟨_,rfl⟩
          replace H:(some (y573,0))=some (r1,r2):=by first|(rw[Nf];with_reducible exact H)|(have iB:=(Option.bind_some _ _).symm.trans H;rw[Nf];with_reducible exact iB)|(have iB:=(Option.bind_some _ _).symm.trans H;with_reducible exact iB)|with_reducible exact H|(rw[Nf];exact H)|exact H
          have Ny573:=ai.mk Nf
          clear Nf
          simp only[Option.some.injEq,Prod.mk.injEq] at H
          obtain⟨rfl,rfl⟩:=H
          go_wp2_with (first|((with_reducible refine bH (b:= .append) (xs:=#[.tmp 71,.tmp 75]) rfl ?_);at_builtin;refine Kd.bT lQ (w0:=w0) w0.heap.size rfl (.tmp 71) (.tmp 75) 22 45 (.agg #[(.string ⟨#[]⟩),(.int .i64 0)]) 24 rfl Tryz.underlying22 Ei rfl (by decide) (by omega) u10 je (⟨a1,mH⟩:dN) [.string a1,.int .i64 mH] (fun k_=>(xu k_\/w.heap.size<=k_)/\some k_≠(.slice Aq l0.length xW:Value).ownBlock) (fun _=>False) rfl rfl ?aP (fun _ hk=>hk.elim) ?aF ?aO ?aB ?aS ?aL ?_;(case aP=>exact zA _ _ _ (⟨a1,mH⟩:dN));(case aB=>exact(by repeat(first|(with_reducible first|exact HB.out|apply ag|apply af|apply ah)|exact HB.out)));(case aF=>exact(fun k_ hk=>⟨(.inr (Nat.le_trans (by first|exact HK.out.1|exact(show Kept w _ (fun k_=>xu k_) from by repeat(first|(with_reducible first|exact HK.out|apply Kept.alloc|apply Kept.drewN|apply Kept.drew)|exact HK.out)).1) hk)),Kd.fresh' (Kd.AJ (by(with_reducible repeat(first|apply Kd.aM|apply Kd.aK|apply Kd.aV));exact jT.out)) k_ hk⟩));(case aO=>exact(by(with_reducible repeat(first|apply Kd.aM|apply Kd.aK|apply Kd.aV));exact fe.out));(case aS=>exact(ay (by repeat(first|(with_reducible first|exact HB.out|apply ag|apply af|apply ah)|exact HB.out))));(case aL=>have:=LMc31.out;omega);intro v574 w32 ho hb hg hat;rw[<-Ny573.out] at ho;have bN:=ai.mk (Kd.oN (ok:=(fun k_=>(xu k_\/w.heap.size<=k_))) (by(with_reducible repeat(first|apply Kd.aM|apply Kd.aK|apply Kd.aV));exact jT.out) hg hat);have bP:=ai.mk (hb);have cz:=ai.mk (Kept.vU (S:=(fun k_=>xu k_)) hg (by repeat(first|(with_reducible first|exact HK.out|apply Kept.alloc|apply Kept.drewN|apply Kept.drew)|exact HK.out)) (fun k_ e_=>(fe.out.1 k_ e_).1));have fC:=ai.mk (ho);clear jT;clear HB;clear HK;clear fe;have jT:=bN;have HB:=bP;have HK:=cz;have HO575:=fC;clear bN bP cz fC;clear ho hb hg hat))
          go_ret2
          exact⟨_,by first|rfl|(simp[aC,aD]<;>rfl)|(simp[*,aC,aD]<;>rfl),by(with_reducible repeat(first|apply Kd.aM|apply Kd.aK|apply Kd.aV));exact Kd.dU HO575.out (fun _ hk=>hk.1),by repeat(first|(with_reducible first|exact HB.out|apply ag|apply af|apply ah)|exact HB.out),by repeat(first|(with_reducible first|exact HK.out|apply Kept.alloc|apply Kept.drewN|apply Kept.drew)|exact HK.out)⟩
         ·rw[if_neg c31] at H
          exact absurd H (by simp)
    ·replace c9:=Bool.eq_false_iff.mpr c9
     subst c9
     have H1:(some (l0,5))=some (r1,r2):=by rw[if_neg (show¬(false=true) by decide)] at H;exact H
     clear H
     have H:=H1
     clear H1
     simp only[Option.some.injEq,Prod.mk.injEq] at H
     obtain⟨rfl,rfl⟩:=H
     obtain⟨Ao33,co33,eo33⟩:=Kd.gL jT.out
     subst eo33
     go_wp2_with (first|((with_reducible refine bL (f:=98) rfl ?_);refine eQ (some 23) rfl rfl Tryz.func98 (by kernel_rfl) rfl #[.slice Ao33 l0.length co33,.string a1] rfl (by(try simp only[List.map_toArray,List.map_cons,List.map_nil]);first|done|rfl|(simp only[List.length_drop,List.length_take];rfl)) ?_;(with_reducible refine(dE.calls kj3 _ _ l0 a1 FC _ ?gM ?gW A7.out).mono ?_);(case gM=>repeat(first|exact(Kd.dP jT.out).2.2|(with_reducible refine Kd.dD ?_ _)|(with_reducible refine Kd.dB ?_ _)|(with_reducible refine Kd.fA ?_)));(case gW=>exact(Kd.dP jT.out).2.1);rintro e w' ⟨rfl,⟨nd,rfl⟩⟩;refine⟨_,rfl,?_⟩)|((with_reducible refine bL (f:=97) rfl ?_);refine eQ (some 25) rfl rfl Tryz.func97 (by kernel_rfl) rfl #[.int .i64 FC,.int .i64 a2] rfl (by(try simp only[List.map_toArray,List.map_cons,List.map_nil]);first|done|rfl|(simp only[List.length_drop,List.length_take];rfl)) ?_;(with_reducible refine(cK.calls FC a2 mH false _ A8.out).mono ?_);rintro e w' ⟨rfl,⟨nd,rfl⟩⟩;refine⟨_,rfl,?_⟩))
     go_ret2
     exact⟨_,by first|rfl|(simp[aC,aD]<;>rfl)|(simp[*,aC,aD]<;>rfl),by(with_reducible repeat(first|apply Kd.aM|apply Kd.aK|apply Kd.aV));exact jT.out,by repeat(first|(with_reducible first|exact HB.out|apply ag|apply af|apply ah)|exact HB.out),by repeat(first|(with_reducible first|exact HK.out|apply Kept.alloc|apply Kept.drewN|apply Kept.drew)|exact HK.out)⟩
end Go.Proofs.YtilpincgjlclpaaGreat.Pr
