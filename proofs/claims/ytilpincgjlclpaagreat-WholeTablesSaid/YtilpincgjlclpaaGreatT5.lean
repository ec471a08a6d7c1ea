import Derived.Test.YtilpincgjlclpaaGreatT4
set_option linter.unusedVariables false
set_option linter.unusedSimpArgs false
section
namespace Go.Proofs.YtilpincgjlclpaaGreat.Pr
open Go.RowKit Go.Proofs.ae.au Go.Proofs.ae.aZ Go.Proofs.ae.bE
attribute [local go_sem] bQ min2_int cB min_two max_three min_three max_four min_four
set_option maxHeartbeats 8000000 in
set_option maxRecDepth 100000 in
theorem bg.calls (k:Nat) (A0:Option Addr) (c0:Nat) (l0:List (dN)) (r1:Int) (r2:Bool) (w:World) (hr0:Kd.C lQ w A0 l0.length l0) (hc0:l0.length<=c0) (h:bg.f k l0=some (r1,r2)):
  Calls Tryz.prog 107 #[.slice A0 l0.length c0] w fun e w'=>e= .returned (.tuple #[.int .i64 r1,.bool r2])/\Below w.heap.size w w':=by
 have gq:=ai.mk hr0
 have lC:=ai.mk hc0
 clear hr0 hc0
 have HB:=ai.mk (Below.refl w.heap.size w)
 have H:(bg.l0 k l0 0 0)=some (r1,r2):=h
 clear h
 have H':=ai.mk H
 clear H
 go_enter Tryz.func107,Tryz.ntmps107
 go_wp2
 repeat(go_quiet (fail);try go_wp2)
 go_loopg [4,5] k (fun kq v4 v5 w'=>∃(bq:Int) (aT:Int),v4= .int .i64 bq/\v5= .int .i64 aT/\ai (bg.l0 kq l0 bq aT=some (r1,r2))/\ai (kq<=k)/\ai (Below w.heap.size w w'))
 case atStart=>exact⟨(0),(0),(by first|rfl|(simp;done)|(simp[*];done)),(by first|rfl|(simp;done)|(simp[*];done)),H',⟨Nat.le_refl _⟩,⟨by repeat(first|(with_reducible first|exact HB.out|apply ag|apply af|apply ah)|exact HB.out)⟩⟩
 case round=>
  clear H'
  try clear c1
  obtain⟨bq,aT,rfl,rfl,HA,gH,HB⟩:=hrel
  cases gk with
  |zero=>exact absurd HA.out (by simp[bg.l0])
  |succ k1=>
   have H:=HA.out
   clear HA
   simp only[bg.l0] at H
   by_cases c2:aT<(l0.length:Int)
   ·rw[if_pos c2] at H
    have jV:decide (aT<(l0.length:Int))=true:=decide_eq_true c2
    clear c2
    by_cases c3:0<=aT
    ·rw[if_pos c3] at H
     have iY:decide (0<=aT)=true:=decide_eq_true c3
     clear c3
     obtain⟨OV,AZ⟩:∃j_:Int,(mx 0 (wrap64 ((((aU l0 aT).f0).size:Int)-1)))=j_:=⟨_,rfl⟩
     replace H:((dY.f ((aU l0 aT).f1) (OV)).bind fun Md=>(if Md.2=true then((cK.f bq Md.1).bind fun uY=>(if uY.2=true then(bg.l0 k1 l0 uY.1 (wrap64 (aT+1))) else(some (0,false)))) else(some (0,false))))=some (r1,r2):=by first|(rw[AZ] at H;exact H)|(simp only[AZ] at H ⊢;exact H)
     have hji4_:(if 0<(wrap64 ((((aU l0 aT).f0).size:Int)-1)) then(wrap64 ((((aU l0 aT).f0).size:Int)-1)) else 0)=OV:=AZ
     replace H:=Option.bind_eq_some_iff.mp H
     obtain⟨⟨t110,t111⟩,Dk,H⟩:=H
     replace H:(if t111=true then((cK.f bq t110).bind fun uY=>(if uY.2=true then(bg.l0 k1 l0 uY.1 (wrap64 (aT+1))) else(some (0,false)))) else(some (0,false)))=some (r1,r2):=H
     have A5:=ai.mk Dk
     clear Dk
     by_cases c6:t111=true
     ·subst c6
      have H1:((cK.f bq t110).bind fun uY=>(if uY.2=true then(bg.l0 k1 l0 uY.1 (wrap64 (aT+1))) else(some (0,false))))=some (r1,r2):=by rw[if_pos rfl] at H;exact H
      clear H
      have H:=H1
      clear H1
      replace H:=Option.bind_eq_some_iff.mp H
      obtain⟨⟨t112,t113⟩,A70,H⟩:=H
      replace H:(if t113=true then(bg.l0 k1 l0 t112 (wrap64 (aT+1))) else(some (0,false)))=some (r1,r2):=H
      have A7:=ai.mk A70
      clear A70
      by_cases c8:t113=true
      ·subst c8
       have H1:(bg.l0 k1 l0 t112 (wrap64 (aT+1)))=some (r1,r2):=by rw[if_pos rfl] at H;exact H
       clear H
       have H:=H1
       clear H1
       have H':=ai.mk H
       clear H
       have EG:0<=(aT:Int):=of_decide_eq_true (by first|(with_reducible assumption)|assumption)
       have EY:aT<(l0.length:Int):=of_decide_eq_true (by first|(with_reducible assumption)|assumption)
       obtain⟨LQ,e108,mY,mZ⟩:=eP gq.out aT EG EY
       cases e108
       replace mY:=(HB.out.cell (World.block_lt_of_cell? w _ mY)).trans mY
       replace mZ:=(HB.out.cell (World.block_lt_of_cell? w _ mZ)).trans mZ
       replace EG:=eq_true EG
       replace EY:=eq_true EY
       have EH:0<=(aT:Int):=of_decide_eq_true (by first|(with_reducible assumption)|assumption)
       have EZ:aT<(l0.length:Int):=of_decide_eq_true (by first|(with_reducible assumption)|assumption)
       obtain⟨LU,e109,ng,ni⟩:=eP gq.out aT EH EZ
       obtain rfl:LQ=LU:=(by injection e109)
       replace ng:=(HB.out.cell (World.block_lt_of_cell? w _ ng)).trans ng
       replace ni:=(HB.out.cell (World.block_lt_of_cell? w _ ni)).trans ni
       replace EH:=eq_true EH
       replace EZ:=eq_true EZ
       go_wp2_with (first|(go_at_call 141;(with_reducible refine(dY.calls ((aU l0 aT).f1) OV t110 true _ A5.out).mono ?_);rintro e w' ⟨rfl,⟨nd,rfl⟩⟩;(try first|exact⟨rfl,_,World.drewN_drewN _ _ _⟩|exact⟨rfl,_,Eq.trans (World.drewN_drewN _ _ _) (congrArg (World.drewN _) (Nat.add_assoc _ _ _))⟩))|(go_at_call 97;(with_reducible refine(cK.calls bq t110 t112 true _ A7.out).mono ?_);rintro e w' ⟨rfl,⟨nd,rfl⟩⟩;(try first|exact⟨rfl,_,World.drewN_drewN _ _ _⟩|exact⟨rfl,_,Eq.trans (World.drewN_drewN _ _ _) (congrArg (World.drewN _) (Nat.add_assoc _ _ _))⟩)))
       repeat(go_quiet (first|(go_at_call 141;(with_reducible refine(dY.calls ((aU l0 aT).f1) OV t110 true _ A5.out).mono ?_);rintro e w' ⟨rfl,⟨nd,rfl⟩⟩;(try first|exact⟨rfl,_,World.drewN_drewN _ _ _⟩|exact⟨rfl,_,Eq.trans (World.drewN_drewN _ _ _) (congrArg (World.drewN _) (Nat.add_assoc _ _ _))⟩))|(go_at_call 97;(with_reducible refine(cK.calls bq t110 t112 true _ A7.out).mono ?_);rintro e w' ⟨rfl,⟨nd,rfl⟩⟩;(try first|exact⟨rfl,_,World.drewN_drewN _ _ _⟩|exact⟨rfl,_,Eq.trans (World.drewN_drewN _ _ _) (congrArg (World.drewN _) (Nat.add_assoc _ _ _))⟩)));try go_wp2_with (first|(go_at_call 141;(with_reducible refine(dY.calls ((aU l0 aT).f1) OV t110 true _ A5.out).mono ?_);rintro e w' ⟨rfl,⟨nd,rfl⟩⟩;(try first|exact⟨rfl,_,World.drewN_drewN _ _ _⟩|exact⟨rfl,_,Eq.trans (World.drewN_drewN _ _ _) (congrArg (World.drewN _) (Nat.add_assoc _ _ _))⟩))|(go_at_call 97;(with_reducible refine(cK.calls bq t110 t112 true _ A7.out).mono ?_);rintro e w' ⟨rfl,⟨nd,rfl⟩⟩;(try first|exact⟨rfl,_,World.drewN_drewN _ _ _⟩|exact⟨rfl,_,Eq.trans (World.drewN_drewN _ _ _) (congrArg (World.drewN _) (Nat.add_assoc _ _ _))⟩))))
       go_roundg k1
       case measure=>have:=gH.out;omega
       case rel=>exact⟨(t112),(wrap64 (aT+1)),(by first|rfl|(simp;done)|(simp[*];done)),(by first|rfl|(simp;done)|(simp[*];done)),H',⟨by have:=gH.out;omega⟩,⟨by repeat(first|(with_reducible first|exact HB.out|apply ag|apply af|apply ah)|exact HB.out)⟩⟩
      ·replace c8:=Bool.eq_false_iff.mpr c8
       subst c8
       have H1:(some (0,false))=some (r1,r2):=by rw[if_neg (show¬(false=true) by decide)] at H;exact H
       clear H
       have H:=H1
       clear H1
       simp only[Option.some.injEq,Prod.mk.injEq] at H
       obtain⟨rfl,rfl⟩:=H
       have EG:0<=(aT:Int):=of_decide_eq_true (by first|(with_reducible assumption)|assumption)
       have EY:aT<(l0.length:Int):=of_decide_eq_true (by first|(with_reducible assumption)|assumption)
       obtain⟨LQ,e108,mY,mZ⟩:=eP gq.out aT EG EY
       cases e108
       replace mY:=(HB.out.cell (World.block_lt_of_cell? w _ mY)).trans mY
       replace mZ:=(HB.out.cell (World.block_lt_of_cell? w _ mZ)).trans mZ
       replace EG:=eq_true EG
       replace EY:=eq_true EY
       have EH:0<=(aT:Int):=of_decide_eq_true (by first|(with_reducible assumption)|assumption)
       have EZ:aT<(l0.length:Int):=of_decide_eq_true (by first|(with_reducible assumption)|assumption)
       obtain⟨LU,e109,ng,ni⟩:=eP gq.out aT EH EZ
       obtain rfl:LQ=LU:=(by injection e109)
       replace ng:=(HB.out.cell (World.block_lt_of_cell? w _ ng)).trans ng
       replace ni:=(HB.out.cell (World.block_lt_of_cell? w _ ni)).trans ni
       replace EH:=eq_true EH
       replace EZ:=eq_true EZ
       go_wp2_with (first|(go_at_call 141;(with_reducible refine(dY.calls ((aU l0 aT).f1) OV t110 true _ A5.out).mono ?_);rintro e w' ⟨rfl,⟨nd,rfl⟩⟩;(try first|exact⟨rfl,_,World.drewN_drewN _ _ _⟩|exact⟨rfl,_,Eq.trans (World.drewN_drewN _ _ _) (congrArg (World.drewN _) (Nat.add_assoc _ _ _))⟩))|(go_at_call 97;(with_reducible refine(cK.calls bq t110 t112 false _ A7.out).mono ?_);rintro e w' ⟨rfl,⟨nd,rfl⟩⟩;(try first|exact⟨rfl,_,World.drewN_drewN _ _ _⟩|exact⟨rfl,_,Eq.trans (World.drewN_drewN _ _ _) (congrArg (World.drewN _) (Nat.add_assoc _ _ _))⟩)))
       repeat(go_quiet (first|(go_at_call 141;(with_reducible refine(dY.calls ((aU l0 aT).f1) OV t110 true _ A5.out).mono ?_);rintro e w' ⟨rfl,⟨nd,rfl⟩⟩;(try first|exact⟨rfl,_,World.drewN_drewN _ _ _⟩|exact⟨rfl,_,Eq.trans (World.drewN_drewN _ _ _) (congrArg (World.drewN _) (Nat.add_assoc _ _ _))⟩))|(go_at_call 97;(with_reducible refine(cK.calls bq t110 t112 false _ A7.out).mono ?_);rintro e w' ⟨rfl,⟨nd,rfl⟩⟩;(try first|exact⟨rfl,_,World.drewN_drewN _ _ _⟩|exact⟨rfl,_,Eq.trans (World.drewN_drewN _ _ _) (congrArg (World.drewN _) (Nat.add_assoc _ _ _))⟩)));try go_wp2_with (first|(go_at_call 141;(with_reducible refine(dY.calls ((aU l0 aT).f1) OV t110 true _ A5.out).mono ?_);rintro e w' ⟨rfl,⟨nd,rfl⟩⟩;(try first|exact⟨rfl,_,World.drewN_drewN _ _ _⟩|exact⟨rfl,_,Eq.trans (World.drewN_drewN _ _ _) (congrArg (World.drewN _) (Nat.add_assoc _ _ _))⟩))|(go_at_call 97;(with_reducible refine(cK.calls bq t110 t112 false _ A7.out).mono ?_);rintro e w' ⟨rfl,⟨nd,rfl⟩⟩;(try first|exact⟨rfl,_,World.drewN_drewN _ _ _⟩|exact⟨rfl,_,Eq.trans (World.drewN_drewN _ _ _) (congrArg (World.drewN _) (Nat.add_assoc _ _ _))⟩))))
       go_ret2
       exact⟨by first|rfl|(simp[aC,aD]<;>rfl)|(simp only[<-AZ];first|rfl|(simp[aC,aD]<;>rfl))|(simp[*,aC,aD]<;>rfl),by repeat(first|(with_reducible first|exact HB.out|apply ag|apply af|apply ah)|exact HB.out)⟩
     ·replace c6:=Bool.eq_false_iff.mpr c6
      subst c6
      have H1:(some (0,false))=some (r1,r2):=by rw[if_neg (show¬(false=true) by decide)] at H;exact H
      clear H
      have H:=H1
      clear H1
      simp only[Option.some.injEq,Prod.mk.injEq] at H
      obtain⟨rfl,rfl⟩:=H
      have EG:0<=(aT:Int):=of_decide_eq_true (by first|(with_reducible assumption)|assumption)
      have EY:aT<(l0.length:Int):=of_decide_eq_true (by first|(with_reducible assumption)|assumption)
      obtain⟨LQ,e108,mY,mZ⟩:=eP gq.out aT EG EY
      cases e108
      replace mY:=(HB.out.cell (World.block_lt_of_cell? w _ mY)).trans mY
      replace mZ:=(HB.out.cell (World.block_lt_of_cell? w _ mZ)).trans mZ
      replace EG:=eq_true EG
      replace EY:=eq_true EY
      have EH:0<=(aT:Int):=of_decide_eq_true (by first|(with_reducible assumption)|assumption)
      have EZ:aT<(l0.length:Int):=of_decide_eq_true (by first|(with_reducible assumption)|assumption)
      obtain⟨LU,e109,ng,ni⟩:=eP gq.out aT EH EZ
      obtain rfl:LQ=LU:=(by injection e109)
      replace ng:=(HB.out.cell (World.block_lt_of_cell? w _ ng)).trans ng
      replace ni:=(HB.out.cell (World.block_lt_of_cell? w _ ni)).trans ni
      replace EH:=eq_true EH
      replace EZ:=eq_true EZ
      go_wp2_with (first|(go_at_call 141;(with_reducible refine(dY.calls ((aU l0 aT).f1) OV t110 false _ A5.out).mono ?_);rintro e w' ⟨rfl,⟨nd,rfl⟩⟩;(try first|exact⟨rfl,_,World.drewN_drewN _ _ _⟩|exact⟨rfl,_,Eq.trans (World.drewN_drewN _ _ _) (congrArg (World.drewN _) (Nat.add_assoc _ _ _))⟩)))
      repeat(go_quiet (first|(go_at_call 141;(with_reducible refine(dY.calls ((aU l0 aT).f1) OV t110 false _ A5.out).mono ?_);rintro e w' ⟨rfl,⟨nd,rfl⟩⟩;(try first|exact⟨rfl,_,World.drewN_drewN _ _ _⟩|exact⟨rfl,_,Eq.trans (World.drewN_drewN _ _ _) (congrArg (World.drewN _) (Nat.add_assoc _ _ _))⟩)));try go_wp2_with (first|(go_at_call 141;(with_reducible refine(dY.calls ((aU l0 aT).f1) OV t110 false _ A5.out).mono ?_);rintro e w' ⟨rfl,⟨nd,rfl⟩⟩;(try first|exact⟨rfl,_,World.drewN_drewN _ _ _⟩|exact⟨rfl,_,Eq.trans (World.drewN_drewN _ _ _) (congrArg (World.drewN _) (Nat.add_assoc _ _ _))⟩))))
      go_ret2
      exact⟨by first|rfl|(simp[aC,aD]<;>rfl)|(simp only[<-AZ];first|rfl|(simp[aC,aD]<;>rfl))|(simp[*,aC,aD]<;>rfl),by repeat(first|(with_reducible first|exact HB.out|apply ag|apply af|apply ah)|exact HB.out)⟩
    ·rw[if_neg c3] at H
     exact absurd H (by simp)
   ·rw[if_neg c2] at H
    have jV:decide (aT<(l0.length:Int))=false:=decide_eq_false c2
    clear c2
    simp only[Option.some.injEq,Prod.mk.injEq] at H
    obtain⟨rfl,rfl⟩:=H
    go_wp2
    repeat(go_quiet (fail);try go_wp2)
    go_ret2
    exact⟨by first|rfl|(simp[aC,aD]<;>rfl)|(simp[*,aC,aD]<;>rfl),by repeat(first|(with_reducible first|exact HB.out|apply ag|apply af|apply ah)|exact HB.out)⟩
end Go.Proofs.YtilpincgjlclpaaGreat.Pr
end
section
namespace Go.Proofs.YtilpincgjlclpaaGreat.Pr
open Go.RowKit Go.Proofs.ae.au Go.Proofs.ae.aZ Go.Proofs.ae.bE
attribute [local go_sem] bQ min2_int cB min_two max_three min_three max_four min_four
def aQ.l0:Nat->List (dN)->Int->Int->Option (Bool)
 |0,_,_,_=>none
 |k+1,x0,x1,x5=>if x5<(x0.length:Int) then(if 0<=x5 then(if(((aU x0 x5).f0).size:Int)>100 then(some true) else(aQ.l0 k x0 x1 (wrap64 (x5+1)))) else(none)) else(some (decide ((x0.length:Int)>x1)))
def aQ.f (k:Nat) (l0:List (dN)) (a1:Int):Option (Bool):=aQ.l0 k l0 a1 0
set_option maxHeartbeats 8000000 in
set_option maxRecDepth 100000 in
theorem aQ.calls (k:Nat) (A0:Option Addr) (c0:Nat) (l0:List (dN)) (a1:Int) (r:Bool) (w:World) (hr0:Kd.C lQ w A0 l0.length l0) (hc0:l0.length<=c0) (h:aQ.f k l0 a1=some r):
  Calls Tryz.prog 36 #[.slice A0 l0.length c0,.int .i64 a1] w fun e w'=>e= .returned (.bool r)/\aJ w w':=by
 have gq:=ai.mk hr0
 have lC:=ai.mk hc0
 clear hr0 hc0
 have H:(aQ.l0 k l0 a1 0)=some r:=h
 clear h
 have H':=ai.mk H
 clear H
 go_enter Tryz.func36,Tryz.ntmps36
 go_wp2
 go_loopg [5] k (fun kq v5 w'=>∃(aT:Int),v5= .int .i64 aT/\ai (aQ.l0 kq l0 a1 aT=some r)/\ai (kq<=k)/\aJ w w')
 case atStart=>exact⟨(0),(by first|rfl|(simp;done)|(simp[*];done)),H',⟨Nat.le_refl _⟩,by repeat(first|exact aJ.refl _|apply aJ.step)⟩
 case round=>
  clear H'
  try clear p2
  obtain⟨aT,rfl,HA,gH,⟨m1,rfl⟩⟩:=hrel
  cases gk with
  |zero=>exact absurd HA.out (by simp[aQ.l0])
  |succ k1=>
   have H:=HA.out
   clear HA
   simp only[aQ.l0] at H
   by_cases c3:aT<(l0.length:Int)
   ·rw[if_pos c3] at H
    have iY:decide (aT<(l0.length:Int))=true:=decide_eq_true c3
    clear c3
    by_cases c4:0<=aT
    ·rw[if_pos c4] at H
     have iw:decide (0<=aT)=true:=decide_eq_true c4
     clear c4
     by_cases c5:(((aU l0 aT).f0).size:Int)>100
     ·rw[if_pos c5] at H
      have iC:decide (100<(((aU l0 aT).f0).size:Int))=true:=decide_eq_true c5
      have oD:decide (100<((aU l0 aT).f0).size)=true:=decide_eq_true (by omega)
      clear c5
      obtain rfl:=Option.some.inj H
      have pU:0<=(aT:Int):=of_decide_eq_true (by first|(with_reducible assumption)|assumption)
      have pW:aT<(l0.length:Int):=of_decide_eq_true (by first|(with_reducible assumption)|assumption)
      obtain⟨LP,DX,zo,zq⟩:=eP gq.out aT pU pW
      cases DX
      replace pU:=eq_true pU
      replace pW:=eq_true pW
      go_wp2
      go_ret
      exact⟨by first|rfl|(simp;done)|(simp[*];done),by repeat(first|exact aJ.refl _|apply aJ.step)⟩
     ·rw[if_neg c5] at H
      have iC:decide (100<(((aU l0 aT).f0).size:Int))=false:=decide_eq_false c5
      have oD:decide (100<((aU l0 aT).f0).size)=false:=decide_eq_false (by omega)
      clear c5
      have H':=ai.mk H
      clear H
      have pU:0<=(aT:Int):=of_decide_eq_true (by first|(with_reducible assumption)|assumption)
      have pW:aT<(l0.length:Int):=of_decide_eq_true (by first|(with_reducible assumption)|assumption)
      obtain⟨LP,DX,zo,zq⟩:=eP gq.out aT pU pW
      cases DX
      replace pU:=eq_true pU
      replace pW:=eq_true pW
      go_wp2
      go_roundg k1
      case measure=>have:=gH.out;omega
      case rel=>exact⟨(wrap64 (aT+1)),(by first|rfl|(simp;done)|(simp[*];done)),H',⟨by have:=gH.out;omega⟩,by repeat(first|exact aJ.refl _|apply aJ.step)⟩
    ·rw[if_neg c4] at H
     exact absurd H (by simp)
   ·rw[if_neg c3] at H
    have iY:decide (aT<(l0.length:Int))=false:=decide_eq_false c3
    clear c3
    obtain rfl:=Option.some.inj H
    go_wp2
    go_ret
    exact⟨by first|rfl|(simp;done)|(simp[*];done),by repeat(first|exact aJ.refl _|apply aJ.step)⟩
end Go.Proofs.YtilpincgjlclpaaGreat.Pr
end
section
namespace Go.Proofs.YtilpincgjlclpaaGreat.Pr
open Go.RowKit Go.Proofs.ae.au Go.Proofs.ae.aZ Go.Proofs.ae.bE
attribute [local go_sem] bQ min2_int cB min_two max_three min_three max_four min_four
def aA.l0:Nat->List (dN)->Int->Int->Option (Int)
 |0,_,_,_=>none
 |k+1,x0,x3,x4=>if x4<(x0.length:Int) then(if 0<=x4 then(aA.l0 k x0 (wrap64 (x3+(((aU x0 x4).f0).size:Int))) (wrap64 (x4+1))) else(none)) else(some x3)
def aA.f (k:Nat) (l0:List (dN)):Option (Int):=aA.l0 k l0 0 0
set_option maxHeartbeats 8000000 in
set_option maxRecDepth 100000 in
theorem aA.calls (k:Nat) (A0:Option Addr) (c0:Nat) (l0:List (dN)) (r:Int) (w:World) (hr0:Kd.C lQ w A0 l0.length l0) (hc0:l0.length<=c0) (h:aA.f k l0=some r):
  Calls Tryz.prog 27 #[.slice A0 l0.length c0] w fun e w'=>e= .returned (.int .i64 r)/\aJ w w':=by
 have gq:=ai.mk hr0
 have lC:=ai.mk hc0
 clear hr0 hc0
 have H:(aA.l0 k l0 0 0)=some r:=h
 clear h
 have H':=ai.mk H
 clear H
 go_enter Tryz.func27,Tryz.ntmps27
 go_wp2
 go_loopg [3,4] k (fun kq v3 v4 w'=>∃(fB:Int) (bq:Int),v3= .int .i64 fB/\v4= .int .i64 bq/\ai (aA.l0 kq l0 fB bq=some r)/\ai (kq<=k)/\aJ w w')
 case atStart=>exact⟨(0),(0),(by first|rfl|(simp;done)|(simp[*];done)),(by first|rfl|(simp;done)|(simp[*];done)),H',⟨Nat.le_refl _⟩,by repeat(first|exact aJ.refl _|apply aJ.step)⟩
 case round=>
  clear H'
  obtain⟨fB,bq,rfl,rfl,HA,gH,⟨m1,rfl⟩⟩:=hrel
  cases gk with
  |zero=>exact absurd HA.out (by simp[aA.l0])
  |succ k1=>
   have H:=HA.out
   clear HA
   simp only[aA.l0] at H
   by_cases c2:bq<(l0.length:Int)
   ·rw[if_pos c2] at H
    have jV:decide (bq<(l0.length:Int))=true:=decide_eq_true c2
    clear c2
    by_cases c3:0<=bq
    ·rw[if_pos c3] at H
     have iY:decide (0<=bq)=true:=decide_eq_true c3
     clear c3
     have H':=ai.mk H
     clear H
     have EF:0<=(bq:Int):=of_decide_eq_true (by first|(with_reducible assumption)|assumption)
     have EX:bq<(l0.length:Int):=of_decide_eq_true (by first|(with_reducible assumption)|assumption)
     obtain⟨ad103,Yj,Tn,Tp⟩:=eP gq.out bq EF EX
     cases Yj
     replace EF:=eq_true EF
     replace EX:=eq_true EX
     go_wp2
     go_roundg k1
     case measure=>have:=gH.out;omega
     case rel=>exact⟨(wrap64 (fB+(((aU l0 bq).f0).size:Int))),(wrap64 (bq+1)),(by first|rfl|(simp;done)|(simp[*];done)),(by first|rfl|(simp;done)|(simp[*];done)),H',⟨by have:=gH.out;omega⟩,by repeat(first|exact aJ.refl _|apply aJ.step)⟩
    ·rw[if_neg c3] at H
     exact absurd H (by simp)
   ·rw[if_neg c2] at H
    have jV:decide (bq<(l0.length:Int))=false:=decide_eq_false c2
    clear c2
    obtain rfl:=Option.some.inj H
    go_wp2
    go_ret
    exact⟨by first|rfl|(simp;done)|(simp[*];done),by repeat(first|exact aJ.refl _|apply aJ.step)⟩
end Go.Proofs.YtilpincgjlclpaaGreat.Pr
end
section
namespace Go.Proofs.YtilpincgjlclpaaGreat.Pr
open Go.RowKit Go.Proofs.ae.au Go.Proofs.ae.aZ Go.Proofs.ae.bE
attribute [local go_sem] bQ min2_int cB min_two max_three min_three max_four min_four
theorem eqA47 (d:Nat) (w:World) (x0 y0:ByteArray) (x1 y1:ByteArray):
  (Op.equalIn (d+2) 47 (.agg #[.string x0,.string x1]) (.agg #[.string y0,.string y1])).run Tryz.prog w= .ok (x0.toList==y0.toList&&(x1.toList==y1.toList)) w:=by
 refine AQ Tryz.underlying47 (by kernel_rfl) ?_
 refine ru (by rfl) (by go_simp;rfl) (by go_simp;rfl) (by go_simp) ?_
 exact ry (by rfl) (by go_simp;rfl) (by go_simp;rfl) (by go_simp)
end Go.Proofs.YtilpincgjlclpaaGreat.Pr
end
