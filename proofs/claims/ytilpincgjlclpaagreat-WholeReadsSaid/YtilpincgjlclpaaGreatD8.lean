import Derived.ChangeArms
import Derived.ChangeShapes
import Derived.Deep.Slices
import Derived.WideShapes
import Derived.Test.YtilpincgjlclpaaGreatB10
import Derived.Test.YtilpincgjlclpaaGreatD7
set_option linter.unusedVariables false
set_option linter.unusedSimpArgs false
section
namespace Go.Proofs.YtilpincgjlclpaaGreat.Pr
open Go.RowKit Go.Proofs.ae.au Go.Proofs.ae.aZ Go.Proofs.ae.bE
attribute [local go_sem] bQ min2_int cB min_two max_three min_three max_four min_four
attribute [local go_sem high] eqA45
def dW.l0:Nat->List (dN)->List (dN)->Int->Option (Bool)
 |0,_,_,_=>none
 |k+1,x0,x1,x5=>if x5<(x0.length:Int) then(if 0<=x5 then(if x5<(x1.length:Int) then(if(!((((aU x0 x5).f0).toList)==(((aU x1 x5).f0).toList))||(!(((aU x0 x5).f1)==((aU x1 x5).f1))))=true then(some false) else(dW.l0 k x0 x1 (wrap64 (x5+1)))) else(none)) else(none)) else(some true)
def dW.f (k:Nat) (l0:List (dN)) (l1:List (dN)):Option (Bool):=if(l0.length:Int)=(l1.length:Int) then(dW.l0 k l0 l1 0) else(some false)
set_option maxHeartbeats 8000000 in
set_option maxRecDepth 100000 in
theorem dW.calls (k:Nat) (A0:Option Addr) (c0:Nat) (l0:List (dN)) (A1:Option Addr) (c1:Nat) (l1:List (dN)) (r:Bool) (w:World) (hr0:Kd.C lQ w A0 l0.length l0) (hc0:l0.length<=c0) (hr1:Kd.C lQ w A1 l1.length l1) (hc1:l1.length<=c1) (h:dW.f k l0 l1=some r):
  Calls Tryz.prog 25 #[.slice A0 l0.length c0,.slice A1 l1.length c1] w fun e w'=>e= .returned (.bool r)/\aJ w w':=by
 have Zg:=Tryz.underlying45
 have gq:=ai.mk hr0
 have lC:=ai.mk hc0
 clear hr0 hc0
 have HR1:=ai.mk hr1
 have Ch:=ai.mk hc1
 clear hr1 hc1
 have H:(if(l0.length:Int)=(l1.length:Int) then(dW.l0 k l0 l1 0) else(some false))=some r:=h
 clear h
 by_cases c3:(l0.length:Int)=(l1.length:Int)
 ·rw[if_pos c3] at H
  have iY:((l0.length:Int)==(l1.length:Int))=true:=beq_iff_eq.mpr c3
  have qp:((l0.length:Int) != (l1.length:Int))=false:=bne_eq_false_iff_eq.mpr c3
  have DL:(l0.length==l1.length)=true:=by first|simpa using c3|(simp at c3 ⊢;omega)
  clear c3
  have H':=ai.mk H
  clear H
  go_enter Tryz.func25,Tryz.ntmps25
  go_wp2
  repeat(go_quiet (fail);try go_wp2)
  go_loopg [5] k (fun kq v5 w'=>∃(aT:Int),v5= .int .i64 aT/\ai (dW.l0 kq l0 l1 aT=some r)/\ai (kq<=k)/\aJ w w')
  case atStart=>exact⟨(0),(by first|rfl|(simp;done)|(simp[*];done)),H',⟨Nat.le_refl _⟩,by repeat(first|exact aJ.refl _|apply aJ.step)⟩
  case round=>
   clear H'
   try clear c1
   try clear c2
   try clear p2
   try clear c3
   try clear iY
   try clear qp
   try clear DL
   obtain⟨aT,rfl,HA,gH,⟨m1,rfl⟩⟩:=hrel
   cases gk with
   |zero=>exact absurd HA.out (by simp[dW.l0])
   |succ k1=>
    have H:=HA.out
    clear HA
    simp only[dW.l0] at H
    by_cases c4:aT<(l0.length:Int)
    ·rw[if_pos c4] at H
     have iw:decide (aT<(l0.length:Int))=true:=decide_eq_true c4
     clear c4
     by_cases c5:0<=aT
     ·rw[if_pos c5] at H
      have iC:decide (0<=aT)=true:=decide_eq_true c5
      clear c5
      by_cases c6:aT<(l1.length:Int)
      ·rw[if_pos c6] at H
       have yR:decide (aT<(l1.length:Int))=true:=decide_eq_true c6
       clear c6
       by_cases c7:(!((((aU l0 aT).f0).toList)==(((aU l1 aT).f0).toList))||(!(((aU l0 aT).f1)==((aU l1 aT).f1))))=true
       ·rw[if_pos c7] at H
        have jU:(!((((aU l0 aT).f0).toList)==(((aU l1 aT).f0).toList))||(!(((aU l0 aT).f1)==((aU l1 aT).f1))))=true:=c7
        clear c7
        obtain rfl:=Option.some.inj H
        have QO:0<=(aT:Int):=of_decide_eq_true (by first|(with_reducible assumption)|assumption)
        have Rp:aT<(l0.length:Int):=of_decide_eq_true (by first|(with_reducible assumption)|assumption)
        obtain⟨ad566,e566,hx566_0,hx566_1⟩:=eP gq.out aT QO Rp
        cases e566
        replace QO:=eq_true QO
        replace Rp:=eq_true Rp
        have QP:0<=(aT:Int):=of_decide_eq_true (by first|(with_reducible assumption)|assumption)
        have Rq:aT<(l1.length:Int):=of_decide_eq_true (by first|(with_reducible assumption)|assumption)
        obtain⟨ad567,e567,hx567_0,hx567_1⟩:=eP HR1.out aT QP Rq
        cases e567
        replace QP:=eq_true QP
        replace Rq:=eq_true Rq
        go_wp2
        repeat(go_quiet (fail);try go_wp2)
        go_ret
        exact⟨by first|rfl|(simp;done)|(simp[*];done),by repeat(first|exact aJ.refl _|apply aJ.step)⟩
       ·rw[if_neg c7] at H
        have jU:(!((((aU l0 aT).f0).toList)==(((aU l1 aT).f0).toList))||(!(((aU l0 aT).f1)==((aU l1 aT).f1))))=false:=by simpa using c7
        clear c7
        have H':=ai.mk H
        clear H
        have QO:0<=(aT:Int):=of_decide_eq_true (by first|(with_reducible assumption)|assumption)
        have Rp:aT<(l0.length:Int):=of_decide_eq_true (by first|(with_reducible assumption)|assumption)
        obtain⟨ad566,e566,hx566_0,hx566_1⟩:=eP gq.out aT QO Rp
        cases e566
        replace QO:=eq_true QO
        replace Rp:=eq_true Rp
        have QP:0<=(aT:Int):=of_decide_eq_true (by first|(with_reducible assumption)|assumption)
        have Rq:aT<(l1.length:Int):=of_decide_eq_true (by first|(with_reducible assumption)|assumption)
        obtain⟨ad567,e567,hx567_0,hx567_1⟩:=eP HR1.out aT QP Rq
        cases e567
        replace QP:=eq_true QP
        replace Rq:=eq_true Rq
        go_wp2
        repeat(go_quiet (fail);try go_wp2)
        go_roundg k1
        case measure=>have:=gH.out;omega
        case rel=>exact⟨(wrap64 (aT+1)),(by first|rfl|(simp;done)|(simp[*];done)),H',⟨by have:=gH.out;omega⟩,by repeat(first|exact aJ.refl _|apply aJ.step)⟩
      ·rw[if_neg c6] at H
       exact absurd H (by simp)
     ·rw[if_neg c5] at H
      exact absurd H (by simp)
    ·rw[if_neg c4] at H
     have iw:decide (aT<(l0.length:Int))=false:=decide_eq_false c4
     clear c4
     obtain rfl:=Option.some.inj H
     go_wp2
     repeat(go_quiet (fail);try go_wp2)
     go_ret
     exact⟨by first|rfl|(simp;done)|(simp[*];done),by repeat(first|exact aJ.refl _|apply aJ.step)⟩
 ·rw[if_neg c3] at H
  have iY:((l0.length:Int)==(l1.length:Int))=false:=beq_eq_false_iff_ne.mpr c3
  have qp:((l0.length:Int) != (l1.length:Int))=true:=bne_iff_ne.mpr c3
  have DL:(l0.length==l1.length)=false:=by first|simpa using c3|(simp at c3 ⊢;omega)
  obtain rfl:=Option.some.inj H
  go_enter Tryz.func25,Tryz.ntmps25
  go_wp2
  repeat(go_quiet (fail);try go_wp2)
  go_ret
  exact⟨by first|rfl|(simp;done)|(simp[*];done),by repeat(first|exact aJ.refl _|apply aJ.step)⟩
end Go.Proofs.YtilpincgjlclpaaGreat.Pr
end
section
namespace Go.Proofs.YtilpincgjlclpaaGreat.Open
open Go.RowKit Go.Proofs.ae.au
open Go.ChangeShapes Go.WideShapes Go.Deep
section
variable {H:Type} {enc:TypeId×Value->H} {P:Program} {w:World} {t e:TypeId}
theorem VO {k:IntKind} (ht:P.underlying t=some (.int k)):BG enc P w t (Kd.int k) (fun n=>(Lit.int k n).wf=true):=
 ⟨fun _ _ _ h=>by
  obtain⟨n,rfl,_,hw⟩:=DataW.trod_int ht h
  exact⟨n,rfl,hw⟩⟩
end
end Go.Proofs.YtilpincgjlclpaaGreat.Open
end
