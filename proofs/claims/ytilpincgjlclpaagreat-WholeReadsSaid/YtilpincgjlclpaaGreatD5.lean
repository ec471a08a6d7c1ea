import Derived.Test.YtilpincgjlclpaaGreatD2
set_option linter.unusedVariables false
set_option linter.unusedSimpArgs false
namespace Go.Proofs.YtilpincgjlclpaaGreat.Pr
open Go.RowKit Go.Proofs.ae.au Go.Proofs.ae.aZ Go.Proofs.ae.bE
attribute [local go_sem] bQ min2_int cB min_two max_three min_three max_four min_four
def dO.l0:Nat->List ByteArray->List ByteArray->Int->Option (Bool)
 |0,_,_,_=>none
 |k+1,x0,x1,x5=>if x5<(x0.length:Int) then(if 0<=x5 then(if x5<(x1.length:Int) then(if(dH ByteArray.empty x0 x5).toList=(dH ByteArray.empty x1 x5).toList then(dO.l0 k x0 x1 (wrap64 (x5+1))) else(some false)) else(none)) else(none)) else(some true)
def dO.f (k:Nat) (l0:List ByteArray) (l1:List ByteArray):Option (Bool):=if(l0.length:Int)=(l1.length:Int) then(dO.l0 k l0 l1 0) else(some false)
set_option maxHeartbeats 8000000 in
set_option maxRecDepth 100000 in
theorem dO.calls (k:Nat) (A0:Option Addr) (c0:Nat) (l0:List ByteArray) (A1:Option Addr) (c1:Nat) (l1:List ByteArray) (r:Bool) (w:World) (hr0:Kd.C Kd.string w A0 l0.length l0) (hc0:l0.length<=c0) (hr1:Kd.C Kd.string w A1 l1.length l1) (hc1:l1.length<=c1) (h:dO.f k l0 l1=some r):
  Calls Tryz.prog 21 #[.slice A0 l0.length c0,.slice A1 l1.length c1] w fun e w'=>e= .returned (.bool r)/\aJ w w':=by
 have gq:=ai.mk hr0
 have lC:=ai.mk hc0
 clear hr0 hc0
 have HR1:=ai.mk hr1
 have Ch:=ai.mk hc1
 clear hr1 hc1
 have H:(if(l0.length:Int)=(l1.length:Int) then(dO.l0 k l0 l1 0) else(some false))=some r:=h
 clear h
 by_cases c3:(l0.length:Int)=(l1.length:Int)
 ·rw[if_pos c3] at H
  have iY:((l0.length:Int)==(l1.length:Int))=true:=beq_iff_eq.mpr c3
  have qp:((l0.length:Int) != (l1.length:Int))=false:=bne_eq_false_iff_eq.mpr c3
  have DL:(l0.length==l1.length)=true:=by first|simpa using c3|(simp at c3 ⊢;omega)
  clear c3
  have H':=ai.mk H
  clear H
  go_enter Tryz.func21,Tryz.ntmps21
  go_wp2
  repeat(go_quiet (fail);try go_wp2)
  go_loopg [5] k (fun kq v5 w'=>∃(aT:Int),v5= .int .i64 aT/\ai (dO.l0 kq l0 l1 aT=some r)/\ai (kq<=k)/\aJ w w')
  case atStart=>exact⟨(0),(by first|rfl|(simp;done)|(simp[*];done)),H',⟨Nat.le_refl _⟩,by repeat(first|exact aJ.refl _|apply aJ.step)⟩
  case round=>
   clear H'
   try clear c1
   try clear c2
   try clear p2
   try clear c3
   try clear iY
   try clear qp
   try clear DL
   obtain⟨aT,rfl,HA,gH,⟨m1,rfl⟩⟩:=hrel
   cases gk with
   |zero=>exact absurd HA.out (by simp[dO.l0])
   |succ k1=>
    have H:=HA.out
    clear HA
    simp only[dO.l0] at H
    by_cases c4:aT<(l0.length:Int)
    ·rw[if_pos c4] at H
     have iw:decide (aT<(l0.length:Int))=true:=decide_eq_true c4
     clear c4
     by_cases c5:0<=aT
     ·rw[if_pos c5] at H
      have iC:decide (0<=aT)=true:=decide_eq_true c5
      clear c5
      by_cases c6:aT<(l1.length:Int)
      ·rw[if_pos c6] at H
       have yR:decide (aT<(l1.length:Int))=true:=decide_eq_true c6
       clear c6
       by_cases c7:(dH ByteArray.empty l0 aT).toList=(dH ByteArray.empty l1 aT).toList
       ·rw[if_pos c7] at H
        have jU:((dH ByteArray.empty l0 aT).toList==(dH ByteArray.empty l1 aT).toList)=true:=beq_iff_eq.mpr c7
        have qw:((dH ByteArray.empty l0 aT).toList != (dH ByteArray.empty l1 aT).toList)=false:=bne_eq_false_iff_eq.mpr c7
        clear c7
        have H':=ai.mk H
        clear H
        have QM:0<=(aT:Int):=of_decide_eq_true (by first|(with_reducible assumption)|assumption)
        have Rn:aT<(l0.length:Int):=of_decide_eq_true (by first|(with_reducible assumption)|assumption)
        obtain⟨ad442,e442,hx442_0⟩:=Kd.dx gq.out aT QM Rn
        cases e442
        replace QM:=eq_true QM
        replace Rn:=eq_true Rn
        have QN:0<=(aT:Int):=of_decide_eq_true (by first|(with_reducible assumption)|assumption)
        have Ro:aT<(l1.length:Int):=of_decide_eq_true (by first|(with_reducible assumption)|assumption)
        obtain⟨ad443,e443,hx443_0⟩:=Kd.dx HR1.out aT QN Ro
        cases e443
        replace QN:=eq_true QN
        replace Ro:=eq_true Ro
        go_wp2
        repeat(go_quiet (fail);try go_wp2)
        go_roundg k1
        case measure=>have:=gH.out;omega
        case rel=>exact⟨(wrap64 (aT+1)),(by first|rfl|(simp;done)|(simp[*];done)),H',⟨by have:=gH.out;omega⟩,by repeat(first|exact aJ.refl _|apply aJ.step)⟩
       ·rw[if_neg c7] at H
        have jU:((dH ByteArray.empty l0 aT).toList==(dH ByteArray.empty l1 aT).toList)=false:=beq_eq_false_iff_ne.mpr c7
        have qw:((dH ByteArray.empty l0 aT).toList != (dH ByteArray.empty l1 aT).toList)=true:=bne_iff_ne.mpr c7
        obtain rfl:=Option.some.inj H
        have QM:0<=(aT:Int):=of_decide_eq_true (by first|(with_reducible assumption)|assumption)
        have Rn:aT<(l0.length:Int):=of_decide_eq_true (by first|(with_reducible assumption)|assumption)
        obtain⟨ad442,e442,hx442_0⟩:=Kd.dx gq.out aT QM Rn
        cases e442
        replace QM:=eq_true QM
        replace Rn:=eq_true Rn
        have QN:0<=(aT:Int):=of_decide_eq_true (by first|(with_reducible assumption)|assumption)
        have Ro:aT<(l1.length:Int):=of_decide_eq_true (by first|(with_reducible assumption)|assumption)
        obtain⟨ad443,e443,hx443_0⟩:=Kd.dx HR1.out aT QN Ro
        cases e443
        replace QN:=eq_true QN
        replace Ro:=eq_true Ro
        go_wp2
        repeat(go_quiet (fail);try go_wp2)
        go_ret
        exact⟨by first|rfl|(simp;done)|(simp[*];done),by repeat(first|exact aJ.refl _|apply aJ.step)⟩
      ·rw[if_neg c6] at H
       exact absurd H (by simp)
     ·rw[if_neg c5] at H
      exact absurd H (by simp)
    ·rw[if_neg c4] at H
     have iw:decide (aT<(l0.length:Int))=false:=decide_eq_false c4
     clear c4
     obtain rfl:=Option.some.inj H
     go_wp2
     repeat(go_quiet (fail);try go_wp2)
     go_ret
     exact⟨by first|rfl|(simp;done)|(simp[*];done),by repeat(first|exact aJ.refl _|apply aJ.step)⟩
 ·rw[if_neg c3] at H
  have iY:((l0.length:Int)==(l1.length:Int))=false:=beq_eq_false_iff_ne.mpr c3
  have qp:((l0.length:Int) != (l1.length:Int))=true:=bne_iff_ne.mpr c3
  have DL:(l0.length==l1.length)=false:=by first|simpa using c3|(simp at c3 ⊢;omega)
  obtain rfl:=Option.some.inj H
  go_enter Tryz.func21,Tryz.ntmps21
  go_wp2
  repeat(go_quiet (fail);try go_wp2)
  go_ret
  exact⟨by first|rfl|(simp;done)|(simp[*];done),by repeat(first|exact aJ.refl _|apply aJ.step)⟩
end Go.Proofs.YtilpincgjlclpaaGreat.Pr
