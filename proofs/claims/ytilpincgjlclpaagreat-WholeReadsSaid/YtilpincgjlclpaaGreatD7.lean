import Derived.Test.YtilpincgjlclpaaGreatD2
set_option linter.unusedVariables false
set_option linter.unusedSimpArgs false
section
namespace Go.Proofs.YtilpincgjlclpaaGreat.Pr
open Go.RowKit Go.Proofs.ae.au Go.Proofs.ae.aZ Go.Proofs.ae.bE
attribute [local go_sem] bQ min2_int cB min_two max_three min_three max_four min_four
def dE.l0:Nat->List (dN)->ByteArray->Int->Option (Int)
 |0,_,_,_=>none
 |k+1,x0,x1,x5=>if x5<(x0.length:Int) then(if 0<=x5 then(if((aU x0 x5).f0).toList=x1.toList then(some ((aU x0 x5).f1)) else(dE.l0 k x0 x1 (wrap64 (x5+1)))) else(none)) else(some 0)
def dE.f (k:Nat) (l0:List (dN)) (a1:ByteArray):Option (Int):=dE.l0 k l0 a1 0
set_option maxHeartbeats 8000000 in
set_option maxRecDepth 100000 in
theorem dE.calls (k:Nat) (A0:Option Addr) (c0:Nat) (l0:List (dN)) (a1:ByteArray) (r:Int) (w:World) (hr0:Kd.C lQ w A0 l0.length l0) (hc0:l0.length<=c0) (h:dE.f k l0 a1=some r):
  Calls Tryz.prog 98 #[.slice A0 l0.length c0,.string a1] w fun e w'=>e= .returned (.int .i64 r)/\aJ w w':=by
 have gq:=ai.mk hr0
 have lC:=ai.mk hc0
 clear hr0 hc0
 have H:(dE.l0 k l0 a1 0)=some r:=h
 clear h
 have H':=ai.mk H
 clear H
 go_enter Tryz.func98,Tryz.ntmps98
 go_wp2
 go_loopg [5] k (fun kq v5 w'=>∃(aT:Int),v5= .int .i64 aT/\ai (dE.l0 kq l0 a1 aT=some r)/\ai (kq<=k)/\aJ w w')
 case atStart=>exact⟨(0),(by first|rfl|(simp;done)|(simp[*];done)),H',⟨Nat.le_refl _⟩,by repeat(first|exact aJ.refl _|apply aJ.step)⟩
 case round=>
  clear H'
  try clear p2
  obtain⟨aT,rfl,HA,gH,⟨m1,rfl⟩⟩:=hrel
  cases gk with
  |zero=>exact absurd HA.out (by simp[dE.l0])
  |succ k1=>
   have H:=HA.out
   clear HA
   simp only[dE.l0] at H
   by_cases c3:aT<(l0.length:Int)
   ·rw[if_pos c3] at H
    have iY:decide (aT<(l0.length:Int))=true:=decide_eq_true c3
    clear c3
    by_cases c4:0<=aT
    ·rw[if_pos c4] at H
     have iw:decide (0<=aT)=true:=decide_eq_true c4
     clear c4
     by_cases c5:((aU l0 aT).f0).toList=a1.toList
     ·rw[if_pos c5] at H
      have iC:(((aU l0 aT).f0).toList==a1.toList)=true:=beq_iff_eq.mpr c5
      have oD:(((aU l0 aT).f0).toList != a1.toList)=false:=bne_eq_false_iff_eq.mpr c5
      clear c5
      obtain rfl:=Option.some.inj H
      have QQ:0<=(aT:Int):=of_decide_eq_true (by first|(with_reducible assumption)|assumption)
      have Rt:aT<(l0.length:Int):=of_decide_eq_true (by first|(with_reducible assumption)|assumption)
      obtain⟨ad568,e568,hx568_0,hx568_1⟩:=eP gq.out aT QQ Rt
      cases e568
      replace QQ:=eq_true QQ
      replace Rt:=eq_true Rt
      have p569:0<=(aT:Int):=of_decide_eq_true (by first|(with_reducible assumption)|assumption)
      have q569:aT<(l0.length:Int):=of_decide_eq_true (by first|(with_reducible assumption)|assumption)
      obtain⟨ad569,e569,hx569_0,hx569_1⟩:=eP gq.out aT p569 q569
      obtain rfl:ad568=ad569:=(by injection e569)
      replace p569:=eq_true p569
      replace q569:=eq_true q569
      go_wp2
      go_ret
      exact⟨by first|rfl|(simp;done)|(simp[*];done),by repeat(first|exact aJ.refl _|apply aJ.step)⟩
     ·rw[if_neg c5] at H
      have iC:(((aU l0 aT).f0).toList==a1.toList)=false:=beq_eq_false_iff_ne.mpr c5
      have oD:(((aU l0 aT).f0).toList != a1.toList)=true:=bne_iff_ne.mpr c5
      have H':=ai.mk H
      clear H
      have QQ:0<=(aT:Int):=of_decide_eq_true (by first|(with_reducible assumption)|assumption)
      have Rt:aT<(l0.length:Int):=of_decide_eq_true (by first|(with_reducible assumption)|assumption)
      obtain⟨ad568,e568,hx568_0,hx568_1⟩:=eP gq.out aT QQ Rt
      cases e568
      replace QQ:=eq_true QQ
      replace Rt:=eq_true Rt
      go_wp2
      go_roundg k1
      case measure=>have:=gH.out;omega
      case rel=>exact⟨(wrap64 (aT+1)),(by first|rfl|(simp;done)|(simp[*];done)),H',⟨by have:=gH.out;omega⟩,by repeat(first|exact aJ.refl _|apply aJ.step)⟩
    ·rw[if_neg c4] at H
     exact absurd H (by simp)
   ·rw[if_neg c3] at H
    have iY:decide (aT<(l0.length:Int))=false:=decide_eq_false c3
    clear c3
    obtain rfl:=Option.some.inj H
    go_wp2
    go_ret
    exact⟨by first|rfl|(simp;done)|(simp[*];done),by repeat(first|exact aJ.refl _|apply aJ.step)⟩
end Go.Proofs.YtilpincgjlclpaaGreat.Pr
end
section
namespace Go.Proofs.YtilpincgjlclpaaGreat.Pr
open Go.RowKit Go.Proofs.ae.au Go.Proofs.ae.aZ Go.Proofs.ae.bE
attribute [local go_sem] bQ min2_int cB min_two max_three min_three max_four min_four
theorem eqA45 (d:Nat) (w:World) (x0 y0:ByteArray) (x1 y1:Int):
  (Op.equalIn (d+2) 45 (.agg #[.string x0,.int .i64 x1]) (.agg #[.string y0,.int .i64 y1])).run Tryz.prog w= .ok (x0.toList==y0.toList&&(x1==y1)) w:=by
 refine AQ Tryz.underlying45 (by kernel_rfl) ?_
 refine ru (by rfl) (by go_simp;rfl) (by go_simp;rfl) (by go_simp) ?_
 exact ry (by rfl) (by go_simp;rfl) (by go_simp;rfl) (by go_simp)
end Go.Proofs.YtilpincgjlclpaaGreat.Pr
end
