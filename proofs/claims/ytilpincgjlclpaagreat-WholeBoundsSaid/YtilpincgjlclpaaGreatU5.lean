import Derived.Test.YtilpincgjlclpaaGreatU4
set_option linter.unusedVariables false
set_option linter.unusedSimpArgs false
section
namespace Go.Proofs.YtilpincgjlclpaaGreat.Pr
open Go.RowKit Go.Proofs.ae.au Go.Proofs.ae.aZ Go.Proofs.ae.bE
attribute [local go_sem] bQ min2_int cB min_two max_three min_three max_four min_four
def aA.l0:Nat->List (dN)->Int->Int->Option (Int)
 |0,_,_,_=>none
 |k+1,x0,x3,x4=>if x4<(x0.length:Int) then(if 0<=x4 then(aA.l0 k x0 (wrap64 (x3+(((aU x0 x4).f0).size:Int))) (wrap64 (x4+1))) else(none)) else(some x3)
def aA.f (k:Nat) (l0:List (dN)):Option (Int):=aA.l0 k l0 0 0
set_option maxHeartbeats 8000000 in
set_option maxRecDepth 100000 in
theorem aA.calls (k:Nat) (A0:Option Addr) (c0:Nat) (l0:List (dN)) (r:Int) (w:World) (hr0:Kd.C lQ w A0 l0.length l0) (hc0:l0.length<=c0) (h:aA.f k l0=some r):
  Calls Tryz.prog 27 #[.slice A0 l0.length c0] w fun e w'=>e= .returned (.int .i64 r)/\aJ w w':=by
 have gq:=ai.mk hr0
 have lC:=ai.mk hc0
 clear hr0 hc0
 have H:(aA.l0 k l0 0 0)=some r:=h
 clear h
 have H':=ai.mk H
 clear H
 go_enter Tryz.func27,Tryz.ntmps27
 go_wp2
 go_loopg [3,4] k (fun kq v3 v4 w'=>∃(fB:Int) (bq:Int),v3= .int .i64 fB/\v4= .int .i64 bq/\ai (aA.l0 kq l0 fB bq=some r)/\ai (kq<=k)/\aJ w w')
 case atStart=>exact⟨(0),(0),(by first|rfl|(simp;done)|(simp[*];done)),(by first|rfl|(simp;done)|(simp[*];done)),H',⟨Nat.le_refl _⟩,by repeat(first|exact aJ.refl _|apply aJ.step)⟩
 case round=>
  clear H'
  obtain⟨fB,bq,rfl,rfl,HA,gH,⟨m1,rfl⟩⟩:=hrel
  cases gk with
  |zero=>exact absurd HA.out (by simp[aA.l0])
  |succ k1=>
   have H:=HA.out
   clear HA
   simp only[aA.l0] at H
   by_cases c2:bq<(l0.length:Int)
   ·rw[if_pos c2] at H
    have jV:decide (bq<(l0.length:Int))=true:=decide_eq_true c2
    clear c2
    by_cases c3:0<=bq
    ·rw[if_pos c3] at H
     have iY:decide (0<=bq)=true:=decide_eq_true c3
     clear c3
     have H':=ai.mk H
     clear H
     have EF:0<=(bq:Int):=of_decide_eq_true (by first|(with_reducible assumption)|assumption)
     have EX:bq<(l0.length:Int):=of_decide_eq_true (by first|(with_reducible assumption)|assumption)
     obtain⟨ad103,Yj,Tn,Tp⟩:=eP gq.out bq EF EX
     cases Yj
     replace EF:=eq_true EF
     replace EX:=eq_true EX
     go_wp2
     go_roundg k1
     case measure=>have:=gH.out;omega
     case rel=>exact⟨(wrap64 (fB+(((aU l0 bq).f0).size:Int))),(wrap64 (bq+1)),(by first|rfl|(simp;done)|(simp[*];done)),(by first|rfl|(simp;done)|(simp[*];done)),H',⟨by have:=gH.out;omega⟩,by repeat(first|exact aJ.refl _|apply aJ.step)⟩
    ·rw[if_neg c3] at H
     exact absurd H (by simp)
   ·rw[if_neg c2] at H
    have jV:decide (bq<(l0.length:Int))=false:=decide_eq_false c2
    clear c2
    obtain rfl:=Option.some.inj H
    go_wp2
    go_ret
    exact⟨by first|rfl|(simp;done)|(simp[*];done),by repeat(first|exact aJ.refl _|apply aJ.step)⟩
end Go.Proofs.YtilpincgjlclpaaGreat.Pr
end
section
namespace Go.Proofs.YtilpincgjlclpaaGreat.Pr
open Go.RowKit Go.Proofs.ae.au Go.Proofs.ae.aZ Go.Proofs.ae.bE
attribute [local go_sem] bQ min2_int cB min_two max_three min_three max_four min_four
def dR.f (k:Nat) (l0:List (dN)):Option (Bool):=(aQ.f k l0 60).bind fun t105=>(if t105=true then(some true) else((aA.f k l0).bind fun t106=>(some (decide (t106>300)))))
set_option maxHeartbeats 8000000 in
set_option maxRecDepth 100000 in
theorem dR.calls (k:Nat) (A0:Option Addr) (c0:Nat) (l0:List (dN)) (r:Bool) (w:World) (hr0:Kd.C lQ w A0 l0.length l0) (hc0:l0.length<=c0) (h:dR.f k l0=some r):
  Calls Tryz.prog 9 #[.slice A0 l0.length c0] w fun e w'=>e= .returned (.bool r)/\aJ w w':=by
 have gq:=ai.mk hr0
 have lC:=ai.mk hc0
 clear hr0 hc0
 have H:((aQ.f k l0 60).bind fun t105=>(if t105=true then(some true) else((aA.f k l0).bind fun t106=>(some (decide (t106>300))))))=some r:=h
 clear h
 replace H:=Option.bind_eq_some_iff.mp H
 obtain⟨t105,WZ,H⟩:=H
 replace H:(if t105=true then(some true) else((aA.f k l0).bind fun t106=>(some (decide (t106>300)))))=some r:=H
 have A2:=ai.mk WZ
 clear WZ
 by_cases c3:t105=true
 ·subst c3
  have H1:(some true)=some r:=by rw[if_pos rfl] at H;exact H
  clear H
  have H:=H1
  clear H1
  obtain rfl:=Option.some.inj H
  go_enter Tryz.func9,Tryz.ntmps9
  go_wp2_with (first|((with_reducible refine bL (f:=36) rfl ?_);refine eQ (some 4) rfl rfl Tryz.func36 (by kernel_rfl) rfl #[.slice A0 l0.length c0,.int .i64 60] rfl (by(try simp only[List.map_toArray,List.map_cons,List.map_nil]);first|done|rfl|(simp only[List.length_drop,List.length_take];rfl)) ?_;(with_reducible refine(aQ.calls k _ _ l0 60 true _ ?gM ?gW A2.out).mono ?_);(case gM=>repeat(first|exact gq.out|(with_reducible refine Kd.dD ?_ _)|(with_reducible refine Kd.dB ?_ _)|(with_reducible refine Kd.fA ?_)));(case gW=>exact lC.out);rintro e w' ⟨rfl,⟨nd,rfl⟩⟩;refine⟨_,rfl,?_⟩))
  go_ret
  exact⟨by first|rfl|(simp;done)|(simp[*];done),by repeat(first|exact aJ.refl _|apply aJ.step)⟩
 ·replace c3:=Bool.eq_false_iff.mpr c3
  subst c3
  have H1:((aA.f k l0).bind fun t106=>(some (decide (t106>300))))=some r:=by rw[if_neg (show¬(false=true) by decide)] at H;exact H
  clear H
  have H:=H1
  clear H1
  replace H:=Option.bind_eq_some_iff.mp H
  obtain⟨t106,GA,H⟩:=H
  replace H:(some (decide (t106>300)))=some r:=H
  have A4:=ai.mk GA
  clear GA
  obtain rfl:=Option.some.inj H
  go_enter Tryz.func9,Tryz.ntmps9
  go_wp2_with (first|((with_reducible refine bL (f:=36) rfl ?_);refine eQ (some 4) rfl rfl Tryz.func36 (by kernel_rfl) rfl #[.slice A0 l0.length c0,.int .i64 60] rfl (by(try simp only[List.map_toArray,List.map_cons,List.map_nil]);first|done|rfl|(simp only[List.length_drop,List.length_take];rfl)) ?_;(with_reducible refine(aQ.calls k _ _ l0 60 false _ ?gM ?gW A2.out).mono ?_);(case gM=>repeat(first|exact gq.out|(with_reducible refine Kd.dD ?_ _)|(with_reducible refine Kd.dB ?_ _)|(with_reducible refine Kd.fA ?_)));(case gW=>exact lC.out);rintro e w' ⟨rfl,⟨nd,rfl⟩⟩;refine⟨_,rfl,?_⟩)|(go_at_call 27;(with_reducible refine(aA.calls k _ _ l0 t106 _ ?gM ?gW A4.out).mono ?_);(case gM=>repeat(first|exact gq.out|(with_reducible refine Kd.dD ?_ _)|(with_reducible refine Kd.dB ?_ _)|(with_reducible refine Kd.fA ?_)));(case gW=>exact lC.out);rintro e w' ⟨rfl,⟨nd,rfl⟩⟩))
  go_ret
  exact⟨by first|rfl|(simp;done)|(simp[*];done),by repeat(first|exact aJ.refl _|apply aJ.step)⟩
end Go.Proofs.YtilpincgjlclpaaGreat.Pr
end
