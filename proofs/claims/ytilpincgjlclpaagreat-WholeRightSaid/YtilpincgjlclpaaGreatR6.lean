import Derived.Test.YtilpincgjlclpaaGreatR3
import Derived.Test.YtilpincgjlclpaaGreatR4
set_option linter.unusedVariables false
set_option linter.unusedSimpArgs false
namespace Go.Proofs.YtilpincgjlclpaaGreat.Pr
open Go.RowKit Go.Proofs.ae.au Go.Proofs.ae.aZ Go.Proofs.ae.bE
attribute [local go_sem] bQ min2_int cB min_two max_three min_three max_four min_four
def dR.f (k:Nat) (l0:List (dN)):Option (Bool):=(aQ.f k l0 60).bind fun t105=>(if t105=true then(some true) else((aA.f k l0).bind fun t106=>(some (decide (t106>300)))))
set_option maxHeartbeats 8000000 in
set_option maxRecDepth 100000 in
theorem dR.calls (k:Nat) (A0:Option Addr) (c0:Nat) (l0:List (dN)) (r:Bool) (w:World) (hr0:Kd.C lQ w A0 l0.length l0) (hc0:l0.length<=c0) (h:dR.f k l0=some r):
  Calls Tryz.prog 9 #[.slice A0 l0.length c0] w fun e w'=>e= .returned (.bool r)/\aJ w w':=by
 have gq:=ai.mk hr0
 have lC:=ai.mk hc0
 clear hr0 hc0
 have H:((aQ.f k l0 60).bind fun t105=>(if t105=true then(some true) else((aA.f k l0).bind fun t106=>(some (decide (t106>300))))))=some r:=h
 clear h
 replace H:=Option.bind_eq_some_iff.mp H
 obtain⟨t105,WZ,H⟩:=H
 replace H:(if t105=true then(some true) else((aA.f k l0).bind fun t106=>(some (decide (t106>300)))))=some r:=H
 have A2:=ai.mk WZ
 clear WZ
 by_cases c3:t105=true
 ·subst c3
  have H1:(some true)=some r:=by rw[if_pos rfl] at H;exact H
  clear H
  have H:=H1
  clear H1
  obtain rfl:=Option.some.inj H
  go_enter Tryz.func9,Tryz.ntmps9
  go_wp2_with (first|((with_reducible refine bL (f:=36) rfl ?_);refine eQ (some 4) rfl rfl Tryz.func36 (by kernel_rfl) rfl #[.slice A0 l0.length c0,.int .i64 60] rfl (by(try simp only[List.map_toArray,List.map_cons,List.map_nil]);first|done|rfl|(simp only[List.length_drop,List.length_take];rfl)) ?_;(with_reducible refine(aQ.calls k _ _ l0 60 true _ ?gM ?gW A2.out).mono ?_);(case gM=>repeat(first|exact gq.out|(with_reducible refine Kd.dD ?_ _)|(with_reducible refine Kd.dB ?_ _)|(with_reducible refine Kd.fA ?_)));(case gW=>exact lC.out);rintro e w' ⟨rfl,⟨nd,rfl⟩⟩;refine⟨_,rfl,?_⟩))
  go_ret
  exact⟨by first|rfl|(simp;done)|(simp[*];done),by repeat(first|exact aJ.refl _|apply aJ.step)⟩
 ·replace c3:=Bool.eq_false_iff.mpr c3
  subst c3
  have H1:((aA.f k l0).bind fun t106=>(some (decide (t106>300))))=some r:=by rw[if_neg (show¬(false=true) by decide)] at H;exact H
  clear H
  have H:=H1
  clear H1
  replace H:=Option.bind_eq_some_iff.mp H
  obtain⟨t106,GA,H⟩:=H
  replace H:(some (decide (t106>300)))=some r:=H
  have A4:=ai.mk GA
  clear GA
  obtain rfl:=Option.some.inj H
  go_enter Tryz.func9,Tryz.ntmps9
  go_wp2_with (first|((with_reducible refine bL (f:=36) rfl ?_);refine eQ (some 4) rfl rfl Tryz.func36 (by kernel_rfl) rfl #[.slice A0 l0.length c0,.int .i64 60] rfl (by(try simp only[List.map_toArray,List.map_cons,List.map_nil]);first|done|rfl|(simp only[List.length_drop,List.length_take];rfl)) ?_;(with_reducible refine(aQ.calls k _ _ l0 60 false _ ?gM ?gW A2.out).mono ?_);(case gM=>repeat(first|exact gq.out|(with_reducible refine Kd.dD ?_ _)|(with_reducible refine Kd.dB ?_ _)|(with_reducible refine Kd.fA ?_)));(case gW=>exact lC.out);rintro e w' ⟨rfl,⟨nd,rfl⟩⟩;refine⟨_,rfl,?_⟩)|(go_at_call 27;(with_reducible refine(aA.calls k _ _ l0 t106 _ ?gM ?gW A4.out).mono ?_);(case gM=>repeat(first|exact gq.out|(with_reducible refine Kd.dD ?_ _)|(with_reducible refine Kd.dB ?_ _)|(with_reducible refine Kd.fA ?_)));(case gW=>exact lC.out);rintro e w' ⟨rfl,⟨nd,rfl⟩⟩))
  go_ret
  exact⟨by first|rfl|(simp;done)|(simp[*];done),by repeat(first|exact aJ.refl _|apply aJ.step)⟩
end Go.Proofs.YtilpincgjlclpaaGreat.Pr
