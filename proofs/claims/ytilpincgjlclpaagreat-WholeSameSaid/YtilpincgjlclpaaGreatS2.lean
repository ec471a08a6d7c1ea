import Derived.Test.YtilpincgjlclpaaGreatS1
set_option linter.unusedVariables false
set_option linter.unusedSimpArgs false
namespace Go.Proofs.YtilpincgjlclpaaGreat.Pr
open Go.RowKit Go.Proofs.ae.au Go.Proofs.ae.aZ Go.Proofs.ae.bE
attribute [local go_sem] bQ min2_int cB min_two max_three min_three max_four min_four
def jJ.f (a0:Int):Option (Bool):=if a0=9 then(some true) else(if a0=10 then(some true) else(if a0=13 then(some true) else(some (a0==32))))
set_option maxHeartbeats 8000000 in
set_option maxRecDepth 100000 in
theorem jJ.calls (a0:Int) (r:Bool) (w:World) (h:jJ.f a0=some r):
  Calls Tryz.prog 56 #[.int .u8 a0] w fun e w'=>e= .returned (.bool r)/\aJ w w':=by
 have H:(if a0=9 then(some true) else(if a0=10 then(some true) else(if a0=13 then(some true) else(some (a0==32)))))=some r:=h
 clear h
 by_cases c2:a0=9
 ·rw[if_pos c2] at H
  have jV:(a0==9)=true:=beq_iff_eq.mpr c2
  have c2b1:(a0 != 9)=false:=bne_eq_false_iff_eq.mpr c2
  clear c2
  obtain rfl:=Option.some.inj H
  go_enter Tryz.func56,Tryz.ntmps56
  go_wp2
  go_ret
  exact⟨by first|rfl|(simp;done)|(simp[*];done),by repeat(first|exact aJ.refl _|apply aJ.step)⟩
 ·rw[if_neg c2] at H
  have jV:(a0==9)=false:=beq_eq_false_iff_ne.mpr c2
  have c2b1:(a0 != 9)=true:=bne_iff_ne.mpr c2
  by_cases c3:a0=10
  ·rw[if_pos c3] at H
   have iY:(a0==10)=true:=beq_iff_eq.mpr c3
   have qp:(a0 != 10)=false:=bne_eq_false_iff_eq.mpr c3
   clear c3
   obtain rfl:=Option.some.inj H
   go_enter Tryz.func56,Tryz.ntmps56
   go_wp2
   go_ret
   exact⟨by first|rfl|(simp;done)|(simp[*];done),by repeat(first|exact aJ.refl _|apply aJ.step)⟩
  ·rw[if_neg c3] at H
   have iY:(a0==10)=false:=beq_eq_false_iff_ne.mpr c3
   have qp:(a0 != 10)=true:=bne_iff_ne.mpr c3
   by_cases c4:a0=13
   ·rw[if_pos c4] at H
    have iw:(a0==13)=true:=beq_iff_eq.mpr c4
    have ve:(a0 != 13)=false:=bne_eq_false_iff_eq.mpr c4
    clear c4
    obtain rfl:=Option.some.inj H
    go_enter Tryz.func56,Tryz.ntmps56
    go_wp2
    go_ret
    exact⟨by first|rfl|(simp;done)|(simp[*];done),by repeat(first|exact aJ.refl _|apply aJ.step)⟩
   ·rw[if_neg c4] at H
    have iw:(a0==13)=false:=beq_eq_false_iff_ne.mpr c4
    have ve:(a0 != 13)=true:=bne_iff_ne.mpr c4
    obtain rfl:=Option.some.inj H
    go_enter Tryz.func56,Tryz.ntmps56
    go_wp2
    go_ret
    exact⟨by first|rfl|(simp;done)|(simp[*];done),by repeat(first|exact aJ.refl _|apply aJ.step)⟩
end Go.Proofs.YtilpincgjlclpaaGreat.Pr
