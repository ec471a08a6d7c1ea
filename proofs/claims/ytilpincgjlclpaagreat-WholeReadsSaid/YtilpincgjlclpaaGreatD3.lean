import Derived.Lib.Strings
import Derived.Test.YtilpincgjlclpaaGreatB10
import Derived.Test.YtilpincgjlclpaaGreatD2
set_option linter.unusedVariables false
set_option linter.unusedSimpArgs false
section
namespace Go.Proofs.YtilpincgjlclpaaGreat.Pr
open Go.RowKit Go.Proofs.ae.au Go.Proofs.ae.aZ Go.Proofs.ae.bE
attribute [local go_sem] bQ min2_int cB min_two max_three min_three max_four min_four
set_option maxHeartbeats 8000000 in
set_option maxRecDepth 100000 in
theorem cK.calls (a0:Int) (a1:Int) (r1:Int) (r2:Bool) (w:World) (h:cK.f a0 a1=some (r1,r2)):
  Calls Tryz.prog 97 #[.int .i64 a0,.int .i64 a1] w fun e w'=>e= .returned (.tuple #[.int .i64 r1,.bool r2])/\aJ w w':=by
 have H:(if a0<0 then(some (0,false)) else(if a1<0 then(some (0,false)) else(if(wrap64 (a0+a1))<0 then(some (0,false)) else(some (wrap64 (a0+a1),true)))))=some (r1,r2):=h
 clear h
 by_cases c3:a0<0
 ·rw[if_pos c3] at H
  have iY:decide (a0<0)=true:=decide_eq_true c3
  clear c3
  simp only[Option.some.injEq,Prod.mk.injEq] at H
  obtain⟨rfl,rfl⟩:=H
  go_enter Tryz.func97,Tryz.ntmps97
  go_wp2
  go_ret2
  exact⟨by first|rfl|(simp;done)|(simp[*];done),by repeat(first|exact aJ.refl _|apply aJ.step)⟩
 ·rw[if_neg c3] at H
  have iY:decide (a0<0)=false:=decide_eq_false c3
  clear c3
  by_cases c4:a1<0
  ·rw[if_pos c4] at H
   have iw:decide (a1<0)=true:=decide_eq_true c4
   clear c4
   simp only[Option.some.injEq,Prod.mk.injEq] at H
   obtain⟨rfl,rfl⟩:=H
   go_enter Tryz.func97,Tryz.ntmps97
   go_wp2
   go_ret2
   exact⟨by first|rfl|(simp;done)|(simp[*];done),by repeat(first|exact aJ.refl _|apply aJ.step)⟩
  ·rw[if_neg c4] at H
   have iw:decide (a1<0)=false:=decide_eq_false c4
   clear c4
   by_cases c5:(wrap64 (a0+a1))<0
   ·rw[if_pos c5] at H
    have iC:decide ((wrap64 (a0+a1))<0)=true:=decide_eq_true c5
    clear c5
    simp only[Option.some.injEq,Prod.mk.injEq] at H
    obtain⟨rfl,rfl⟩:=H
    go_enter Tryz.func97,Tryz.ntmps97
    go_wp2
    go_ret2
    exact⟨by first|rfl|(simp;done)|(simp[*];done),by repeat(first|exact aJ.refl _|apply aJ.step)⟩
   ·rw[if_neg c5] at H
    have iC:decide ((wrap64 (a0+a1))<0)=false:=decide_eq_false c5
    clear c5
    simp only[Option.some.injEq,Prod.mk.injEq] at H
    obtain⟨rfl,rfl⟩:=H
    go_enter Tryz.func97,Tryz.ntmps97
    go_wp2
    go_ret2
    exact⟨by first|rfl|(simp;done)|(simp[*];done),by repeat(first|exact aJ.refl _|apply aJ.step)⟩
end Go.Proofs.YtilpincgjlclpaaGreat.Pr
end
section
namespace Go.Proofs.YtilpincgjlclpaaGreat.Pure
open Go.RowKit Go.Proofs.ae.au
theorem pF (s:ByteArray):s.data.toList.length=s.size:=by simp only[Array.length_toList];rfl
theorem Vb {a b:ByteArray} (h:a.data.toList=b.data.toList):a=b:=by
 apply ByteArray.ext
 exact Array.ext' h
theorem sF (s:ByteArray) (a b:Nat):(s.extract a b).data.toList=(s.data.toList.drop a).take (b-a):=Lib.extract_data s a b
theorem bt_list (s:ByteArray) (i:Nat) (h:i<s.size):bt s (i:Int)=((s.data.toList.getD i 0).toNat:Int):=by
 unfold bt
 rw[Int.toNat_natCast,dif_pos h]
 congr 2
 rw[List.getD_eq_getElem?_getD,List.getElem?_eq_getElem (by simpa using h)]
 rfl
end Go.Proofs.YtilpincgjlclpaaGreat.Pure
end
