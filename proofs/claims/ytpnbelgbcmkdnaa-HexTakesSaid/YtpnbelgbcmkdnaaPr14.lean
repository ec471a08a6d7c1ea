-- Written by wip/pr.py (over the print of the kit) out of the translation.
import Derived.Test.YtpnbelgbcmkdnaaPr0
import Derived.Test.YtpnbelgbcmkdnaaHHex
namespace Go.Proofs.Ytpnbelgbcmkdnaa.Pr
open Go.RowKit Go.Proofs.YtpnbelgbcmkdnaaW.PrintWords Go.Proofs.YtpnbelgbcmkdnaaW.PrintLast Go.Proofs.YtpnbelgbcmkdnaaW.PrintMore
attribute [local go_sem] max2_int min2_int max_two min_two max_three min_three max_four min_four   -- for this text's walks alone
set_option linter.unusedVariables false
set_option linter.unusedSimpArgs false

/-! ### gluepotlaw01_awake: function 14 -/
def gluepotlaw01_awake.f  : Option (Bool) := (hex_Put.f (⟨#[97, 47, 255]⟩ : ByteArray)).bind fun t120 => (some (t120.toList == ([54, 49, 50, 102, 102, 102] : List UInt8)))
set_option maxHeartbeats 8000000 in
set_option maxRecDepth 100000 in
theorem gluepotlaw01_awake.calls  (r : Bool) (w : World) (h : gluepotlaw01_awake.f  = some r) :
    Calls Try.prog 14 #[] w fun e w' => e = .returned (.bool r) ∧ Below w.heap.size w w' := by
  have HB := Aside0.mk (Below.refl w.heap.size w)
  have H : ((hex_Put.f (⟨#[97, 47, 255]⟩ : ByteArray)).bind fun t120 => (some (t120.toList == ([54, 49, 50, 102, 102, 102] : List UInt8)))) = some r := h
  clear h
  replace H := Option.bind_eq_some_iff.mp H
  obtain ⟨t120, A10, H⟩ := H
  replace H : (some (t120.toList == ([54, 49, 50, 102, 102, 102] : List UInt8))) = some r := H
  have A1 := Aside0.mk A10
  clear A10
  obtain rfl := Option.some.inj H
  go_enter Try.func14, Try.ntmps14
  go_wp2_with (first | ((with_reducible refine gate_callee (f := 18) rfl ?_); refine goesL_ (some 1) rfl rfl Try.func18 (by kernel_rfl) rfl #[.string (⟨#[97, 47, 255]⟩ : ByteArray)] rfl (by (try simp only [List.map_toArray, List.map_cons, List.map_nil]); first | done | rfl | (simp only [List.length_drop, List.length_take]; rfl)) ?_; (with_reducible refine (hex_Put.calls (⟨#[97, 47, 255]⟩ : ByteArray) t120 _ A1.out).mono ?_); rintro e w2 ⟨rfl, hb⟩; refine ⟨_, rfl, ?_⟩; have n0_ := Aside0.mk (below_step (by repeat (first | (with_reducible first | exact HB.out | apply below_alloc | apply pw_below_drewN | apply below_drew1) | exact HB.out)) hb); clear HB; have HB := n0_; clear n0_; (try clear hb); (try clear hb2); (try clear hk); (try clear hi)))
  go_ret
  exact ⟨by first | rfl | (simp [errW_none, errW_some] <;> rfl) | (simp [*, errW_none, errW_some] <;> rfl), by repeat (first | (with_reducible first | exact HB.out | apply below_alloc | apply pw_below_drewN | apply below_drew1) | exact HB.out)⟩

end Go.Proofs.Ytpnbelgbcmkdnaa.Pr
