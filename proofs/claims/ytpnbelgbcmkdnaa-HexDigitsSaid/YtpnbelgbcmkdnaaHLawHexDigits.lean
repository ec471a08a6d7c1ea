/- The law HexDigits, walked: at every rune it returns true. -/
import Derived.Test.YtpnbelgbcmkdnaaSpHex
import Derived.Test.YtpnbelgbcmkdnaaPr16
namespace Go.Proofs.Ytpnbelgbcmkdnaa.Pr
open Go.RowKit Go.Proofs.YtpnbelgbcmkdnaaW.PrintWords Go.Proofs.YtpnbelgbcmkdnaaW.PrintLast Go.Proofs.YtpnbelgbcmkdnaaW.PrintMore
set_option linter.unusedVariables false
set_option linter.unusedSimpArgs false

def gluepotlaw01_HexDigits.f (_ : Int) : Option Bool := some true

set_option maxHeartbeats 2000000 in
set_option maxRecDepth 100000 in
theorem gluepotlaw01_HexDigits.calls (a0 : Int) (r : Bool) (w : World) (h : gluepotlaw01_HexDigits.f a0 = some r) :
    Calls Try.prog 4 #[.int .i32 a0] w fun e w' => e = .returned (.bool r) ∧ Below w.heap.size w w' := by
  obtain rfl := Option.some.inj h
  clear h
  by_cases h0 : a0 < 0
  · have h1 : decide (0 ≤ a0) = false := decide_eq_false (by omega)
    have HD := Lib.hid (Pure.hex_Digit_neg (Nat.le_refl 1) h0)
    go_enter Try.func4, Try.ntmps4
    go_wp2_with fail
    refine (gluepotlaw01_awake.calls true _ Pure.awake01).mono ?_
    rintro e w1 ⟨rfl, hb1⟩
    have HB := Lib.hid hb1
    clear hb1
    go_wp2_with fail
    refine (hex_Digit.calls 1 _ 0 false _ HD.out).mono ?_
    rintro e w2 ⟨rfl, ⟨q, rfl⟩⟩
    go_wp2
    go_ret
    exact ⟨rfl, HB.out.trans (pw_below_drewN (Below.refl _ _) q)⟩
  · obtain ⟨c, rfl⟩ := Int.eq_ofNat_of_zero_le (show 0 ≤ a0 by omega)
    have HD := Lib.hid (Pure.hex_Digit_eq (Nat.le_refl 1) c)
    cases hv : hexVal c with
    | none =>
      rw [hv] at HD
      by_cases hc : c < 128
      · have HR := Lib.hid (Pure.ref01_Digit_eq (Nat.le_refl 1) c (by omega))
        rw [hv] at HR
        clear hv
        go_enter Try.func4, Try.ntmps4
        go_wp2_with fail
        refine (gluepotlaw01_awake.calls true _ Pure.awake01).mono ?_
        rintro e w1 ⟨rfl, hb1⟩
        have HB := Lib.hid hb1
        clear hb1
        go_wp2_with fail
        refine (hex_Digit.calls 1 _ 0 false _ HD.out).mono ?_
        rintro e w2 ⟨rfl, ⟨q, rfl⟩⟩
        go_wp2_with fail
        refine (gluepotref01_Digit.calls 1 _ (-1) _ HR.out).mono ?_
        rintro e w3 ⟨rfl, ⟨q2, rfl⟩⟩
        go_wp2
        go_ret
        exact ⟨rfl, HB.out.trans (pw_below_drewN (Below.refl _ _) _)⟩
      · clear hv
        go_enter Try.func4, Try.ntmps4
        go_wp2_with fail
        refine (gluepotlaw01_awake.calls true _ Pure.awake01).mono ?_
        rintro e w1 ⟨rfl, hb1⟩
        have HB := Lib.hid hb1
        clear hb1
        go_wp2_with fail
        refine (hex_Digit.calls 1 _ 0 false _ HD.out).mono ?_
        rintro e w2 ⟨rfl, ⟨q, rfl⟩⟩
        go_wp2
        go_ret
        exact ⟨rfl, HB.out.trans (pw_below_drewN (Below.refl _ _) _)⟩
    | some d =>
      rw [hv] at HD
      have hc := hexVal_lt128 hv
      have hd := hexVal_lt hv
      have HR := Lib.hid (Pure.ref01_Digit_eq (Nat.le_refl 1) c (by omega))
      rw [hv] at HR
      clear hv
      go_enter Try.func4, Try.ntmps4
      go_wp2_with fail
      refine (gluepotlaw01_awake.calls true _ Pure.awake01).mono ?_
      rintro e w1 ⟨rfl, hb1⟩
      have HB := Lib.hid hb1
      clear hb1
      go_wp2_with fail
      refine (hex_Digit.calls 1 _ d true _ HD.out).mono ?_
      rintro e w2 ⟨rfl, ⟨q, rfl⟩⟩
      go_wp2_with fail
      refine (gluepotref01_Digit.calls 1 _ d _ HR.out).mono ?_
      rintro e w3 ⟨rfl, ⟨q2, rfl⟩⟩
      go_wp2
      go_ret
      exact ⟨rfl, HB.out.trans (pw_below_drewN (Below.refl _ _) _)⟩
end Go.Proofs.Ytpnbelgbcmkdnaa.Pr
