/- Plain laws of hex: what the printed functions of gluepotref01 compute, and that Take reads what Put writes. -/
import Derived.Test.YtpnbelgbcmkdnaaHHex
import Derived.Test.YtpnbelgbcmkdnaaSpCk
import Derived.Test.YtpnbelgbcmkdnaaPr14
import Derived.Test.YtpnbelgbcmkdnaaPr16
namespace Go.Proofs.Ytpnbelgbcmkdnaa.Pure
open Go.RowKit Go.Proofs.Ytpnbelgbcmkdnaa.Pr Go.Proofs.YtpnbelgbcmkdnaaW.PrintWords Go.Proofs.YtpnbelgbcmkdnaaW.PrintLast
set_option linter.unusedSimpArgs false

theorem awake01 : gluepotlaw01_awake.f = some true := by
  decide +kernel

/-- The digit as gluepotref01 tells it. -/
theorem ref01_Digit_eq {k : Nat} (hk : 1 ≤ k) (c : Nat) (hc : c < 256) : gluepotref01_Digit.f k (c : Int) = some (match hexVal c with | some d => (d : Int) | none => -1) := by
  obtain ⟨k, rfl⟩ : ∃ m, k = m + 1 := ⟨k - 1, by omega⟩
  unfold gluepotref01_Digit.f hexVal
  by_cases h1 : 48 ≤ c ∧ c ≤ 57
  · rw [if_pos (by omega), if_pos h1]
    simp only [gluepotref01_Digit.j0, show ((c : Int) ≤ 57) = True from eq_true (by omega), decide_true, if_true]
    rw [wrap_id (n := (c : Int)) (by omega) (by omega), wrap_id (by omega) (by omega)]
    congr 1
    omega
  · rw [if_neg h1]
    by_cases h2 : 97 ≤ c ∧ c ≤ 102
    · rw [if_pos (by omega), if_pos h2]
      simp only [gluepotref01_Digit.j0, show ((c : Int) ≤ 57) = False from eq_false (by omega), decide_false, Bool.false_eq_true, if_false]
      rw [if_pos (by omega), if_pos (by omega), wrap_id (n := (c : Int)) (by omega) (by omega), wrap_id (by omega) (by omega)]
      congr 1
      omega
    · rw [if_neg h2]
      by_cases h3 : (c : Int) ≥ 48
      · rw [if_pos h3]
        simp only [gluepotref01_Digit.j0, show ((c : Int) ≤ 57) = False from eq_false (by omega), decide_false, Bool.false_eq_true, if_false]
        by_cases h4 : (c : Int) ≥ 97
        · rw [if_pos h4, if_neg (by omega)]
        · rw [if_neg h4]
      · rw [if_neg h3]
        simp only [gluepotref01_Digit.j0, Bool.false_eq_true, if_false]
        rw [if_neg (by omega)]

/-- The digit as hex tells it. -/
theorem hex_Digit_mono {k : Nat} (hk : 1 ≤ k) {c : Int} {r : Int × Bool} (h : hex_Digit.f 1 c = some r) : hex_Digit.f k c = some r := by
  obtain ⟨k, rfl⟩ : ∃ m, k = m + 1 := ⟨k - 1, by omega⟩
  exact h
theorem hex_Digit_neg {k : Nat} (hk : 1 ≤ k) {c : Int} (h : c < 0) : hex_Digit.f k c = some (0, false) := by
  obtain ⟨k, rfl⟩ : ∃ m, k = m + 1 := ⟨k - 1, by omega⟩
  unfold hex_Digit.f
  rw [if_neg (by omega)]
  simp only [hex_Digit.j0, Bool.false_eq_true, if_false]
  rw [if_neg (by omega)]
theorem hex_Digit_eq {k : Nat} (hk : 1 ≤ k) (c : Nat) : hex_Digit.f k (c : Int) = some (match hexVal c with | some d => ((d : Int), true) | none => (0, false)) := by
  apply hex_Digit_mono hk
  cases h : hexVal c with
  | none => exact digit_none h
  | some d => exact digit_some h

end Go.Proofs.Ytpnbelgbcmkdnaa.Pure
