/- Plain laws of the checked sums: what the functions of checked and gluepotref06 compute, without any program. -/
import Derived.Test.YtpnbelgbcmkdnaaPr26
import Derived.Test.YtpnbelgbcmkdnaaPr25
import Derived.Test.YtpnbelgbcmkdnaaPr6
import Derived.Test.YtpnbelgbcmkdnaaPr4
import Derived.Test.YtpnbelgbcmkdnaaHCk
import Derived.Test.YtpnbelgbcmkdnaaHMul
namespace Go.Proofs.Ytpnbelgbcmkdnaa.Pure
open Go.RowKit Go.Proofs.Ytpnbelgbcmkdnaa.Pr Go.Proofs.YtpnbelgbcmkdnaaW.PrintWords Go.Proofs.YtpnbelgbcmkdnaaW.PrintLast
set_option linter.unusedSimpArgs false
set_option linter.unusedVariables false

theorem wf_i64 {n : Int} (h : (Lit.int .i64 n).wf = true) : -9223372036854775808 ≤ n ∧ n ≤ 9223372036854775807 := by
  simpa [Lit.wf, IntKind.min, IntKind.max, IntKind.signed, IntKind.bits] using h
theorem wrap_id {n : Int} (h : -9223372036854775808 ≤ n) (h' : n ≤ 9223372036854775807) : wrap64 n = n := by unfold wrap64; omega

/-- The sum of two, if they and it are within. -/
def addv (a b : Int) : Int × Bool := if 0 ≤ a ∧ 0 ≤ b ∧ a + b ≤ 9223372036854775807 then (a + b, true) else (0, false)
def mulv (a b : Int) : Int × Bool := if 0 ≤ a ∧ 0 ≤ b ∧ a * b ≤ 9223372036854775807 then (a * b, true) else (0, false)

theorem checked_Add_eq {a b : Int} (ha : -9223372036854775808 ≤ a ∧ a ≤ 9223372036854775807) (hb : -9223372036854775808 ≤ b ∧ b ≤ 9223372036854775807) : checked_Add.f a b = some (addv a b) := by
  unfold checked_Add.f checked_within.f addv
  simp only [Option.bind_some, decide_eq_true_eq]
  by_cases h1 : 0 ≤ a
  · by_cases h2 : 0 ≤ b
    · rw [if_pos h1, if_pos h2, wrap_id (n := 9223372036854775807 - b) (by omega) (by omega)]
      by_cases h3 : a + b ≤ 9223372036854775807
      · rw [if_neg (by omega), wrap_id (by omega) (by omega), if_pos ⟨h1, h2, h3⟩]
      · rw [if_pos (by omega), if_neg (by omega)]
    · rw [if_pos h1, if_neg h2, if_neg (by omega)]
  · rw [if_neg h1, if_neg (by omega)]

theorem ref06_Add_eq {a b : Int} (ha : -9223372036854775808 ≤ a ∧ a ≤ 9223372036854775807) (hb : -9223372036854775808 ≤ b ∧ b ≤ 9223372036854775807) : gluepotref06_Add.f a b = some (addv a b) := by
  unfold gluepotref06_Add.f addv
  by_cases h1 : a < 0
  · rw [if_pos h1, if_neg (by omega)]
  · by_cases h2 : b < 0
    · rw [if_neg h1, if_pos h2, if_neg (by omega)]
    · rw [if_neg h1, if_neg h2]
      by_cases h3 : a + b ≤ 9223372036854775807
      · rw [wrap_id (by omega) (by omega), if_neg (by omega), if_pos ⟨by omega, by omega, h3⟩]
      · rw [if_pos (by unfold wrap64; omega), if_neg (by omega)]

theorem u64_wrap {n : Int} (h0 : 0 ≤ n) (h1 : n ≤ 9223372036854775807) : IntKind.u64.wrap n = n := by
  simp [IntKind.wrap, IntKind.bits, IntKind.signed]
  omega

theorem mul_bound {a b : Int} (ha : 0 ≤ a ∧ a ≤ 9223372036854775807) (hb : 0 ≤ b ∧ b ≤ 9223372036854775807) : 0 ≤ a * b ∧ a * b ≤ 9223372036854775807 * 9223372036854775807 :=
  ⟨Int.mul_nonneg ha.1 hb.1, Int.mul_le_mul ha.2 hb.2 hb.1 (by omega)⟩

theorem checked_Mul_eq {k : Nat} (hk : 1 ≤ k) {a b : Int} (ha : -9223372036854775808 ≤ a ∧ a ≤ 9223372036854775807) (hb : -9223372036854775808 ≤ b ∧ b ≤ 9223372036854775807) : checked_Mul.f k a b = some (mulv a b) := by
  obtain ⟨k, rfl⟩ : ∃ m, k = m + 1 := ⟨k - 1, by omega⟩
  unfold checked_Mul.f checked_within.f mulv
  simp only [Option.bind_some, decide_eq_true_eq]
  by_cases h1 : 0 ≤ a
  · rw [if_pos h1]
    by_cases h2 : 0 ≤ b
    · have hm := mul_bound ⟨h1, ha.2⟩ ⟨h2, hb.2⟩
      simp only [checked_Mul.j0, h2, ge_iff_le, decide_true, Bool.not_true, Bool.false_eq_true, if_false, true_and, h1]
      rw [u64_wrap h1 ha.2, u64_wrap h2 hb.2]
      unfold bits_Mul64.f
      rw [if_pos (by omega)]
      simp only [Option.bind_some]
      by_cases h3 : a * b ≤ 9223372036854775807
      · rw [if_pos (by omega), if_neg (by omega), if_pos h3, wrap_id (by omega) (by omega)]
        congr 2
        omega
      · rw [if_neg h3]
        by_cases h4 : a * b / 18446744073709551616 = 0
        · rw [if_pos h4, if_pos (by omega)]
        · rw [if_neg h4]
    · simp only [checked_Mul.j0, h2, ge_iff_le, decide_false, Bool.not_false, if_true, false_and, and_false, if_false]
  · rw [if_neg h1, if_neg (by omega)]
    simp only [checked_Mul.j0, if_true]

theorem ref06_Mul_eq {a b : Int} (ha : -9223372036854775808 ≤ a ∧ a ≤ 9223372036854775807) (hb : -9223372036854775808 ≤ b ∧ b ≤ 9223372036854775807) : gluepotref06_Mul.f a b = some (mulv a b) := by
  unfold gluepotref06_Mul.f mulv
  by_cases h1 : a < 0
  · rw [if_pos h1, if_neg (by omega)]
  · rw [if_neg h1]
    by_cases h2 : b < 0
    · rw [if_pos h2, if_neg (by omega)]
    · rw [if_neg h2]
      by_cases h3 : a * b ≤ 9223372036854775807
      · have hn : ¬ (0 < b ∧ 9223372036854775807 / b < a) := by
          rintro ⟨hb0, hq⟩
          have := (Int.ediv_lt_iff_lt_mul hb0).1 hq
          omega
        rw [if_neg hn, if_pos ⟨by omega, by omega, h3⟩, wrap_id _ h3]
        have := Int.mul_nonneg (a := a) (b := b) (by omega) (by omega)
        omega
      · have hb0 : 0 < b := by
          rcases Int.lt_or_eq_of_le (show 0 ≤ b by omega) with h | h
          · exact h
          · rw [← h] at h3
            simp at h3
        have hq : 9223372036854775807 / b < a := by
          rw [Int.ediv_lt_iff_lt_mul hb0]
          omega
        rw [if_pos ⟨hb0, hq⟩, if_neg (by omega)]

theorem addv_range {a b : Int} : -9223372036854775808 ≤ (addv a b).1 ∧ (addv a b).1 ≤ 9223372036854775807 := by
  unfold addv
  split
  · simp only; omega
  · simp only; omega
theorem mulv_range {a b : Int} : 0 ≤ (mulv a b).1 ∧ (mulv a b).1 ≤ 9223372036854775807 := by
  unfold mulv
  split
  · rename_i h
    exact ⟨Int.mul_nonneg h.1 h.2.1, h.2.2⟩
  · simp only; omega

end Go.Proofs.Ytpnbelgbcmkdnaa.Pure
