/- HCk, HMul, HClone in one text (wip/mtext.py). -/
import Derived.Test.YtbfjlfbahjmibaaPr0
import Derived.Test.YtbfjlfbahjmibaaShelf
namespace Go.Proofs.Ytbfjlfbahjmibaa.Pr
open Go.RowKit Go.Proofs.YtbfjlfbahjmibaaW.PrintWords Go.Proofs.YtbfjlfbahjmibaaW.PrintLast Go.Proofs.YtbfjlfbahjmibaaW.PrintMore

def gluepotref06_Mul.f (a0 a1 : Int) : Option (Int × Bool) :=
  if a0 < 0 then some (0, false)
  else if a1 < 0 then some (0, false)
  else if 0 < a1 ∧ 9223372036854775807 / a1 < a0 then some (0, false)
  else some (wrap64 (a0 * a1), true)

theorem gluepotref06_Mul.calls (a0 : Int) (a1 : Int) (r1 : Int) (r2 : Bool) (w : World) (h : gluepotref06_Mul.f a0 a1 = some (r1, r2)) :
    Calls Try.prog 47 #[.int .i64 a0, .int .i64 a1] w fun e w' => e = .returned (.tuple #[.int .i64 r1, .bool r2]) ∧ Drawn0 w w' := by
  unfold gluepotref06_Mul.f at h
  by_cases c1 : a0 < 0
  · rw [if_pos c1] at h
    cases h
    have d1 : decide (a0 < 0) = true := decide_eq_true c1
    go_enter Try.func47, Try.ntmps47
    go_wp2
    go_ret2
    exact ⟨rfl, Drawn0.refl _⟩
  rw [if_neg c1] at h
  have d1 : decide (a0 < 0) = false := decide_eq_false c1
  by_cases c2 : a1 < 0
  · rw [if_pos c2] at h
    cases h
    have d2 : decide (a1 < 0) = true := decide_eq_true c2
    go_enter Try.func47, Try.ntmps47
    go_wp2
    go_ret2
    exact ⟨rfl, Drawn0.refl _⟩
  rw [if_neg c2] at h
  have d2 : decide (a1 < 0) = false := decide_eq_false c2
  by_cases c3 : 0 < a1
  · have hq : (9223372036854775807 : Int) / a1 ≤ 9223372036854775807 := Int.ediv_le_self _ (by omega)
    have hq0 : 0 ≤ (9223372036854775807 : Int) / a1 := Int.ediv_nonneg (by omega) (by omega)
    by_cases c4 : 9223372036854775807 / a1 < a0
    · rw [if_pos ⟨c3, c4⟩] at h
      cases h
      go_enter Try.func47, Try.ntmps47
      go_wp2
      go_ret2
      exact ⟨rfl, Drawn0.refl _⟩
    · rw [if_neg (fun z => c4 z.2)] at h
      cases h
      have d4 : decide (9223372036854775807 / a1 < a0) = false := decide_eq_false c4
      go_enter Try.func47, Try.ntmps47
      go_wp2
      go_ret2
      exact ⟨rfl, Drawn0.refl _⟩
  · rw [if_neg (fun z => c3 z.1)] at h
    cases h
    have d3 : decide (0 < a1) = false := decide_eq_false c3
    go_enter Try.func47, Try.ntmps47
    go_wp2
    go_ret2
    exact ⟨rfl, Drawn0.refl _⟩

end Go.Proofs.Ytbfjlfbahjmibaa.Pr

namespace Go.Proofs.Ytbfjlfbahjmibaa.Pr
open Go.RowKit Go.Proofs.YtbfjlfbahjmibaaW.PrintWords Go.Proofs.YtbfjlfbahjmibaaW.PrintLast Go.Proofs.YtbfjlfbahjmibaaW.PrintMore

def bits_Mul64.f (a0 a1 : Int) : Option (Int × Int) :=
  if 0 ≤ a0 ∧ a0 < 18446744073709551616 ∧ 0 ≤ a1 ∧ a1 < 18446744073709551616 then some (a0 * a1 / 18446744073709551616, a0 * a1 % 18446744073709551616) else none

theorem bits_Mul64.calls (a0 : Int) (a1 : Int) (r1 : Int) (r2 : Int) (w : World) (h : bits_Mul64.f a0 a1 = some (r1, r2)) :
    Calls Try.prog 54 #[.int .u64 a0, .int .u64 a1] w fun e w' => e = .returned (.tuple #[.int .u64 r1, .int .u64 r2]) ∧ Drawn0 w w' := by
  unfold bits_Mul64.f at h
  split at h
  · rename_i hc
    obtain ⟨h0, h1, h2, h3⟩ := hc
    cases h
    obtain ⟨m, rfl⟩ := Int.eq_ofNat_of_zero_le h0
    obtain ⟨n, rfl⟩ := Int.eq_ofNat_of_zero_le h2
    refine (Try.bits_Mul64 m n (by omega) (by omega) w).mono ?_
    rintro e w' ⟨rfl, rfl⟩
    refine ⟨?_, Drawn0.refl _⟩
    have e1 : (((m * n / 18446744073709551616 : Nat) : Int)) = (m : Int) * n / 18446744073709551616 := by simp
    have e2 : (((m * n % 18446744073709551616 : Nat) : Int)) = (m : Int) * n % 18446744073709551616 := by simp
    rw [e1, e2]
  · cases h

end Go.Proofs.Ytbfjlfbahjmibaa.Pr

namespace Go.Proofs.Ytbfjlfbahjmibaa.Pr
open Go.RowKit
def stringslite_Clone.f (a0 : ByteArray) : Option ByteArray := if a0.size ≤ 1000000 then some a0 else none
theorem stringslite_Clone.calls (a0 : ByteArray) (r : ByteArray) (w : World) (h : stringslite_Clone.f a0 = some r) :
    Calls Try.prog 49 #[.string a0] w fun e w' => e = .returned (.string r) ∧ Below w.heap.size w w' := by
  unfold stringslite_Clone.f at h
  by_cases hs : a0.size ≤ 1000000
  · rw [if_pos hs] at h
    cases h
    exact Try.stringslite_Clone a0 w (by omega)
  · rw [if_neg hs] at h
    cases h
end Go.Proofs.Ytbfjlfbahjmibaa.Pr
