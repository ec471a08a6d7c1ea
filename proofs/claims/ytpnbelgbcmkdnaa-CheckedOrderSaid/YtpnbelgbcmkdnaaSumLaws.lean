/- Plain laws of the sum of a list, checked. -/
import Derived.Test.YtpnbelgbcmkdnaaSpCk
import Derived.Test.YtpnbelgbcmkdnaaPr18
namespace Go.Proofs.Ytpnbelgbcmkdnaa.Pure
open Go.RowKit Go.Proofs.Ytpnbelgbcmkdnaa.Pr Go.Proofs.YtpnbelgbcmkdnaaW.PrintWords Go.Proofs.YtpnbelgbcmkdnaaW.PrintLast
set_option linter.unusedSimpArgs false

def InR (x : Int) : Prop := -9223372036854775808 ≤ x ∧ x ≤ 9223372036854775807
theorem addv_in {a b : Int} : InR (addv a b).1 := addv_range
theorem mulv_in {a b : Int} : InR (mulv a b).1 := ⟨by have := (mulv_range (a := a) (b := b)).1; omega, mulv_range.2⟩

def sumGo : Int → List Int → Int × Bool
  | acc, [] => (acc, true)
  | acc, x :: r => if (addv acc x).2 = true then sumGo (addv acc x).1 r else (0, false)
theorem rd_nat (l : List Int) (i : Nat) : rd l (i : Int) = l.getD i 0 := by unfold rd; rw [Int.toNat_natCast]
theorem drop_getD (l : List Int) (i : Nat) (h : i < l.length) : l.drop i = l.getD i 0 :: l.drop (i + 1) := by
  rw [List.drop_eq_getElem_cons h]
  simp only [List.getD_eq_getElem?_getD, List.getElem?_eq_getElem h, Option.getD_some]
theorem getD_in {l : List Int} (h : ∀ x ∈ l, InR x) (i : Nat) : InR (l.getD i 0) := by
  rw [List.getD_eq_getElem?_getD]
  cases hx : l[i]? with
  | none => exact ⟨by simp, by simp⟩
  | some x => exact h x (List.mem_of_getElem? hx)
theorem wrap_succ (i : Nat) (h : i ≤ 1000000) : wrap64 ((i : Int) + 1) = ((i + 1 : Nat) : Int) := by unfold wrap64; omega

theorem sum_l0 (l : List Int) (hl : l.length ≤ 1000000) (hr : ∀ x ∈ l, InR x) (d : Nat) : ∀ (k i : Nat) (acc : Int), l.length = i + d → d < k → InR acc →
    checked_Sum.l0 k acc l (l.length : Int) (i : Int) = some (sumGo acc (l.drop i)) := by
  induction d with
  | zero =>
    intro k i acc hd hk ha
    obtain ⟨k, rfl⟩ : ∃ m, k = m + 1 := ⟨k - 1, by omega⟩
    unfold checked_Sum.l0
    rw [if_neg (by omega), List.drop_eq_nil_of_le (by omega)]
    rfl
  | succ d ih =>
    intro k i acc hd hk ha
    obtain ⟨k, rfl⟩ : ∃ m, k = m + 1 := ⟨k - 1, by omega⟩
    unfold checked_Sum.l0
    rw [if_pos (by omega), if_pos (by omega), if_pos (by omega), rd_nat, checked_Add_eq ha (getD_in hr i), Option.bind_some, wrap_succ i (by omega), drop_getD l i (by omega)]
    unfold sumGo
    by_cases h : (addv acc (l.getD i 0)).2 = true
    · rw [if_pos h, if_pos h]
      exact ih k (i + 1) _ (by omega) (by omega) addv_in
    · rw [if_neg h, if_neg h]
theorem checked_Sum_eq (l : List Int) (hl : l.length ≤ 1000000) (hr : ∀ x ∈ l, InR x) {k : Nat} (hk : l.length < k) : checked_Sum.f k l = some (sumGo 0 l) := by
  unfold checked_Sum.f
  exact sum_l0 l hl hr l.length k 0 0 (by omega) hk ⟨by omega, by omega⟩

end Go.Proofs.Ytpnbelgbcmkdnaa.Pure
