/- The plain law of CheckedOrder: the printed function of the law answers true at all lists. -/
import Derived.Test.YtpnbelgbcmkdnaaPuCheckedTells
import Derived.Test.YtpnbelgbcmkdnaaSumLaws
import Derived.Test.YtpnbelgbcmkdnaaHLawCheckedOrder
namespace Go.Proofs.Ytpnbelgbcmkdnaa.Pure
open Go.RowKit Go.Proofs.Ytpnbelgbcmkdnaa.Pr Go.Proofs.YtpnbelgbcmkdnaaW.PrintWords Go.Proofs.YtpnbelgbcmkdnaaW.PrintLast
set_option linter.unusedSimpArgs false
set_option linter.unusedVariables false

theorem addv_comm (a b : Int) : addv a b = addv b a := by
  unfold addv
  by_cases h : 0 ≤ a ∧ 0 ≤ b ∧ a + b ≤ 9223372036854775807
  · rw [if_pos h, if_pos ⟨h.2.1, h.1, by omega⟩, Int.add_comm]
  · rw [if_neg h, if_neg (fun z => h ⟨z.2.1, z.1, by omega⟩)]
theorem mulv_comm (a b : Int) : mulv a b = mulv b a := by
  unfold mulv
  rw [Int.mul_comm b a]
  by_cases h : 0 ≤ a ∧ 0 ≤ b ∧ a * b ≤ 9223372036854775807
  · rw [if_pos h, if_pos ⟨h.2.1, h.1, h.2.2⟩]
  · rw [if_neg h, if_neg (fun z => h ⟨z.2.1, z.1, z.2.2⟩)]

/-- The sum, closed: it hangs on the sum and on the signs alone. -/
def tot : List Int → Int
  | [] => 0
  | x :: r => x + tot r
theorem tot_nonneg : ∀ l : List Int, (∀ x ∈ l, 0 ≤ x) → 0 ≤ tot l
  | [], _ => by simp [tot]
  | x :: r, h => by
    have h1 := h x (by simp)
    have h2 := tot_nonneg r (fun y hy => h y (List.mem_cons_of_mem _ hy))
    simp only [tot]
    omega
theorem tot_perm {l m : List Int} (h : l.Perm m) : tot l = tot m := by
  induction h with
  | nil => rfl
  | cons x _ ih => simp only [tot, ih]
  | swap x y l => simp only [tot]; omega
  | trans _ _ h1 h2 => exact h1.trans h2
theorem sumGo_closed : ∀ (l : List Int) (acc : Int), 0 ≤ acc → acc ≤ 9223372036854775807 →
    sumGo acc l = if (∀ x ∈ l, 0 ≤ x) ∧ acc + tot l ≤ 9223372036854775807 then (acc + tot l, true) else (0, false)
  | [], acc, h0, h1 => by
    rw [if_pos ⟨by simp, by simp [tot]; omega⟩]
    simp [sumGo, tot]
  | x :: r, acc, h0, h1 => by
    unfold sumGo
    by_cases h : 0 ≤ x ∧ acc + x ≤ 9223372036854775807
    · have ha : addv acc x = (acc + x, true) := by
        unfold addv
        rw [if_pos ⟨h0, h.1, h.2⟩]
      rw [ha, if_pos rfl]
      simp only
      rw [sumGo_closed r (acc + x) (by omega) h.2]
      simp only [tot, List.mem_cons, forall_eq_or_imp]
      rw [Int.add_assoc]
      by_cases hc : (∀ y ∈ r, 0 ≤ y) ∧ acc + (x + tot r) ≤ 9223372036854775807
      · rw [if_pos hc, if_pos ⟨⟨h.1, hc.1⟩, hc.2⟩]
      · rw [if_neg hc, if_neg (fun z => hc ⟨z.1.2, z.2⟩)]
    · have ha : addv acc x = (0, false) := by
        unfold addv
        rw [if_neg (fun z => h ⟨z.2.1, z.2.2⟩)]
      rw [ha, if_neg (by simp), if_neg]
      rintro ⟨hx, ht⟩
      apply h
      have h2 := tot_nonneg r (fun y hy => hx y (List.mem_cons_of_mem _ hy))
      simp only [tot] at ht
      exact ⟨hx x (by simp), by omega⟩
theorem sumGo_perm {l m : List Int} (h : l.Perm m) : sumGo 0 l = sumGo 0 m := by
  rw [sumGo_closed l 0 (by omega) (by omega), sumGo_closed m 0 (by omega) (by omega), tot_perm h]
  by_cases hc : (∀ x ∈ m, 0 ≤ x) ∧ 0 + tot m ≤ 9223372036854775807
  · rw [if_pos hc, if_pos ⟨fun x hx => hc.1 x (h.mem_iff.1 hx), hc.2⟩]
  · rw [if_neg hc, if_neg (fun z => hc ⟨fun x hx => z.1 x (h.mem_iff.2 hx), z.2⟩)]

theorem swap_perm (l : List Int) (i j : Nat) (hi : i < l.length) (hj : j < l.length) : ((l.set i (l.getD j 0)).set j (l.getD i 0)).Perm l := by
  have := List.set_set_perm hi hj
  simpa only [List.getD_eq_getElem?_getD, List.getElem?_eq_getElem hi, List.getElem?_eq_getElem hj, Option.getD_some] using this

theorem wrap_pred (i : Nat) (h : i ≤ 1000000) : wrap64 (((i + 1 : Nat) : Int) - 1) = (i : Int) := by unfold wrap64; omega

theorem add_back (a b : Int) (ha : InR a) (hb : InR b) (h : (addv a b).2 = true) : wrap64 ((addv a b).1 - a) = b := by
  obtain ⟨hb0, hb1⟩ := hb
  have he : addv a b = (a + b, true) := by
    unfold addv at h ⊢
    split
    · rfl
    · rename_i hc
      rw [if_neg hc] at h
      cases h
  rw [he]
  unfold wrap64
  simp only
  omega
theorem mul_back (a b : Int) (h0 : a ≠ 0) (hb : InR b) (h : (mulv a b).2 = true) : wrap64 (Int.tdiv (mulv a b).1 a) = b := by
  obtain ⟨hb0, hb1⟩ := hb
  have he : mulv a b = (a * b, true) := by
    unfold mulv at h ⊢
    split
    · rfl
    · rename_i hc
      rw [if_neg hc] at h
      cases h
  rw [he]
  simp only
  rw [Int.mul_tdiv_cancel_left _ h0]
  exact wrap_id hb0 hb1

theorem order_l1 (l : List Int) (hl : l.length ≤ 100) (hr : ∀ x ∈ l, InR x) (d : Nat) : ∀ (k i : Nat), l.length ≤ i + 1 + d → d + 1 < k →
    gluepotlaw06_CheckedOrder.l1 k l ((i + 1 : Nat) : Int) = some true := by
  induction d with
  | zero =>
    intro k i hd hk
    obtain ⟨k, rfl⟩ : ∃ m, k = m + 1 := ⟨k - 1, by omega⟩
    rw [gluepotlaw06_CheckedOrder.l1, if_neg (by omega)]
  | succ d ih =>
    intro k i hd hk
    obtain ⟨k, rfl⟩ : ∃ m, k = m + 1 := ⟨k - 1, by omega⟩
    rw [gluepotlaw06_CheckedOrder.l1]
    by_cases hlt : i + 1 < l.length
    · rw [if_pos (by omega), wrap_pred i (by omega), if_pos (by omega), if_pos (by omega), if_pos (by omega), rd_nat, rd_nat]
      have ha := getD_in hr i
      have hb := getD_in hr (i + 1)
      generalize l.getD i 0 = a at *
      generalize l.getD (i + 1) 0 = b at *
      rw [checked_Add_eq ha hb, checked_Add_eq hb ha, checked_Mul_eq (by omega) ha hb, checked_Mul_eq (by omega) hb ha, addv_comm b a, mulv_comm b a]
      rw [Option.bind_some, Option.bind_some, Option.bind_some, Option.bind_some, if_pos rfl, if_neg (by simp), if_pos rfl, if_neg (by simp), wrap_succ (i + 1) (by omega), ih k (i + 1) (by omega) (by omega)]
      by_cases h1 : (addv a b).2 = true
      · rw [if_pos h1, if_pos (add_back a b ha hb h1)]
        by_cases h2 : (mulv a b).2 = true
        · rw [if_pos h2]
          by_cases h3 : a = 0
          · rw [if_pos h3]
          · rw [if_neg h3, if_pos (mul_back a b h3 hb h2)]
        · rw [if_neg h2]
      · rw [if_neg h1]
        by_cases h2 : (mulv a b).2 = true
        · rw [if_pos h2]
          by_cases h3 : a = 0
          · rw [if_pos h3]
          · rw [if_neg h3, if_pos (mul_back a b h3 hb h2)]
        · rw [if_neg h2]
    · rw [if_neg (by omega)]

theorem order_j2 (l m : List Int) (hl : l.length ≤ 100) (hr : ∀ x ∈ l, InR x) (hp : m.Perm l) (k : Nat) (hk : 300 ≤ k) : gluepotlaw06_CheckedOrder.j2 k l m = some true := by
  obtain ⟨k, rfl⟩ : ∃ j, k = j + 1 + 1 := ⟨k - 2, by omega⟩
  have hlen := hp.length_eq
  rw [gluepotlaw06_CheckedOrder.j2, checked_Sum_eq l (by omega) hr (by omega), checked_Sum_eq m (by omega) (fun x hx => hr x (hp.mem_iff.1 hx)) (by omega), sumGo_perm hp]
  rw [Option.bind_some, Option.bind_some, if_pos rfl, gluepotlaw06_CheckedOrder.j3, if_neg (by simp)]
  exact order_l1 l hl hr l.length k 0 (by omega) (by omega)

theorem order_l0 (l by_ : List Int) (hl : l.length ≤ 100) (hb : by_.length ≤ 100) (hr : ∀ x ∈ l, InR x) (hby : ∀ x ∈ by_, 0 ≤ x ∧ x ≤ 65535) (d : Nat) : ∀ (k i : Nat) (m : List Int), by_.length ≤ i + d → 300 + d < k → m.Perm l →
    gluepotlaw06_CheckedOrder.l0 k l by_ m (i : Int) = some true := by
  induction d with
  | zero =>
    intro k i m hd hk hp
    obtain ⟨k, rfl⟩ : ∃ j, k = j + 1 := ⟨k - 1, by omega⟩
    rw [gluepotlaw06_CheckedOrder.l0, if_neg (by omega)]
    exact order_j2 l m hl hr hp k (by omega)
  | succ d ih =>
    intro k i m hd hk hp
    obtain ⟨k, rfl⟩ : ∃ j, k = j + 1 := ⟨k - 1, by omega⟩
    rw [gluepotlaw06_CheckedOrder.l0]
    by_cases h1 : i < by_.length
    · rw [if_pos (by omega)]
      by_cases h2 : 0 < m.length
      · have hx : 0 ≤ by_.getD i 0 ∧ by_.getD i 0 ≤ 65535 := by
          rw [List.getD_eq_getElem?_getD, List.getElem?_eq_getElem h1]
          exact hby _ (List.getElem_mem h1)
        rw [if_pos (by omega), if_neg (by omega), if_pos (by omega), rd_nat by_ i]
        obtain ⟨c, hc⟩ := Int.eq_ofNat_of_zero_le hx.1
        rw [hc] at hx ⊢
        rw [wrap_id (n := (c : Int)) (by omega) (by omega)]
        rw [show Int.tmod (i : Int) (m.length : Int) = ((i % m.length : Nat) : Int) from by rw [Int.tmod_eq_emod_of_nonneg (by omega)]; simp]
        rw [show Int.tmod (c : Int) (m.length : Int) = ((c % m.length : Nat) : Int) from by rw [Int.tmod_eq_emod_of_nonneg (by omega)]; simp]
        have ha := Nat.mod_lt i h2
        have hb' := Nat.mod_lt c h2
        rw [if_pos (by omega), if_pos (by omega), if_pos (by omega), if_pos (by omega), Int.toNat_natCast, Int.toNat_natCast, rd_nat, rd_nat, wrap_succ i (by omega)]
        exact ih k (i + 1) _ (by omega) (by omega) ((swap_perm m _ _ ha hb').trans hp)
      · rw [if_neg (by omega)]
        exact order_j2 l m hl hr hp k (by omega)
    · rw [if_neg (by omega)]
      exact order_j2 l m hl hr hp k (by omega)

theorem CheckedOrder (l0 l1 : List Int) (_x0 : l0.length ≤ maxLen) (y0 : ∀ x ∈ l0, (Lit.int .i64 x).wf = true) (_x1 : l1.length ≤ maxLen) (y1 : ∀ x ∈ l1, (Lit.int .u16 x).wf = true) : ∃ k, Pr.gluepotlaw06_CheckedOrder.f k l0 l1 = some true := by
  suffices H : ∀ k, 999 ≤ k → Pr.gluepotlaw06_CheckedOrder.f (k + 1) l0 l1 = some true from ⟨_, H 999 (Nat.le_refl _)⟩
  intro k hk
  unfold gluepotlaw06_CheckedOrder.f
  rw [awake06, Option.bind_some, if_pos rfl]
  by_cases h : (l0.length : Int) > 100
  · rw [if_pos h, gluepotlaw06_CheckedOrder.j0, if_pos rfl]
  · rw [if_neg h, gluepotlaw06_CheckedOrder.j0]
    by_cases h1 : (l1.length : Int) > 100
    · rw [if_pos (decide_eq_true h1)]
    · rw [if_neg (by simpa using h1), Option.bind_some, if_pos (by simp only [List.length_nil]; omega)]
      exact order_l0 l0 l1 (by omega) (by omega) (fun x hx => wf_i64 (y0 x hx)) (fun x hx => by simpa [Lit.wf, IntKind.min, IntKind.max, IntKind.signed, IntKind.bits] using y1 x hx) l1.length k 0 _ (by omega) (by omega) (by simp)

end Go.Proofs.Ytpnbelgbcmkdnaa.Pure
