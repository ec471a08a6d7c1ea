/- The plain law of CheckedSums: the printed function of the law answers true at all lists. -/
import Derived.Test.YtpnbelgbcmkdnaaPuCheckedTells
import Derived.Test.YtpnbelgbcmkdnaaPr18
import Derived.Test.YtpnbelgbcmkdnaaPr27
namespace Go.Proofs.Ytpnbelgbcmkdnaa.Pure
open Go.RowKit Go.Proofs.Ytpnbelgbcmkdnaa.Pr Go.Proofs.YtpnbelgbcmkdnaaW.PrintWords Go.Proofs.YtpnbelgbcmkdnaaW.PrintLast
set_option linter.unusedSimpArgs false

def InR (x : Int) : Prop := -9223372036854775808 ≤ x ∧ x ≤ 9223372036854775807
theorem addv_in {a b : Int} : InR (addv a b).1 := addv_range
theorem mulv_in {a b : Int} : InR (mulv a b).1 := ⟨by have := (mulv_range (a := a) (b := b)).1; omega, mulv_range.2⟩

def sumGo : Int → List Int → Int × Bool
  | acc, [] => (acc, true)
  | acc, x :: r => if (addv acc x).2 = true then sumGo (addv acc x).1 r else (0, false)
def dotGo : Int → List Int → List Int → Int × Bool
  | acc, x :: r, y :: s => if (mulv x y).2 = true then (if (addv acc (mulv x y).1).2 = true then dotGo (addv acc (mulv x y).1).1 r s else (0, false)) else (0, false)
  | acc, _, _ => (acc, true)

theorem rd_nat (l : List Int) (i : Nat) : rd l (i : Int) = l.getD i 0 := by unfold rd; rw [Int.toNat_natCast]
theorem drop_getD (l : List Int) (i : Nat) (h : i < l.length) : l.drop i = l.getD i 0 :: l.drop (i + 1) := by
  rw [List.drop_eq_getElem_cons h]
  simp only [List.getD_eq_getElem?_getD, List.getElem?_eq_getElem h, Option.getD_some]
theorem getD_in {l : List Int} (h : ∀ x ∈ l, InR x) (i : Nat) : InR (l.getD i 0) := by
  rw [List.getD_eq_getElem?_getD]
  cases hx : l[i]? with
  | none => exact ⟨by simp, by simp⟩
  | some x => exact h x (List.mem_of_getElem? hx)
theorem wrap_succ (i : Nat) (h : i ≤ 1000000) : wrap64 ((i : Int) + 1) = ((i + 1 : Nat) : Int) := by unfold wrap64; omega

theorem sum_l0 (l : List Int) (hl : l.length ≤ 1000000) (hr : ∀ x ∈ l, InR x) (d : Nat) : ∀ (k i : Nat) (acc : Int), l.length = i + d → d < k → InR acc →
    checked_Sum.l0 k acc l (l.length : Int) (i : Int) = some (sumGo acc (l.drop i)) := by
  induction d with
  | zero =>
    intro k i acc hd hk ha
    obtain ⟨k, rfl⟩ : ∃ m, k = m + 1 := ⟨k - 1, by omega⟩
    unfold checked_Sum.l0
    rw [if_neg (by omega), List.drop_eq_nil_of_le (by omega)]
    rfl
  | succ d ih =>
    intro k i acc hd hk ha
    obtain ⟨k, rfl⟩ : ∃ m, k = m + 1 := ⟨k - 1, by omega⟩
    unfold checked_Sum.l0
    rw [if_pos (by omega), if_pos (by omega), if_pos (by omega), rd_nat, checked_Add_eq ha (getD_in hr i), Option.bind_some, wrap_succ i (by omega), drop_getD l i (by omega)]
    unfold sumGo
    by_cases h : (addv acc (l.getD i 0)).2 = true
    · rw [if_pos h, if_pos h]
      exact ih k (i + 1) _ (by omega) (by omega) addv_in
    · rw [if_neg h, if_neg h]
theorem checked_Sum_eq (l : List Int) (hl : l.length ≤ 1000000) (hr : ∀ x ∈ l, InR x) {k : Nat} (hk : l.length < k) : checked_Sum.f k l = some (sumGo 0 l) := by
  unfold checked_Sum.f
  exact sum_l0 l hl hr l.length k 0 0 (by omega) hk ⟨by omega, by omega⟩

theorem dot_l0 (a b : List Int) (he : a.length = b.length) (hl : a.length ≤ 1000000) (ha : ∀ x ∈ a, InR x) (hb : ∀ x ∈ b, InR x) (d : Nat) : ∀ (k i : Nat) (acc : Int), a.length = i + d → d < k → InR acc →
    gluepotref06_Dot.l0 k a b acc (i : Int) = some (dotGo acc (a.drop i) (b.drop i)) := by
  induction d with
  | zero =>
    intro k i acc hd hk hacc
    obtain ⟨k, rfl⟩ : ∃ m, k = m + 1 := ⟨k - 1, by omega⟩
    unfold gluepotref06_Dot.l0
    rw [if_neg (by omega), List.drop_eq_nil_of_le (by omega)]
    rfl
  | succ d ih =>
    intro k i acc hd hk hacc
    obtain ⟨k, rfl⟩ : ∃ m, k = m + 1 := ⟨k - 1, by omega⟩
    unfold gluepotref06_Dot.l0
    rw [if_pos (by omega), if_pos (by omega), if_pos (by omega), rd_nat, rd_nat, ref06_Mul_eq (getD_in ha i) (getD_in hb i), Option.bind_some, drop_getD a i (by omega), drop_getD b i (by omega)]
    unfold dotGo
    by_cases h : (mulv (a.getD i 0) (b.getD i 0)).2 = true
    · rw [if_pos h, if_pos h, ref06_Add_eq hacc mulv_in, Option.bind_some, wrap_succ i (by omega)]
      by_cases h2 : (addv acc (mulv (a.getD i 0) (b.getD i 0)).1).2 = true
      · rw [if_pos h2, if_pos h2]
        exact ih k (i + 1) _ (by omega) (by omega) addv_in
      · rw [if_neg h2, if_neg h2]
    · rw [if_neg h, if_neg h]
def dotv (a b : List Int) : Int × Bool := if a.length = b.length then dotGo 0 a b else (0, false)
theorem ref_Dot_eq (a b : List Int) (hl : a.length ≤ 1000000) (ha : ∀ x ∈ a, InR x) (hb : ∀ x ∈ b, InR x) {k : Nat} (hk : a.length < k) : gluepotref06_Dot.f k a b = some (dotv a b) := by
  unfold gluepotref06_Dot.f dotv
  by_cases h : a.length = b.length
  · rw [if_pos (by omega), if_pos h]
    exact dot_l0 a b h hl ha hb a.length k 0 0 (by omega) hk ⟨by omega, by omega⟩
  · rw [if_neg (by omega), if_neg h]

/-- The products first, then their sum. -/
def prods : List Int → List Int → Option (List Int)
  | x :: r, y :: s => if (mulv x y).2 = true then (prods r s).map ((mulv x y).1 :: ·) else none
  | _, _ => some []
theorem prods_in : ∀ (a b l : List Int), prods a b = some l → ∀ x ∈ l, InR x
  | [], _, l, h => by simp [prods] at h; subst h; simp
  | _ :: _, [], l, h => by simp [prods] at h; subst h; simp
  | x :: r, y :: s, l, h => by
    unfold prods at h
    split at h
    · obtain ⟨m, hm, rfl⟩ := Option.map_eq_some_iff.1 h
      intro z hz
      rcases List.mem_cons.1 hz with rfl | hz
      · exact mulv_in
      · exact prods_in r s m hm z hz
    · cases h
theorem prods_length : ∀ (a b l : List Int), prods a b = some l → l.length ≤ a.length
  | [], _, l, h => by simp [prods] at h; subst h; simp
  | _ :: _, [], l, h => by simp [prods] at h; subst h; simp
  | x :: r, y :: s, l, h => by
    unfold prods at h
    split at h
    · obtain ⟨m, hm, rfl⟩ := Option.map_eq_some_iff.1 h
      have := prods_length r s m hm
      simp only [List.length_cons]
      omega
    · cases h
theorem sum_neg_false : ∀ (l : List Int) (acc : Int), ∀ m : List Int, sumGo acc l = (0, false) → sumGo acc (l ++ m) = (0, false)
  | [], acc, m, h => by simp [sumGo] at h
  | x :: r, acc, m, h => by
    simp only [List.cons_append, sumGo] at h ⊢
    split at h
    · rename_i h1
      rw [if_pos h1]
      exact sum_neg_false r _ m h
    · rename_i h1
      rw [if_neg h1]
theorem dot_prods : ∀ (a b : List Int) (acc : Int), (match prods a b with | some l => sumGo acc l | none => (0, false)) = dotGo acc a b
  | [], _, acc => by simp [prods, dotGo, sumGo]
  | _ :: _, [], acc => by simp [prods, dotGo, sumGo]
  | x :: r, y :: s, acc => by
    unfold prods dotGo
    by_cases h : (mulv x y).2 = true
    · rw [if_pos h, if_pos h]
      have ih := dot_prods r s (addv acc (mulv x y).1).1
      cases hp : prods r s with
      | none =>
        rw [hp] at ih
        simp only [Option.map_none]
        by_cases h2 : (addv acc (mulv x y).1).2 = true
        · rw [if_pos h2]
          exact ih
        · rw [if_neg h2]
      | some l =>
        rw [hp] at ih
        simp only [Option.map_some, sumGo]
        by_cases h2 : (addv acc (mulv x y).1).2 = true
        · rw [if_pos h2, if_pos h2]
          exact ih
        · rw [if_neg h2, if_neg h2]
    · rw [if_neg h, if_neg h]

theorem cdot_l0 (a b : List Int) (he : a.length = b.length) (hl : a.length ≤ 1000000) (ha : ∀ x ∈ a, InR x) (hb : ∀ x ∈ b, InR x) (d : Nat) : ∀ (k i : Nat) (acc : List Int), a.length = i + d → a.length + d + 1 < k → acc.length ≤ i → (∀ x ∈ acc, InR x) →
    checked_Dot.l0 k a b acc (a.length : Int) (i : Int) = some (match prods (a.drop i) (b.drop i) with | some l => sumGo 0 (acc ++ l) | none => (0, false)) := by
  induction d with
  | zero =>
    intro k i acc hd hk hacc hin
    obtain ⟨k, rfl⟩ : ∃ m, k = m + 1 := ⟨k - 1, by omega⟩
    unfold checked_Dot.l0
    rw [if_neg (by omega), List.drop_eq_nil_of_le (by omega), checked_Sum_eq acc (by omega) hin (by omega)]
    simp [prods]
  | succ d ih =>
    intro k i acc hd hk hacc hin
    obtain ⟨k, rfl⟩ : ∃ m, k = m + 1 := ⟨k - 1, by omega⟩
    unfold checked_Dot.l0
    rw [if_pos (by omega), if_pos (by omega), if_pos (by omega), if_pos (by omega), rd_nat, rd_nat, checked_Mul_eq (by omega) (getD_in ha i) (getD_in hb i), Option.bind_some, drop_getD a i (by omega), drop_getD b i (by omega)]
    unfold prods
    by_cases h : (mulv (a.getD i 0) (b.getD i 0)).2 = true
    · rw [if_pos h, if_pos h, if_pos (by omega), wrap_succ i (by omega), ih k (i + 1) _ (by omega) (by omega) (by rw [List.length_append]; simp only [List.length_cons, List.length_nil]; omega) (fun x hx => by
        rcases List.mem_append.1 hx with hx | hx
        · exact hin x hx
        · rw [List.mem_singleton.1 hx]
          exact mulv_in)]
      cases prods (a.drop (i + 1)) (b.drop (i + 1)) with
      | none => rfl
      | some l =>
        simp only [Option.map_some]
        rw [List.append_assoc]
        rfl
    · rw [if_neg h, if_neg h]
theorem checked_Dot_eq (a b : List Int) (hl : a.length ≤ 1000000) (ha : ∀ x ∈ a, InR x) (hb : ∀ x ∈ b, InR x) {k : Nat} (hk : a.length + a.length + 1 < k) : checked_Dot.f k a b = some (dotv a b) := by
  unfold checked_Dot.f dotv
  by_cases h : a.length = b.length
  · rw [if_pos (by omega), if_pos h]
    have := cdot_l0 a b h hl ha hb a.length k 0 [] (by omega) hk (by simp) (by simp)
    rw [← dot_prods]
    simpa using this
  · rw [if_neg (by omega), if_neg h]

/-- The sum is the dot with ones. -/
theorem mulv_one (x : Int) (h : InR x) : mulv x 1 = if 0 ≤ x then (x, true) else (0, false) := by
  unfold mulv
  obtain ⟨_, h2⟩ := h
  by_cases h0 : 0 ≤ x
  · rw [if_pos ⟨h0, by omega, by omega⟩, if_pos h0, Int.mul_one]
  · rw [if_neg (fun z => h0 z.1), if_neg h0]
theorem sum_ones : ∀ (l : List Int) (acc : Int), (∀ x ∈ l, InR x) → sumGo acc l = dotGo acc l (List.replicate l.length 1)
  | [], acc, _ => rfl
  | x :: r, acc, h => by
    rw [List.length_cons, List.replicate_succ]
    unfold sumGo dotGo
    rw [mulv_one x (h x (by simp))]
    by_cases h0 : 0 ≤ x
    · rw [if_pos h0]
      simp only [if_true]
      by_cases h2 : (addv acc x).2 = true
      · rw [if_pos h2, if_pos h2]
        exact sum_ones r _ (fun y hy => h y (List.mem_cons_of_mem _ hy))
      · rw [if_neg h2, if_neg h2]
    · rw [if_neg h0]
      have : (addv acc x).2 = false := by
        unfold addv
        rw [if_neg (by omega)]
      rw [this]
      simp

/-- What follows the loop that makes the ones. -/
theorem sums_tail (a b : List Int) (ha : ∀ x ∈ a, InR x) (hb : ∀ x ∈ b, InR x) (hla : a.length ≤ 300) (k : Nat) (hk : 700 ≤ k) :
    ((checked_Sum.f k a).bind fun bt169 => ((gluepotref06_Dot.f k a (List.replicate a.length 1)).bind fun bt171 => ((checked_Dot.f k a b).bind fun bt173 => ((gluepotref06_Dot.f k a b).bind fun bt175 => (if bt169.1 = bt171.1 then (if (bt169.2 == bt171.2) = true then (if bt173.1 = bt175.1 then (some (bt173.2 == bt175.2)) else (some false)) else (some false)) else (some false)))))) = some true := by
  have hone : ∀ x ∈ List.replicate a.length (1 : Int), InR x := fun x hx => by
    rw [List.eq_of_mem_replicate hx]
    exact ⟨by omega, by omega⟩
  rw [checked_Sum_eq a (by omega) ha (by omega), ref_Dot_eq a _ (by omega) ha hone (by omega), checked_Dot_eq a b (by omega) ha hb (by omega), ref_Dot_eq a b (by omega) ha hb (by omega)]
  have h1 : dotv a (List.replicate a.length 1) = sumGo 0 a := by
    unfold dotv
    rw [if_pos (by simp), sum_ones a 0 ha]
  rw [h1]
  simp

theorem set_ones (n i : Nat) (h : i < n) : (List.replicate i (1 : Int) ++ List.replicate (n - i) 0).set i 1 = List.replicate (i + 1) 1 ++ List.replicate (n - (i + 1)) 0 := by
  rw [show n - i = (n - (i + 1)) + 1 from by omega, List.replicate_succ, List.set_append_right _ _ (by simp)]
  simp only [List.length_replicate, Nat.sub_self, List.set_cons_zero]
  rw [List.replicate_succ', List.append_assoc]
  rfl

theorem ones_l0 (a b : List Int) (ha : ∀ x ∈ a, InR x) (hb : ∀ x ∈ b, InR x) (hla : a.length ≤ 300) (d : Nat) : ∀ (k i : Nat), a.length = i + d → 700 + d < k →
    gluepotlaw06_CheckedSums.l0 k a b (List.replicate i 1 ++ List.replicate (a.length - i) 0) (i : Int) = some true := by
  induction d with
  | zero =>
    intro k i hd hk
    obtain ⟨k, rfl⟩ : ∃ m, k = m + 1 := ⟨k - 1, by omega⟩
    obtain rfl : i = a.length := by omega
    unfold gluepotlaw06_CheckedSums.l0
    rw [if_neg (by simp), Nat.sub_self]
    simp only [List.replicate_zero, List.append_nil]
    exact sums_tail a b ha hb hla k (by omega)
  | succ d ih =>
    intro k i hd hk
    obtain ⟨k, rfl⟩ : ∃ m, k = m + 1 := ⟨k - 1, by omega⟩
    unfold gluepotlaw06_CheckedSums.l0
    rw [if_pos (by simp; omega), if_pos (by omega), wrap_succ i (by omega), Int.toNat_natCast, set_ones a.length i (by omega)]
    exact ih k (i + 1) (by omega) (by omega)

theorem CheckedSums (l0 l1 : List Int) (_x0 : l0.length ≤ maxLen) (y0 : ∀ x ∈ l0, (Lit.int .i64 x).wf = true) (_x1 : l1.length ≤ maxLen) (y1 : ∀ x ∈ l1, (Lit.int .i64 x).wf = true) : ∃ k, Pr.gluepotlaw06_CheckedSums.f k l0 l1 = some true := by
  suffices H : ∀ k, 1999 ≤ k → Pr.gluepotlaw06_CheckedSums.f (k + 1) l0 l1 = some true from ⟨_, H 1999 (Nat.le_refl _)⟩
  intro k hk
  unfold gluepotlaw06_CheckedSums.f
  rw [awake06, Option.bind_some]
  rw [if_pos rfl]
  by_cases h : (l0.length : Int) > 300
  · rw [if_pos h]
    rw [gluepotlaw06_CheckedSums.j0]
    rw [if_pos rfl]
  · rw [if_neg h]
    rw [gluepotlaw06_CheckedSums.j0]
    by_cases h1 : (l1.length : Int) > 300
    · rw [if_pos (decide_eq_true h1)]
    · rw [if_neg (by simpa using h1), if_pos (by omega), Int.toNat_natCast, if_pos (by omega)]
      have := ones_l0 l0 l1 (fun x hx => wf_i64 (y0 x hx)) (fun x hx => wf_i64 (y1 x hx)) (by omega) l0.length k 0 (by omega) (by omega)
      simpa using this

end Go.Proofs.Ytpnbelgbcmkdnaa.Pure
