/- Tab, Bpe6, Bpe7, SpNaive in one text (wip/mtext.py). -/
import Derived.Test.YtbfjlfbahjmibaaPr8
import Derived.Test.YtbfjlfbahjmibaaPr7
import Derived.Test.YtbfjlfbahjmibaaPr5
import Derived.Test.YtbfjlfbahjmibaaPr24
import Derived.Test.YtbfjlfbahjmibaaPr10
import Derived.Test.YtbfjlfbahjmibaaPr26
import Derived.Test.YtbfjlfbahjmibaaHCk
import Derived.Test.YtbfjlfbahjmibaaHTexts
import Derived.Test.YtbfjlfbahjmibaaHBest
import Derived.Test.YtbfjlfbahjmibaaPr11
import Derived.Test.YtbfjlfbahjmibaaPr27
import Derived.Test.YtbfjlfbahjmibaaPr28
import Derived.Test.YtbfjlfbahjmibaaPr41
import Derived.Test.YtbfjlfbahjmibaaPr35
import Derived.Test.YtbfjlfbahjmibaaPr40
import Derived.Test.YtbfjlfbahjmibaaPr43
import Derived.Test.YtbfjlfbahjmibaaPr44
import Derived.Test.YtbfjlfbahjmibaaPr42
import Derived.Test.YtbfjlfbahjmibaaPr45
namespace Go.Proofs.Ytbfjlfbahjmibaa.Tab
open Go.RowKit Go.Proofs.Ytbfjlfbahjmibaa.Pr Go.Proofs.YtbfjlfbahjmibaaW.PrintWords Go.Proofs.YtbfjlfbahjmibaaW.PrintLast
set_option linter.unusedSimpArgs false
set_option linter.unusedVariables false
theorem wi (i : Nat) (h : i < 9223372036854775807) : wrap64 ((i : Int) + 1) = ((i + 1 : Nat) : Int) := by unfold wrap64; omega
theorem rd35 (l : List S35) (i : Nat) (h : i < l.length) : rd_T35 l (i : Int) = l[i] := by
  unfold rd_T35
  rw [Int.toNat_natCast, List.getD_eq_getElem?_getD, List.getElem?_eq_getElem h]
  rfl
theorem rd45 (l : List S45) (i : Nat) (h : i < l.length) : rd_T45 l (i : Int) = l[i] := by
  unfold rd_T45
  rw [Int.toNat_natCast, List.getD_eq_getElem?_getD, List.getElem?_eq_getElem h]
  rfl

theorem wf_i64 {n : Int} (h : (Lit.int .i64 n).wf = true) : -9223372036854775808 ≤ n ∧ n ≤ 9223372036854775807 := by
  simpa [Lit.wf, IntKind.min, IntKind.max, IntKind.signed, IntKind.bits] using h
theorem wrap_id {n : Int} (h : -9223372036854775808 ≤ n) (h' : n ≤ 9223372036854775807) : wrap64 n = n := by unfold wrap64; omega

/-- The sum of two, if they and it are within. -/
def addv (a b : Int) : Int × Bool := if 0 ≤ a ∧ 0 ≤ b ∧ a + b ≤ 9223372036854775807 then (a + b, true) else (0, false)
def mulv (a b : Int) : Int × Bool := if 0 ≤ a ∧ 0 ≤ b ∧ a * b ≤ 9223372036854775807 then (a * b, true) else (0, false)

theorem checked_Add_eq {a b : Int} (ha : -9223372036854775808 ≤ a ∧ a ≤ 9223372036854775807) (hb : -9223372036854775808 ≤ b ∧ b ≤ 9223372036854775807) : checked_Add.f a b = some (addv a b) := by
  unfold checked_Add.f checked_within.f addv
  simp only [Option.bind_some, decide_eq_true_eq]
  by_cases h1 : 0 ≤ a
  · by_cases h2 : 0 ≤ b
    · rw [if_pos h1, if_pos h2, wrap_id (n := 9223372036854775807 - b) (by omega) (by omega)]
      by_cases h3 : a + b ≤ 9223372036854775807
      · rw [if_neg (by omega), wrap_id (by omega) (by omega), if_pos ⟨h1, h2, h3⟩]
      · rw [if_pos (by omega), if_neg (by omega)]
    · rw [if_pos h1, if_neg h2, if_neg (by omega)]
  · rw [if_neg h1, if_neg (by omega)]

theorem ref06_Add_eq {a b : Int} (ha : -9223372036854775808 ≤ a ∧ a ≤ 9223372036854775807) (hb : -9223372036854775808 ≤ b ∧ b ≤ 9223372036854775807) : gluepotref06_Add.f a b = some (addv a b) := by
  unfold gluepotref06_Add.f addv
  by_cases h1 : a < 0
  · rw [if_pos h1, if_neg (by omega)]
  · by_cases h2 : b < 0
    · rw [if_neg h1, if_pos h2, if_neg (by omega)]
    · rw [if_neg h1, if_neg h2]
      by_cases h3 : a + b ≤ 9223372036854775807
      · rw [wrap_id (by omega) (by omega), if_neg (by omega), if_pos ⟨by omega, by omega, h3⟩]
      · rw [if_pos (by unfold wrap64; omega), if_neg (by omega)]

theorem u64_wrap {n : Int} (h0 : 0 ≤ n) (h1 : n ≤ 9223372036854775807) : IntKind.u64.wrap n = n := by
  simp [IntKind.wrap, IntKind.bits, IntKind.signed]
  omega

theorem mul_bound {a b : Int} (ha : 0 ≤ a ∧ a ≤ 9223372036854775807) (hb : 0 ≤ b ∧ b ≤ 9223372036854775807) : 0 ≤ a * b ∧ a * b ≤ 9223372036854775807 * 9223372036854775807 :=
  ⟨Int.mul_nonneg ha.1 hb.1, Int.mul_le_mul ha.2 hb.2 hb.1 (by omega)⟩

theorem checked_Mul_eq {k : Nat} (hk : 1 ≤ k) {a b : Int} (ha : -9223372036854775808 ≤ a ∧ a ≤ 9223372036854775807) (hb : -9223372036854775808 ≤ b ∧ b ≤ 9223372036854775807) : checked_Mul.f k a b = some (mulv a b) := by
  obtain ⟨k, rfl⟩ : ∃ m, k = m + 1 := ⟨k - 1, by omega⟩
  unfold checked_Mul.f checked_within.f mulv
  simp only [Option.bind_some, decide_eq_true_eq]
  by_cases h1 : 0 ≤ a
  · rw [if_pos h1]
    by_cases h2 : 0 ≤ b
    · have hm := mul_bound ⟨h1, ha.2⟩ ⟨h2, hb.2⟩
      simp only [checked_Mul.j0, h2, ge_iff_le, decide_true, Bool.not_true, Bool.false_eq_true, if_false, true_and, h1]
      rw [u64_wrap h1 ha.2, u64_wrap h2 hb.2]
      unfold bits_Mul64.f
      rw [if_pos (by omega)]
      simp only [Option.bind_some]
      by_cases h3 : a * b ≤ 9223372036854775807
      · rw [if_pos (by omega), if_neg (by omega), if_pos h3, wrap_id (by omega) (by omega)]
        congr 2
        omega
      · rw [if_neg h3]
        by_cases h4 : a * b / 18446744073709551616 = 0
        · rw [if_pos h4, if_pos (by omega)]
        · rw [if_neg h4]
    · simp only [checked_Mul.j0, h2, ge_iff_le, decide_false, Bool.not_false, if_true, false_and, and_false, if_false]
  · rw [if_neg h1, if_neg (by omega)]
    simp only [checked_Mul.j0, if_true]

theorem ref06_Mul_eq {a b : Int} (ha : -9223372036854775808 ≤ a ∧ a ≤ 9223372036854775807) (hb : -9223372036854775808 ≤ b ∧ b ≤ 9223372036854775807) : gluepotref06_Mul.f a b = some (mulv a b) := by
  unfold gluepotref06_Mul.f mulv
  by_cases h1 : a < 0
  · rw [if_pos h1, if_neg (by omega)]
  · rw [if_neg h1]
    by_cases h2 : b < 0
    · rw [if_pos h2, if_neg (by omega)]
    · rw [if_neg h2]
      by_cases h3 : a * b ≤ 9223372036854775807
      · have hn : ¬ (0 < b ∧ 9223372036854775807 / b < a) := by
          rintro ⟨hb0, hq⟩
          have := (Int.ediv_lt_iff_lt_mul hb0).1 hq
          omega
        rw [if_neg hn, if_pos ⟨by omega, by omega, h3⟩, wrap_id _ h3]
        have := Int.mul_nonneg (a := a) (b := b) (by omega) (by omega)
        omega
      · have hb0 : 0 < b := by
          rcases Int.lt_or_eq_of_le (show 0 ≤ b by omega) with h | h
          · exact h
          · rw [← h] at h3
            simp at h3
        have hq : 9223372036854775807 / b < a := by
          rw [Int.ediv_lt_iff_lt_mul hb0]
          omega
        rw [if_pos ⟨hb0, hq⟩, if_neg (by omega)]

theorem addv_range {a b : Int} : -9223372036854775808 ≤ (addv a b).1 ∧ (addv a b).1 ≤ 9223372036854775807 := by
  unfold addv
  split
  · simp only; omega
  · simp only; omega
theorem mulv_range {a b : Int} : 0 ≤ (mulv a b).1 ∧ (mulv a b).1 ≤ 9223372036854775807 := by
  unfold mulv
  split
  · rename_i h
    exact ⟨Int.mul_nonneg h.1 h.2.1, h.2.2⟩
  · simp only; omega



def InR (x : Int) : Prop := -9223372036854775808 ≤ x ∧ x ≤ 9223372036854775807
theorem addv_in {a b : Int} : InR (addv a b).1 := addv_range
theorem mulv_in {a b : Int} : InR (mulv a b).1 := ⟨by have := (mulv_range (a := a) (b := b)).1; omega, mulv_range.2⟩

def sumGo : Int → List Int → Int × Bool
  | acc, [] => (acc, true)
  | acc, x :: r => if (addv acc x).2 = true then sumGo (addv acc x).1 r else (0, false)
theorem rd_nat (l : List Int) (i : Nat) : rd l (i : Int) = l.getD i 0 := by unfold rd; rw [Int.toNat_natCast]
theorem drop_getD (l : List Int) (i : Nat) (h : i < l.length) : l.drop i = l.getD i 0 :: l.drop (i + 1) := by
  rw [List.drop_eq_getElem_cons h]
  simp only [List.getD_eq_getElem?_getD, List.getElem?_eq_getElem h, Option.getD_some]
theorem getD_in {l : List Int} (h : ∀ x ∈ l, InR x) (i : Nat) : InR (l.getD i 0) := by
  rw [List.getD_eq_getElem?_getD]
  cases hx : l[i]? with
  | none => exact ⟨by simp, by simp⟩
  | some x => exact h x (List.mem_of_getElem? hx)
theorem wrap_succ (i : Nat) (h : i ≤ 1000000) : wrap64 ((i : Int) + 1) = ((i + 1 : Nat) : Int) := by unfold wrap64; omega

theorem sum_l0 (l : List Int) (hl : l.length ≤ 1000000) (hr : ∀ x ∈ l, InR x) (d : Nat) : ∀ (k i : Nat) (acc : Int), l.length = i + d → d < k → InR acc →
    checked_Sum.l0 k acc l (l.length : Int) (i : Int) = some (sumGo acc (l.drop i)) := by
  induction d with
  | zero =>
    intro k i acc hd hk ha
    obtain ⟨k, rfl⟩ : ∃ m, k = m + 1 := ⟨k - 1, by omega⟩
    unfold checked_Sum.l0
    rw [if_neg (by omega), List.drop_eq_nil_of_le (by omega)]
    rfl
  | succ d ih =>
    intro k i acc hd hk ha
    obtain ⟨k, rfl⟩ : ∃ m, k = m + 1 := ⟨k - 1, by omega⟩
    unfold checked_Sum.l0
    rw [if_pos (by omega), if_pos (by omega), if_pos (by omega), rd_nat, checked_Add_eq ha (getD_in hr i), Option.bind_some, wrap_succ i (by omega), drop_getD l i (by omega)]
    unfold sumGo
    by_cases h : (addv acc (l.getD i 0)).2 = true
    · rw [if_pos h, if_pos h]
      exact ih k (i + 1) _ (by omega) (by omega) addv_in
    · rw [if_neg h, if_neg h]
theorem checked_Sum_eq (l : List Int) (hl : l.length ≤ 1000000) (hr : ∀ x ∈ l, InR x) {k : Nat} (hk : l.length < k) : checked_Sum.f k l = some (sumGo 0 l) := by
  unfold checked_Sum.f
  exact sum_l0 l hl hr l.length k 0 0 (by omega) hk ⟨by omega, by omega⟩



def dotGo : Int → List Int → List Int → Int × Bool
  | acc, x :: r, y :: s => if (mulv x y).2 = true then (if (addv acc (mulv x y).1).2 = true then dotGo (addv acc (mulv x y).1).1 r s else (0, false)) else (0, false)
  | acc, _, _ => (acc, true)

def dotv (a b : List Int) : Int × Bool := if a.length = b.length then dotGo 0 a b else (0, false)
def prods : List Int → List Int → Option (List Int)
  | x :: r, y :: s => if (mulv x y).2 = true then (prods r s).map ((mulv x y).1 :: ·) else none
  | _, _ => some []
theorem prods_in : ∀ (a b l : List Int), prods a b = some l → ∀ x ∈ l, InR x
  | [], _, l, h => by simp [prods] at h; subst h; simp
  | _ :: _, [], l, h => by simp [prods] at h; subst h; simp
  | x :: r, y :: s, l, h => by
    unfold prods at h
    split at h
    · obtain ⟨m, hm, rfl⟩ := Option.map_eq_some_iff.1 h
      intro z hz
      rcases List.mem_cons.1 hz with rfl | hz
      · exact mulv_in
      · exact prods_in r s m hm z hz
    · cases h
theorem prods_length : ∀ (a b l : List Int), prods a b = some l → l.length ≤ a.length
  | [], _, l, h => by simp [prods] at h; subst h; simp
  | _ :: _, [], l, h => by simp [prods] at h; subst h; simp
  | x :: r, y :: s, l, h => by
    unfold prods at h
    split at h
    · obtain ⟨m, hm, rfl⟩ := Option.map_eq_some_iff.1 h
      have := prods_length r s m hm
      simp only [List.length_cons]
      omega
    · cases h
theorem sum_neg_false : ∀ (l : List Int) (acc : Int), ∀ m : List Int, sumGo acc l = (0, false) → sumGo acc (l ++ m) = (0, false)
  | [], acc, m, h => by simp [sumGo] at h
  | x :: r, acc, m, h => by
    simp only [List.cons_append, sumGo] at h ⊢
    split at h
    · rename_i h1
      rw [if_pos h1]
      exact sum_neg_false r _ m h
    · rename_i h1
      rw [if_neg h1]
theorem dot_prods : ∀ (a b : List Int) (acc : Int), (match prods a b with | some l => sumGo acc l | none => (0, false)) = dotGo acc a b
  | [], _, acc => by simp [prods, dotGo, sumGo]
  | _ :: _, [], acc => by simp [prods, dotGo, sumGo]
  | x :: r, y :: s, acc => by
    unfold prods dotGo
    by_cases h : (mulv x y).2 = true
    · rw [if_pos h, if_pos h]
      have ih := dot_prods r s (addv acc (mulv x y).1).1
      cases hp : prods r s with
      | none =>
        rw [hp] at ih
        simp only [Option.map_none]
        by_cases h2 : (addv acc (mulv x y).1).2 = true
        · rw [if_pos h2]
          exact ih
        · rw [if_neg h2]
      | some l =>
        rw [hp] at ih
        simp only [Option.map_some, sumGo]
        by_cases h2 : (addv acc (mulv x y).1).2 = true
        · rw [if_pos h2, if_pos h2]
          exact ih
        · rw [if_neg h2, if_neg h2]
    · rw [if_neg h, if_neg h]

theorem cdot_l0 (a b : List Int) (he : a.length = b.length) (hl : a.length ≤ 1000000) (ha : ∀ x ∈ a, InR x) (hb : ∀ x ∈ b, InR x) (d : Nat) : ∀ (k i : Nat) (acc : List Int), a.length = i + d → a.length + d + 1 < k → acc.length ≤ i → (∀ x ∈ acc, InR x) →
    checked_Dot.l0 k a b acc (a.length : Int) (i : Int) = some (match prods (a.drop i) (b.drop i) with | some l => sumGo 0 (acc ++ l) | none => (0, false)) := by
  induction d with
  | zero =>
    intro k i acc hd hk hacc hin
    obtain ⟨k, rfl⟩ : ∃ m, k = m + 1 := ⟨k - 1, by omega⟩
    unfold checked_Dot.l0
    rw [if_neg (by omega), List.drop_eq_nil_of_le (by omega), checked_Sum_eq acc (by omega) hin (by omega)]
    simp [prods]
  | succ d ih =>
    intro k i acc hd hk hacc hin
    obtain ⟨k, rfl⟩ : ∃ m, k = m + 1 := ⟨k - 1, by omega⟩
    unfold checked_Dot.l0
    rw [if_pos (by omega), if_pos (by omega), if_pos (by omega), if_pos (by omega), rd_nat, rd_nat, checked_Mul_eq (by omega) (getD_in ha i) (getD_in hb i), Option.bind_some, drop_getD a i (by omega), drop_getD b i (by omega)]
    unfold prods
    by_cases h : (mulv (a.getD i 0) (b.getD i 0)).2 = true
    · rw [if_pos h, if_pos h, if_pos (by omega), wrap_succ i (by omega), ih k (i + 1) _ (by omega) (by omega) (by rw [List.length_append]; simp only [List.length_cons, List.length_nil]; omega) (fun x hx => by
        rcases List.mem_append.1 hx with hx | hx
        · exact hin x hx
        · rw [List.mem_singleton.1 hx]
          exact mulv_in)]
      cases prods (a.drop (i + 1)) (b.drop (i + 1)) with
      | none => rfl
      | some l =>
        simp only [Option.map_some]
        rw [List.append_assoc]
        rfl
    · rw [if_neg h, if_neg h]
theorem checked_Dot_eq (a b : List Int) (hl : a.length ≤ 1000000) (ha : ∀ x ∈ a, InR x) (hb : ∀ x ∈ b, InR x) {k : Nat} (hk : a.length + a.length + 1 < k) : checked_Dot.f k a b = some (dotv a b) := by
  unfold checked_Dot.f dotv
  by_cases h : a.length = b.length
  · rw [if_pos (by omega), if_pos h]
    have := cdot_l0 a b h hl ha hb a.length k 0 [] (by omega) hk (by simp) (by simp)
    rw [← dot_prods]
    simpa using this
  · rw [if_neg (by omega), if_neg h]
/-- The pairs of bytes. -/
def pr1 (x : S35) : Int := max ((x.f0.size : Int) - 1) 0
def Fine (l : List S35) : Prop := l.length ≤ 60 ∧ ∀ x ∈ l, x.f0.size ≤ 100 ∧ InR x.f1
theorem pr1_in (x : S35) (h : x.f0.size ≤ 100) : InR (pr1 x) := by unfold InR pr1; omega
theorem mx_max' (a b : Int) : mx a b = max a b := by unfold mx; omega
theorem map_in1 {l : List S35} (h : Fine l) : ∀ y ∈ l.map (·.f1), InR y := by
  intro y hy
  obtain ⟨x, hx, rfl⟩ := List.mem_map.1 hy
  exact (h.2 x hx).2
theorem map_in2 {l : List S35} (h : Fine l) : ∀ y ∈ l.map pr1, InR y := by
  intro y hy
  obtain ⟨x, hx, rfl⟩ := List.mem_map.1 hy
  exact pr1_in x (h.2 x hx).1
theorem table_weight (l : List S35) (h : Fine l) (k : Nat) (hk : 400 ≤ k) : table_Weight.f k l = some (dotGo 0 (l.map (·.f1)) (l.map pr1)) := by
  have hlen := h.1
  have loop : ∀ m i k, i + m = l.length → m + 300 ≤ k → table_Weight.l0 k ((l.take i).map (·.f1)) ((l.take i).map pr1) l (l.length : Int) (i : Int) = some (dotGo 0 (l.map (·.f1)) (l.map pr1)) := by
    intro m
    induction m with
    | zero =>
      intro i k hi hk
      obtain ⟨k, rfl⟩ : ∃ k', k = k' + 1 := ⟨k - 1, by omega⟩
      rw [table_Weight.l0, if_neg (by omega), List.take_of_length_le (by omega), checked_Dot_eq _ _ (by simp; omega) (map_in1 h) (map_in2 h) (by simp; omega), Option.bind_some, dotv, if_pos (by simp)]
    | succ m ih =>
      intro i k hi hk
      obtain ⟨k, rfl⟩ : ∃ k', k = k' + 1 := ⟨k - 1, by omega⟩
      have hlt : i < l.length := by omega
      have hsz := (h.2 _ (List.getElem_mem hlt)).1
      have hw : wrap64 ((l[i].f0.size : Int) - 1) = (l[i].f0.size : Int) - 1 := by unfold wrap64; omega
      have := ih (i + 1) k (by omega) (by omega)
      rw [List.take_succ_eq_append_getElem hlt, List.map_append, List.map_append] at this
      rw [table_Weight.l0, rd35 l i hlt, wi i (by omega), hw, mx_max', if_pos (by omega), if_pos (by omega), if_pos (by omega), if_pos (by simp; omega), if_pos (by simp; omega)]
      exact this
  have := loop l.length 0 k (by omega) (by omega)
  simpa [table_Weight.f] using this
theorem ref_weight (l : List S35) (h : Fine l) (k : Nat) (hk : 400 ≤ k) : gluepotref08_Weight.f k l = some (dotGo 0 (l.map (·.f1)) (l.map pr1)) := by
  have hlen := h.1
  have loop : ∀ m i (acc : Int) k, i + m = l.length → m + 1 ≤ k → InR acc → gluepotref08_Weight.l0 k l acc (i : Int) = some (dotGo acc ((l.drop i).map (·.f1)) ((l.drop i).map pr1)) := by
    intro m
    induction m with
    | zero =>
      intro i acc k hi hk ha
      obtain ⟨k, rfl⟩ : ∃ k', k = k' + 1 := ⟨k - 1, by omega⟩
      rw [gluepotref08_Weight.l0, if_neg (by omega), List.drop_of_length_le (by omega)]
      rfl
    | succ m ih =>
      intro i acc k hi hk ha
      obtain ⟨k, rfl⟩ : ∃ k', k = k' + 1 := ⟨k - 1, by omega⟩
      have hlt : i < l.length := by omega
      have hx := h.2 _ (List.getElem_mem hlt)
      have hsz := hx.1
      have hw : wrap64 ((l[i].f0.size : Int) - 1) = (l[i].f0.size : Int) - 1 := by unfold wrap64; omega
      have hp : mx 0 ((l[i].f0.size : Int) - 1) = pr1 l[i] := by rw [mx_max']; unfold pr1; omega
      rw [gluepotref08_Weight.l0, rd35 l i hlt, wi i (by omega), hw, hp, if_pos (by omega), if_pos (by omega), List.drop_eq_getElem_cons hlt, List.map_cons, List.map_cons, dotGo, ref06_Mul_eq hx.2 (pr1_in _ hx.1), Option.bind_some]
      by_cases h1 : (mulv l[i].f1 (pr1 l[i])).2 = true
      · rw [if_pos h1, if_pos h1, ref06_Add_eq ha mulv_in, Option.bind_some]
        by_cases h2 : (addv acc (mulv l[i].f1 (pr1 l[i])).1).2 = true
        · rw [if_pos h2, if_pos h2]
          exact ih (i + 1) _ k (by omega) (by omega) addv_in
        · rw [if_neg h2, if_neg h2]
      · rw [if_neg h1, if_neg h1]
  have := loop l.length 0 0 k (by omega) (by omega) (by unfold InR; omega)
  simpa [gluepotref08_Weight.f] using this
theorem less_eq : ∀ (a b : List UInt8), lessL a b = Op.bytesLess a b
  | [], [] => rfl
  | [], _ :: _ => rfl
  | _ :: _, [] => rfl
  | a :: x, b :: y => by
    rw [lessL, Op.bytesLess]
    by_cases h : a = b
    · subst h
      have : ¬ a < a := fun h2 => by have : a.toNat < a.toNat := h2; omega
      simp [this, less_eq x y]
    · simp [h]
/-- What is wrong with the words from the i-th on, behind the text a: nothing? -/
def good : ByteArray → List S35 → Bool
  | _, [] => true
  | a, x :: r => if x.f0.toList = [] then false else if x.f1 < 1 then false else if Op.bytesLess a.toList x.f0.toList = true then good x.f0 r else false
theorem good_counts : ∀ (a : ByteArray) (l : List S35), good a l = true → ∀ x ∈ l, 1 ≤ x.f1
  | _, [], _, x, hx => by cases hx
  | a, y :: r, h, x, hx => by
    rw [good] at h
    split at h
    · cases h
    · split at h
      · cases h
      · split at h
        · rcases List.mem_cons.1 hx with rfl | hx
          · omega
          · exact good_counts _ r h x hx
        · cases h
theorem table_check (l : List S35) (h : Fine l) : ∃ p e, (∀ k, 1000 ≤ k → table_Check.f k l = some (p, e)) ∧ (e = 0 ↔ good ByteArray.empty l = true ∧ (dotGo 0 (l.map (·.f1)) (l.map pr1)).2 = true) := by
  have hlen := h.1
  have loop : ∀ m i (a : ByteArray), i + m = l.length → ∃ p e, (∀ k, m + 500 ≤ k → table_Check.l0 k l a l (l.length : Int) (i : Int) = some (p, e)) ∧ (e = 0 ↔ good a (l.drop i) = true ∧ (dotGo 0 (l.map (·.f1)) (l.map pr1)).2 = true) := by
    intro m
    induction m with
    | zero =>
      intro i a hi
      rw [List.drop_of_length_le (by omega)]
      cases hd : (dotGo 0 (l.map (·.f1)) (l.map pr1)).2 with
      | true =>
        refine ⟨-1, 0, fun k hk => ?_, by simp [good]⟩
        obtain ⟨k, rfl⟩ : ∃ k', k = k' + 1 := ⟨k - 1, by omega⟩
        rw [table_Check.l0, if_neg (by omega), table_weight l h k (by omega), Option.bind_some, if_pos hd]
      | false =>
        refine ⟨(l.length : Int), 5, fun k hk => ?_, by simp⟩
        obtain ⟨k, rfl⟩ : ∃ k', k = k' + 1 := ⟨k - 1, by omega⟩
        rw [table_Check.l0, if_neg (by omega), table_weight l h k (by omega), Option.bind_some, if_neg (by rw [hd]; simp)]
    | succ m ih =>
      intro i a hi
      have hlt : i < l.length := by omega
      have hx := h.2 _ (List.getElem_mem hlt)
      rw [List.drop_eq_getElem_cons hlt, good]
      have step : ∀ k e, table_wrong.f k a l[i].f0 l[i].f1 = some e → table_Check.l0 (k + 1) l a l (l.length : Int) (i : Int) = if e = 0 then table_Check.l0 k l l[i].f0 l (l.length : Int) ((i + 1 : Nat) : Int) else some ((i : Int), e) := by
        intro k e he
        rw [table_Check.l0, rd35 l i hlt, wi i (by omega), if_pos (by omega), if_pos (by omega), if_pos (by omega), he, Option.bind_some]
      by_cases h1 : l[i].f0.toList = []
      · refine ⟨i, 1, fun k hk => ?_, by rw [if_pos h1]; simp⟩
        obtain ⟨k, rfl⟩ : ∃ k', k = k' + 1 + 1 := ⟨k - 2, by omega⟩
        rw [step (k + 1) 1 (by rw [table_wrong.f, if_pos h1, table_wrong.j0, if_pos rfl]), if_neg (by decide)]
      · rw [if_neg h1]
        by_cases h2 : l[i].f1 < 1
        · refine ⟨i, 1, fun k hk => ?_, by rw [if_pos h2]; simp⟩
          obtain ⟨k, rfl⟩ : ∃ k', k = k' + 1 + 1 := ⟨k - 2, by omega⟩
          rw [step (k + 1) 1 (by rw [table_wrong.f, if_neg h1, table_wrong.j0, if_pos (by simpa using h2)]), if_neg (by decide)]
        · rw [if_neg h2]
          have hs : ¬ ((l[i].f0.size : Nat) : Int) > 65536 := by omega
          by_cases h3 : Op.bytesLess a.toList l[i].f0.toList = true
          · obtain ⟨p, e, hk2, he⟩ := ih (i + 1) l[i].f0 (by omega)
            refine ⟨p, e, fun k hk => ?_, by rw [if_pos h3]; exact he⟩
            obtain ⟨k, rfl⟩ : ∃ k', k = k' + 1 + 1 := ⟨k - 2, by omega⟩
            rw [step (k + 1) 0 (by rw [table_wrong.f, if_neg h1, table_wrong.j0, if_neg (by simpa using h2), if_neg hs, if_pos h3]), if_pos rfl]
            exact hk2 (k + 1) (by omega)
          · refine ⟨i, 6, fun k hk => ?_, by rw [if_neg h3]; simp⟩
            obtain ⟨k, rfl⟩ : ∃ k', k = k' + 1 + 1 := ⟨k - 2, by omega⟩
            rw [step (k + 1) 6 (by rw [table_wrong.f, if_neg h1, table_wrong.j0, if_neg (by simpa using h2), if_neg hs, if_neg h3]), if_neg (by decide)]
  obtain ⟨p, e, h1, h2⟩ := loop l.length 0 ByteArray.empty (by omega)
  exact ⟨p, e, fun k hk => h1 k (by omega), by simpa using h2⟩
theorem less_f {l : List S35} (h : Fine l) (i j : Nat) (hi : i < l.length) (hj : j < l.length) : gluepotref01_Less.f l[i].f0 l[j].f0 = some (Op.bytesLess l[i].f0.toList l[j].f0.toList) := by
  have h1 := (h.2 _ (List.getElem_mem hi)).1
  have h2 := (h.2 _ (List.getElem_mem hj)).1
  rw [gluepotref01_Less.f, if_pos ⟨by omega, by omega⟩, less_eq, ByteArray.toList_eq, ByteArray.toList_eq]
theorem ref_check (l : List S35) (h : Fine l) : ∃ p e, (∀ k, 1000 ≤ k → gluepotref08_Check.f k l = some (p, e)) ∧ (e = 0 ↔ good ByteArray.empty l = true ∧ (dotGo 0 (l.map (·.f1)) (l.map pr1)).2 = true) := by
  have hlen := h.1
  have loop : ∀ m i (a : ByteArray), i + m = l.length → ((i = 0 ∧ a = ByteArray.empty) ∨ ∃ hp : i - 1 < l.length, 0 < i ∧ a = l[i - 1].f0) → ∃ p e, (∀ k, 2 * m + 500 ≤ k → gluepotref08_Check.l0 k l (i : Int) = some (p, e)) ∧ (e = 0 ↔ good a (l.drop i) = true ∧ (dotGo 0 (l.map (·.f1)) (l.map pr1)).2 = true) := by
    intro m
    induction m with
    | zero =>
      intro i a hi _
      rw [List.drop_of_length_le (by omega)]
      cases hd : (dotGo 0 (l.map (·.f1)) (l.map pr1)).2 with
      | true =>
        refine ⟨-1, 0, fun k hk => ?_, by simp [good]⟩
        obtain ⟨k, rfl⟩ : ∃ k', k = k' + 1 := ⟨k - 1, by omega⟩
        rw [gluepotref08_Check.l0, if_neg (by omega), ref_weight l h k (by omega), Option.bind_some, if_pos hd]
      | false =>
        refine ⟨(l.length : Int), 5, fun k hk => ?_, by simp⟩
        obtain ⟨k, rfl⟩ : ∃ k', k = k' + 1 := ⟨k - 1, by omega⟩
        rw [gluepotref08_Check.l0, if_neg (by omega), ref_weight l h k (by omega), Option.bind_some, if_neg (by rw [hd]; simp)]
    | succ m ih =>
      intro i a hi ha
      have hlt : i < l.length := by omega
      have hx := h.2 _ (List.getElem_mem hlt)
      have hs : ¬ ((l[i].f0.size : Nat) : Int) > 65536 := by omega
      rw [List.drop_eq_getElem_cons hlt, good]
      by_cases h1 : l[i].f0.toList = []
      · refine ⟨i, 1, fun k hk => ?_, by rw [if_pos h1]; simp⟩
        obtain ⟨k, rfl⟩ : ∃ k', k = k' + 1 + 1 := ⟨k - 2, by omega⟩
        rw [gluepotref08_Check.l0, rd35 l i hlt, if_pos (by omega), if_pos (by omega), if_pos h1, gluepotref08_Check.j1, if_pos rfl]
      · rw [if_neg h1]
        by_cases h2 : l[i].f1 < 1
        · refine ⟨i, 1, fun k hk => ?_, by rw [if_pos h2]; simp⟩
          obtain ⟨k, rfl⟩ : ∃ k', k = k' + 1 + 1 := ⟨k - 2, by omega⟩
          rw [gluepotref08_Check.l0, rd35 l i hlt, if_pos (by omega), if_pos (by omega), if_neg h1, gluepotref08_Check.j1, if_pos (by simpa using h2)]
        · rw [if_neg h2]
          have go : ∀ k, gluepotref08_Check.l0 (k + 1 + 1) l (i : Int) = if 0 < i then (if Op.bytesLess a.toList l[i].f0.toList = true then gluepotref08_Check.l0 k l ((i + 1 : Nat) : Int) else some ((i : Int), 6)) else gluepotref08_Check.l0 k l ((i + 1 : Nat) : Int) := by
            intro k
            rw [gluepotref08_Check.l0, rd35 l i hlt, if_pos (by omega), if_pos (by omega), if_neg h1, gluepotref08_Check.j1, if_neg (by simpa using h2), if_pos (by omega), if_pos (by omega), rd35 l i hlt, if_neg hs, wi i (by omega)]
            rcases ha with ⟨h0, _⟩ | ⟨hp, h0, rfl⟩
            · rw [if_neg (by omega), if_neg (by omega)]
            · have hw : wrap64 ((i : Int) - 1) = ((i - 1 : Nat) : Int) := by unfold wrap64; omega
              rw [if_pos (by omega), if_pos h0, hw, if_pos (by omega), if_pos (by omega), rd35 l (i - 1) hp, less_f h (i - 1) i hp hlt, Option.bind_some]
          obtain ⟨p, e, hk2, he⟩ := ih (i + 1) l[i].f0 (by omega) (.inr ⟨by simpa using hlt, by omega, by simp⟩)
          by_cases h3 : Op.bytesLess a.toList l[i].f0.toList = true
          · refine ⟨p, e, fun k hk => ?_, by rw [if_pos h3]; exact he⟩
            obtain ⟨k, rfl⟩ : ∃ k', k = k' + 1 + 1 := ⟨k - 2, by omega⟩
            rw [go, if_pos h3]
            split <;> exact hk2 k (by omega)
          · have hpos : 0 < i := by
              rcases ha with ⟨_, rfl⟩ | ⟨_, h0, _⟩
              · exfalso
                apply h3
                rw [show ByteArray.empty.toList = [] from (by rw [ByteArray.toList_eq]; rfl)]
                cases hl : l[i].f0.toList with
                | nil => exact absurd hl h1
                | cons c r => rfl
              · exact h0
            refine ⟨i, 6, fun k hk => ?_, by rw [if_neg h3]; simp⟩
            obtain ⟨k, rfl⟩ : ∃ k', k = k' + 1 + 1 := ⟨k - 2, by omega⟩
            rw [go, if_pos hpos, if_neg h3]
  obtain ⟨p, e, h1, h2⟩ := loop l.length 0 ByteArray.empty (by omega) (.inl ⟨rfl, rfl⟩)
  exact ⟨p, e, fun k hk => h1 k (by omega), by simpa using h2⟩
end Go.Proofs.Ytbfjlfbahjmibaa.Tab

namespace Go.Proofs.Ytbfjlfbahjmibaa.Bpe
open Go.RowKit Go.Proofs.YtbfjlfbahjmibaaW.PrintWords Go.Proofs.Ytbfjlfbahjmibaa.Pr
set_option linter.unusedVariables false
set_option linter.unusedSimpArgs false
/-! ### Join and Texts -/
theorem join_same6 : ∀ (k : Nat) (w out : List ByteArray) (i : Int) (a b : ByteArray), naive_Join.l0 k w out i a b = gluepotref16_Join.l0 k w out i a b
  | 0, w, out, i, a, b => by rw [naive_Join.l0, gluepotref16_Join.l0]
  | k + 1, w, out, i, a, b => by
    have hw : wrap64 (wrap64 (i + 1) + 1) = wrap64 (i + 2) := by unfold wrap64; omega
    rw [naive_Join.l0, gluepotref16_Join.l0, hw]
    simp only [join_same6 k]
theorem join_at (w : List ByteArray) (a b : ByteArray) (hw : w.length ≤ 100000) (ha : a.size ≤ 1000000) (hb : b.size ≤ 1000000) : ∀ (m i k : Nat) (out : List ByteArray), w.length ≤ i + m → i ≤ w.length → out.length ≤ i → m + 1 ≤ k →
    gluepotref16_Join.l0 k w out (i : Int) a b = some (out ++ jn a b (w.drop i)) := by
  intro m
  induction m with
  | zero =>
    intro i k out hi hi2 ho hk
    obtain ⟨k, rfl⟩ : ∃ k', k = k' + 1 := ⟨k - 1, by omega⟩
    rw [gluepotref16_Join.l0, if_neg (by omega), List.drop_of_length_le (by omega), jn_nil, List.append_nil]
  | succ m ih =>
    intro i k out hi hi2 ho hk
    obtain ⟨k, rfl⟩ : ∃ k', k = k' + 1 := ⟨k - 1, by omega⟩
    by_cases hlt : i < w.length
    · have hw2 : wrap64 ((i : Int) + 2) = ((i + 2 : Nat) : Int) := by unfold wrap64; omega
      have c4 : out.length < 8796093022208 := by omega
      have hd := List.drop_eq_getElem_cons hlt
      rw [gluepotref16_Join.l0, wi i (by omega), hw2, if_pos (by omega), rdB w i hlt]
      have rest : ∀ x, x = w[i] → gluepotref16_Join.l0 k w (out ++ [x]) ((i + 1 : Nat) : Int) a b = some (out ++ x :: jn a b (w.drop (i + 1))) := fun x hx => by
        rw [ih (i + 1) k (out ++ [x]) (by omega) (by omega) (by simp; omega) (by omega), List.append_assoc]
        rfl
      by_cases h1 : i + 1 < w.length
      · have hd2 := List.drop_eq_getElem_cons h1
        rw [if_pos (by omega), if_pos (by omega), rdB w (i + 1) h1, hd, hd2, jn_two]
        by_cases h2 : w[i] = a
        · rw [if_pos (list_inj.2 h2), if_pos (by omega)]
          by_cases h3 : w[i + 1] = b
          · rw [if_pos (list_inj.2 h3), if_pos (by omega), if_pos c4, if_pos ⟨h2, h3⟩, ih (i + 2) k (out ++ [a ++ b]) (by omega) (by omega) (by simp; omega) (by omega), List.append_assoc]
            rfl
          · rw [if_neg (fun h => h3 (list_inj.1 h)), if_pos c4, if_neg (fun h => h3 h.2), rest _ rfl, hd2]
        · rw [if_neg (fun h => h2 (list_inj.1 h)), if_pos c4, if_neg (fun h => h2 h.1), rest _ rfl, hd2]
      · have hd2 : w.drop (i + 1) = [] := List.drop_of_length_le (by omega)
        rw [if_neg (by omega), if_pos (by omega), if_pos c4, rest _ rfl, hd, hd2, jn_one, jn_nil]
    · rw [gluepotref16_Join.l0, if_neg (by omega), List.drop_of_length_le (by omega), jn_nil, List.append_nil]
theorem rjoin_f {w : List ByteArray} {a b : ByteArray} {k : Nat} (hw : w.length ≤ 100000) (ha : a.size ≤ 1000000) (hb : b.size ≤ 1000000) (hk : w.length + 1 ≤ k) : gluepotref16_Join.f k w a b = some (jn a b w) := by
  have := join_at w a b hw ha hb w.length 0 k [] (by omega) (by omega) (by simp) hk
  simpa [gluepotref16_Join.f] using this
theorem njoin_f {w : List ByteArray} {a b : ByteArray} {k : Nat} (hw : w.length ≤ 100000) (ha : a.size ≤ 1000000) (hb : b.size ≤ 1000000) (hk : w.length + 1 ≤ k) : naive_Join.f k w a b = some (jn a b w) := by
  rw [naive_Join.f, join_same6]
  exact rjoin_f hw ha hb hk
theorem rtexts_f (s : ByteArray) (hs : s.size ≤ 100000) (k : Nat) (hk : s.size + 1 ≤ k) : gluepotref16_Texts.f k s = some (base (tx s)) := by
  have hl : s.data.toList.length = s.size := by simp
  have loop : ∀ m i k, i + m = s.size → m + 1 ≤ k → gluepotref16_Texts.l0 k s ((s.data.toList.take i).map mkT) (i : Int) = some (s.data.toList.map mkT) := by
    intro m
    induction m with
    | zero =>
      intro i k hi hk
      obtain ⟨k, rfl⟩ : ∃ k', k = k' + 1 := ⟨k - 1, by omega⟩
      rw [gluepotref16_Texts.l0, if_neg (by omega), List.take_of_length_le (by omega)]
    | succ m ih =>
      intro i k hi hk
      obtain ⟨k, rfl⟩ : ∃ k', k = k' + 1 := ⟨k - 1, by omega⟩
      have hlt : i < s.data.toList.length := by omega
      have hx : s.extract i (i + 1) = mkT s.data.toList[i] := by
        apply ByteArray.ext
        apply Array.toList_inj.1
        rw [Lib.extract_data, show i + 1 - i = 1 by omega, List.drop_eq_getElem_cons hlt]
        rfl
      rw [gluepotref16_Texts.l0, wi i (by omega), if_pos (by omega), if_pos (by omega), if_pos (by omega), if_pos (by omega), if_pos (by simp; omega), Int.toNat_natCast, Int.toNat_natCast, hx]
      have := ih (i + 1) k (by omega) (by omega)
      rw [List.take_succ_eq_append_getElem hlt, List.map_append] at this
      exact this
  have := loop s.size 0 k (by omega) hk
  simpa [gluepotref16_Texts.f, base, tx] using this
/-! ### the words behind merges -/
/-- The words of texts behind merges. -/
def Ws (ts : List (List UInt8)) (o : List S45) : List (List ByteArray) := ts.map fun t => seg o (base t)
theorem Ws_snoc (ts : List (List UInt8)) (o : List S45) (x : S45) : Ws ts (o ++ [x]) = (Ws ts o).map (jn x.f0 x.f1) := by
  simp only [Ws, List.map_map]
  apply List.map_congr_left
  intro t _
  exact seg_snoc o x (base t)
theorem rem_jn_le (a b : ByteArray) : ∀ ws : List (List ByteArray), rem (ws.map (jn a b)) ≤ rem ws
  | [] => Nat.le_refl _
  | w :: ws => by
    have := rem_jn_le a b ws
    have := jn_len_le (a := a) (b := b) w
    rw [List.map_cons, rem, rem]
    omega
theorem rem_jn_lt (a b : ByteArray) : ∀ (ws : List (List ByteArray)) (cs : List Int), 1 ≤ wc a b ws cs → rem (ws.map (jn a b)) + 1 ≤ rem ws
  | [], _, h => by simp [wc] at h
  | _ :: _, [], h => by simp [wc] at h
  | w :: ws, c :: cs, h => by
    rw [List.map_cons, rem, rem]
    rw [wc] at h
    by_cases h1 : 1 ≤ wc a b ws cs
    · have := rem_jn_lt a b ws cs h1
      have := jn_len_le (a := a) (b := b) w
      omega
    · have h2 : 1 ≤ pc a b w := by
        rcases Nat.eq_zero_or_pos (pc a b w) with hp | hp
        · rw [hp] at h
          split at h <;> simp at h <;> omega
        · exact hp
      have := jn_len_lt w h2
      have := rem_jn_le a b ws
      omega
theorem tot_jn (a b : ByteArray) : ∀ (ws : List (List ByteArray)) (cs : List Int), tot (ws.map (jn a b)) cs ≤ tot ws cs
  | [], _ => by simp [tot]
  | _ :: _, [] => by simp [tot]
  | w :: ws, c :: cs => by
    have h1 := tot_jn a b ws cs
    have h2 := jn_len_le (a := a) (b := b) w
    rw [List.map_cons, tot, tot]
    split
    · omega
    · have : c * (((jn a b w).length - 1 : Nat) : Int) ≤ c * ((w.length - 1 : Nat) : Int) := Int.mul_le_mul_of_nonneg_left (by omega) (by omega)
      omega
theorem mem_size {w : List ByteArray} {x : ByteArray} (h : x ∈ w) : x.size ≤ (flat w).length := by
  obtain ⟨A, C, rfl⟩ := List.append_of_mem h
  rw [flat_append, flat_cons, List.length_append, List.length_append, tx_size]
  omega
/-- What is known of a table that is right, and of what it is behind merges. -/
structure Okay (ts : List (List UInt8)) (cs : List Int) : Prop where
  many : ts.length ≤ 60
  len : ∀ t ∈ ts, t.length ≤ 100
  same : cs.length = ts.length
  cnt : ∀ c ∈ cs, 1 ≤ c ∧ c ≤ 9223372036854775807
  tot : tot (Ws ts []) cs ≤ 9223372036854775807
theorem rem_le : ∀ (ws : List (List ByteArray)), (∀ w ∈ ws, w.length ≤ 100) → rem ws ≤ 103 * ws.length
  | [], _ => by simp [rem]
  | w :: ws, h => by
    have := rem_le ws (fun x hx => h x (List.mem_cons_of_mem _ hx))
    have := h w (by simp)
    rw [rem, List.length_cons]
    omega
section
variable {ts : List (List UInt8)} {cs : List Int} {o : List S45}
theorem Ws_len : (Ws ts o).length = ts.length := by simp [Ws]
theorem Okay.lens (h : Okay ts cs) : ∀ w ∈ Ws ts o, w.length ≤ 100 := fun w hw => by
  obtain ⟨t, ht, rfl⟩ := List.mem_map.1 hw
  have := seg_len o (base t)
  have := h.len t ht
  simp [base] at *
  omega
theorem Okay.rem (h : Okay ts cs) : rem (Ws ts o) ≤ 6180 := by
  have := rem_le (Ws ts o) h.lens
  have := h.many
  rw [Ws_len] at *
  omega
theorem Okay.sizes (h : Okay ts cs) : ∀ w ∈ Ws ts o, ∀ s ∈ w, s.size ≤ 100 := fun w hw s hs => by
  obtain ⟨t, ht, rfl⟩ := List.mem_map.1 hw
  have h1 := mem_size hs
  rw [flat_seg, flat_base] at h1
  exact Nat.le_trans h1 (h.len t ht)
theorem Okay.totO (h : Okay ts cs) : Bpe.tot (Ws ts o) cs ≤ 9223372036854775807 := by
  have key : ∀ n, ∀ o : List S45, o.length = n → Bpe.tot (Ws ts o) cs ≤ Bpe.tot (Ws ts []) cs := by
    intro n
    induction n with
    | zero => intro o ho; rw [List.length_eq_zero_iff.1 ho]; exact Int.le_refl _
    | succ n ih =>
      intro o ho
      obtain ⟨p, x, rfl⟩ : ∃ p x, o = p ++ [x] := ⟨o.dropLast, o.getLast (by intro e; rw [e] at ho; simp at ho), (List.dropLast_concat_getLast _).symm⟩
      rw [Ws_snoc]
      exact Int.le_trans (tot_jn _ _ _ _) (ih p (by simp at ho; exact ho))
  exact Int.le_trans (key _ o rfl) h.tot
theorem Okay.guard (h : Okay ts cs) (o : List S45) : guardB (Ws ts o) cs := by
  have h1 := h.many
  have h2 := h.rem (o := o)
  exact ⟨by rw [Ws_len]; omega, by omega, fun w hw s hs => by have := h.sizes w hw s hs; omega, fun c hc => (h.cnt c hc).2, h.totO⟩
theorem Okay.best (h : Okay ts cs) (o : List S45) : ∃ L R n, IsBest (Ws ts o) cs L R n ∧ gluepotref16_Best.f (Ws ts o) cs = some (L, R, n) ∧ naive_Best.f (Ws ts o) cs = some (L, R, n) := by
  have hg := h.guard o
  exact ⟨_, _, _, bestS_is (ws := Ws ts o) (cs := cs) hg.2.2.1, by rw [gluepotref16_Best.f, if_pos hg], by rw [naive_Best.f, if_pos hg]⟩
theorem IsBest.sizes {L R : ByteArray} {n : Int} (h : Okay ts cs) (hb : IsBest (Ws ts o) cs L R n) : L.size ≤ 100 ∧ R.size ≤ 100 := by
  rcases hb with ⟨rfl, rfl, _⟩ | ⟨h1, h2, _⟩
  · exact ⟨by decide, by decide⟩
  · obtain ⟨i, w, c, h3, _, _, h4⟩ := wc_pos (a := L) (b := R) (ws := Ws ts o) (cs := cs) (by omega)
    obtain ⟨j, h5, h6⟩ := pc_at h4
    have hw := List.mem_of_getElem? h3
    exact ⟨h.sizes w hw L (List.mem_of_getElem? h5), h.sizes w hw R (List.mem_of_getElem? h6)⟩
theorem IsBest.wc {L R : ByteArray} {n : Int} {ws cs} (hb : IsBest ws cs L R n) (h : 1 ≤ n) : n = Bpe.wc L R ws cs := by
  rcases hb with ⟨_, _, h1, _⟩ | ⟨_, h2, _⟩
  · omega
  · exact h2
end
/-- What is learnt behind merges that were learnt. -/
inductive Lrn (ts : List (List UInt8)) (cs : List Int) (budget least : Int) : List S45 → List S45 → Prop
  | full {o} : budget ≤ (o.length : Int) → Lrn ts cs budget least o o
  | stop {o L R n} : (o.length : Int) < budget → IsBest (Ws ts o) cs L R n → n < least → Lrn ts cs budget least o o
  | step {o L R n r} : (o.length : Int) < budget → IsBest (Ws ts o) cs L R n → least ≤ n → Lrn ts cs budget least (o ++ [⟨L, R⟩]) r → Lrn ts cs budget least o r
section
variable {ts : List (List UInt8)} {cs : List Int} {o : List S45}
theorem Lrn.next {budget least : Int} {L R : ByteArray} {n : Int} (hl : 1 ≤ least) (hb : IsBest (Ws ts o) cs L R n) (hn : least ≤ n) : Bpe.rem (Ws ts (o ++ [⟨L, R⟩])) + 1 ≤ Bpe.rem (Ws ts o) := by
  rw [Ws_snoc]
  exact rem_jn_lt L R _ cs (by have := hb.wc (by omega); omega)
theorem Lrn.all (h : Okay ts cs) (budget : Int) {least : Int} (hl : 1 ≤ least) : ∀ N, ∀ o, Bpe.rem (Ws ts o) ≤ N → ∃ r, Lrn ts cs budget least o r := by
  intro N
  induction N with
  | zero =>
    intro o hN
    obtain ⟨L, R, n, hb, _⟩ := h.best o
    by_cases h1 : budget ≤ (o.length : Int)
    · exact ⟨o, .full h1⟩
    · by_cases h2 : n < least
      · exact ⟨o, .stop (by omega) hb h2⟩
      · have := Lrn.next (budget := budget) hl hb (by omega)
        omega
  | succ N ih =>
    intro o hN
    obtain ⟨L, R, n, hb, _⟩ := h.best o
    by_cases h1 : budget ≤ (o.length : Int)
    · exact ⟨o, .full h1⟩
    · by_cases h2 : n < least
      · exact ⟨o, .stop (by omega) hb h2⟩
      · have := Lrn.next (budget := budget) hl hb (by omega)
        obtain ⟨r, hr⟩ := ih (o ++ [⟨L, R⟩]) (by omega)
        exact ⟨r, .step (by omega) hb (by omega) hr⟩
theorem Lrn.ext {budget least : Int} {r : List S45} (h : Lrn ts cs budget least o r) : ∃ p, r = o ++ p := by
  induction h with
  | full _ => exact ⟨[], by simp⟩
  | stop _ _ _ => exact ⟨[], by simp⟩
  | @step o L R n r _ _ _ _ ih =>
    obtain ⟨p, hp⟩ := ih
    exact ⟨⟨L, R⟩ :: p, by rw [hp]; simp⟩
theorem Lrn.budget {budget least : Int} {r : List S45} (h : Lrn ts cs budget least o r) (ho : (o.length : Int) ≤ budget) : (r.length : Int) ≤ budget := by
  induction h with
  | full _ => exact ho
  | stop _ _ _ => exact ho
  | step h1 _ _ _ ih => exact ih (by simp; omega)
/-- With a budget as great, and a least count as small, what is learnt begins alike. -/
theorem Lrn.begins {b1 b2 l1 l2 : Int} (hb : b1 ≤ b2) (hl : l2 ≤ l1) {r1 r2 : List S45} (h1 : Lrn ts cs b1 l1 o r1) (h2 : Lrn ts cs b2 l2 o r2) : ∃ p, r2 = r1 ++ p := by
  induction h1 with
  | full _ => exact h2.ext
  | stop _ _ _ => exact h2.ext
  | step g1 g2 g3 _ ih =>
    cases h2 with
    | full k1 => omega
    | stop k1 k2 k3 =>
      have := (g2.same k2).2.2
      omega
    | step k1 k2 k3 k4 =>
      obtain ⟨rfl, rfl, rfl⟩ := g2.same k2
      exact ih k4
theorem Lrn.one {budget least : Int} {r1 r2 : List S45} (h1 : Lrn ts cs budget least o r1) (h2 : Lrn ts cs budget least o r2) : r1 = r2 := by
  obtain ⟨p, hp⟩ := h1.begins (Int.le_refl _) (Int.le_refl _) h2
  obtain ⟨q, hq⟩ := h2.begins (Int.le_refl _) (Int.le_refl _) h1
  have e : p.length = 0 := by
    have h3 := congrArg List.length hp
    have h4 := congrArg List.length hq
    rw [List.length_append] at h3 h4
    omega
  rw [hp, List.length_eq_zero_iff.1 e, List.append_nil]
/-- Each merge was there when it was learnt. -/
def Chain (ts : List (List UInt8)) (r : List S45) : Prop := ∀ o x p, r = o ++ x :: p → ∃ t ∈ ts, 1 ≤ pc x.f0 x.f1 (seg o (base t))
theorem Chain.snoc {x : S45} (h : Chain ts o) (hx : ∃ t ∈ ts, 1 ≤ pc x.f0 x.f1 (seg o (base t))) : Chain ts (o ++ [x]) := fun o' x' p e => by
  rcases List.append_eq_append_iff.1 e with ⟨a, h1, h2⟩ | ⟨a, h1, h2⟩
  · cases a with
    | nil =>
      simp at h1 h2
      obtain ⟨rfl, _⟩ := h2
      rw [h1]
      exact hx
    | cons y a =>
      rw [List.cons_append] at h2
      have := congrArg List.length h2
      simp at this
  · cases a with
    | nil =>
      simp at h1 h2
      obtain ⟨rfl, _⟩ := h2
      rw [← h1]
      exact hx
    | cons y a =>
      rw [List.cons_append] at h2
      injection h2 with h2 h3
      subst h2
      exact h o' x' a h1
theorem IsBest.there {L R : ByteArray} {n : Int} (hb : IsBest (Ws ts o) cs L R n) (h1 : 1 ≤ n) : ∃ t ∈ ts, 1 ≤ pc L R (seg o (base t)) := by
  have := hb.wc h1
  obtain ⟨i, w, c, h3, _, _, h4⟩ := wc_pos (a := L) (b := R) (ws := Ws ts o) (cs := cs) (by omega)
  obtain ⟨t, ht, rfl⟩ := List.mem_map.1 (List.mem_of_getElem? h3)
  exact ⟨t, ht, h4⟩
theorem Lrn.chain {budget least : Int} {r : List S45} (hl : 1 ≤ least) (h : Lrn ts cs budget least o r) (hc : Chain ts o) : Chain ts r := by
  induction h with
  | full _ => exact hc
  | stop _ _ _ => exact hc
  | step _ h2 h3 _ ih => exact ih (hc.snoc (h2.there (by omega)))
end
end Go.Proofs.Ytbfjlfbahjmibaa.Bpe

namespace Go.Proofs.Ytbfjlfbahjmibaa.Bpe
open Go.RowKit Go.Proofs.YtbfjlfbahjmibaaW.PrintWords Go.Proofs.Ytbfjlfbahjmibaa.Pr
open Go.Proofs.Ytbfjlfbahjmibaa.Tab (InR Fine good pr1 dotGo mulv addv table_check ref_check rd35)
set_option linter.unusedVariables false
set_option linter.unusedSimpArgs false
/-! ### a table that is right -/
def tsOf (l : List S35) : List (List UInt8) := l.map fun x => tx x.f0
def csOf (l : List S35) : List Int := l.map fun x => x.f1
theorem Ws_of (l : List S35) : Ws (tsOf l) [] = l.map fun x => base (tx x.f0) := by
  rw [Ws, tsOf, List.map_map]
  rfl
theorem dotGo_tot : ∀ (l : List S35) (acc : Int), 0 ≤ acc → acc ≤ 9223372036854775807 → (∀ x ∈ l, 1 ≤ x.f1) → (dotGo acc (l.map (·.f1)) (l.map pr1)).2 = true → acc + tot (l.map fun x => base (tx x.f0)) (l.map (·.f1)) ≤ 9223372036854775807
  | [], acc, h0, h1, hc, h => by simpa [tot] using h1
  | x :: l, acc, h0, h1, hc, h => by
    have hx := hc x (by simp)
    rw [List.map_cons, List.map_cons, dotGo] at h
    rw [List.map_cons, List.map_cons, tot, if_neg (by omega)]
    have hlen : ((base (tx x.f0)).length - 1 : Nat) = x.f0.size - 1 := by simp [base, tx_size]
    rw [hlen]
    have hp : pr1 x = ((x.f0.size - 1 : Nat) : Int) := by unfold pr1; omega
    rw [hp] at h
    unfold mulv at h
    split at h
    · rename_i hm
      rw [if_pos rfl] at h
      unfold addv at h
      split at h
      · rename_i ha
        rw [if_pos rfl] at h
        have := dotGo_tot l (acc + x.f1 * ((x.f0.size - 1 : Nat) : Int)) (by omega) ha.2.2 (fun y hy => hc y (List.mem_cons_of_mem _ hy)) h
        omega
      · simp at h
    · simp at h
theorem good_counts : ∀ (a : ByteArray) (l : List S35), good a l = true → ∀ x ∈ l, 1 ≤ x.f1
  | _, [], _, x, hx => by cases hx
  | a, y :: l, h, x, hx => by
    rw [good] at h
    split at h
    · cases h
    · split at h
      · cases h
      · split at h
        · rcases List.mem_cons.1 hx with rfl | hx
          · omega
          · exact good_counts _ l h x hx
        · cases h
theorem okay_of {l : List S35} (h : Fine l) (hg : good ByteArray.empty l = true) (hd : (dotGo 0 (l.map (·.f1)) (l.map pr1)).2 = true) : Okay (tsOf l) (csOf l) := by
  refine ⟨by simpa [tsOf] using h.1, fun t ht => ?_, by simp [tsOf, csOf], fun c hc => ?_, ?_⟩
  · obtain ⟨x, hx, rfl⟩ := List.mem_map.1 ht
    rw [tx_size]
    exact (h.2 x hx).1
  · obtain ⟨x, hx, rfl⟩ := List.mem_map.1 hc
    exact ⟨good_counts _ _ hg x hx, (h.2 x hx).2.2⟩
  · have := dotGo_tot l 0 (by omega) (by omega) (good_counts _ _ hg) hd
    rw [Int.zero_add, ← Ws_of] at this
    exact this
/-! ### the two texts -/
theorem set_mid {α : Type} (A : List α) (x : α) (B : List α) (y : α) : (A ++ x :: B).set A.length y = A ++ y :: B := by simp
section
variable {l : List S35}
theorem clone_f {s : ByteArray} (h : s.size ≤ 1000000) : strings_Clone.f s = some s := by
  rw [strings_Clone.f, stringslite_Clone.f, if_pos h, Option.bind_some]
theorem nlearn_l0 (hf : Fine l) (b least : Int) (k2 : Nat) : ∀ m i k, i + m = l.length → k = k2 + m + 1 → naive_Learn.l0 k b least ((l.take i).map fun x => base (tx x.f0)) ((l.take i).map (·.f1)) l (l.length : Int) (i : Int) = naive_Learn.l1 k2 b least (Ws (tsOf l) []) (csOf l) [] := by
  intro m
  induction m with
  | zero =>
    intro i k hi hk
    subst hk
    rw [naive_Learn.l0, if_neg (by omega), List.take_of_length_le (by omega), Ws_of]
    rfl
  | succ m ih =>
    intro i k hi hk
    subst hk
    have hlt : i < l.length := by omega
    have h60 := hf.1
    have hx := (hf.2 _ (List.getElem_mem hlt)).1
    have ht : stats_texts.f l[i].f0 = some (base (tx l[i].f0)) := by rw [stats_texts.f, if_pos (by omega)]; rfl
    rw [show k2 + (m + 1) + 1 = (k2 + m + 1) + 1 by omega, naive_Learn.l0, if_pos (by omega), if_pos (by omega), if_pos (by omega), rd35 l i hlt, ht, Option.bind_some, Option.bind_some, if_pos (by simp; omega), Option.bind_some, if_pos (by simp; omega), wi i (by omega)]
    have := ih (i + 1) (k2 + m + 1) (by omega) rfl
    rw [List.take_succ_eq_append_getElem hlt, List.map_append, List.map_append] at this
    exact this
theorem rlearn_l0 (hf : Fine l) (b least : Int) (k2 : Nat) (hk2 : 200 ≤ k2) : ∀ m i k, i + m = l.length → k = k2 + m + 1 → gluepotref16_Learn.l0 k l b least [] ((l.take i).map fun x => base (tx x.f0)) ((l.take i).map (·.f1)) (i : Int) = gluepotref16_Learn.l1 k2 b least [] (Ws (tsOf l) []) (csOf l) := by
  intro m
  induction m with
  | zero =>
    intro i k hi hk
    subst hk
    rw [gluepotref16_Learn.l0, if_neg (by omega), List.take_of_length_le (by omega), Ws_of]
    rfl
  | succ m ih =>
    intro i k hi hk
    subst hk
    have hlt : i < l.length := by omega
    have h60 := hf.1
    have hx := (hf.2 _ (List.getElem_mem hlt)).1
    rw [show k2 + (m + 1) + 1 = (k2 + m + 1) + 1 by omega, gluepotref16_Learn.l0, if_pos (by omega), if_pos (by omega), rd35 l i hlt, rtexts_f _ (by omega) _ (by omega), Option.bind_some, if_pos (by simp; omega), if_pos (by simp; omega), wi i (by omega)]
    have := ih (i + 1) (k2 + m + 1) (by omega) rfl
    rw [List.take_succ_eq_append_getElem hlt, List.map_append, List.map_append] at this
    exact this
end
section
variable {ws : List (List ByteArray)} {cs : List Int}
theorem nlearn_l2 (hw : ws.length ≤ 60) (hl : ∀ w ∈ ws, w.length ≤ 100) {L R : ByteArray} (hL : L.size ≤ 100) (hR : R.size ≤ 100) (b least : Int) (o : List S45) (k2 : Nat) (hk2 : 200 ≤ k2) : ∀ m i k, i + m = ws.length → k = k2 + m + 1 →
    naive_Learn.l2 k b least ((ws.take i).map (jn L R) ++ ws.drop i) cs o (ws.length : Int) (i : Int) L R = naive_Learn.l1 k2 b least (ws.map (jn L R)) cs o := by
  intro m
  induction m with
  | zero =>
    intro i k hi hk
    subst hk
    rw [naive_Learn.l2, if_neg (by omega), List.take_of_length_le (by omega), List.drop_of_length_le (by omega), List.append_nil]
  | succ m ih =>
    intro i k hi hk
    subst hk
    have hlt : i < ws.length := by omega
    have hx := hl _ (List.getElem_mem hlt)
    have hlen : ((ws.take i).map (jn L R) ++ ws.drop i).length = ws.length := by simp; omega
    have hd := List.drop_eq_getElem_cons hlt
    have htl : ((ws.take i).map (jn L R)).length = i := by simp; omega
    have hrd : rd_L4 ((ws.take i).map (jn L R) ++ ws.drop i) (i : Int) = ws[i] := by
      rw [rdW _ i (by omega), List.getElem_append_right (by omega)]
      simp only [htl, Nat.sub_self, List.getElem_drop, Nat.add_zero]
    rw [show k2 + (m + 1) + 1 = (k2 + m + 1) + 1 by omega, naive_Learn.l2, if_pos (by omega), if_pos (by omega), if_pos (by omega), hrd, njoin_f (by omega) (by omega) (by omega) (by omega), Option.bind_some, wi i (by omega), Int.toNat_natCast]
    have e : ((ws.take i).map (jn L R) ++ ws.drop i).set i (jn L R ws[i]) = (ws.take (i + 1)).map (jn L R) ++ ws.drop (i + 1) := by
      have := set_mid ((ws.take i).map (jn L R)) ws[i] (ws.drop (i + 1)) (jn L R ws[i])
      rw [htl, ← hd] at this
      rw [this, List.take_succ_eq_append_getElem hlt, List.map_append, List.append_assoc]
      rfl
    rw [e]
    exact ih (i + 1) (k2 + m + 1) (by omega) rfl
theorem rlearn_l2 (hw : ws.length ≤ 60) (hl : ∀ w ∈ ws, w.length ≤ 100) {L R : ByteArray} (hL : L.size ≤ 100) (hR : R.size ≤ 100) (b least : Int) (o : List S45) (k2 : Nat) (hk2 : 200 ≤ k2) : ∀ m i k, i + m = ws.length → k = k2 + m + 1 →
    gluepotref16_Learn.l2 k b least o ws cs ((ws.take i).map (jn L R)) (i : Int) L R = gluepotref16_Learn.l1 k2 b least o (ws.map (jn L R)) cs := by
  intro m
  induction m with
  | zero =>
    intro i k hi hk
    subst hk
    rw [gluepotref16_Learn.l2, if_neg (by omega), List.take_of_length_le (by omega)]
  | succ m ih =>
    intro i k hi hk
    subst hk
    have hlt : i < ws.length := by omega
    have hx := hl _ (List.getElem_mem hlt)
    rw [show k2 + (m + 1) + 1 = (k2 + m + 1) + 1 by omega, gluepotref16_Learn.l2, if_pos (by omega), if_pos (by omega), rdW ws i hlt, rjoin_f (by omega) (by omega) (by omega) (by omega), Option.bind_some, if_pos (by simp; omega), wi i (by omega)]
    have := ih (i + 1) (k2 + m + 1) (by omega) rfl
    rw [List.take_succ_eq_append_getElem hlt, List.map_append] at this
    exact this
end
theorem learn_at {ts cs} (h : Okay ts cs) (b : Int) {least : Int} (hl : 1 ≤ least) : ∀ N o, rem (Ws ts o) ≤ N → o.length + rem (Ws ts o) ≤ 10000 → ∃ r, Lrn ts cs b least o r ∧ ∀ k, 38300300 + N * 100 ≤ k → naive_Learn.l1 k b least (Ws ts o) cs o = some r ∧ gluepotref16_Learn.l1 k b least o (Ws ts o) cs = some r := by
  intro N
  induction N with
  | zero =>
    intro o hN ho
    obtain ⟨L, R, n, hb, hk1, hk2⟩ := h.best o
    by_cases h1 : b ≤ (o.length : Int)
    · refine ⟨o, .full h1, fun k hk => ?_⟩
      obtain ⟨k, rfl⟩ : ∃ k', k = k' + 1 := ⟨k - 1, by omega⟩
      rw [naive_Learn.l1, gluepotref16_Learn.l1, if_neg (by omega), if_neg (by omega)]
      exact ⟨rfl, rfl⟩
    · by_cases h2 : n < least
      · refine ⟨o, .stop (by omega) hb h2, fun k hk => ?_⟩
        obtain ⟨k, rfl⟩ : ∃ k', k = k' + 1 := ⟨k - 1, by omega⟩
        rw [naive_Learn.l1, gluepotref16_Learn.l1, if_pos (by omega), if_pos (by omega), hk2, hk1, Option.bind_some, Option.bind_some, if_pos h2, if_pos h2]
        exact ⟨rfl, rfl⟩
      · have := Lrn.next (budget := b) hl hb (by omega)
        omega
  | succ N ih =>
    intro o hN ho
    obtain ⟨L, R, n, hb, hk1, hk2⟩ := h.best o
    by_cases h1 : b ≤ (o.length : Int)
    · refine ⟨o, .full h1, fun k hk => ?_⟩
      obtain ⟨k, rfl⟩ : ∃ k', k = k' + 1 := ⟨k - 1, by omega⟩
      rw [naive_Learn.l1, gluepotref16_Learn.l1, if_neg (by omega), if_neg (by omega)]
      exact ⟨rfl, rfl⟩
    · by_cases h2 : n < least
      · refine ⟨o, .stop (by omega) hb h2, fun k hk => ?_⟩
        obtain ⟨k, rfl⟩ : ∃ k', k = k' + 1 := ⟨k - 1, by omega⟩
        rw [naive_Learn.l1, gluepotref16_Learn.l1, if_pos (by omega), if_pos (by omega), hk2, hk1, Option.bind_some, Option.bind_some, if_pos h2, if_pos h2]
        exact ⟨rfl, rfl⟩
      · have hn := Lrn.next (budget := b) hl hb (by omega)
        obtain ⟨hL, hR⟩ := IsBest.sizes h hb
        obtain ⟨r, hr, hr2⟩ := ih (o ++ [⟨L, R⟩]) (by omega) (by rw [List.length_append, List.length_singleton]; omega)
        have hm := h.many
        have hwl : (Ws ts o).length ≤ 60 := by rw [Ws_len]; exact hm
        refine ⟨r, .step (by omega) hb (by omega) hr, fun k hk => ?_⟩
        obtain ⟨k, rfl⟩ : ∃ k', k = (k' + (Ws ts o).length + 1) + 1 := ⟨k - (Ws ts o).length - 2, by omega⟩
        obtain ⟨g1, g2⟩ := hr2 k (by omega)
        rw [Ws_snoc] at g1 g2
        have n2 := nlearn_l2 (cs := cs) hwl h.lens hL hR b least (o ++ [⟨L, R⟩]) k (by omega) (Ws ts o).length 0 (k + (Ws ts o).length + 1) (by omega) rfl
        have r2 := rlearn_l2 (cs := cs) hwl h.lens hL hR b least (o ++ [⟨L, R⟩]) k (by omega) (Ws ts o).length 0 (k + (Ws ts o).length + 1) (by omega) rfl
        rw [List.take_zero, List.map_nil, List.nil_append, List.drop_zero, g1] at n2
        rw [List.take_zero, List.map_nil, g2] at r2
        rw [naive_Learn.l1, gluepotref16_Learn.l1, if_pos (by omega), if_pos (by omega), hk2, hk1, Option.bind_some, Option.bind_some, if_neg h2, if_neg h2, clone_f (s := L) (by omega), clone_f (s := R) (by omega), Option.bind_some, Option.bind_some, Option.bind_some, if_pos (by rw [List.length_singleton]; omega), if_pos (by omega)]
        exact ⟨n2, r2⟩
/-- What is learnt of any table, in both texts. -/
theorem learn_f (l : List S35) (hf : Fine l) : (∀ b least, ∃ k0, ∀ k, k0 ≤ k → naive_Learn.f k l b least = some [] ∧ gluepotref16_Learn.f k l b least = some []) ∨
    Okay (tsOf l) (csOf l) ∧ ∀ b least, (least < 1 ∧ ∃ k0, ∀ k, k0 ≤ k → naive_Learn.f k l b least = some [] ∧ gluepotref16_Learn.f k l b least = some []) ∨ (1 ≤ least ∧ ∃ r, Lrn (tsOf l) (csOf l) b least [] r ∧ ∃ k0, ∀ k, k0 ≤ k → naive_Learn.f k l b least = some r ∧ gluepotref16_Learn.f k l b least = some r) := by
  obtain ⟨p, e, hk1, he⟩ := table_check l hf
  obtain ⟨p', e', hk2, he'⟩ := ref_check l hf
  by_cases hg : good ByteArray.empty l = true ∧ (dotGo 0 (l.map (·.f1)) (l.map pr1)).2 = true
  · have h0 := he.2 hg
    have h0' := he'.2 hg
    subst h0 h0'
    have hok := okay_of hf hg.1 hg.2
    refine .inr ⟨hok, fun b least => ?_⟩
    by_cases hl : least < 1
    · refine .inl ⟨hl, 1000, fun k hk => ?_⟩
      obtain ⟨k', rfl⟩ : ∃ k', k = k' + 1 := ⟨k - 1, by omega⟩
      rw [naive_Learn.f, gluepotref16_Learn.f, hk1 _ hk, hk2 _ hk, Option.bind_some, Option.bind_some, if_pos rfl, if_pos rfl, naive_Learn.j0, gluepotref16_Learn.j0, if_pos (by simpa using hl), if_pos (by simpa using hl)]
      exact ⟨rfl, rfl⟩
    · obtain ⟨r, hr, hk3⟩ := learn_at hok b (least := least) (by omega) (rem (Ws (tsOf l) [])) [] (Nat.le_refl _) (by have := hok.rem (o := []); simp; omega)
      have hrm := hok.rem (o := [])
      refine .inr ⟨by omega, r, hr, 40000000 + l.length, fun k hk => ?_⟩
      obtain ⟨k', rfl⟩ : ∃ k', k = (k' + l.length + 1) + 1 := ⟨k - l.length - 2, by omega⟩
      obtain ⟨g1, g2⟩ := hk3 k' (by omega)
      have n0 := nlearn_l0 hf b least k' l.length 0 (k' + l.length + 1) (by omega) rfl
      have r0 := rlearn_l0 hf b least k' (by omega) l.length 0 (k' + l.length + 1) (by omega) rfl
      rw [List.take_zero, List.map_nil, List.map_nil, g1] at n0
      rw [List.take_zero, List.map_nil, List.map_nil, g2] at r0
      rw [naive_Learn.f, gluepotref16_Learn.f, hk1 _ (by omega), hk2 _ (by omega), Option.bind_some, Option.bind_some, if_pos rfl, if_pos rfl, naive_Learn.j0, gluepotref16_Learn.j0, if_neg (by simpa using hl), if_neg (by simpa using hl)]
      exact ⟨n0, r0⟩
  · have h0 : ¬ e = 0 := fun h => hg (he.1 h)
    have h0' : ¬ e' = 0 := fun h => hg (he'.1 h)
    refine .inl fun b least => ⟨1000, fun k hk => ?_⟩
    obtain ⟨k', rfl⟩ : ∃ k', k = k' + 1 := ⟨k - 1, by omega⟩
    rw [naive_Learn.f, gluepotref16_Learn.f, hk1 _ hk, hk2 _ hk, Option.bind_some, Option.bind_some, if_neg h0, if_neg h0', naive_Learn.j0, gluepotref16_Learn.j0, if_pos rfl, if_pos rfl]
    exact ⟨rfl, rfl⟩
end Go.Proofs.Ytbfjlfbahjmibaa.Bpe

namespace Go.Proofs.Ytbfjlfbahjmibaa.Bpe
open Go.RowKit Go.Proofs.YtbfjlfbahjmibaaW.PrintWords Go.Proofs.Ytbfjlfbahjmibaa.Pr
open Go.Proofs.Ytbfjlfbahjmibaa.Tab (InR Fine rd35 rd45 wf_i64)
set_option linter.unusedVariables false
set_option linter.unusedSimpArgs false
set_option maxRecDepth 100000 in
theorem awake16 : gluepotlaw16_awake.f 100 = some true := by decide +kernel
theorem awake16_ge : ∀ d, gluepotlaw16_awake.f (100 + d) = some true
  | 0 => awake16
  | d + 1 => gluepotlaw16_awake.mono (100 + d) _ (awake16_ge d)
theorem awake16_at {k : Nat} (hk : 100 ≤ k) : gluepotlaw16_awake.f k = some true := by
  obtain ⟨d, rfl⟩ : ∃ d, k = 100 + d := ⟨k - 100, by omega⟩
  exact awake16_ge d
theorem great7 (l : List S35) (B : Int) (hl : l.length ≤ 9223372036854775807) : ∃ b, (∀ k, l.length + 1 ≤ k → gluepotref07_Great.f k l B = some b) ∧ (b = false → (l.length : Int) ≤ B ∧ ∀ x ∈ l, x.f0.size ≤ 100) := by
  have loop : ∀ m i, i + m = l.length → ∃ b, (∀ k, m + 1 ≤ k → gluepotref07_Great.l0 k l B (i : Int) = some b) ∧ (b = false → (l.length : Int) ≤ B ∧ ∀ x ∈ l.drop i, x.f0.size ≤ 100) := by
    intro m
    induction m with
    | zero =>
      intro i hi
      refine ⟨decide ((l.length : Int) > B), fun k hk => ?_, fun h => ⟨by have := of_decide_eq_false h; omega, fun x hx => ?_⟩⟩
      · obtain ⟨k, rfl⟩ : ∃ k', k = k' + 1 := ⟨k - 1, by omega⟩
        rw [gluepotref07_Great.l0, if_neg (by omega)]
      · rw [List.drop_of_length_le (by omega)] at hx; cases hx
    | succ m ih =>
      intro i hi
      have hlt : i < l.length := by omega
      have hd : l.drop i = l[i] :: l.drop (i + 1) := List.drop_eq_getElem_cons hlt
      by_cases h : ((l[i].f0.size : Nat) : Int) > 100
      · refine ⟨true, fun k hk => ?_, fun h => by cases h⟩
        obtain ⟨k, rfl⟩ : ∃ k', k = k' + 1 := ⟨k - 1, by omega⟩
        rw [gluepotref07_Great.l0, if_pos (by omega), if_pos (by omega), rd35 l i hlt, if_pos h]
      · obtain ⟨b, hb, hf⟩ := ih (i + 1) (by omega)
        refine ⟨b, fun k hk => ?_, fun hb => ⟨(hf hb).1, fun x hx => ?_⟩⟩
        · obtain ⟨k, rfl⟩ : ∃ k', k = k' + 1 := ⟨k - 1, by omega⟩
          rw [gluepotref07_Great.l0, if_pos (by omega), if_pos (by omega), rd35 l i hlt, if_neg h, wi i (by omega)]
          exact hb k (by omega)
        · rw [hd] at hx
          rcases List.mem_cons.1 hx with rfl | hx
          · omega
          · exact (hf hb).2 x hx
  obtain ⟨b, h1, h2⟩ := loop l.length 0 (by omega)
  exact ⟨b, h1, fun h => by simpa using h2 h⟩
theorem positions (l : List S35) (hl : l.length ≤ 1000) : ∃ t, ∀ k, l.length + 1 ≤ k → gluepotref08_Positions.f k l = some t := by
  have loop : ∀ m i (x : Int), i + m = l.length → ∃ t, ∀ k, m + 1 ≤ k → gluepotref08_Positions.l0 k l x (i : Int) = some t := by
    intro m
    induction m with
    | zero =>
      intro i x hi
      refine ⟨x, fun k hk => ?_⟩
      obtain ⟨k, rfl⟩ : ∃ k', k = k' + 1 := ⟨k - 1, by omega⟩
      rw [gluepotref08_Positions.l0, if_neg (by omega)]
    | succ m ih =>
      intro i x hi
      have hlt : i < l.length := by omega
      obtain ⟨t, ht⟩ := ih (i + 1) (wrap64 (x + ((rd_T35 l (i : Int)).f0.size : Int))) (by omega)
      refine ⟨t, fun k hk => ?_⟩
      obtain ⟨k, rfl⟩ : ∃ k', k = k' + 1 := ⟨k - 1, by omega⟩
      rw [gluepotref08_Positions.l0, if_pos (by omega), if_pos (by omega), wi i (by omega)]
      exact ht k (by omega)
  exact loop l.length 0 0 (by omega)
theorem great16 (l : List S35) (hl : l.length ≤ 9223372036854775807) (hw : ∀ x ∈ l, (Lit.int .i64 x.f1).wf = true) : ∃ b, (∀ k, l.length + 100 ≤ k → gluepotlaw16_great.f k l = some b) ∧ (b = false → Fine l) := by
  obtain ⟨g, hg, hgf⟩ := great7 l 60 hl
  cases g with
  | true => exact ⟨true, fun k hk => by rw [gluepotlaw16_great.f, hg k (by omega), Option.bind_some, if_pos rfl], fun h => by cases h⟩
  | false =>
    obtain ⟨h1, h2⟩ := hgf rfl
    obtain ⟨t, ht⟩ := positions l (by omega)
    refine ⟨decide (t > 300), fun k hk => by rw [gluepotlaw16_great.f, hg k (by omega), Option.bind_some, if_neg (by simp), ht k (by omega), Option.bind_some], fun _ => ⟨by omega, fun x hx => ⟨h2 x hx, wf_i64 (hw x hx)⟩⟩⟩
theorem same_self (a : List S45) (ha : a.length ≤ 1000000) (k : Nat) (hk : a.length + 1 ≤ k) : gluepotref09_Same.f k a a = some true := by
  have loop : ∀ m i k, i + m = a.length → m + 1 ≤ k → gluepotref09_Same.l0 k a a (i : Int) = some true := by
    intro m
    induction m with
    | zero =>
      intro i k hi hk
      obtain ⟨k, rfl⟩ : ∃ k', k = k' + 1 := ⟨k - 1, by omega⟩
      rw [gluepotref09_Same.l0, if_neg (by omega)]
    | succ m ih =>
      intro i k hi hk
      obtain ⟨k, rfl⟩ : ∃ k', k = k' + 1 := ⟨k - 1, by omega⟩
      rw [gluepotref09_Same.l0, if_pos (by omega), if_pos (by omega), if_pos (by omega), if_neg (by simp), wi i (by omega)]
      exact ih (i + 1) k (by omega) (by omega)
  rw [gluepotref09_Same.f, if_pos rfl]
  exact loop a.length 0 k (by omega) hk
theorem Lrn.len {ts cs} {budget least : Int} (hl : 1 ≤ least) {o r : List S45} (h : Lrn ts cs budget least o r) : r.length ≤ o.length + rem (Ws ts o) := by
  induction h with
  | full _ => omega
  | stop _ _ _ => omega
  | step _ h2 h3 _ ih =>
    have := Lrn.next (budget := budget) hl h2 h3
    rw [List.length_append, List.length_singleton] at ih
    omega
theorem rdM (l : List ByteArray) (i : Nat) (h : i < l.length) : rdOf ByteArray.empty l (i : Int) = l[i] := rdB l i h
/-! ### what is right -/
def madeOf (o : List S45) : List ByteArray := o.map fun x => x.f0 ++ x.f1
theorem side_l2 (m : List S45) (made : List ByteArray) (hmd : made.length ≤ 1000000) (i : Int) (j : Nat) (hj : j < 2) (s : ByteArray) (R : Bool) (K : Nat) (hR : ∀ k, K ≤ k → gluepotref16_Right.l1 k m made i ((j + 1 : Nat) : Int) = some R) :
    ∀ d t k (f : Bool), t + d = made.length → (f = true ∨ s ∈ made.drop t) → K + d + 2 ≤ k → gluepotref16_Right.l2 k m made i (j : Int) s f (t : Int) = some R := by
  intro d
  induction d with
  | zero =>
    intro t k f ht hf hk
    obtain ⟨k, rfl⟩ : ∃ k', k = k' + 1 := ⟨k - 1, by omega⟩
    rcases hf with rfl | hf
    · rw [gluepotref16_Right.l2, if_neg (by omega), if_pos rfl, wi j (by omega)]
      exact hR k (by omega)
    · rw [List.drop_of_length_le (by omega)] at hf
      cases hf
  | succ d ih =>
    intro t k f ht hf hk
    obtain ⟨k, rfl⟩ : ∃ k', k = k' + 1 := ⟨k - 1, by omega⟩
    cases f with
    | true =>
      rw [gluepotref16_Right.l2, if_pos (by omega), if_pos rfl, wi j (by omega)]
      exact hR k (by omega)
    | false =>
      have hlt : t < made.length := by omega
      rcases hf with hf | hf
      · cases hf
      · rw [gluepotref16_Right.l2, if_pos (by omega), if_neg (by simp), if_pos (by omega), rdM made t hlt, wi t (by omega)]
        refine ih (t + 1) k _ (by omega) ?_ (by omega)
        rw [List.drop_eq_getElem_cons hlt] at hf
        rcases List.mem_cons.1 hf with hf | hf
        · exact .inl (by rw [hf]; simp)
        · exact .inr hf
theorem side_j2 (m : List S45) (made : List ByteArray) (hmd : made.length ≤ 1000000) (i : Int) (j : Nat) (hj : j < 2) (s : ByteArray) (hs : s.size = 1 ∨ s ∈ made) (R : Bool) (K : Nat) (hR : ∀ k, K ≤ k → gluepotref16_Right.l1 k m made i ((j + 1 : Nat) : Int) = some R) (k : Nat) (hk : K + made.length + 3 ≤ k) :
    gluepotref16_Right.j2 k m made i (j : Int) s = some R := by
  obtain ⟨k, rfl⟩ : ∃ k', k = k' + 1 := ⟨k - 1, by omega⟩
  rw [gluepotref16_Right.j2]
  refine side_l2 m made hmd i j hj s R K hR made.length 0 k _ (by omega) ?_ (by omega)
  rcases hs with hs | hs
  · exact .inl (by rw [hs]; rfl)
  · exact .inr (by rw [List.drop_zero]; exact hs)
theorem fresh_l3 (m : List S45) (made : List ByteArray) (hmd : made.length ≤ 1000000) (i : Nat) (hi : i ≤ 1000000) (s : ByteArray) (hs : s ∉ made) (R : Bool) (K : Nat) (hR : ∀ k, K ≤ k → gluepotref16_Right.l0 k m (made ++ [s]) ((i + 1 : Nat) : Int) = some R) :
    ∀ d t k, t + d = made.length → K + d + 1 ≤ k → gluepotref16_Right.l3 k m made (i : Int) s (t : Int) = some R := by
  intro d
  induction d with
  | zero =>
    intro t k ht hk
    obtain ⟨k, rfl⟩ : ∃ k', k = k' + 1 := ⟨k - 1, by omega⟩
    rw [gluepotref16_Right.l3, if_neg (by omega), if_pos (by omega), wi i (by omega)]
    exact hR k (by omega)
  | succ d ih =>
    intro t k ht hk
    obtain ⟨k, rfl⟩ : ∃ k', k = k' + 1 := ⟨k - 1, by omega⟩
    have hlt : t < made.length := by omega
    rw [gluepotref16_Right.l3, if_pos (by omega), if_pos (by omega), rdM made t hlt, if_neg (fun h => hs (by rw [← list_inj.1 h]; exact List.getElem_mem hlt)), wi t (by omega)]
    exact ih (t + 1) k (by omega) (by omega)
/-- The sides of merges that were learnt are of one byte or made ahead, and no text is made twice. -/
theorem Chain.parts {ts : List (List UInt8)} {r : List S45} (h : Chain ts r) {o p : List S45} {x : S45} (e : r = o ++ x :: p) : (x.f0.size = 1 ∨ x.f0 ∈ madeOf o) ∧ (x.f1.size = 1 ∨ x.f1 ∈ madeOf o) ∧ x.f0 ++ x.f1 ∉ madeOf o := by
  obtain ⟨t, ht, hp⟩ := h o x p e
  obtain ⟨A, C, hw⟩ := pc_mem _ hp
  have side : ∀ s, s ∈ seg o (base t) → s.size = 1 ∨ s ∈ madeOf o := fun s hs => by
    rcases seg_made o t s hs with ⟨c, rfl⟩ | ⟨y, hy, rfl⟩
    · exact .inl rfl
    · exact .inr (List.mem_map.2 ⟨y, hy, rfl⟩)
  refine ⟨side _ (by rw [hw]; simp), side _ (by rw [hw]; simp), fun hm => ?_⟩
  obtain ⟨y, hy, hye⟩ := List.mem_map.1 hm
  obtain ⟨o1, o2, rfl⟩ := List.append_of_mem hy
  obtain ⟨t', ht', hp'⟩ := h o1 y (o2 ++ x :: p) (by rw [e]; simp)
  have e2 : o1 ++ y :: o2 = o1 ++ [⟨y.f0, y.f1⟩] ++ o2 := by simp
  rw [e2] at hp
  exact made_once hp' hp hye
theorem right_f {ts : List (List UInt8)} {r : List S45} (h : Chain ts r) (hr : r.length ≤ 100000) (hs : ∀ x ∈ r, x.f0.size ≤ 1000000 ∧ x.f1.size ≤ 1000000) (k : Nat) (hk : r.length * 400000 + 400000 ≤ k) : gluepotref16_Right.f k r = some true := by
  have loop : ∀ m i, i + m = r.length → ∀ k, m * 400000 + 400000 ≤ k → gluepotref16_Right.l0 k r (madeOf (r.take i)) (i : Int) = some true := by
    intro m
    induction m with
    | zero =>
      intro i hi k hk
      obtain ⟨k, rfl⟩ : ∃ k', k = k' + 1 := ⟨k - 1, by omega⟩
      rw [gluepotref16_Right.l0, if_neg (by omega)]
    | succ m ih =>
      intro i hi k hk
      have hlt : i < r.length := by omega
      have hml : (madeOf (r.take i)).length = i := by simp [madeOf]; omega
      have hsp : r = r.take i ++ r[i] :: r.drop (i + 1) := by rw [← List.drop_eq_getElem_cons hlt, List.take_append_drop]
      obtain ⟨h0, h1, h2⟩ := h.parts hsp
      have hz := hs _ (List.getElem_mem hlt)
      have hnext : madeOf (r.take (i + 1)) = madeOf (r.take i) ++ [r[i].f0 ++ r[i].f1] := by rw [List.take_succ_eq_append_getElem hlt, madeOf, List.map_append]; rfl
      obtain ⟨K, hK⟩ : ∃ K, K = m * 400000 + 400000 := ⟨_, rfl⟩
      have st2 : ∀ k, K + i + 2 ≤ k → gluepotref16_Right.l1 k r (madeOf (r.take i)) (i : Int) ((1 + 1 : Nat) : Int) = some true := fun k hk => by
        obtain ⟨k, rfl⟩ : ∃ k', k = k' + 1 := ⟨k - 1, by omega⟩
        have hsum : r[i].f0.size + r[i].f1.size ≤ 9223372036854775807 := by omega
        have h2n : ¬ ((1 + 1 : Nat) : Int) < 2 := by decide
        have hi0 : (0 : Int) ≤ (i : Int) := by omega
        have hil : (i : Int) < (r.length : Int) := by omega
        rw [gluepotref16_Right.l1, if_neg h2n, if_pos hi0, if_pos hil, rd45 r i hlt, if_pos hsum]
        have hR : ∀ k, K ≤ k → gluepotref16_Right.l0 k r (madeOf (r.take i) ++ [r[i].f0 ++ r[i].f1]) ((i + 1 : Nat) : Int) = some true := fun k hk => by
          rw [← hnext]
          exact ih (i + 1) (by omega) k (by rw [← hK]; exact hk)
        have hf := fresh_l3 r (madeOf (r.take i)) (by omega) i (by omega) (r[i].f0 ++ r[i].f1) h2 true K hR i 0 k (by omega) (by omega)
        exact hf
      have st1 : ∀ k, K + 2 * i + 7 ≤ k → gluepotref16_Right.l1 k r (madeOf (r.take i)) (i : Int) ((0 + 1 : Nat) : Int) = some true := fun k hk => by
        obtain ⟨k, rfl⟩ : ∃ k', k = k' + 1 := ⟨k - 1, by omega⟩
        rw [gluepotref16_Right.l1, if_pos (by omega), if_pos (by omega), if_pos (by omega), if_pos (by omega), rd45 r i hlt]
        exact side_j2 r _ (by omega) i 1 (by omega) _ h1 true (K + i + 2) st2 k (by omega)
      obtain ⟨k, rfl⟩ : ∃ k', k = k' + 2 := ⟨k - 2, by omega⟩
      rw [gluepotref16_Right.l0, if_pos (by omega), gluepotref16_Right.l1, if_pos (by omega), if_pos (by omega), if_pos (by omega), if_neg (by omega), rd45 r i hlt]
      exact side_j2 r _ (by omega) i 0 (by omega) _ h0 true (K + 2 * i + 7) st1 k (by omega)
  have := loop r.length 0 (by omega) k hk
  simpa [gluepotref16_Right.f, madeOf] using this
theorem Lrn.sizes {ts cs} (h : Okay ts cs) {budget least : Int} {o r : List S45} (hr : Lrn ts cs budget least o r) (ho : ∀ x ∈ o, x.f0.size ≤ 100 ∧ x.f1.size ≤ 100) : ∀ x ∈ r, x.f0.size ≤ 100 ∧ x.f1.size ≤ 100 := by
  induction hr with
  | full _ => exact ho
  | stop _ _ _ => exact ho
  | step _ h2 _ _ ih =>
    refine ih fun x hx => ?_
    rcases List.mem_append.1 hx with hx | hx
    · exact ho x hx
    · rw [List.mem_singleton.1 hx]
      exact IsBest.sizes h h2
end Go.Proofs.Ytbfjlfbahjmibaa.Bpe
