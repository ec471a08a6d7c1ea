/- Plain laws: the table's check, in both texts, tells an error or none alike (60 words of 100 bytes). -/
import Derived.Test.YtbfjlfbahjmibaaPr8
import Derived.Test.YtbfjlfbahjmibaaPr7
import Derived.Test.YtbfjlfbahjmibaaPr5
import Derived.Test.YtbfjlfbahjmibaaPr24
import Derived.Test.YtbfjlfbahjmibaaPr10
import Derived.Test.YtbfjlfbahjmibaaPr26
import Derived.Test.YtbfjlfbahjmibaaHCk
import Derived.Test.YtbfjlfbahjmibaaHTexts
namespace Go.Proofs.Ytbfjlfbahjmibaa.Tab
open Go.RowKit Go.Proofs.Ytbfjlfbahjmibaa.Pr Go.Proofs.YtbfjlfbahjmibaaW.PrintWords Go.Proofs.YtbfjlfbahjmibaaW.PrintLast
set_option linter.unusedSimpArgs false
set_option linter.unusedVariables false
theorem wi (i : Nat) (h : i < 9223372036854775807) : wrap64 ((i : Int) + 1) = ((i + 1 : Nat) : Int) := by unfold wrap64; omega
theorem rd35 (l : List S35) (i : Nat) (h : i < l.length) : rd_T35 l (i : Int) = l[i] := by
  unfold rd_T35
  rw [Int.toNat_natCast, List.getD_eq_getElem?_getD, List.getElem?_eq_getElem h]
  rfl
theorem rd45 (l : List S45) (i : Nat) (h : i < l.length) : rd_T45 l (i : Int) = l[i] := by
  unfold rd_T45
  rw [Int.toNat_natCast, List.getD_eq_getElem?_getD, List.getElem?_eq_getElem h]
  rfl

theorem wf_i64 {n : Int} (h : (Lit.int .i64 n).wf = true) : -9223372036854775808 ≤ n ∧ n ≤ 9223372036854775807 := by
  simpa [Lit.wf, IntKind.min, IntKind.max, IntKind.signed, IntKind.bits] using h
theorem wrap_id {n : Int} (h : -9223372036854775808 ≤ n) (h' : n ≤ 9223372036854775807) : wrap64 n = n := by unfold wrap64; omega

/-- The sum of two, if they and it are within. -/
def addv (a b : Int) : Int × Bool := if 0 ≤ a ∧ 0 ≤ b ∧ a + b ≤ 9223372036854775807 then (a + b, true) else (0, false)
def mulv (a b : Int) : Int × Bool := if 0 ≤ a ∧ 0 ≤ b ∧ a * b ≤ 9223372036854775807 then (a * b, true) else (0, false)

theorem checked_Add_eq {a b : Int} (ha : -9223372036854775808 ≤ a ∧ a ≤ 9223372036854775807) (hb : -9223372036854775808 ≤ b ∧ b ≤ 9223372036854775807) : checked_Add.f a b = some (addv a b) := by
  unfold checked_Add.f checked_within.f addv
  simp only [Option.bind_some, decide_eq_true_eq]
  by_cases h1 : 0 ≤ a
  · by_cases h2 : 0 ≤ b
    · rw [if_pos h1, if_pos h2, wrap_id (n := 9223372036854775807 - b) (by omega) (by omega)]
      by_cases h3 : a + b ≤ 9223372036854775807
      · rw [if_neg (by omega), wrap_id (by omega) (by omega), if_pos ⟨h1, h2, h3⟩]
      · rw [if_pos (by omega), if_neg (by omega)]
    · rw [if_pos h1, if_neg h2, if_neg (by omega)]
  · rw [if_neg h1, if_neg (by omega)]

theorem ref06_Add_eq {a b : Int} (ha : -9223372036854775808 ≤ a ∧ a ≤ 9223372036854775807) (hb : -9223372036854775808 ≤ b ∧ b ≤ 9223372036854775807) : gluepotref06_Add.f a b = some (addv a b) := by
  unfold gluepotref06_Add.f addv
  by_cases h1 : a < 0
  · rw [if_pos h1, if_neg (by omega)]
  · by_cases h2 : b < 0
    · rw [if_neg h1, if_pos h2, if_neg (by omega)]
    · rw [if_neg h1, if_neg h2]
      by_cases h3 : a + b ≤ 9223372036854775807
      · rw [wrap_id (by omega) (by omega), if_neg (by omega), if_pos ⟨by omega, by omega, h3⟩]
      · rw [if_pos (by unfold wrap64; omega), if_neg (by omega)]

theorem u64_wrap {n : Int} (h0 : 0 ≤ n) (h1 : n ≤ 9223372036854775807) : IntKind.u64.wrap n = n := by
  simp [IntKind.wrap, IntKind.bits, IntKind.signed]
  omega

theorem mul_bound {a b : Int} (ha : 0 ≤ a ∧ a ≤ 9223372036854775807) (hb : 0 ≤ b ∧ b ≤ 9223372036854775807) : 0 ≤ a * b ∧ a * b ≤ 9223372036854775807 * 9223372036854775807 :=
  ⟨Int.mul_nonneg ha.1 hb.1, Int.mul_le_mul ha.2 hb.2 hb.1 (by omega)⟩

theorem checked_Mul_eq {k : Nat} (hk : 1 ≤ k) {a b : Int} (ha : -9223372036854775808 ≤ a ∧ a ≤ 9223372036854775807) (hb : -9223372036854775808 ≤ b ∧ b ≤ 9223372036854775807) : checked_Mul.f k a b = some (mulv a b) := by
  obtain ⟨k, rfl⟩ : ∃ m, k = m + 1 := ⟨k - 1, by omega⟩
  unfold checked_Mul.f checked_within.f mulv
  simp only [Option.bind_some, decide_eq_true_eq]
  by_cases h1 : 0 ≤ a
  · rw [if_pos h1]
    by_cases h2 : 0 ≤ b
    · have hm := mul_bound ⟨h1, ha.2⟩ ⟨h2, hb.2⟩
      simp only [checked_Mul.j0, h2, ge_iff_le, decide_true, Bool.not_true, Bool.false_eq_true, if_false, true_and, h1]
      rw [u64_wrap h1 ha.2, u64_wrap h2 hb.2]
      unfold bits_Mul64.f
      rw [if_pos (by omega)]
      simp only [Option.bind_some]
      by_cases h3 : a * b ≤ 9223372036854775807
      · rw [if_pos (by omega), if_neg (by omega), if_pos h3, wrap_id (by omega) (by omega)]
        congr 2
        omega
      · rw [if_neg h3]
        by_cases h4 : a * b / 18446744073709551616 = 0
        · rw [if_pos h4, if_pos (by omega)]
        · rw [if_neg h4]
    · simp only [checked_Mul.j0, h2, ge_iff_le, decide_false, Bool.not_false, if_true, false_and, and_false, if_false]
  · rw [if_neg h1, if_neg (by omega)]
    simp only [checked_Mul.j0, if_true]

theorem ref06_Mul_eq {a b : Int} (ha : -9223372036854775808 ≤ a ∧ a ≤ 9223372036854775807) (hb : -9223372036854775808 ≤ b ∧ b ≤ 9223372036854775807) : gluepotref06_Mul.f a b = some (mulv a b) := by
  unfold gluepotref06_Mul.f mulv
  by_cases h1 : a < 0
  · rw [if_pos h1, if_neg (by omega)]
  · rw [if_neg h1]
    by_cases h2 : b < 0
    · rw [if_pos h2, if_neg (by omega)]
    · rw [if_neg h2]
      by_cases h3 : a * b ≤ 9223372036854775807
      · have hn : ¬ (0 < b ∧ 9223372036854775807 / b < a) := by
          rintro ⟨hb0, hq⟩
          have := (Int.ediv_lt_iff_lt_mul hb0).1 hq
          omega
        rw [if_neg hn, if_pos ⟨by omega, by omega, h3⟩, wrap_id _ h3]
        have := Int.mul_nonneg (a := a) (b := b) (by omega) (by omega)
        omega
      · have hb0 : 0 < b := by
          rcases Int.lt_or_eq_of_le (show 0 ≤ b by omega) with h | h
          · exact h
          · rw [← h] at h3
            simp at h3
        have hq : 9223372036854775807 / b < a := by
          rw [Int.ediv_lt_iff_lt_mul hb0]
          omega
        rw [if_pos ⟨hb0, hq⟩, if_neg (by omega)]

theorem addv_range {a b : Int} : -9223372036854775808 ≤ (addv a b).1 ∧ (addv a b).1 ≤ 9223372036854775807 := by
  unfold addv
  split
  · simp only; omega
  · simp only; omega
theorem mulv_range {a b : Int} : 0 ≤ (mulv a b).1 ∧ (mulv a b).1 ≤ 9223372036854775807 := by
  unfold mulv
  split
  · rename_i h
    exact ⟨Int.mul_nonneg h.1 h.2.1, h.2.2⟩
  · simp only; omega



def InR (x : Int) : Prop := -9223372036854775808 ≤ x ∧ x ≤ 9223372036854775807
theorem addv_in {a b : Int} : InR (addv a b).1 := addv_range
theorem mulv_in {a b : Int} : InR (mulv a b).1 := ⟨by have := (mulv_range (a := a) (b := b)).1; omega, mulv_range.2⟩

def sumGo : Int → List Int → Int × Bool
  | acc, [] => (acc, true)
  | acc, x :: r => if (addv acc x).2 = true then sumGo (addv acc x).1 r else (0, false)
theorem rd_nat (l : List Int) (i : Nat) : rd l (i : Int) = l.getD i 0 := by unfold rd; rw [Int.toNat_natCast]
theorem drop_getD (l : List Int) (i : Nat) (h : i < l.length) : l.drop i = l.getD i 0 :: l.drop (i + 1) := by
  rw [List.drop_eq_getElem_cons h]
  simp only [List.getD_eq_getElem?_getD, List.getElem?_eq_getElem h, Option.getD_some]
theorem getD_in {l : List Int} (h : ∀ x ∈ l, InR x) (i : Nat) : InR (l.getD i 0) := by
  rw [List.getD_eq_getElem?_getD]
  cases hx : l[i]? with
  | none => exact ⟨by simp, by simp⟩
  | some x => exact h x (List.mem_of_getElem? hx)
theorem wrap_succ (i : Nat) (h : i ≤ 1000000) : wrap64 ((i : Int) + 1) = ((i + 1 : Nat) : Int) := by unfold wrap64; omega

theorem sum_l0 (l : List Int) (hl : l.length ≤ 1000000) (hr : ∀ x ∈ l, InR x) (d : Nat) : ∀ (k i : Nat) (acc : Int), l.length = i + d → d < k → InR acc →
    checked_Sum.l0 k acc l (l.length : Int) (i : Int) = some (sumGo acc (l.drop i)) := by
  induction d with
  | zero =>
    intro k i acc hd hk ha
    obtain ⟨k, rfl⟩ : ∃ m, k = m + 1 := ⟨k - 1, by omega⟩
    unfold checked_Sum.l0
    rw [if_neg (by omega), List.drop_eq_nil_of_le (by omega)]
    rfl
  | succ d ih =>
    intro k i acc hd hk ha
    obtain ⟨k, rfl⟩ : ∃ m, k = m + 1 := ⟨k - 1, by omega⟩
    unfold checked_Sum.l0
    rw [if_pos (by omega), if_pos (by omega), if_pos (by omega), rd_nat, checked_Add_eq ha (getD_in hr i), Option.bind_some, wrap_succ i (by omega), drop_getD l i (by omega)]
    unfold sumGo
    by_cases h : (addv acc (l.getD i 0)).2 = true
    · rw [if_pos h, if_pos h]
      exact ih k (i + 1) _ (by omega) (by omega) addv_in
    · rw [if_neg h, if_neg h]
theorem checked_Sum_eq (l : List Int) (hl : l.length ≤ 1000000) (hr : ∀ x ∈ l, InR x) {k : Nat} (hk : l.length < k) : checked_Sum.f k l = some (sumGo 0 l) := by
  unfold checked_Sum.f
  exact sum_l0 l hl hr l.length k 0 0 (by omega) hk ⟨by omega, by omega⟩



def dotGo : Int → List Int → List Int → Int × Bool
  | acc, x :: r, y :: s => if (mulv x y).2 = true then (if (addv acc (mulv x y).1).2 = true then dotGo (addv acc (mulv x y).1).1 r s else (0, false)) else (0, false)
  | acc, _, _ => (acc, true)

def dotv (a b : List Int) : Int × Bool := if a.length = b.length then dotGo 0 a b else (0, false)
def prods : List Int → List Int → Option (List Int)
  | x :: r, y :: s => if (mulv x y).2 = true then (prods r s).map ((mulv x y).1 :: ·) else none
  | _, _ => some []
theorem prods_in : ∀ (a b l : List Int), prods a b = some l → ∀ x ∈ l, InR x
  | [], _, l, h => by simp [prods] at h; subst h; simp
  | _ :: _, [], l, h => by simp [prods] at h; subst h; simp
  | x :: r, y :: s, l, h => by
    unfold prods at h
    split at h
    · obtain ⟨m, hm, rfl⟩ := Option.map_eq_some_iff.1 h
      intro z hz
      rcases List.mem_cons.1 hz with rfl | hz
      · exact mulv_in
      · exact prods_in r s m hm z hz
    · cases h
theorem prods_length : ∀ (a b l : List Int), prods a b = some l → l.length ≤ a.length
  | [], _, l, h => by simp [prods] at h; subst h; simp
  | _ :: _, [], l, h => by simp [prods] at h; subst h; simp
  | x :: r, y :: s, l, h => by
    unfold prods at h
    split at h
    · obtain ⟨m, hm, rfl⟩ := Option.map_eq_some_iff.1 h
      have := prods_length r s m hm
      simp only [List.length_cons]
      omega
    · cases h
theorem sum_neg_false : ∀ (l : List Int) (acc : Int), ∀ m : List Int, sumGo acc l = (0, false) → sumGo acc (l ++ m) = (0, false)
  | [], acc, m, h => by simp [sumGo] at h
  | x :: r, acc, m, h => by
    simp only [List.cons_append, sumGo] at h ⊢
    split at h
    · rename_i h1
      rw [if_pos h1]
      exact sum_neg_false r _ m h
    · rename_i h1
      rw [if_neg h1]
theorem dot_prods : ∀ (a b : List Int) (acc : Int), (match prods a b with | some l => sumGo acc l | none => (0, false)) = dotGo acc a b
  | [], _, acc => by simp [prods, dotGo, sumGo]
  | _ :: _, [], acc => by simp [prods, dotGo, sumGo]
  | x :: r, y :: s, acc => by
    unfold prods dotGo
    by_cases h : (mulv x y).2 = true
    · rw [if_pos h, if_pos h]
      have ih := dot_prods r s (addv acc (mulv x y).1).1
      cases hp : prods r s with
      | none =>
        rw [hp] at ih
        simp only [Option.map_none]
        by_cases h2 : (addv acc (mulv x y).1).2 = true
        · rw [if_pos h2]
          exact ih
        · rw [if_neg h2]
      | some l =>
        rw [hp] at ih
        simp only [Option.map_some, sumGo]
        by_cases h2 : (addv acc (mulv x y).1).2 = true
        · rw [if_pos h2, if_pos h2]
          exact ih
        · rw [if_neg h2, if_neg h2]
    · rw [if_neg h, if_neg h]

theorem cdot_l0 (a b : List Int) (he : a.length = b.length) (hl : a.length ≤ 1000000) (ha : ∀ x ∈ a, InR x) (hb : ∀ x ∈ b, InR x) (d : Nat) : ∀ (k i : Nat) (acc : List Int), a.length = i + d → a.length + d + 1 < k → acc.length ≤ i → (∀ x ∈ acc, InR x) →
    checked_Dot.l0 k a b acc (a.length : Int) (i : Int) = some (match prods (a.drop i) (b.drop i) with | some l => sumGo 0 (acc ++ l) | none => (0, false)) := by
  induction d with
  | zero =>
    intro k i acc hd hk hacc hin
    obtain ⟨k, rfl⟩ : ∃ m, k = m + 1 := ⟨k - 1, by omega⟩
    unfold checked_Dot.l0
    rw [if_neg (by omega), List.drop_eq_nil_of_le (by omega), checked_Sum_eq acc (by omega) hin (by omega)]
    simp [prods]
  | succ d ih =>
    intro k i acc hd hk hacc hin
    obtain ⟨k, rfl⟩ : ∃ m, k = m + 1 := ⟨k - 1, by omega⟩
    unfold checked_Dot.l0
    rw [if_pos (by omega), if_pos (by omega), if_pos (by omega), if_pos (by omega), rd_nat, rd_nat, checked_Mul_eq (by omega) (getD_in ha i) (getD_in hb i), Option.bind_some, drop_getD a i (by omega), drop_getD b i (by omega)]
    unfold prods
    by_cases h : (mulv (a.getD i 0) (b.getD i 0)).2 = true
    · rw [if_pos h, if_pos h, if_pos (by omega), wrap_succ i (by omega), ih k (i + 1) _ (by omega) (by omega) (by rw [List.length_append]; simp only [List.length_cons, List.length_nil]; omega) (fun x hx => by
        rcases List.mem_append.1 hx with hx | hx
        · exact hin x hx
        · rw [List.mem_singleton.1 hx]
          exact mulv_in)]
      cases prods (a.drop (i + 1)) (b.drop (i + 1)) with
      | none => rfl
      | some l =>
        simp only [Option.map_some]
        rw [List.append_assoc]
        rfl
    · rw [if_neg h, if_neg h]
theorem checked_Dot_eq (a b : List Int) (hl : a.length ≤ 1000000) (ha : ∀ x ∈ a, InR x) (hb : ∀ x ∈ b, InR x) {k : Nat} (hk : a.length + a.length + 1 < k) : checked_Dot.f k a b = some (dotv a b) := by
  unfold checked_Dot.f dotv
  by_cases h : a.length = b.length
  · rw [if_pos (by omega), if_pos h]
    have := cdot_l0 a b h hl ha hb a.length k 0 [] (by omega) hk (by simp) (by simp)
    rw [← dot_prods]
    simpa using this
  · rw [if_neg (by omega), if_neg h]
/-- The pairs of bytes. -/
def pr1 (x : S35) : Int := max ((x.f0.size : Int) - 1) 0
def Fine (l : List S35) : Prop := l.length ≤ 60 ∧ ∀ x ∈ l, x.f0.size ≤ 100 ∧ InR x.f1
theorem pr1_in (x : S35) (h : x.f0.size ≤ 100) : InR (pr1 x) := by unfold InR pr1; omega
theorem mx_max' (a b : Int) : mx a b = max a b := by unfold mx; omega
theorem map_in1 {l : List S35} (h : Fine l) : ∀ y ∈ l.map (·.f1), InR y := by
  intro y hy
  obtain ⟨x, hx, rfl⟩ := List.mem_map.1 hy
  exact (h.2 x hx).2
theorem map_in2 {l : List S35} (h : Fine l) : ∀ y ∈ l.map pr1, InR y := by
  intro y hy
  obtain ⟨x, hx, rfl⟩ := List.mem_map.1 hy
  exact pr1_in x (h.2 x hx).1
theorem table_weight (l : List S35) (h : Fine l) (k : Nat) (hk : 400 ≤ k) : table_Weight.f k l = some (dotGo 0 (l.map (·.f1)) (l.map pr1)) := by
  have hlen := h.1
  have loop : ∀ m i k, i + m = l.length → m + 300 ≤ k → table_Weight.l0 k ((l.take i).map (·.f1)) ((l.take i).map pr1) l (l.length : Int) (i : Int) = some (dotGo 0 (l.map (·.f1)) (l.map pr1)) := by
    intro m
    induction m with
    | zero =>
      intro i k hi hk
      obtain ⟨k, rfl⟩ : ∃ k', k = k' + 1 := ⟨k - 1, by omega⟩
      rw [table_Weight.l0, if_neg (by omega), List.take_of_length_le (by omega), checked_Dot_eq _ _ (by simp; omega) (map_in1 h) (map_in2 h) (by simp; omega), Option.bind_some, dotv, if_pos (by simp)]
    | succ m ih =>
      intro i k hi hk
      obtain ⟨k, rfl⟩ : ∃ k', k = k' + 1 := ⟨k - 1, by omega⟩
      have hlt : i < l.length := by omega
      have hsz := (h.2 _ (List.getElem_mem hlt)).1
      have hw : wrap64 ((l[i].f0.size : Int) - 1) = (l[i].f0.size : Int) - 1 := by unfold wrap64; omega
      have := ih (i + 1) k (by omega) (by omega)
      rw [List.take_succ_eq_append_getElem hlt, List.map_append, List.map_append] at this
      rw [table_Weight.l0, rd35 l i hlt, wi i (by omega), hw, mx_max', if_pos (by omega), if_pos (by omega), if_pos (by omega), if_pos (by simp; omega), if_pos (by simp; omega)]
      exact this
  have := loop l.length 0 k (by omega) (by omega)
  simpa [table_Weight.f] using this
theorem ref_weight (l : List S35) (h : Fine l) (k : Nat) (hk : 400 ≤ k) : gluepotref08_Weight.f k l = some (dotGo 0 (l.map (·.f1)) (l.map pr1)) := by
  have hlen := h.1
  have loop : ∀ m i (acc : Int) k, i + m = l.length → m + 1 ≤ k → InR acc → gluepotref08_Weight.l0 k l acc (i : Int) = some (dotGo acc ((l.drop i).map (·.f1)) ((l.drop i).map pr1)) := by
    intro m
    induction m with
    | zero =>
      intro i acc k hi hk ha
      obtain ⟨k, rfl⟩ : ∃ k', k = k' + 1 := ⟨k - 1, by omega⟩
      rw [gluepotref08_Weight.l0, if_neg (by omega), List.drop_of_length_le (by omega)]
      rfl
    | succ m ih =>
      intro i acc k hi hk ha
      obtain ⟨k, rfl⟩ : ∃ k', k = k' + 1 := ⟨k - 1, by omega⟩
      have hlt : i < l.length := by omega
      have hx := h.2 _ (List.getElem_mem hlt)
      have hsz := hx.1
      have hw : wrap64 ((l[i].f0.size : Int) - 1) = (l[i].f0.size : Int) - 1 := by unfold wrap64; omega
      have hp : mx 0 ((l[i].f0.size : Int) - 1) = pr1 l[i] := by rw [mx_max']; unfold pr1; omega
      rw [gluepotref08_Weight.l0, rd35 l i hlt, wi i (by omega), hw, hp, if_pos (by omega), if_pos (by omega), List.drop_eq_getElem_cons hlt, List.map_cons, List.map_cons, dotGo, ref06_Mul_eq hx.2 (pr1_in _ hx.1), Option.bind_some]
      by_cases h1 : (mulv l[i].f1 (pr1 l[i])).2 = true
      · rw [if_pos h1, if_pos h1, ref06_Add_eq ha mulv_in, Option.bind_some]
        by_cases h2 : (addv acc (mulv l[i].f1 (pr1 l[i])).1).2 = true
        · rw [if_pos h2, if_pos h2]
          exact ih (i + 1) _ k (by omega) (by omega) addv_in
        · rw [if_neg h2, if_neg h2]
      · rw [if_neg h1, if_neg h1]
  have := loop l.length 0 0 k (by omega) (by omega) (by unfold InR; omega)
  simpa [gluepotref08_Weight.f] using this
theorem less_eq : ∀ (a b : List UInt8), lessL a b = Op.bytesLess a b
  | [], [] => rfl
  | [], _ :: _ => rfl
  | _ :: _, [] => rfl
  | a :: x, b :: y => by
    rw [lessL, Op.bytesLess]
    by_cases h : a = b
    · subst h
      have : ¬ a < a := fun h2 => by have : a.toNat < a.toNat := h2; omega
      simp [this, less_eq x y]
    · simp [h]
/-- What is wrong with the words from the i-th on, behind the text a: nothing? -/
def good : ByteArray → List S35 → Bool
  | _, [] => true
  | a, x :: r => if x.f0.toList = [] then false else if x.f1 < 1 then false else if Op.bytesLess a.toList x.f0.toList = true then good x.f0 r else false
theorem good_counts : ∀ (a : ByteArray) (l : List S35), good a l = true → ∀ x ∈ l, 1 ≤ x.f1
  | _, [], _, x, hx => by cases hx
  | a, y :: r, h, x, hx => by
    rw [good] at h
    split at h
    · cases h
    · split at h
      · cases h
      · split at h
        · rcases List.mem_cons.1 hx with rfl | hx
          · omega
          · exact good_counts _ r h x hx
        · cases h
theorem table_check (l : List S35) (h : Fine l) : ∃ p e, (∀ k, 1000 ≤ k → table_Check.f k l = some (p, e)) ∧ (e = 0 ↔ good ByteArray.empty l = true ∧ (dotGo 0 (l.map (·.f1)) (l.map pr1)).2 = true) := by
  have hlen := h.1
  have loop : ∀ m i (a : ByteArray), i + m = l.length → ∃ p e, (∀ k, m + 500 ≤ k → table_Check.l0 k l a l (l.length : Int) (i : Int) = some (p, e)) ∧ (e = 0 ↔ good a (l.drop i) = true ∧ (dotGo 0 (l.map (·.f1)) (l.map pr1)).2 = true) := by
    intro m
    induction m with
    | zero =>
      intro i a hi
      rw [List.drop_of_length_le (by omega)]
      cases hd : (dotGo 0 (l.map (·.f1)) (l.map pr1)).2 with
      | true =>
        refine ⟨-1, 0, fun k hk => ?_, by simp [good]⟩
        obtain ⟨k, rfl⟩ : ∃ k', k = k' + 1 := ⟨k - 1, by omega⟩
        rw [table_Check.l0, if_neg (by omega), table_weight l h k (by omega), Option.bind_some, if_pos hd]
      | false =>
        refine ⟨(l.length : Int), 5, fun k hk => ?_, by simp⟩
        obtain ⟨k, rfl⟩ : ∃ k', k = k' + 1 := ⟨k - 1, by omega⟩
        rw [table_Check.l0, if_neg (by omega), table_weight l h k (by omega), Option.bind_some, if_neg (by rw [hd]; simp)]
    | succ m ih =>
      intro i a hi
      have hlt : i < l.length := by omega
      have hx := h.2 _ (List.getElem_mem hlt)
      rw [List.drop_eq_getElem_cons hlt, good]
      have step : ∀ k e, table_wrong.f k a l[i].f0 l[i].f1 = some e → table_Check.l0 (k + 1) l a l (l.length : Int) (i : Int) = if e = 0 then table_Check.l0 k l l[i].f0 l (l.length : Int) ((i + 1 : Nat) : Int) else some ((i : Int), e) := by
        intro k e he
        rw [table_Check.l0, rd35 l i hlt, wi i (by omega), if_pos (by omega), if_pos (by omega), if_pos (by omega), he, Option.bind_some]
      by_cases h1 : l[i].f0.toList = []
      · refine ⟨i, 1, fun k hk => ?_, by rw [if_pos h1]; simp⟩
        obtain ⟨k, rfl⟩ : ∃ k', k = k' + 1 + 1 := ⟨k - 2, by omega⟩
        rw [step (k + 1) 1 (by rw [table_wrong.f, if_pos h1, table_wrong.j0, if_pos rfl]), if_neg (by decide)]
      · rw [if_neg h1]
        by_cases h2 : l[i].f1 < 1
        · refine ⟨i, 1, fun k hk => ?_, by rw [if_pos h2]; simp⟩
          obtain ⟨k, rfl⟩ : ∃ k', k = k' + 1 + 1 := ⟨k - 2, by omega⟩
          rw [step (k + 1) 1 (by rw [table_wrong.f, if_neg h1, table_wrong.j0, if_pos (by simpa using h2)]), if_neg (by decide)]
        · rw [if_neg h2]
          have hs : ¬ ((l[i].f0.size : Nat) : Int) > 65536 := by omega
          by_cases h3 : Op.bytesLess a.toList l[i].f0.toList = true
          · obtain ⟨p, e, hk2, he⟩ := ih (i + 1) l[i].f0 (by omega)
            refine ⟨p, e, fun k hk => ?_, by rw [if_pos h3]; exact he⟩
            obtain ⟨k, rfl⟩ : ∃ k', k = k' + 1 + 1 := ⟨k - 2, by omega⟩
            rw [step (k + 1) 0 (by rw [table_wrong.f, if_neg h1, table_wrong.j0, if_neg (by simpa using h2), if_neg hs, if_pos h3]), if_pos rfl]
            exact hk2 (k + 1) (by omega)
          · refine ⟨i, 6, fun k hk => ?_, by rw [if_neg h3]; simp⟩
            obtain ⟨k, rfl⟩ : ∃ k', k = k' + 1 + 1 := ⟨k - 2, by omega⟩
            rw [step (k + 1) 6 (by rw [table_wrong.f, if_neg h1, table_wrong.j0, if_neg (by simpa using h2), if_neg hs, if_neg h3]), if_neg (by decide)]
  obtain ⟨p, e, h1, h2⟩ := loop l.length 0 ByteArray.empty (by omega)
  exact ⟨p, e, fun k hk => h1 k (by omega), by simpa using h2⟩
theorem less_f {l : List S35} (h : Fine l) (i j : Nat) (hi : i < l.length) (hj : j < l.length) : gluepotref01_Less.f l[i].f0 l[j].f0 = some (Op.bytesLess l[i].f0.toList l[j].f0.toList) := by
  have h1 := (h.2 _ (List.getElem_mem hi)).1
  have h2 := (h.2 _ (List.getElem_mem hj)).1
  rw [gluepotref01_Less.f, if_pos ⟨by omega, by omega⟩, less_eq, ByteArray.toList_eq, ByteArray.toList_eq]
theorem ref_check (l : List S35) (h : Fine l) : ∃ p e, (∀ k, 1000 ≤ k → gluepotref08_Check.f k l = some (p, e)) ∧ (e = 0 ↔ good ByteArray.empty l = true ∧ (dotGo 0 (l.map (·.f1)) (l.map pr1)).2 = true) := by
  have hlen := h.1
  have loop : ∀ m i (a : ByteArray), i + m = l.length → ((i = 0 ∧ a = ByteArray.empty) ∨ ∃ hp : i - 1 < l.length, 0 < i ∧ a = l[i - 1].f0) → ∃ p e, (∀ k, 2 * m + 500 ≤ k → gluepotref08_Check.l0 k l (i : Int) = some (p, e)) ∧ (e = 0 ↔ good a (l.drop i) = true ∧ (dotGo 0 (l.map (·.f1)) (l.map pr1)).2 = true) := by
    intro m
    induction m with
    | zero =>
      intro i a hi _
      rw [List.drop_of_length_le (by omega)]
      cases hd : (dotGo 0 (l.map (·.f1)) (l.map pr1)).2 with
      | true =>
        refine ⟨-1, 0, fun k hk => ?_, by simp [good]⟩
        obtain ⟨k, rfl⟩ : ∃ k', k = k' + 1 := ⟨k - 1, by omega⟩
        rw [gluepotref08_Check.l0, if_neg (by omega), ref_weight l h k (by omega), Option.bind_some, if_pos hd]
      | false =>
        refine ⟨(l.length : Int), 5, fun k hk => ?_, by simp⟩
        obtain ⟨k, rfl⟩ : ∃ k', k = k' + 1 := ⟨k - 1, by omega⟩
        rw [gluepotref08_Check.l0, if_neg (by omega), ref_weight l h k (by omega), Option.bind_some, if_neg (by rw [hd]; simp)]
    | succ m ih =>
      intro i a hi ha
      have hlt : i < l.length := by omega
      have hx := h.2 _ (List.getElem_mem hlt)
      have hs : ¬ ((l[i].f0.size : Nat) : Int) > 65536 := by omega
      rw [List.drop_eq_getElem_cons hlt, good]
      by_cases h1 : l[i].f0.toList = []
      · refine ⟨i, 1, fun k hk => ?_, by rw [if_pos h1]; simp⟩
        obtain ⟨k, rfl⟩ : ∃ k', k = k' + 1 + 1 := ⟨k - 2, by omega⟩
        rw [gluepotref08_Check.l0, rd35 l i hlt, if_pos (by omega), if_pos (by omega), if_pos h1, gluepotref08_Check.j1, if_pos rfl]
      · rw [if_neg h1]
        by_cases h2 : l[i].f1 < 1
        · refine ⟨i, 1, fun k hk => ?_, by rw [if_pos h2]; simp⟩
          obtain ⟨k, rfl⟩ : ∃ k', k = k' + 1 + 1 := ⟨k - 2, by omega⟩
          rw [gluepotref08_Check.l0, rd35 l i hlt, if_pos (by omega), if_pos (by omega), if_neg h1, gluepotref08_Check.j1, if_pos (by simpa using h2)]
        · rw [if_neg h2]
          have go : ∀ k, gluepotref08_Check.l0 (k + 1 + 1) l (i : Int) = if 0 < i then (if Op.bytesLess a.toList l[i].f0.toList = true then gluepotref08_Check.l0 k l ((i + 1 : Nat) : Int) else some ((i : Int), 6)) else gluepotref08_Check.l0 k l ((i + 1 : Nat) : Int) := by
            intro k
            rw [gluepotref08_Check.l0, rd35 l i hlt, if_pos (by omega), if_pos (by omega), if_neg h1, gluepotref08_Check.j1, if_neg (by simpa using h2), if_pos (by omega), if_pos (by omega), rd35 l i hlt, if_neg hs, wi i (by omega)]
            rcases ha with ⟨h0, _⟩ | ⟨hp, h0, rfl⟩
            · rw [if_neg (by omega), if_neg (by omega)]
            · have hw : wrap64 ((i : Int) - 1) = ((i - 1 : Nat) : Int) := by unfold wrap64; omega
              rw [if_pos (by omega), if_pos h0, hw, if_pos (by omega), if_pos (by omega), rd35 l (i - 1) hp, less_f h (i - 1) i hp hlt, Option.bind_some]
          obtain ⟨p, e, hk2, he⟩ := ih (i + 1) l[i].f0 (by omega) (.inr ⟨by simpa using hlt, by omega, by simp⟩)
          by_cases h3 : Op.bytesLess a.toList l[i].f0.toList = true
          · refine ⟨p, e, fun k hk => ?_, by rw [if_pos h3]; exact he⟩
            obtain ⟨k, rfl⟩ : ∃ k', k = k' + 1 + 1 := ⟨k - 2, by omega⟩
            rw [go, if_pos h3]
            split <;> exact hk2 k (by omega)
          · have hpos : 0 < i := by
              rcases ha with ⟨_, rfl⟩ | ⟨_, h0, _⟩
              · exfalso
                apply h3
                rw [show ByteArray.empty.toList = [] from (by rw [ByteArray.toList_eq]; rfl)]
                cases hl : l[i].f0.toList with
                | nil => exact absurd hl h1
                | cons c r => rfl
              · exact h0
            refine ⟨i, 6, fun k hk => ?_, by rw [if_neg h3]; simp⟩
            obtain ⟨k, rfl⟩ : ∃ k', k = k' + 1 + 1 := ⟨k - 2, by omega⟩
            rw [go, if_pos hpos, if_neg h3]
  obtain ⟨p, e, h1, h2⟩ := loop l.length 0 ByteArray.empty (by omega) (.inl ⟨rfl, rfl⟩)
  exact ⟨p, e, fun k hk => h1 k (by omega), by simpa using h2⟩
end Go.Proofs.Ytbfjlfbahjmibaa.Tab
