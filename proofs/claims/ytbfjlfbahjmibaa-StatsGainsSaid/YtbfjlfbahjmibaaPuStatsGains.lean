/- SpGains1, SpDot, SpGains2, SpGains3, PuStatsGains in one text (wip/mtext.py). -/
import Derived.Test.YtbfjlfbahjmibaaPr33
import Derived.Test.YtbfjlfbahjmibaaPr8
import Derived.Test.YtbfjlfbahjmibaaPr7
import Derived.Test.YtbfjlfbahjmibaaPr5
import Derived.Test.YtbfjlfbahjmibaaPr24
import Derived.Test.YtbfjlfbahjmibaaHCk
import Derived.Test.YtbfjlfbahjmibaaHMul
namespace Go.Proofs.Ytbfjlfbahjmibaa.Pure
open Go.RowKit Go.Proofs.YtbfjlfbahjmibaaW.PrintWords Go.Proofs.Ytbfjlfbahjmibaa.Pr
set_option linter.unusedVariables false
set_option linter.unusedSimpArgs false
theorem wi (i : Nat) (h : i < 9223372036854775807) : wrap64 ((i : Int) + 1) = ((i + 1 : Nat) : Int) := by unfold wrap64; omega
theorem rd35 (l : List S35) (i : Nat) (h : i < l.length) : rd_T35 l (i : Int) = l[i] := by
  unfold rd_T35
  rw [Int.toNat_natCast, List.getD_eq_getElem?_getD, List.getElem?_eq_getElem h]
  rfl
theorem rd45 (l : List S45) (i : Nat) (h : i < l.length) : rd_T45 l (i : Int) = l[i] := by
  unfold rd_T45
  rw [Int.toNat_natCast, List.getD_eq_getElem?_getD, List.getElem?_eq_getElem h]
  rfl
theorem rdI (l : List Int) (i : Nat) (h : i < l.length) : rd l (i : Int) = l[i] := by
  unfold rd
  rw [Int.toNat_natCast, List.getD_eq_getElem?_getD, List.getElem?_eq_getElem h]
  rfl
theorem great7 (l : List S35) (hl : l.length ≤ 9223372036854775807) : ∃ b, (∀ k, l.length + 1 ≤ k → gluepotref07_Great.f k l 30 = some b) ∧ (b = false → l.length ≤ 30 ∧ ∀ x ∈ l, x.f0.size ≤ 100) := by
  have loop : ∀ m i, i + m = l.length → ∃ b, (∀ k, m + 1 ≤ k → gluepotref07_Great.l0 k l 30 (i : Int) = some b) ∧ (b = false → l.length ≤ 30 ∧ ∀ x ∈ l.drop i, x.f0.size ≤ 100) := by
    intro m
    induction m with
    | zero =>
      intro i hi
      refine ⟨decide ((l.length : Int) > 30), fun k hk => ?_, fun h => ⟨by have := of_decide_eq_false h; omega, fun x hx => ?_⟩⟩
      · obtain ⟨k, rfl⟩ : ∃ k', k = k' + 1 := ⟨k - 1, by omega⟩
        rw [gluepotref07_Great.l0, if_neg (by omega)]
      · rw [List.drop_of_length_le (by omega)] at hx; cases hx
    | succ m ih =>
      intro i hi
      have hlt : i < l.length := by omega
      have hd : l.drop i = l[i] :: l.drop (i + 1) := List.drop_eq_getElem_cons hlt
      by_cases h : ((l[i].f0.size : Nat) : Int) > 100
      · refine ⟨true, fun k hk => ?_, fun h => by cases h⟩
        obtain ⟨k, rfl⟩ : ∃ k', k = k' + 1 := ⟨k - 1, by omega⟩
        rw [gluepotref07_Great.l0, if_pos (by omega), if_pos (by omega), rd35 l i hlt, if_pos h]
      · obtain ⟨b, hb, hf⟩ := ih (i + 1) (by omega)
        refine ⟨b, fun k hk => ?_, fun hb => ⟨(hf hb).1, fun x hx => ?_⟩⟩
        · obtain ⟨k, rfl⟩ : ∃ k', k = k' + 1 := ⟨k - 1, by omega⟩
          rw [gluepotref07_Great.l0, if_pos (by omega), if_pos (by omega), rd35 l i hlt, if_neg h, wi i (by omega)]
          exact hb k (by omega)
        · rw [hd] at hx
          rcases List.mem_cons.1 hx with rfl | hx
          · omega
          · exact (hf hb).2 x hx
  obtain ⟨b, h1, h2⟩ := loop l.length 0 (by omega)
  exact ⟨b, h1, fun h => by simpa using h2 h⟩
theorem positions (l : List S35) (hl : l.length ≤ 30) : ∃ t, ∀ k, l.length + 1 ≤ k → gluepotref08_Positions.f k l = some t := by
  have loop : ∀ m i (x : Int), i + m = l.length → ∃ t, ∀ k, m + 1 ≤ k → gluepotref08_Positions.l0 k l x (i : Int) = some t := by
    intro m
    induction m with
    | zero =>
      intro i x hi
      refine ⟨x, fun k hk => ?_⟩
      obtain ⟨k, rfl⟩ : ∃ k', k = k' + 1 := ⟨k - 1, by omega⟩
      rw [gluepotref08_Positions.l0, if_neg (by omega)]
    | succ m ih =>
      intro i x hi
      have hlt : i < l.length := by omega
      obtain ⟨t, ht⟩ := ih (i + 1) (wrap64 (x + ((rd_T35 l (i : Int)).f0.size : Int))) (by omega)
      refine ⟨t, fun k hk => ?_⟩
      obtain ⟨k, rfl⟩ : ∃ k', k = k' + 1 := ⟨k - 1, by omega⟩
      rw [gluepotref08_Positions.l0, if_pos (by omega), if_pos (by omega), wi i (by omega)]
      exact ht k (by omega)
  exact loop l.length 0 0 (by omega)
theorem great18 (l : List S45) (hl : l.length ≤ 9223372036854775807) : ∃ b, (∀ k, l.length + 1 ≤ k → gluepotref18_Great.f k l 20 = some b) ∧ (b = false → l.length ≤ 20 ∧ ∀ x ∈ l, x.f0.size ≤ 300 ∧ x.f1.size ≤ 300) := by
  have loop : ∀ m i, i + m = l.length → ∃ b, (∀ k, m + 1 ≤ k → gluepotref18_Great.l0 k l 20 (i : Int) = some b) ∧ (b = false → l.length ≤ 20 ∧ ∀ x ∈ l.drop i, x.f0.size ≤ 300 ∧ x.f1.size ≤ 300) := by
    intro m
    induction m with
    | zero =>
      intro i hi
      refine ⟨decide ((l.length : Int) > 20), fun k hk => ?_, fun h => ⟨by have := of_decide_eq_false h; omega, fun x hx => ?_⟩⟩
      · obtain ⟨k, rfl⟩ : ∃ k', k = k' + 1 := ⟨k - 1, by omega⟩
        rw [gluepotref18_Great.l0, if_neg (by omega)]
      · rw [List.drop_of_length_le (by omega)] at hx; cases hx
    | succ m ih =>
      intro i hi
      have hlt : i < l.length := by omega
      have hd : l.drop i = l[i] :: l.drop (i + 1) := List.drop_eq_getElem_cons hlt
      by_cases h : ((l[i].f0.size : Nat) : Int) > 300
      · refine ⟨true, fun k hk => ?_, fun h => by cases h⟩
        obtain ⟨k, rfl⟩ : ∃ k', k = k' + 1 := ⟨k - 1, by omega⟩
        rw [gluepotref18_Great.l0, if_pos (by omega), if_pos (by omega), rd45 l i hlt, if_pos h]
      · by_cases h' : ((l[i].f1.size : Nat) : Int) > 300
        · refine ⟨true, fun k hk => ?_, fun h => by cases h⟩
          obtain ⟨k, rfl⟩ : ∃ k', k = k' + 1 := ⟨k - 1, by omega⟩
          rw [gluepotref18_Great.l0, if_pos (by omega), if_pos (by omega), rd45 l i hlt, if_neg h, if_pos h']
        · obtain ⟨b, hb, hf⟩ := ih (i + 1) (by omega)
          refine ⟨b, fun k hk => ?_, fun hb => ⟨(hf hb).1, fun x hx => ?_⟩⟩
          · obtain ⟨k, rfl⟩ : ∃ k', k = k' + 1 := ⟨k - 1, by omega⟩
            rw [gluepotref18_Great.l0, if_pos (by omega), if_pos (by omega), rd45 l i hlt, if_neg h, if_neg h', wi i (by omega)]
            exact hb k (by omega)
          · rw [hd] at hx
            rcases List.mem_cons.1 hx with rfl | hx
            · omega
            · exact (hf hb).2 x hx
  obtain ⟨b, h1, h2⟩ := loop l.length 0 (by omega)
  exact ⟨b, h1, fun h => by simpa using h2 h⟩
/-! ### Join, texts, pairs -/
theorem join_same : ∀ (k : Nat) (w out : List ByteArray) (i : Int) (a b : ByteArray), naive_Join.l0 k w out i a b = gluepotref16_Join.l0 k w out i a b
  | 0, w, out, i, a, b => by rw [naive_Join.l0, gluepotref16_Join.l0]
  | k + 1, w, out, i, a, b => by
    have hw : wrap64 (wrap64 (i + 1) + 1) = wrap64 (i + 2) := by unfold wrap64; omega
    rw [naive_Join.l0, gluepotref16_Join.l0, hw]
    simp only [join_same k]
theorem join_step (k : Nat) (w out : List ByteArray) (i : Nat) (a b : ByteArray) (hi : i < w.length) (hw : w.length ≤ 100000) (ha : a.size ≤ 300) (hb : b.size ≤ 300) (ho : out.length ≤ i) :
    gluepotref16_Join.l0 (k + 1) w out (i : Int) a b = if i + 1 < w.length ∧ (rdOf ByteArray.empty w (i : Int)).toList = a.toList ∧ (rdOf ByteArray.empty w ((i + 1 : Nat) : Int)).toList = b.toList then gluepotref16_Join.l0 k w (out ++ [a ++ b]) ((i + 2 : Nat) : Int) a b
      else gluepotref16_Join.l0 k w (out ++ [rdOf ByteArray.empty w (i : Int)]) ((i + 1 : Nat) : Int) a b := by
  have hw1 := wi i (by omega)
  have hw2 : wrap64 ((i : Int) + 2) = ((i + 2 : Nat) : Int) := by unfold wrap64; omega
  have c1 : (i : Int) < (w.length : Int) := by omega
  have c2 : (0 : Int) ≤ (i : Int) := by omega
  have c3 : (0 : Int) ≤ ((i + 1 : Nat) : Int) := by omega
  have c4 : out.length < 8796093022208 := by omega
  have c5 : a.size + b.size ≤ 9223372036854775807 := by omega
  rw [gluepotref16_Join.l0, hw1, hw2, if_pos c1]
  by_cases h1 : i + 1 < w.length
  · have c6 : ((i + 1 : Nat) : Int) < (w.length : Int) := by omega
    rw [if_pos c6, if_pos c2]
    by_cases h2 : (rdOf ByteArray.empty w (i : Int)).toList = a.toList
    · rw [if_pos h2, if_pos c3]
      by_cases h3 : (rdOf ByteArray.empty w ((i + 1 : Nat) : Int)).toList = b.toList
      · rw [if_pos h3, if_pos c5, if_pos c4, if_pos ⟨h1, h2, h3⟩]
      · rw [if_neg h3, if_pos c4, if_neg (fun h => h3 h.2.2)]
    · rw [if_neg h2, if_pos c4, if_neg (fun h => h2 h.2.1)]
  · have c6 : ¬ ((i + 1 : Nat) : Int) < (w.length : Int) := by omega
    rw [if_neg c6, if_pos c2, if_pos c4, if_neg (fun h => h1 h.1)]
theorem join_loop (w : List ByteArray) (a b : ByteArray) (hw : w.length ≤ 100000) (ha : a.size ≤ 300) (hb : b.size ≤ 300) : ∀ (m i : Nat) (out : List ByteArray), w.length ≤ i + m → i ≤ w.length → out.length ≤ i → ∃ J : List ByteArray, J.length ≤ w.length ∧ ∀ k, m + 1 ≤ k → gluepotref16_Join.l0 k w out (i : Int) a b = some J := by
  intro m
  induction m with
  | zero =>
    intro i out hi hi2 ho
    refine ⟨out, by omega, fun k hk => ?_⟩
    obtain ⟨k, rfl⟩ : ∃ k', k = k' + 1 := ⟨k - 1, by omega⟩
    have c1 : ¬ (i : Int) < (w.length : Int) := by omega
    rw [gluepotref16_Join.l0, if_neg c1]
  | succ m ih =>
    intro i out hi hi2 ho
    by_cases hlt : i < w.length
    · by_cases h : i + 1 < w.length ∧ (rdOf ByteArray.empty w (i : Int)).toList = a.toList ∧ (rdOf ByteArray.empty w ((i + 1 : Nat) : Int)).toList = b.toList
      · obtain ⟨J, hJ, hk2⟩ := ih (i + 2) (out ++ [a ++ b]) (by omega) (by omega) (by rw [List.length_append]; simp; omega)
        refine ⟨J, hJ, fun k hk => ?_⟩
        obtain ⟨k, rfl⟩ : ∃ k', k = k' + 1 := ⟨k - 1, by omega⟩
        rw [join_step k w out i a b hlt hw ha hb ho, if_pos h]
        exact hk2 k (by omega)
      · obtain ⟨J, hJ, hk2⟩ := ih (i + 1) (out ++ [rdOf ByteArray.empty w (i : Int)]) (by omega) (by omega) (by rw [List.length_append]; simp; omega)
        refine ⟨J, hJ, fun k hk => ?_⟩
        obtain ⟨k, rfl⟩ : ∃ k', k = k' + 1 := ⟨k - 1, by omega⟩
        rw [join_step k w out i a b hlt hw ha hb ho, if_neg h]
        exact hk2 k (by omega)
    · refine ⟨out, by omega, fun k hk => ?_⟩
      obtain ⟨k, rfl⟩ : ∃ k', k = k' + 1 := ⟨k - 1, by omega⟩
      have c1 : ¬ (i : Int) < (w.length : Int) := by omega
      rw [gluepotref16_Join.l0, if_neg c1]
theorem join_f (w : List ByteArray) (a b : ByteArray) (hw : w.length ≤ 100000) (ha : a.size ≤ 300) (hb : b.size ≤ 300) : ∃ J : List ByteArray, J.length ≤ w.length ∧ ∀ k, w.length + 1 ≤ k → gluepotref16_Join.f k w a b = some J :=
  join_loop w a b hw ha hb w.length 0 [] (by omega) (by omega) (by simp)
/-- A word behind a merge. -/
def JF (w : List ByteArray) (x : S45) : List ByteArray := (gluepotref16_Join.f (w.length + 1) w x.f0 x.f1).getD []
theorem JF_f (w : List ByteArray) (x : S45) (hw : w.length ≤ 100000) (ha : x.f0.size ≤ 300) (hb : x.f1.size ≤ 300) (k : Nat) (hk : w.length + 1 ≤ k) : gluepotref16_Join.f k w x.f0 x.f1 = some (JF w x) ∧ naive_Join.f k w x.f0 x.f1 = some (JF w x) ∧ (JF w x).length ≤ w.length := by
  obtain ⟨J, hJ, h⟩ := join_f w x.f0 x.f1 hw ha hb
  have hj : JF w x = J := by rw [JF, h _ (Nat.le_refl _)]; rfl
  rw [hj]
  exact ⟨h k hk, by rw [naive_Join.f, join_same]; exact h k hk, hJ⟩
/-- The pairs of a merge in a word, from place i on. -/
def cnt (w : List ByteArray) (a b : ByteArray) : Nat → Nat → Nat
  | 0, _ => 0
  | m + 1, i => (if (rdOf ByteArray.empty w (i : Int)).toList = a.toList ∧ (rdOf ByteArray.empty w ((i + 1 : Nat) : Int)).toList = b.toList then 1 else 0) + cnt w a b m (i + 1)
theorem cnt_le (w : List ByteArray) (a b : ByteArray) : ∀ m i, cnt w a b m i ≤ m
  | 0, i => by simp [cnt]
  | m + 1, i => by
    have := cnt_le w a b m (i + 1)
    rw [cnt]
    split <;> omega
/-- All of them. -/
def pairs (w : List ByteArray) (x : S45) : Nat := cnt w x.f0 x.f1 (w.length - 1) 0
theorem count_f (w : List ByteArray) (x : S45) (hw : w.length ≤ 100000) (k : Nat) (hk : w.length + 1 ≤ k) : stats_count.f k w x.f0 x.f1 = some (pairs w x : Int) := by
  have loop : ∀ m i (n : Nat) k, i + m = w.length - 1 → m + 1 ≤ k → n ≤ i → stats_count.l0 k w (n : Int) ((w.length : Int) - 1) (i : Int) x.f0 x.f1 = some ((n + cnt w x.f0 x.f1 m i : Nat) : Int) := by
    intro m
    induction m with
    | zero =>
      intro i n k hi hk hn
      obtain ⟨k, rfl⟩ : ∃ k', k = k' + 1 := ⟨k - 1, by omega⟩
      rw [stats_count.l0, if_neg (by omega)]
      rfl
    | succ m ih =>
      intro i n k hi hk hn
      obtain ⟨k, rfl⟩ : ∃ k', k = k' + 1 := ⟨k - 1, by omega⟩
      rw [stats_count.l0, wi i (by omega), wi n (by omega), if_pos (by omega), if_pos (by omega), if_pos (by omega), cnt]
      by_cases h1 : (rdOf ByteArray.empty w (i : Int)).toList = x.f0.toList
      · rw [if_pos h1, if_pos (by omega), if_pos (by omega)]
        by_cases h2 : (rdOf ByteArray.empty w ((i + 1 : Nat) : Int)).toList = x.f1.toList
        · rw [if_pos h2, if_pos ⟨h1, h2⟩, ih (i + 1) (n + 1) k (by omega) (by omega) (by omega), show n + 1 + cnt w x.f0 x.f1 m (i + 1) = n + (1 + cnt w x.f0 x.f1 m (i + 1)) by omega]
        · rw [if_neg h2, if_neg (fun h => h2 h.2), ih (i + 1) n k (by omega) (by omega) (by omega), Nat.zero_add]
      · rw [if_neg h1, if_neg (fun h => h1 h.1), ih (i + 1) n k (by omega) (by omega) (by omega), Nat.zero_add]
  have hw1 : wrap64 ((w.length : Int) - 1) = (w.length : Int) - 1 := by unfold wrap64; omega
  rw [stats_count.f, hw1]
  by_cases h0 : w.length = 0
  · obtain ⟨k, rfl⟩ : ∃ k', k = k' + 1 := ⟨k - 1, by omega⟩
    rw [stats_count.l0, if_neg (by omega), pairs, show w.length - 1 = 0 by omega]
    rfl
  · have := loop (w.length - 1) 0 0 k (by omega) (by omega) (Nat.le_refl _)
    rw [Nat.zero_add] at this
    exact this
/-- A word's bytes as texts, in both. -/
theorem texts_f (s : ByteArray) (hs : s.size ≤ 100) (k : Nat) (hk : s.size + 1 ≤ k) : stats_texts.f s = some (s.data.toList.map mkT) ∧ gluepotref16_Texts.f k s = some (s.data.toList.map mkT) := by
  have hl : s.data.toList.length = s.size := by simp
  refine ⟨by rw [stats_texts.f, if_pos (by omega)], ?_⟩
  have loop : ∀ m i k, i + m = s.size → m + 1 ≤ k → gluepotref16_Texts.l0 k s ((s.data.toList.take i).map mkT) (i : Int) = some (s.data.toList.map mkT) := by
    intro m
    induction m with
    | zero =>
      intro i k hi hk
      obtain ⟨k, rfl⟩ : ∃ k', k = k' + 1 := ⟨k - 1, by omega⟩
      rw [gluepotref16_Texts.l0, if_neg (by omega), List.take_of_length_le (by omega)]
    | succ m ih =>
      intro i k hi hk
      obtain ⟨k, rfl⟩ : ∃ k', k = k' + 1 := ⟨k - 1, by omega⟩
      have hlt : i < s.data.toList.length := by omega
      have hx : s.extract i (i + 1) = mkT s.data.toList[i] := by
        apply ByteArray.ext
        apply Array.toList_inj.1
        rw [Lib.extract_data, show i + 1 - i = 1 by omega, List.drop_eq_getElem_cons hlt]
        rfl
      rw [gluepotref16_Texts.l0, wi i (by omega), if_pos (by omega), if_pos (by omega), if_pos (by omega), if_pos (by omega), if_pos (by simp; omega), Int.toNat_natCast, Int.toNat_natCast, hx]
      have := ih (i + 1) k (by omega) (by omega)
      rw [List.take_succ_eq_append_getElem hlt, List.map_append] at this
      exact this
  have := loop s.size 0 k (by omega) hk
  simpa [gluepotref16_Texts.f] using this
end Go.Proofs.Ytbfjlfbahjmibaa.Pure

namespace Go.Proofs.Ytbfjlfbahjmibaa.Pure
open Go.RowKit Go.Proofs.Ytbfjlfbahjmibaa.Pr Go.Proofs.YtbfjlfbahjmibaaW.PrintWords Go.Proofs.YtbfjlfbahjmibaaW.PrintLast
set_option linter.unusedSimpArgs false
set_option linter.unusedVariables false

theorem wf_i64 {n : Int} (h : (Lit.int .i64 n).wf = true) : -9223372036854775808 ≤ n ∧ n ≤ 9223372036854775807 := by
  simpa [Lit.wf, IntKind.min, IntKind.max, IntKind.signed, IntKind.bits] using h
theorem wrap_id {n : Int} (h : -9223372036854775808 ≤ n) (h' : n ≤ 9223372036854775807) : wrap64 n = n := by unfold wrap64; omega

/-- The sum of two, if they and it are within. -/
def addv (a b : Int) : Int × Bool := if 0 ≤ a ∧ 0 ≤ b ∧ a + b ≤ 9223372036854775807 then (a + b, true) else (0, false)
def mulv (a b : Int) : Int × Bool := if 0 ≤ a ∧ 0 ≤ b ∧ a * b ≤ 9223372036854775807 then (a * b, true) else (0, false)

theorem checked_Add_eq {a b : Int} (ha : -9223372036854775808 ≤ a ∧ a ≤ 9223372036854775807) (hb : -9223372036854775808 ≤ b ∧ b ≤ 9223372036854775807) : checked_Add.f a b = some (addv a b) := by
  unfold checked_Add.f checked_within.f addv
  simp only [Option.bind_some, decide_eq_true_eq]
  by_cases h1 : 0 ≤ a
  · by_cases h2 : 0 ≤ b
    · rw [if_pos h1, if_pos h2, wrap_id (n := 9223372036854775807 - b) (by omega) (by omega)]
      by_cases h3 : a + b ≤ 9223372036854775807
      · rw [if_neg (by omega), wrap_id (by omega) (by omega), if_pos ⟨h1, h2, h3⟩]
      · rw [if_pos (by omega), if_neg (by omega)]
    · rw [if_pos h1, if_neg h2, if_neg (by omega)]
  · rw [if_neg h1, if_neg (by omega)]

theorem ref06_Add_eq {a b : Int} (ha : -9223372036854775808 ≤ a ∧ a ≤ 9223372036854775807) (hb : -9223372036854775808 ≤ b ∧ b ≤ 9223372036854775807) : gluepotref06_Add.f a b = some (addv a b) := by
  unfold gluepotref06_Add.f addv
  by_cases h1 : a < 0
  · rw [if_pos h1, if_neg (by omega)]
  · by_cases h2 : b < 0
    · rw [if_neg h1, if_pos h2, if_neg (by omega)]
    · rw [if_neg h1, if_neg h2]
      by_cases h3 : a + b ≤ 9223372036854775807
      · rw [wrap_id (by omega) (by omega), if_neg (by omega), if_pos ⟨by omega, by omega, h3⟩]
      · rw [if_pos (by unfold wrap64; omega), if_neg (by omega)]

theorem u64_wrap {n : Int} (h0 : 0 ≤ n) (h1 : n ≤ 9223372036854775807) : IntKind.u64.wrap n = n := by
  simp [IntKind.wrap, IntKind.bits, IntKind.signed]
  omega

theorem mul_bound {a b : Int} (ha : 0 ≤ a ∧ a ≤ 9223372036854775807) (hb : 0 ≤ b ∧ b ≤ 9223372036854775807) : 0 ≤ a * b ∧ a * b ≤ 9223372036854775807 * 9223372036854775807 :=
  ⟨Int.mul_nonneg ha.1 hb.1, Int.mul_le_mul ha.2 hb.2 hb.1 (by omega)⟩

theorem checked_Mul_eq {k : Nat} (hk : 1 ≤ k) {a b : Int} (ha : -9223372036854775808 ≤ a ∧ a ≤ 9223372036854775807) (hb : -9223372036854775808 ≤ b ∧ b ≤ 9223372036854775807) : checked_Mul.f k a b = some (mulv a b) := by
  obtain ⟨k, rfl⟩ : ∃ m, k = m + 1 := ⟨k - 1, by omega⟩
  unfold checked_Mul.f checked_within.f mulv
  simp only [Option.bind_some, decide_eq_true_eq]
  by_cases h1 : 0 ≤ a
  · rw [if_pos h1]
    by_cases h2 : 0 ≤ b
    · have hm := mul_bound ⟨h1, ha.2⟩ ⟨h2, hb.2⟩
      simp only [checked_Mul.j0, h2, ge_iff_le, decide_true, Bool.not_true, Bool.false_eq_true, if_false, true_and, h1]
      rw [u64_wrap h1 ha.2, u64_wrap h2 hb.2]
      unfold bits_Mul64.f
      rw [if_pos (by omega)]
      simp only [Option.bind_some]
      by_cases h3 : a * b ≤ 9223372036854775807
      · rw [if_pos (by omega), if_neg (by omega), if_pos h3, wrap_id (by omega) (by omega)]
        congr 2
        omega
      · rw [if_neg h3]
        by_cases h4 : a * b / 18446744073709551616 = 0
        · rw [if_pos h4, if_pos (by omega)]
        · rw [if_neg h4]
    · simp only [checked_Mul.j0, h2, ge_iff_le, decide_false, Bool.not_false, if_true, false_and, and_false, if_false]
  · rw [if_neg h1, if_neg (by omega)]
    simp only [checked_Mul.j0, if_true]

theorem ref06_Mul_eq {a b : Int} (ha : -9223372036854775808 ≤ a ∧ a ≤ 9223372036854775807) (hb : -9223372036854775808 ≤ b ∧ b ≤ 9223372036854775807) : gluepotref06_Mul.f a b = some (mulv a b) := by
  unfold gluepotref06_Mul.f mulv
  by_cases h1 : a < 0
  · rw [if_pos h1, if_neg (by omega)]
  · rw [if_neg h1]
    by_cases h2 : b < 0
    · rw [if_pos h2, if_neg (by omega)]
    · rw [if_neg h2]
      by_cases h3 : a * b ≤ 9223372036854775807
      · have hn : ¬ (0 < b ∧ 9223372036854775807 / b < a) := by
          rintro ⟨hb0, hq⟩
          have := (Int.ediv_lt_iff_lt_mul hb0).1 hq
          omega
        rw [if_neg hn, if_pos ⟨by omega, by omega, h3⟩, wrap_id _ h3]
        have := Int.mul_nonneg (a := a) (b := b) (by omega) (by omega)
        omega
      · have hb0 : 0 < b := by
          rcases Int.lt_or_eq_of_le (show 0 ≤ b by omega) with h | h
          · exact h
          · rw [← h] at h3
            simp at h3
        have hq : 9223372036854775807 / b < a := by
          rw [Int.ediv_lt_iff_lt_mul hb0]
          omega
        rw [if_pos ⟨hb0, hq⟩, if_neg (by omega)]

theorem addv_range {a b : Int} : -9223372036854775808 ≤ (addv a b).1 ∧ (addv a b).1 ≤ 9223372036854775807 := by
  unfold addv
  split
  · simp only; omega
  · simp only; omega
theorem mulv_range {a b : Int} : 0 ≤ (mulv a b).1 ∧ (mulv a b).1 ≤ 9223372036854775807 := by
  unfold mulv
  split
  · rename_i h
    exact ⟨Int.mul_nonneg h.1 h.2.1, h.2.2⟩
  · simp only; omega

end Go.Proofs.Ytbfjlfbahjmibaa.Pure

namespace Go.Proofs.Ytbfjlfbahjmibaa.Pure
open Go.RowKit Go.Proofs.Ytbfjlfbahjmibaa.Pr Go.Proofs.YtbfjlfbahjmibaaW.PrintWords Go.Proofs.YtbfjlfbahjmibaaW.PrintLast
set_option linter.unusedSimpArgs false

def InR (x : Int) : Prop := -9223372036854775808 ≤ x ∧ x ≤ 9223372036854775807
theorem addv_in {a b : Int} : InR (addv a b).1 := addv_range
theorem mulv_in {a b : Int} : InR (mulv a b).1 := ⟨by have := (mulv_range (a := a) (b := b)).1; omega, mulv_range.2⟩

def sumGo : Int → List Int → Int × Bool
  | acc, [] => (acc, true)
  | acc, x :: r => if (addv acc x).2 = true then sumGo (addv acc x).1 r else (0, false)
theorem rd_nat (l : List Int) (i : Nat) : rd l (i : Int) = l.getD i 0 := by unfold rd; rw [Int.toNat_natCast]
theorem drop_getD (l : List Int) (i : Nat) (h : i < l.length) : l.drop i = l.getD i 0 :: l.drop (i + 1) := by
  rw [List.drop_eq_getElem_cons h]
  simp only [List.getD_eq_getElem?_getD, List.getElem?_eq_getElem h, Option.getD_some]
theorem getD_in {l : List Int} (h : ∀ x ∈ l, InR x) (i : Nat) : InR (l.getD i 0) := by
  rw [List.getD_eq_getElem?_getD]
  cases hx : l[i]? with
  | none => exact ⟨by simp, by simp⟩
  | some x => exact h x (List.mem_of_getElem? hx)
theorem wrap_succ (i : Nat) (h : i ≤ 1000000) : wrap64 ((i : Int) + 1) = ((i + 1 : Nat) : Int) := by unfold wrap64; omega

theorem sum_l0 (l : List Int) (hl : l.length ≤ 1000000) (hr : ∀ x ∈ l, InR x) (d : Nat) : ∀ (k i : Nat) (acc : Int), l.length = i + d → d < k → InR acc →
    checked_Sum.l0 k acc l (l.length : Int) (i : Int) = some (sumGo acc (l.drop i)) := by
  induction d with
  | zero =>
    intro k i acc hd hk ha
    obtain ⟨k, rfl⟩ : ∃ m, k = m + 1 := ⟨k - 1, by omega⟩
    unfold checked_Sum.l0
    rw [if_neg (by omega), List.drop_eq_nil_of_le (by omega)]
    rfl
  | succ d ih =>
    intro k i acc hd hk ha
    obtain ⟨k, rfl⟩ : ∃ m, k = m + 1 := ⟨k - 1, by omega⟩
    unfold checked_Sum.l0
    rw [if_pos (by omega), if_pos (by omega), if_pos (by omega), rd_nat, checked_Add_eq ha (getD_in hr i), Option.bind_some, wrap_succ i (by omega), drop_getD l i (by omega)]
    unfold sumGo
    by_cases h : (addv acc (l.getD i 0)).2 = true
    · rw [if_pos h, if_pos h]
      exact ih k (i + 1) _ (by omega) (by omega) addv_in
    · rw [if_neg h, if_neg h]
theorem checked_Sum_eq (l : List Int) (hl : l.length ≤ 1000000) (hr : ∀ x ∈ l, InR x) {k : Nat} (hk : l.length < k) : checked_Sum.f k l = some (sumGo 0 l) := by
  unfold checked_Sum.f
  exact sum_l0 l hl hr l.length k 0 0 (by omega) hk ⟨by omega, by omega⟩

end Go.Proofs.Ytbfjlfbahjmibaa.Pure

namespace Go.Proofs.Ytbfjlfbahjmibaa.Pure
open Go.RowKit Go.Proofs.Ytbfjlfbahjmibaa.Pr Go.Proofs.YtbfjlfbahjmibaaW.PrintWords Go.Proofs.YtbfjlfbahjmibaaW.PrintLast
set_option linter.unusedSimpArgs false

def dotGo : Int → List Int → List Int → Int × Bool
  | acc, x :: r, y :: s => if (mulv x y).2 = true then (if (addv acc (mulv x y).1).2 = true then dotGo (addv acc (mulv x y).1).1 r s else (0, false)) else (0, false)
  | acc, _, _ => (acc, true)

def dotv (a b : List Int) : Int × Bool := if a.length = b.length then dotGo 0 a b else (0, false)
def prods : List Int → List Int → Option (List Int)
  | x :: r, y :: s => if (mulv x y).2 = true then (prods r s).map ((mulv x y).1 :: ·) else none
  | _, _ => some []
theorem prods_in : ∀ (a b l : List Int), prods a b = some l → ∀ x ∈ l, InR x
  | [], _, l, h => by simp [prods] at h; subst h; simp
  | _ :: _, [], l, h => by simp [prods] at h; subst h; simp
  | x :: r, y :: s, l, h => by
    unfold prods at h
    split at h
    · obtain ⟨m, hm, rfl⟩ := Option.map_eq_some_iff.1 h
      intro z hz
      rcases List.mem_cons.1 hz with rfl | hz
      · exact mulv_in
      · exact prods_in r s m hm z hz
    · cases h
theorem prods_length : ∀ (a b l : List Int), prods a b = some l → l.length ≤ a.length
  | [], _, l, h => by simp [prods] at h; subst h; simp
  | _ :: _, [], l, h => by simp [prods] at h; subst h; simp
  | x :: r, y :: s, l, h => by
    unfold prods at h
    split at h
    · obtain ⟨m, hm, rfl⟩ := Option.map_eq_some_iff.1 h
      have := prods_length r s m hm
      simp only [List.length_cons]
      omega
    · cases h
theorem sum_neg_false : ∀ (l : List Int) (acc : Int), ∀ m : List Int, sumGo acc l = (0, false) → sumGo acc (l ++ m) = (0, false)
  | [], acc, m, h => by simp [sumGo] at h
  | x :: r, acc, m, h => by
    simp only [List.cons_append, sumGo] at h ⊢
    split at h
    · rename_i h1
      rw [if_pos h1]
      exact sum_neg_false r _ m h
    · rename_i h1
      rw [if_neg h1]
theorem dot_prods : ∀ (a b : List Int) (acc : Int), (match prods a b with | some l => sumGo acc l | none => (0, false)) = dotGo acc a b
  | [], _, acc => by simp [prods, dotGo, sumGo]
  | _ :: _, [], acc => by simp [prods, dotGo, sumGo]
  | x :: r, y :: s, acc => by
    unfold prods dotGo
    by_cases h : (mulv x y).2 = true
    · rw [if_pos h, if_pos h]
      have ih := dot_prods r s (addv acc (mulv x y).1).1
      cases hp : prods r s with
      | none =>
        rw [hp] at ih
        simp only [Option.map_none]
        by_cases h2 : (addv acc (mulv x y).1).2 = true
        · rw [if_pos h2]
          exact ih
        · rw [if_neg h2]
      | some l =>
        rw [hp] at ih
        simp only [Option.map_some, sumGo]
        by_cases h2 : (addv acc (mulv x y).1).2 = true
        · rw [if_pos h2, if_pos h2]
          exact ih
        · rw [if_neg h2, if_neg h2]
    · rw [if_neg h, if_neg h]

theorem cdot_l0 (a b : List Int) (he : a.length = b.length) (hl : a.length ≤ 1000000) (ha : ∀ x ∈ a, InR x) (hb : ∀ x ∈ b, InR x) (d : Nat) : ∀ (k i : Nat) (acc : List Int), a.length = i + d → a.length + d + 1 < k → acc.length ≤ i → (∀ x ∈ acc, InR x) →
    checked_Dot.l0 k a b acc (a.length : Int) (i : Int) = some (match prods (a.drop i) (b.drop i) with | some l => sumGo 0 (acc ++ l) | none => (0, false)) := by
  induction d with
  | zero =>
    intro k i acc hd hk hacc hin
    obtain ⟨k, rfl⟩ : ∃ m, k = m + 1 := ⟨k - 1, by omega⟩
    unfold checked_Dot.l0
    rw [if_neg (by omega), List.drop_eq_nil_of_le (by omega), checked_Sum_eq acc (by omega) hin (by omega)]
    simp [prods]
  | succ d ih =>
    intro k i acc hd hk hacc hin
    obtain ⟨k, rfl⟩ : ∃ m, k = m + 1 := ⟨k - 1, by omega⟩
    unfold checked_Dot.l0
    rw [if_pos (by omega), if_pos (by omega), if_pos (by omega), if_pos (by omega), rd_nat, rd_nat, checked_Mul_eq (by omega) (getD_in ha i) (getD_in hb i), Option.bind_some, drop_getD a i (by omega), drop_getD b i (by omega)]
    unfold prods
    by_cases h : (mulv (a.getD i 0) (b.getD i 0)).2 = true
    · rw [if_pos h, if_pos h, if_pos (by omega), wrap_succ i (by omega), ih k (i + 1) _ (by omega) (by omega) (by rw [List.length_append]; simp only [List.length_cons, List.length_nil]; omega) (fun x hx => by
        rcases List.mem_append.1 hx with hx | hx
        · exact hin x hx
        · rw [List.mem_singleton.1 hx]
          exact mulv_in)]
      cases prods (a.drop (i + 1)) (b.drop (i + 1)) with
      | none => rfl
      | some l =>
        simp only [Option.map_some]
        rw [List.append_assoc]
        rfl
    · rw [if_neg h, if_neg h]
theorem checked_Dot_eq (a b : List Int) (hl : a.length ≤ 1000000) (ha : ∀ x ∈ a, InR x) (hb : ∀ x ∈ b, InR x) {k : Nat} (hk : a.length + a.length + 1 < k) : checked_Dot.f k a b = some (dotv a b) := by
  unfold checked_Dot.f dotv
  by_cases h : a.length = b.length
  · rw [if_pos (by omega), if_pos h]
    have := cdot_l0 a b h hl ha hb a.length k 0 [] (by omega) hk (by simp) (by simp)
    rw [← dot_prods]
    simpa using this
  · rw [if_neg (by omega), if_neg h]
end Go.Proofs.Ytbfjlfbahjmibaa.Pure

namespace Go.Proofs.Ytbfjlfbahjmibaa.Pure
open Go.RowKit Go.Proofs.YtbfjlfbahjmibaaW.PrintWords Go.Proofs.Ytbfjlfbahjmibaa.Pr
set_option linter.unusedVariables false
set_option linter.unusedSimpArgs false
/-- The pairs of bytes. -/
def pr1 (x : S35) : Int := max ((x.f0.size : Int) - 1) 0
def Fine (l : List S35) : Prop := l.length ≤ 30 ∧ ∀ x ∈ l, x.f0.size ≤ 100 ∧ InR x.f1
theorem pr1_in (x : S35) (h : x.f0.size ≤ 100) : InR (pr1 x) := by unfold InR pr1; omega
theorem mx_max' (a b : Int) : mx a b = max a b := by unfold mx; omega
theorem map_in1 {l : List S35} (h : Fine l) : ∀ y ∈ l.map (·.f1), InR y := by
  intro y hy
  obtain ⟨x, hx, rfl⟩ := List.mem_map.1 hy
  exact (h.2 x hx).2
theorem map_in2 {l : List S35} (h : Fine l) : ∀ y ∈ l.map pr1, InR y := by
  intro y hy
  obtain ⟨x, hx, rfl⟩ := List.mem_map.1 hy
  exact pr1_in x (h.2 x hx).1
theorem table_weight (l : List S35) (h : Fine l) (k : Nat) (hk : 200 ≤ k) : table_Weight.f k l = some (dotGo 0 (l.map (·.f1)) (l.map pr1)) := by
  have hlen := h.1
  have loop : ∀ m i k, i + m = l.length → m + 100 ≤ k → table_Weight.l0 k ((l.take i).map (·.f1)) ((l.take i).map pr1) l (l.length : Int) (i : Int) = some (dotGo 0 (l.map (·.f1)) (l.map pr1)) := by
    intro m
    induction m with
    | zero =>
      intro i k hi hk
      obtain ⟨k, rfl⟩ : ∃ k', k = k' + 1 := ⟨k - 1, by omega⟩
      rw [table_Weight.l0, if_neg (by omega), List.take_of_length_le (by omega), checked_Dot_eq _ _ (by simp; omega) (map_in1 h) (map_in2 h) (by simp; omega), Option.bind_some, dotv, if_pos (by simp)]
    | succ m ih =>
      intro i k hi hk
      obtain ⟨k, rfl⟩ : ∃ k', k = k' + 1 := ⟨k - 1, by omega⟩
      have hlt : i < l.length := by omega
      have hsz := (h.2 _ (List.getElem_mem hlt)).1
      have hw : wrap64 ((l[i].f0.size : Int) - 1) = (l[i].f0.size : Int) - 1 := by unfold wrap64; omega
      have := ih (i + 1) k (by omega) (by omega)
      rw [List.take_succ_eq_append_getElem hlt, List.map_append, List.map_append] at this
      rw [table_Weight.l0, rd35 l i hlt, wi i (by omega), hw, mx_max', if_pos (by omega), if_pos (by omega), if_pos (by omega), if_pos (by simp; omega), if_pos (by simp; omega)]
      exact this
  have := loop l.length 0 k (by omega) (by omega)
  simpa [table_Weight.f] using this
theorem ref_weight (l : List S35) (h : Fine l) (k : Nat) (hk : 200 ≤ k) : gluepotref08_Weight.f k l = some (dotGo 0 (l.map (·.f1)) (l.map pr1)) := by
  have hlen := h.1
  have loop : ∀ m i (acc : Int) k, i + m = l.length → m + 1 ≤ k → InR acc → gluepotref08_Weight.l0 k l acc (i : Int) = some (dotGo acc ((l.drop i).map (·.f1)) ((l.drop i).map pr1)) := by
    intro m
    induction m with
    | zero =>
      intro i acc k hi hk ha
      obtain ⟨k, rfl⟩ : ∃ k', k = k' + 1 := ⟨k - 1, by omega⟩
      rw [gluepotref08_Weight.l0, if_neg (by omega), List.drop_of_length_le (by omega)]
      rfl
    | succ m ih =>
      intro i acc k hi hk ha
      obtain ⟨k, rfl⟩ : ∃ k', k = k' + 1 := ⟨k - 1, by omega⟩
      have hlt : i < l.length := by omega
      have hx := h.2 _ (List.getElem_mem hlt)
      have hsz := hx.1
      have hw : wrap64 ((l[i].f0.size : Int) - 1) = (l[i].f0.size : Int) - 1 := by unfold wrap64; omega
      have hp : mx 0 ((l[i].f0.size : Int) - 1) = pr1 l[i] := by rw [mx_max']; unfold pr1; omega
      rw [gluepotref08_Weight.l0, rd35 l i hlt, wi i (by omega), hw, hp, if_pos (by omega), if_pos (by omega), List.drop_eq_getElem_cons hlt, List.map_cons, List.map_cons, dotGo, ref06_Mul_eq hx.2 (pr1_in _ hx.1), Option.bind_some]
      by_cases h1 : (mulv l[i].f1 (pr1 l[i])).2 = true
      · rw [if_pos h1, if_pos h1, ref06_Add_eq ha mulv_in, Option.bind_some]
        by_cases h2 : (addv acc (mulv l[i].f1 (pr1 l[i])).1).2 = true
        · rw [if_pos h2, if_pos h2]
          exact ih (i + 1) _ k (by omega) (by omega) addv_in
        · rw [if_neg h2, if_neg h2]
      · rw [if_neg h1, if_neg h1]
  have := loop l.length 0 0 k (by omega) (by omega) (by unfold InR; omega)
  simpa [gluepotref08_Weight.f] using this
theorem less_eq : ∀ (a b : List UInt8), lessL a b = Op.bytesLess a b
  | [], [] => rfl
  | [], _ :: _ => rfl
  | _ :: _, [] => rfl
  | a :: x, b :: y => by
    rw [lessL, Op.bytesLess]
    by_cases h : a = b
    · subst h
      have : ¬ a < a := fun h2 => by have : a.toNat < a.toNat := h2; omega
      simp [this, less_eq x y]
    · simp [h]
/-- What is wrong with the words from the i-th on, behind the text a: nothing? -/
def good : ByteArray → List S35 → Bool
  | _, [] => true
  | a, x :: r => if x.f0.toList = [] then false else if x.f1 < 1 then false else if Op.bytesLess a.toList x.f0.toList = true then good x.f0 r else false
theorem good_counts : ∀ (a : ByteArray) (l : List S35), good a l = true → ∀ x ∈ l, 1 ≤ x.f1
  | _, [], _, x, hx => by cases hx
  | a, y :: r, h, x, hx => by
    rw [good] at h
    split at h
    · cases h
    · split at h
      · cases h
      · split at h
        · rcases List.mem_cons.1 hx with rfl | hx
          · omega
          · exact good_counts _ r h x hx
        · cases h
theorem table_check (l : List S35) (h : Fine l) : ∃ p e, (∀ k, 400 ≤ k → table_Check.f k l = some (p, e)) ∧ (e = 0 ↔ good ByteArray.empty l = true ∧ (dotGo 0 (l.map (·.f1)) (l.map pr1)).2 = true) := by
  have hlen := h.1
  have loop : ∀ m i (a : ByteArray), i + m = l.length → ∃ p e, (∀ k, m + 300 ≤ k → table_Check.l0 k l a l (l.length : Int) (i : Int) = some (p, e)) ∧ (e = 0 ↔ good a (l.drop i) = true ∧ (dotGo 0 (l.map (·.f1)) (l.map pr1)).2 = true) := by
    intro m
    induction m with
    | zero =>
      intro i a hi
      rw [List.drop_of_length_le (by omega)]
      cases hd : (dotGo 0 (l.map (·.f1)) (l.map pr1)).2 with
      | true =>
        refine ⟨-1, 0, fun k hk => ?_, by simp [good]⟩
        obtain ⟨k, rfl⟩ : ∃ k', k = k' + 1 := ⟨k - 1, by omega⟩
        rw [table_Check.l0, if_neg (by omega), table_weight l h k (by omega), Option.bind_some, if_pos hd]
      | false =>
        refine ⟨(l.length : Int), 5, fun k hk => ?_, by simp⟩
        obtain ⟨k, rfl⟩ : ∃ k', k = k' + 1 := ⟨k - 1, by omega⟩
        rw [table_Check.l0, if_neg (by omega), table_weight l h k (by omega), Option.bind_some, if_neg (by rw [hd]; simp)]
    | succ m ih =>
      intro i a hi
      have hlt : i < l.length := by omega
      have hx := h.2 _ (List.getElem_mem hlt)
      rw [List.drop_eq_getElem_cons hlt, good]
      have step : ∀ k e, table_wrong.f k a l[i].f0 l[i].f1 = some e → table_Check.l0 (k + 1) l a l (l.length : Int) (i : Int) = if e = 0 then table_Check.l0 k l l[i].f0 l (l.length : Int) ((i + 1 : Nat) : Int) else some ((i : Int), e) := by
        intro k e he
        rw [table_Check.l0, rd35 l i hlt, wi i (by omega), if_pos (by omega), if_pos (by omega), if_pos (by omega), he, Option.bind_some]
      by_cases h1 : l[i].f0.toList = []
      · refine ⟨i, 1, fun k hk => ?_, by rw [if_pos h1]; simp⟩
        obtain ⟨k, rfl⟩ : ∃ k', k = k' + 1 + 1 := ⟨k - 2, by omega⟩
        rw [step (k + 1) 1 (by rw [table_wrong.f, if_pos h1, table_wrong.j0, if_pos rfl]), if_neg (by decide)]
      · rw [if_neg h1]
        by_cases h2 : l[i].f1 < 1
        · refine ⟨i, 1, fun k hk => ?_, by rw [if_pos h2]; simp⟩
          obtain ⟨k, rfl⟩ : ∃ k', k = k' + 1 + 1 := ⟨k - 2, by omega⟩
          rw [step (k + 1) 1 (by rw [table_wrong.f, if_neg h1, table_wrong.j0, if_pos (by simpa using h2)]), if_neg (by decide)]
        · rw [if_neg h2]
          have hs : ¬ ((l[i].f0.size : Nat) : Int) > 65536 := by omega
          by_cases h3 : Op.bytesLess a.toList l[i].f0.toList = true
          · obtain ⟨p, e, hk2, he⟩ := ih (i + 1) l[i].f0 (by omega)
            refine ⟨p, e, fun k hk => ?_, by rw [if_pos h3]; exact he⟩
            obtain ⟨k, rfl⟩ : ∃ k', k = k' + 1 + 1 := ⟨k - 2, by omega⟩
            rw [step (k + 1) 0 (by rw [table_wrong.f, if_neg h1, table_wrong.j0, if_neg (by simpa using h2), if_neg hs, if_pos h3]), if_pos rfl]
            exact hk2 (k + 1) (by omega)
          · refine ⟨i, 6, fun k hk => ?_, by rw [if_neg h3]; simp⟩
            obtain ⟨k, rfl⟩ : ∃ k', k = k' + 1 + 1 := ⟨k - 2, by omega⟩
            rw [step (k + 1) 6 (by rw [table_wrong.f, if_neg h1, table_wrong.j0, if_neg (by simpa using h2), if_neg hs, if_neg h3]), if_neg (by decide)]
  obtain ⟨p, e, h1, h2⟩ := loop l.length 0 ByteArray.empty (by omega)
  exact ⟨p, e, fun k hk => h1 k (by omega), by simpa using h2⟩
end Go.Proofs.Ytbfjlfbahjmibaa.Pure

namespace Go.Proofs.Ytbfjlfbahjmibaa.Pure
open Go.RowKit Go.Proofs.YtbfjlfbahjmibaaW.PrintWords Go.Proofs.Ytbfjlfbahjmibaa.Pr
set_option linter.unusedVariables false
set_option linter.unusedSimpArgs false
theorem less_f {l : List S35} (h : Fine l) (i j : Nat) (hi : i < l.length) (hj : j < l.length) : gluepotref01_Less.f l[i].f0 l[j].f0 = some (Op.bytesLess l[i].f0.toList l[j].f0.toList) := by
  have h1 := (h.2 _ (List.getElem_mem hi)).1
  have h2 := (h.2 _ (List.getElem_mem hj)).1
  rw [gluepotref01_Less.f, if_pos ⟨by omega, by omega⟩, less_eq, ByteArray.toList_eq, ByteArray.toList_eq]
theorem ref_check (l : List S35) (h : Fine l) : ∃ p e, (∀ k, 400 ≤ k → gluepotref08_Check.f k l = some (p, e)) ∧ (e = 0 ↔ good ByteArray.empty l = true ∧ (dotGo 0 (l.map (·.f1)) (l.map pr1)).2 = true) := by
  have hlen := h.1
  have loop : ∀ m i (a : ByteArray), i + m = l.length → ((i = 0 ∧ a = ByteArray.empty) ∨ ∃ hp : i - 1 < l.length, 0 < i ∧ a = l[i - 1].f0) → ∃ p e, (∀ k, 2 * m + 300 ≤ k → gluepotref08_Check.l0 k l (i : Int) = some (p, e)) ∧ (e = 0 ↔ good a (l.drop i) = true ∧ (dotGo 0 (l.map (·.f1)) (l.map pr1)).2 = true) := by
    intro m
    induction m with
    | zero =>
      intro i a hi _
      rw [List.drop_of_length_le (by omega)]
      cases hd : (dotGo 0 (l.map (·.f1)) (l.map pr1)).2 with
      | true =>
        refine ⟨-1, 0, fun k hk => ?_, by simp [good]⟩
        obtain ⟨k, rfl⟩ : ∃ k', k = k' + 1 := ⟨k - 1, by omega⟩
        rw [gluepotref08_Check.l0, if_neg (by omega), ref_weight l h k (by omega), Option.bind_some, if_pos hd]
      | false =>
        refine ⟨(l.length : Int), 5, fun k hk => ?_, by simp⟩
        obtain ⟨k, rfl⟩ : ∃ k', k = k' + 1 := ⟨k - 1, by omega⟩
        rw [gluepotref08_Check.l0, if_neg (by omega), ref_weight l h k (by omega), Option.bind_some, if_neg (by rw [hd]; simp)]
    | succ m ih =>
      intro i a hi ha
      have hlt : i < l.length := by omega
      have hx := h.2 _ (List.getElem_mem hlt)
      have hs : ¬ ((l[i].f0.size : Nat) : Int) > 65536 := by omega
      rw [List.drop_eq_getElem_cons hlt, good]
      by_cases h1 : l[i].f0.toList = []
      · refine ⟨i, 1, fun k hk => ?_, by rw [if_pos h1]; simp⟩
        obtain ⟨k, rfl⟩ : ∃ k', k = k' + 1 + 1 := ⟨k - 2, by omega⟩
        rw [gluepotref08_Check.l0, rd35 l i hlt, if_pos (by omega), if_pos (by omega), if_pos h1, gluepotref08_Check.j1, if_pos rfl]
      · rw [if_neg h1]
        by_cases h2 : l[i].f1 < 1
        · refine ⟨i, 1, fun k hk => ?_, by rw [if_pos h2]; simp⟩
          obtain ⟨k, rfl⟩ : ∃ k', k = k' + 1 + 1 := ⟨k - 2, by omega⟩
          rw [gluepotref08_Check.l0, rd35 l i hlt, if_pos (by omega), if_pos (by omega), if_neg h1, gluepotref08_Check.j1, if_pos (by simpa using h2)]
        · rw [if_neg h2]
          have go : ∀ k, gluepotref08_Check.l0 (k + 1 + 1) l (i : Int) = if 0 < i then (if Op.bytesLess a.toList l[i].f0.toList = true then gluepotref08_Check.l0 k l ((i + 1 : Nat) : Int) else some ((i : Int), 6)) else gluepotref08_Check.l0 k l ((i + 1 : Nat) : Int) := by
            intro k
            rw [gluepotref08_Check.l0, rd35 l i hlt, if_pos (by omega), if_pos (by omega), if_neg h1, gluepotref08_Check.j1, if_neg (by simpa using h2), if_pos (by omega), if_pos (by omega), rd35 l i hlt, if_neg hs, wi i (by omega)]
            rcases ha with ⟨h0, _⟩ | ⟨hp, h0, rfl⟩
            · rw [if_neg (by omega), if_neg (by omega)]
            · have hw : wrap64 ((i : Int) - 1) = ((i - 1 : Nat) : Int) := by unfold wrap64; omega
              rw [if_pos (by omega), if_pos h0, hw, if_pos (by omega), if_pos (by omega), rd35 l (i - 1) hp, less_f h (i - 1) i hp hlt, Option.bind_some]
          obtain ⟨p, e, hk2, he⟩ := ih (i + 1) l[i].f0 (by omega) (.inr ⟨by simpa using hlt, by omega, by simp⟩)
          by_cases h3 : Op.bytesLess a.toList l[i].f0.toList = true
          · refine ⟨p, e, fun k hk => ?_, by rw [if_pos h3]; exact he⟩
            obtain ⟨k, rfl⟩ : ∃ k', k = k' + 1 + 1 := ⟨k - 2, by omega⟩
            rw [go, if_pos h3]
            split <;> exact hk2 k (by omega)
          · have hpos : 0 < i := by
              rcases ha with ⟨_, rfl⟩ | ⟨_, h0, _⟩
              · exfalso
                apply h3
                rw [show ByteArray.empty.toList = [] from (by rw [ByteArray.toList_eq]; rfl)]
                cases hl : l[i].f0.toList with
                | nil => exact absurd hl h1
                | cons c r => rfl
              · exact h0
            refine ⟨i, 6, fun k hk => ?_, by rw [if_neg h3]; simp⟩
            obtain ⟨k, rfl⟩ : ∃ k', k = k' + 1 + 1 := ⟨k - 2, by omega⟩
            rw [go, if_pos hpos, if_neg h3]
  obtain ⟨p, e, h1, h2⟩ := loop l.length 0 ByteArray.empty (by omega) (.inl ⟨rfl, rfl⟩)
  exact ⟨p, e, fun k hk => h1 k (by omega), by simpa using h2⟩
/-! ### words behind merges -/
def FineM (m : List S45) : Prop := m.length ≤ 20 ∧ ∀ x ∈ m, x.f0.size ≤ 300 ∧ x.f1.size ≤ 300
def texts (s : ByteArray) : List ByteArray := s.data.toList.map mkT
def wordAt (s : ByteArray) (m : List S45) : List ByteArray := m.foldl JF (texts s)
theorem fold_len (m : List S45) (hm : ∀ x ∈ m, x.f0.size ≤ 300 ∧ x.f1.size ≤ 300) : ∀ (w : List ByteArray), w.length ≤ 100 → (m.foldl JF w).length ≤ 100 := by
  induction m with
  | nil => intro w hw; exact hw
  | cons x r ih =>
    intro w hw
    have hx := hm x (by simp)
    have := (JF_f w x (by omega) hx.1 hx.2 (w.length + 1) (Nat.le_refl _)).2.2
    exact ih (fun y hy => hm y (by simp [hy])) _ (by omega)
theorem texts_len (s : ByteArray) : (texts s).length = s.size := by simp [texts]
theorem word_snoc (s : ByteArray) (m : List S45) (j : Nat) (hj : j < m.length) : wordAt s (m.take (j + 1)) = JF (wordAt s (m.take j)) m[j] := by
  rw [wordAt, List.take_succ_eq_append_getElem hj, List.foldl_append]
  rfl
theorem word_len {m : List S45} (hm : FineM m) (s : ByteArray) (hs : s.size ≤ 100) (j : Nat) : (wordAt s (m.take j)).length ≤ 100 :=
  fold_len _ (fun x hx => hm.2 x (List.mem_of_mem_take hx)) _ (by rw [texts_len]; exact hs)
theorem words_f (l : List S35) (h : Fine l) (m : List S45) (hm : FineM m) (k : Nat) (hk : 2000 ≤ k) : gluepotref17_Words.f k l m = some (l.map fun x => wordAt x.f0 m) := by
  have hlen := h.1
  have hml := hm.1
  have loop : ∀ q i k, i + q = l.length → q * 30 + 300 ≤ k → gluepotref17_Words.l0 k l m ((l.take i).map fun x => wordAt x.f0 m) (i : Int) = some (l.map fun x => wordAt x.f0 m) := by
    intro q
    induction q with
    | zero =>
      intro i k hi hk
      obtain ⟨k, rfl⟩ : ∃ k', k = k' + 1 := ⟨k - 1, by omega⟩
      rw [gluepotref17_Words.l0, if_neg (by omega), List.take_of_length_le (by omega)]
    | succ q ih =>
      intro i k hi hk
      obtain ⟨k, rfl⟩ : ∃ k', k = k' + 1 := ⟨k - 1, by omega⟩
      have hlt : i < l.length := by omega
      have hs := (h.2 _ (List.getElem_mem hlt)).1
      have inner : ∀ n j k, j + n = m.length → n + 1 + q * 30 + 300 ≤ k → gluepotref17_Words.l1 k l m ((l.take i).map fun x => wordAt x.f0 m) (i : Int) (wordAt l[i].f0 (m.take j)) (j : Int) = some (l.map fun x => wordAt x.f0 m) := by
        intro n
        induction n with
        | zero =>
          intro j k hj hk
          obtain ⟨k, rfl⟩ : ∃ k', k = k' + 1 := ⟨k - 1, by omega⟩
          have := ih (i + 1) k (by omega) (by omega)
          rw [List.take_succ_eq_append_getElem hlt, List.map_append] at this
          rw [gluepotref17_Words.l1, if_neg (by omega), if_pos (by simp; omega), wi i (by omega), show m.take j = m from List.take_of_length_le (by omega)]
          exact this
        | succ n ihn =>
          intro j k hj hk
          obtain ⟨k, rfl⟩ : ∃ k', k = k' + 1 := ⟨k - 1, by omega⟩
          have hjl : j < m.length := by omega
          have hx := hm.2 _ (List.getElem_mem hjl)
          have hwl := word_len hm l[i].f0 hs j
          have := ihn (j + 1) k (by omega) (by omega)
          rw [word_snoc _ _ _ hjl] at this
          rw [gluepotref17_Words.l1, rd45 m j hjl, wi j (by omega), if_pos (by omega), if_pos (by omega), (JF_f _ m[j] (by omega) hx.1 hx.2 k (by omega)).1, Option.bind_some]
          exact this
      rw [gluepotref17_Words.l0, rd35 l i hlt, if_pos (by omega), if_pos (by omega), (texts_f _ hs k (by omega)).2, Option.bind_some]
      exact inner m.length 0 k (by omega) (by omega)
  have := loop l.length 0 k (by omega) (by omega)
  simpa [gluepotref17_Words.f] using this
/-! ### counts -/
theorem wrap_add (g z : Int) : wrap64 (g + wrap64 z) = wrap64 (g + z) := by unfold wrap64; omega
theorem wrap_in (z : Int) : InR (wrap64 z) := by unfold InR wrap64; omega
/-- A gain, over some words. -/
def gain (m : List S45) (x : S45) (ws : List S35) : Int := ws.foldl (fun g y => wrap64 (g + y.f1 * (pairs (wordAt y.f0 m) x : Int))) 0
theorem gain_snoc (m : List S45) (x : S45) (ws : List S35) (y : S35) : gain m x (ws ++ [y]) = wrap64 (gain m x ws + y.f1 * (pairs (wordAt y.f0 m) x : Int)) := by rw [gain, List.foldl_append]; rfl
theorem gain_in (m : List S45) (x : S45) (ws : List S35) : InR (gain m x ws) := by
  rcases List.eq_nil_or_concat ws with rfl | ⟨r, y, rfl⟩
  · unfold InR gain; simp
  · rw [List.concat_eq_append, gain_snoc]; exact wrap_in _
theorem rdL (ws : List (List ByteArray)) (i : Nat) (h : i < ws.length) : rd_L4 ws (i : Int) = ws[i] := by
  unfold rd_L4
  rw [Int.toNat_natCast, List.getD_eq_getElem?_getD, List.getElem?_eq_getElem h]
  rfl
theorem refcount_f (l : List S35) (h : Fine l) (hc : ∀ x ∈ l, 1 ≤ x.f1) (m : List S45) (hm : FineM m) (x : S45) (j : Nat) (k : Nat) (hk : 10000 ≤ k) :
    gluepotref16_Count.f k (l.map fun y => wordAt y.f0 (m.take j)) (l.map (·.f1)) x.f0 x.f1 = some (gain (m.take j) x l) := by
  have hlen := h.1
  obtain ⟨ws, hws⟩ : ∃ ws, ws = l.map fun y => wordAt y.f0 (m.take j) := ⟨_, rfl⟩
  obtain ⟨cs, hcs⟩ : ∃ cs, cs = l.map (·.f1) := ⟨_, rfl⟩
  have hwl : ws.length = l.length := by rw [hws]; simp
  have hcl : cs.length = l.length := by rw [hcs]; simp
  rw [← hws, ← hcs]
  have loop : ∀ q i k, i + q = l.length → q * 200 + 300 ≤ k → gluepotref16_Count.l0 k ws cs (gain (m.take j) x (l.take i)) (i : Int) x.f0 x.f1 = some (gain (m.take j) x l) := by
    intro q
    induction q with
    | zero =>
      intro i k hi hk
      obtain ⟨k, rfl⟩ : ∃ k', k = k' + 1 + 1 := ⟨k - 2, by omega⟩
      rw [gluepotref16_Count.l0, if_neg (by omega), gluepotref16_Count.j1, if_neg (by simp), show l.take i = l from List.take_of_length_le (by omega)]
    | succ q ih =>
      intro i k hi hk
      obtain ⟨k, rfl⟩ : ∃ k', k = k' + 1 + 1 := ⟨k - 2, by omega⟩
      have hlt : i < l.length := by omega
      have hs := (h.2 _ (List.getElem_mem hlt)).1
      have hci := hc _ (List.getElem_mem hlt)
      have hwi : ws[i]'(by omega) = wordAt l[i].f0 (m.take j) := by simp [hws]
      have hcc : cs[i]'(by omega) = l[i].f1 := by simp [hcs]
      have hwlen := word_len hm l[i].f0 hs j
      have rw1 := rdL ws i (by omega)
      have rc1 := rdI cs i (by omega)
      rw [hwi] at rw1
      rw [hcc] at rc1
      have inner : ∀ n t k (acc : Int), t + n = (wordAt l[i].f0 (m.take j)).length - 1 → InR acc → n + 1 + q * 200 + 300 ≤ k → wrap64 (acc + l[i].f1 * (cnt (wordAt l[i].f0 (m.take j)) x.f0 x.f1 n t : Int)) = gain (m.take j) x (l.take (i + 1)) → gluepotref16_Count.l1 k ws cs acc (i : Int) (t : Int) x.f0 x.f1 = some (gain (m.take j) x l) := by
        intro n
        induction n with
        | zero =>
          intro t k acc ht ha hk hg
          obtain ⟨k, rfl⟩ : ∃ k', k = k' + 1 := ⟨k - 1, by omega⟩
          have hacc : acc = gain (m.take j) x (l.take (i + 1)) := by
            rw [← hg, cnt]
            simp
            exact (wrap_id ha.1 ha.2).symm
          rw [gluepotref16_Count.l1, rw1, wi t (by omega), if_pos (by omega), if_pos (by omega), if_neg (by omega), wi i (by omega), hacc]
          exact ih (i + 1) k (by omega) (by omega)
        | succ n ihn =>
          intro t k acc ht ha hk hg
          obtain ⟨k, rfl⟩ : ∃ k', k = k' + 1 := ⟨k - 1, by omega⟩
          rw [cnt] at hg
          rw [gluepotref16_Count.l1, rw1, rc1, wi t (by omega), if_pos (by omega), if_pos (by omega), if_pos (by omega), if_pos (by omega), if_pos (by omega)]
          by_cases e1 : (rdOf ByteArray.empty (wordAt l[i].f0 (m.take j)) (t : Int)).toList = x.f0.toList
          · rw [if_pos e1, if_pos (by omega)]
            by_cases e2 : (rdOf ByteArray.empty (wordAt l[i].f0 (m.take j)) ((t + 1 : Nat) : Int)).toList = x.f1.toList
            · rw [if_pos e2, if_pos (by omega)]
              refine ihn (t + 1) k _ (by omega) (wrap_in _) (by omega) ?_
              rw [← hg, if_pos ⟨e1, e2⟩]
              generalize cnt (wordAt l[i].f0 (m.take j)) x.f0 x.f1 n (t + 1) = d
              rw [show l[i].f1 * ((1 + d : Nat) : Int) = l[i].f1 + l[i].f1 * (d : Int) by rw [Int.natCast_add, Int.mul_add]; simp]
              generalize l[i].f1 * (d : Int) = z
              unfold wrap64
              omega
            · rw [if_neg e2]
              refine ihn (t + 1) k _ (by omega) ha (by omega) ?_
              rw [← hg, if_neg (fun e => e2 e.2), Nat.zero_add]
          · rw [if_neg e1]
            refine ihn (t + 1) k _ (by omega) ha (by omega) ?_
            rw [← hg, if_neg (fun e => e1 e.1), Nat.zero_add]
      rw [gluepotref16_Count.l0, if_pos (by omega), gluepotref16_Count.j1, if_pos (by simp; omega), rc1, if_pos (by omega), if_pos (by omega), if_neg (by omega)]
      refine inner _ 0 k _ (by rw [Nat.zero_add]) (gain_in _ _ _) (by omega) ?_
      rw [List.take_succ_eq_append_getElem hlt, gain_snoc]
      rfl
  have := loop l.length 0 k (by omega) (by omega)
  simpa [gluepotref16_Count.f, gain] using this
end Go.Proofs.Ytbfjlfbahjmibaa.Pure

namespace Go.Proofs.Ytbfjlfbahjmibaa.Pure
open Go.RowKit Go.Proofs.YtbfjlfbahjmibaaW.PrintWords Go.Proofs.Ytbfjlfbahjmibaa.Pr
set_option linter.unusedVariables false
set_option linter.unusedSimpArgs false
def gv (F : Nat → Int) (n : Nat) : List Int := (List.range n).map F
theorem gv_len (F : Nat → Int) (n : Nat) : (gv F n).length = n := by simp [gv]
theorem gv_rd (F : Nat → Int) (n i : Nat) (h : i < n) : rd (gv F n) (i : Int) = F i := by
  rw [rdI _ i (by rw [gv_len]; exact h)]
  simp [gv]
theorem gv_set (F : Nat → Int) (n i : Nat) (v : Int) : (gv F n).set i v = gv (fun j => if j = i then v else F j) n := by
  apply List.ext_getElem
  · simp [gv]
  · intro j h1 h2
    simp only [gv, List.getElem_set, List.getElem_map, List.getElem_range]
    by_cases h : i = j
    · subst h; simp
    · rw [if_neg h, if_neg (fun e => h e.symm)]
theorem gv_congr {F G : Nat → Int} {n : Nat} (h : ∀ j, j < n → F j = G j) : gv F n = gv G n := by
  apply List.map_congr_left
  intro j hj
  exact h j (List.mem_range.1 hj)
theorem gv_succ (F : Nat → Int) (n : Nat) : gv F (n + 1) = gv F n ++ [F n] := by simp [gv, List.range_succ]
/-- The j-th gain; what is saved. -/
def G (m : List S45) (j : Nat) (ws : List S35) : Int := gain (m.take j) (rd_T45 m (j : Int)) ws
def sv (m : List S45) (ws : List S35) : Int := ws.foldl (fun s x => wrap64 (s + wrap64 (x.f1 * wrap64 ((x.f0.size : Int) - ((wordAt x.f0 m).length : Int))))) 0
theorem sv_snoc (m : List S45) (ws : List S35) (x : S35) : sv m (ws ++ [x]) = wrap64 (sv m ws + wrap64 (x.f1 * wrap64 ((x.f0.size : Int) - ((wordAt x.f0 m).length : Int)))) := by rw [sv, List.foldl_append]; rfl
theorem through_f (l : List S35) (h : Fine l) (m : List S45) (hm : FineM m) (k : Nat) (hk : 5000 ≤ k) : stats_through.f k l m = some (gv (fun j => G m j l) m.length, sv m l) := by
  have hlen := h.1
  have hml := hm.1
  have loop : ∀ q i k, i + q = l.length → q * 40 + 300 ≤ k → stats_through.l0 k m (gv (fun j => G m j (l.take i)) m.length) (sv m (l.take i)) l (l.length : Int) (i : Int) = some (gv (fun j => G m j l) m.length, sv m l) := by
    intro q
    induction q with
    | zero =>
      intro i k hi hk
      obtain ⟨k, rfl⟩ : ∃ k', k = k' + 1 := ⟨k - 1, by omega⟩
      rw [stats_through.l0, if_neg (by omega), show l.take i = l from List.take_of_length_le (by omega)]
    | succ q ih =>
      intro i k hi hk
      obtain ⟨k, rfl⟩ : ∃ k', k = k' + 1 := ⟨k - 1, by omega⟩
      have hlt : i < l.length := by omega
      have hs := (h.2 _ (List.getElem_mem hlt)).1
      have hts : l.take (i + 1) = l.take i ++ [l[i]] := List.take_succ_eq_append_getElem hlt
      have inner : ∀ n j k, j + n = m.length → n + 1 + q * 40 + 300 ≤ k → stats_through.l1 k m (gv (fun t => if t < j then G m t (l.take (i + 1)) else G m t (l.take i)) m.length) (sv m (l.take i)) (wordAt l[i].f0 (m.take j)) l (l.length : Int) (i : Int) m (m.length : Int) (j : Int) l[i].f0 l[i].f1 = some (gv (fun j => G m j l) m.length, sv m l) := by
        intro n
        induction n with
        | zero =>
          intro j k hj hk
          obtain ⟨k, rfl⟩ : ∃ k', k = k' + 1 := ⟨k - 1, by omega⟩
          have hg : gv (fun t => if t < j then G m t (l.take (i + 1)) else G m t (l.take i)) m.length = gv (fun t => G m t (l.take (i + 1))) m.length := gv_congr (fun t ht => by rw [if_pos (by omega)])
          have hsv : wrap64 (sv m (l.take i) + wrap64 (l[i].f1 * wrap64 ((l[i].f0.size : Int) - ((wordAt l[i].f0 m).length : Int)))) = sv m (l.take (i + 1)) := by rw [hts, sv_snoc]
          rw [stats_through.l1, if_neg (by omega), hg, show m.take j = m from List.take_of_length_le (by omega), hsv, wi i (by omega)]
          exact ih (i + 1) k (by omega) (by omega)
        | succ n ihn =>
          intro j k hj hk
          obtain ⟨k, rfl⟩ : ∃ k', k = k' + 1 := ⟨k - 1, by omega⟩
          have hjl : j < m.length := by omega
          have hx := hm.2 _ (List.getElem_mem hjl)
          have hwl := word_len hm l[i].f0 hs j
          have hG : wrap64 (G m j (l.take i) + wrap64 (l[i].f1 * (pairs (wordAt l[i].f0 (m.take j)) m[j] : Int))) = G m j (l.take (i + 1)) := by
            rw [wrap_add, hts]
            unfold G
            rw [gain_snoc, rd45 m j hjl]
          have hset : (gv (fun t => if t < j then G m t (l.take (i + 1)) else G m t (l.take i)) m.length).set j (G m j (l.take (i + 1))) = gv (fun t => if t < j + 1 then G m t (l.take (i + 1)) else G m t (l.take i)) m.length := by
            rw [gv_set]
            apply gv_congr
            intro t ht
            by_cases e : t = j
            · rw [if_pos e, if_pos (by omega), e]
            · rw [if_neg e]
              by_cases e2 : t < j
              · rw [if_pos e2, if_pos (by omega)]
              · rw [if_neg e2, if_neg (by omega)]
          have hr : rd (gv (fun t => if t < j then G m t (l.take (i + 1)) else G m t (l.take i)) m.length) (j : Int) = G m j (l.take i) := by rw [gv_rd _ _ _ hjl, if_neg (by omega)]
          rw [stats_through.l1, rd45 m j hjl, wi j (by omega), if_pos (by omega), if_pos (by omega), if_pos (by omega), if_pos (by rw [gv_len]; omega), count_f _ m[j] (by omega) k (by omega), Option.bind_some, (JF_f _ m[j] (by omega) hx.1 hx.2 k (by omega)).2.1, Option.bind_some, hr, hG, Int.toNat_natCast, hset, ← word_snoc _ _ _ hjl]
          exact ihn (j + 1) k (by omega) (by omega)
      rw [stats_through.l0, rd35 l i hlt, if_pos (by omega), if_pos (by omega), if_pos (by omega), (texts_f _ hs 101 (by omega)).1, Option.bind_some]
      have := inner m.length 0 k (by omega) (by omega)
      have hz : gv (fun t => if t < 0 then G m t (l.take (i + 1)) else G m t (l.take i)) m.length = gv (fun t => G m t (l.take i)) m.length := gv_congr (fun t ht => by rw [if_neg (by omega)])
      rw [hz] at this
      exact this
  have h0 : List.replicate m.length (0 : Int) = gv (fun j => G m j (l.take 0)) m.length := by
    apply List.ext_getElem
    · simp [gv]
    · intro j h1 h2
      simp [gv, G, gain]
  have := loop l.length 0 k (by omega) (by omega)
  rw [← h0] at this
  rw [stats_through.f, if_pos (by omega), if_pos (by rw [Int.toNat_natCast]; omega), Int.toNat_natCast]
  exact this
theorem refgains_f (l : List S35) (h : Fine l) (hc : ∀ x ∈ l, 1 ≤ x.f1) (m : List S45) (hm : FineM m) (k : Nat) (hk : 15000 ≤ k) : gluepotref23_Gains.l0 k l m [] 0 = some (gv (fun j => G m j l) m.length) := by
  have hlen := h.1
  have hml := hm.1
  have loop : ∀ q j k, j + q = m.length → q * 40 + 12000 ≤ k → gluepotref23_Gains.l0 k l m (gv (fun j => G m j l) j) (j : Int) = some (gv (fun j => G m j l) m.length) := by
    intro q
    induction q with
    | zero =>
      intro j k hj hk
      obtain ⟨k, rfl⟩ : ∃ k', k = k' + 1 := ⟨k - 1, by omega⟩
      rw [gluepotref23_Gains.l0, if_neg (by omega), show j = m.length by omega]
    | succ q ih =>
      intro j k hj hk
      obtain ⟨k, rfl⟩ : ∃ k', k = k' + 1 := ⟨k - 1, by omega⟩
      have hjl : j < m.length := by omega
      have hmt : FineM (m.take j) := ⟨by rw [List.length_take]; omega, fun x hx => hm.2 x (List.mem_of_mem_take hx)⟩
      have inner : ∀ n t k, t + n = l.length → n + 1 + q * 40 + 12000 ≤ k → gluepotref23_Gains.l1 k l m (gv (fun j => G m j l) j) (j : Int) ((l.take t).map (·.f1)) (t : Int) = some (gv (fun j => G m j l) m.length) := by
        intro n
        induction n with
        | zero =>
          intro t k ht hk
          obtain ⟨k, rfl⟩ : ∃ k', k = k' + 1 := ⟨k - 1, by omega⟩
          have := ih (j + 1) k (by omega) (by omega)
          rw [gv_succ] at this
          rw [gluepotref23_Gains.l1, if_neg (by omega), if_pos (by omega), if_pos (by omega), Int.toNat_natCast, words_f l h (m.take j) hmt k (by omega), Option.bind_some, if_pos (by omega), show l.take t = l from List.take_of_length_le (by omega), refcount_f l h hc m hm (rd_T45 m (j : Int)) j k (by omega), Option.bind_some, if_pos (by rw [gv_len]; omega), wi j (by omega)]
          exact this
        | succ n ihn =>
          intro t k ht hk
          obtain ⟨k, rfl⟩ : ∃ k', k = k' + 1 := ⟨k - 1, by omega⟩
          have htl : t < l.length := by omega
          have := ihn (t + 1) k (by omega) (by omega)
          rw [List.take_succ_eq_append_getElem htl, List.map_append] at this
          rw [gluepotref23_Gains.l1, rd35 l t htl, wi t (by omega), if_pos (by omega), if_pos (by omega), if_pos (by simp; omega)]
          exact this
      rw [gluepotref23_Gains.l0, if_pos (by omega)]
      exact inner l.length 0 k (by omega) (by omega)
  exact loop m.length 0 k (by omega) (by omega)
theorem refsaved_f (l : List S35) (h : Fine l) (m : List S45) (k : Nat) (hk : 100 ≤ k) : gluepotref23_Saved.l0 k l 0 (l.map fun x => wordAt x.f0 m) 0 = some (sv m l, true) := by
  have hlen := h.1
  have loop : ∀ q i k, i + q = l.length → q + 1 ≤ k → gluepotref23_Saved.l0 k l (sv m (l.take i)) (l.map fun x => wordAt x.f0 m) (i : Int) = some (sv m l, true) := by
    intro q
    induction q with
    | zero =>
      intro i k hi hk
      obtain ⟨k, rfl⟩ : ∃ k', k = k' + 1 := ⟨k - 1, by omega⟩
      rw [gluepotref23_Saved.l0, if_neg (by omega), show l.take i = l from List.take_of_length_le (by omega)]
    | succ q ih =>
      intro i k hi hk
      obtain ⟨k, rfl⟩ : ∃ k', k = k' + 1 := ⟨k - 1, by omega⟩
      have hlt : i < l.length := by omega
      have hr : rd_L4 (l.map fun x => wordAt x.f0 m) (i : Int) = wordAt l[i].f0 m := by rw [rdL _ i (by simpa using hlt)]; simp
      have := ih (i + 1) k (by omega) (by omega)
      rw [List.take_succ_eq_append_getElem hlt, sv_snoc] at this
      rw [gluepotref23_Saved.l0, rd35 l i hlt, hr, wi i (by omega), if_pos (by omega), if_pos (by omega), if_pos (by simp; omega)]
      exact this
  exact loop l.length 0 k (by omega) (by omega)
theorem ints_same (a : List Int) (ha : a.length ≤ 100) (k : Nat) (hk : 200 ≤ k) : gluepotref01_Ints.f k a a = some true := by
  have loop : ∀ q i k, i + q = a.length → q + 1 ≤ k → gluepotref01_Ints.l0 k a a (i : Int) = some true := by
    intro q
    induction q with
    | zero =>
      intro i k hi hk
      obtain ⟨k, rfl⟩ : ∃ k', k = k' + 1 := ⟨k - 1, by omega⟩
      rw [gluepotref01_Ints.l0, if_neg (by omega)]
    | succ q ih =>
      intro i k hi hk
      obtain ⟨k, rfl⟩ : ∃ k', k = k' + 1 := ⟨k - 1, by omega⟩
      rw [gluepotref01_Ints.l0, if_pos (by omega), if_pos (by omega), if_pos (by omega), if_pos rfl, wi i (by omega)]
      exact ih (i + 1) k (by omega) (by omega)
  rw [gluepotref01_Ints.f, if_pos rfl]
  exact loop a.length 0 k (by omega) (by omega)
set_option maxRecDepth 100000 in
theorem awake61 : gluepotlaw23_awake.f 61 = some true := by decide +kernel
theorem awake_ge : ∀ d, gluepotlaw23_awake.f (61 + d) = some true
  | 0 => awake61
  | d + 1 => gluepotlaw23_awake.mono (61 + d) _ (awake_ge d)
theorem StatsGains (l0 : List (Pr.S35)) (l1 : List (Pr.S45)) (x0 : l0.length ≤ maxLen) (y0 : ∀ x ∈ l0, x.f0.size ≤ maxLen ∧ (Lit.int .i64 x.f1).wf = true) (x1 : l1.length ≤ maxLen) (y1 : ∀ x ∈ l1, x.f0.size ≤ maxLen ∧ x.f1.size ≤ maxLen) : ∃ k, Pr.gluepotlaw23_StatsGains.f k l0 l1 = some true := by
  have hm0 : maxLen ≤ 9223372036854775807 := by decide
  have haw : gluepotlaw23_awake.f ((l0.length + l1.length + 30060) + 1) = some true := by
    have := awake_ge (l0.length + l1.length + 30000)
    rwa [show 61 + (l0.length + l1.length + 30000) = (l0.length + l1.length + 30060) + 1 by omega] at this
  refine ⟨(l0.length + l1.length + 30060) + 1, ?_⟩
  obtain ⟨g, hg, hgf⟩ := great7 l0 (by omega)
  obtain ⟨d, hd, hdf⟩ := great18 l1 (by omega)
  rw [gluepotlaw23_StatsGains.f, haw, Option.bind_some, if_pos rfl, hg _ (by omega), Option.bind_some]
  cases g with
  | true => rw [if_pos rfl, gluepotlaw23_StatsGains.j0, if_pos rfl]
  | false =>
    obtain ⟨hl, hsz⟩ := hgf rfl
    obtain ⟨t, ht⟩ := positions l0 hl
    rw [if_neg (by simp), ht _ (by omega), Option.bind_some]
    by_cases hp : t > 200
    · rw [if_pos hp, gluepotlaw23_StatsGains.j0, if_pos rfl]
    · rw [if_neg hp, hd _ (by omega), Option.bind_some]
      cases d with
      | true => rw [gluepotlaw23_StatsGains.j0, if_pos rfl]
      | false =>
        obtain ⟨hml, hms⟩ := hdf rfl
        have hF : Fine l0 := ⟨hl, fun x hx => ⟨hsz x hx, wf_i64 (y0 x hx).2⟩⟩
        have hM : FineM l1 := ⟨hml, hms⟩
        obtain ⟨p, e, hk1, he1⟩ := table_check l0 hF
        obtain ⟨p2, e2, hk2, he2⟩ := ref_check l0 hF
        rw [gluepotlaw23_StatsGains.j0, if_neg (by simp)]
        clear haw
        generalize hK : l0.length + l1.length + 30060 = K
        have hKb : 30000 ≤ K := by omega
        by_cases he : e = 0
        · have hgood := he1.1 he
          have he' : e2 = 0 := he2.2 hgood
          have hc := good_counts _ l0 hgood.1
          rw [stats_Saved.f, hk1 K (by omega), Option.bind_some, if_pos he, through_f l0 hF l1 hM K (by omega), Option.bind_some, Option.bind_some,
            gluepotref23_Saved.f, hk2 K (by omega), Option.bind_some, if_pos he', words_f l0 hF l1 hM K (by omega), Option.bind_some, refsaved_f l0 hF l1 K (by omega), Option.bind_some,
            stats_Gains.f, hk1 K (by omega), Option.bind_some, if_pos he, through_f l0 hF l1 hM K (by omega), Option.bind_some, Option.bind_some,
            gluepotref23_Gains.f, hk2 K (by omega), Option.bind_some, if_pos he', refgains_f l0 hF hc l1 hM K (by omega), Option.bind_some, ints_same _ (by rw [gv_len]; omega) K (by omega), Option.bind_some, if_pos rfl, if_pos rfl]
          rfl
        · have he' : ¬ e2 = 0 := fun h => he (he1.2 (he2.1 h))
          rw [stats_Saved.f, hk1 K (by omega), Option.bind_some, if_neg he, Option.bind_some,
            gluepotref23_Saved.f, hk2 K (by omega), Option.bind_some, if_neg he', Option.bind_some,
            stats_Gains.f, hk1 K (by omega), Option.bind_some, if_neg he, Option.bind_some,
            gluepotref23_Gains.f, hk2 K (by omega), Option.bind_some, if_neg he', Option.bind_some, ints_same [] (by simp) K (by omega), Option.bind_some, if_pos rfl, if_pos rfl]
          rfl
end Go.Proofs.Ytbfjlfbahjmibaa.Pure
