/- The plain law of NaiveBest: the best merge, its count, and words behind it, are what the document says. -/
import Derived.Test.YtbfjlfbahjmibaaBpe6
import Derived.Test.YtbfjlfbahjmibaaPr43
import Derived.Test.YtbfjlfbahjmibaaPr47
import Derived.Test.YtbfjlfbahjmibaaPr48
namespace Go.Proofs.Ytbfjlfbahjmibaa.Pure
open Go.RowKit Go.Proofs.Ytbfjlfbahjmibaa.Pr Go.Proofs.Ytbfjlfbahjmibaa.Bpe Go.Proofs.YtbfjlfbahjmibaaW.PrintWords
set_option linter.unusedVariables false
theorem wf_i64 {n : Int} (h : (Lit.int .i64 n).wf = true) : -9223372036854775808 ≤ n ∧ n ≤ 9223372036854775807 := by
  simp [Lit.wf, IntKind.min, IntKind.max, IntKind.signed, IntKind.bits] at h
  omega
set_option maxRecDepth 100000 in
theorem awake16 : gluepotlaw16_awake.f 100 = some true := by decide +kernel
theorem awake16_ge : ∀ d, gluepotlaw16_awake.f (100 + d) = some true
  | 0 => awake16
  | d + 1 => gluepotlaw16_awake.mono (100 + d) _ (awake16_ge d)
theorem awake16_at {k : Nat} (hk : 100 ≤ k) : gluepotlaw16_awake.f k = some true := by
  obtain ⟨d, rfl⟩ : ∃ d, k = 100 + d := ⟨k - 100, by omega⟩
  exact awake16_ge d
theorem texts_self (a : List ByteArray) (ha : a.length ≤ 1000000) (k : Nat) (hk : a.length + 1 ≤ k) : gluepotref01_Texts.f k a a = some true := by
  have loop : ∀ m i k, i + m = a.length → m + 1 ≤ k → gluepotref01_Texts.l0 k a a (i : Int) = some true := by
    intro m
    induction m with
    | zero =>
      intro i k hi hk
      obtain ⟨k, rfl⟩ : ∃ k', k = k' + 1 := ⟨k - 1, by omega⟩
      rw [gluepotref01_Texts.l0, if_neg (by omega)]
    | succ m ih =>
      intro i k hi hk
      obtain ⟨k, rfl⟩ : ∃ k', k = k' + 1 := ⟨k - 1, by omega⟩
      rw [gluepotref01_Texts.l0, if_pos (by omega), if_pos (by omega), if_pos (by omega), if_pos rfl, wi i (by omega)]
      exact ih (i + 1) k (by omega) (by omega)
  rw [gluepotref01_Texts.f, if_pos rfl]
  exact loop a.length 0 k (by omega) hk
/-- Is a word, and its count, within the bounds? -/
def okAt (ws : List (List ByteArray)) (cs : List Int) (i : Nat) : Prop := (∀ w, ws[i]? = some w → w.length ≤ 40 ∧ ∀ s ∈ w, s.size ≤ 20) ∧ ∀ c, i < ws.length → cs[i]? = some c → c ≤ 1000000
theorem tot_small : ∀ (ws : List (List ByteArray)) (cs : List Int), (∀ i, okAt ws cs i) → tot ws cs ≤ 40000000 * (ws.length : Int)
  | [], _, _ => by simp [tot]
  | _ :: _, [], _ => by simp [tot]; omega
  | w :: ws, c :: cs, h => by
    have h0 := (h 0).1 w rfl
    have h1 := (h 0).2 c (by simp) rfl
    have ih := tot_small ws cs fun i => ⟨fun x hx => (h (i + 1)).1 x (by simpa using hx), fun x hi hx => (h (i + 1)).2 x (by simpa using hi) (by simpa using hx)⟩
    have : (if c < 1 then 0 else c * ((w.length - 1 : Nat) : Int)) ≤ 40000000 := by
      split
      · omega
      · have : c * ((w.length - 1 : Nat) : Int) ≤ 1000000 * ((w.length - 1 : Nat) : Int) := Int.mul_le_mul_of_nonneg_right h1 (by omega)
        omega
    rw [tot, List.length_cons]
    push_cast
    omega
theorem guard_small {ws : List (List ByteArray)} {cs : List Int} (hw : ws.length ≤ 20) (h : ∀ i, okAt ws cs i) (hc : ∀ c ∈ cs, c ≤ 9223372036854775807) : guardB ws cs := by
  have hl : ∀ w ∈ ws, w.length ≤ 40 ∧ ∀ s ∈ w, s.size ≤ 20 := fun w hm => by
    obtain ⟨i, hi⟩ := List.getElem?_of_mem hm
    exact (h i).1 w hi
  have hr := rem_le ws (fun w hm => by have := (hl w hm).1; omega)
  have ht := tot_small ws cs h
  exact ⟨by omega, by omega, fun w hm s hs => by have := (hl w hm).2 s hs; omega, hc, by omega⟩
theorem best_end {ws : List (List ByteArray)} {cs : List Int} (hw : ws.length ≤ 20) (h : ∀ i, okAt ws cs i) (hc : ∀ c ∈ cs, c ≤ 9223372036854775807) {a b : ByteArray} (ha : a.size ≤ 20) (hb : b.size ≤ 20) (k : Nat) (hk : 200 ≤ k) :
    gluepotlaw16_NaiveBest.l0 k ws cs (ws.length : Int) a b = some true := by
  have hg := guard_small hw h hc
  have hbi := bestS_is (ws := ws) (cs := cs) hg.2.2.1
  have hl : ∀ w ∈ ws, w.length ≤ 40 ∧ ∀ s ∈ w, s.size ≤ 20 := fun w hm => by
    obtain ⟨i, hi⟩ := List.getElem?_of_mem hm
    exact (h i).1 w hi
  have hz : (bestS ws cs).1.size ≤ 20 ∧ (bestS ws cs).2.1.size ≤ 20 := by
    rcases hbi with ⟨e1, e2, _⟩ | ⟨h1, h2, _⟩
    · rw [e1, e2]; exact ⟨by decide, by decide⟩
    · exact wc_sizes (fun w hm => (hl w hm).2) (by rw [h2] at h1; exact h1)
  obtain ⟨k, rfl⟩ : ∃ k', k = k' + 2 := ⟨k - 2, by omega⟩
  rw [gluepotlaw16_NaiveBest.l0, if_neg (by omega), naive_Best.f, gluepotref16_Best.f, if_pos hg, Option.bind_some, Option.bind_some, if_neg (by simp), gluepotlaw16_NaiveBest.j4, if_neg (by simp)]
  generalize (bestS ws cs).1 = L at hz
  generalize (bestS ws cs).2.1 = R at hz
  have loop : ∀ m i k, i + m = ws.length → m + 60 ≤ k → gluepotlaw16_NaiveBest.l2 k ws (i : Int) a b L R L R = some true := by
    intro m
    induction m with
    | zero =>
      intro i k hi hk
      obtain ⟨k, rfl⟩ : ∃ k', k = k' + 1 := ⟨k - 1, by omega⟩
      rw [gluepotlaw16_NaiveBest.l2, if_neg (by omega)]
    | succ m ih =>
      intro i k hi hk
      obtain ⟨k, rfl⟩ : ∃ k', k = k' + 1 := ⟨k - 1, by omega⟩
      have hlt : i < ws.length := by omega
      have hx := (hl _ (List.getElem_mem hlt)).1
      have j1 := jn_len_le (a := a) (b := b) ws[i]
      have j2 := jn_len_le (a := L) (b := R) ws[i]
      rw [gluepotlaw16_NaiveBest.l2, if_pos (by omega), if_pos (by omega), rdW ws i hlt, njoin_f (by omega) (by omega) (by omega) (by omega), Option.bind_some, rjoin_f (by omega) (by omega) (by omega) (by omega), Option.bind_some, texts_self _ (by omega) _ (by omega), Option.bind_some, if_pos rfl,
        njoin_f (by omega) (by omega) (by omega) (by omega), Option.bind_some, rjoin_f (by omega) (by omega) (by omega) (by omega), Option.bind_some, texts_self _ (by omega) _ (by omega), Option.bind_some, if_pos rfl, wi i (by omega)]
      exact ih (i + 1) k (by omega) (by omega)
  exact loop ws.length 0 k (by omega) (by omega)
theorem NaiveBest (l0 : List (List (ByteArray))) (l1 : List (Int)) (a2_0 : ByteArray) (a2_1 : ByteArray) (x0 : l0.length ≤ maxLen) (y0 : ∀ x ∈ l0, x.length ≤ maxLen ∧ ∀ y ∈ x, y.size ≤ maxLen) (x1 : l1.length ≤ maxLen) (y1 : ∀ x ∈ l1, (Lit.int .i64 x).wf = true) (w2_0 : a2_0.size ≤ maxLen) (w2_1 : a2_1.size ≤ maxLen) : ∃ k, Pr.gluepotlaw16_NaiveBest.f k l0 l1 a2_0 a2_1 = some true := by
  have hc : ∀ c ∈ l1, c ≤ 9223372036854775807 := fun c hm => (wf_i64 (y1 c hm)).2
  obtain ⟨K, hK⟩ : ∃ K, K = 3999 := ⟨_, rfl⟩
  refine ⟨K + 1, ?_⟩
  rw [gluepotlaw16_NaiveBest.f, awake16_at (by omega), Option.bind_some, if_pos rfl]
  by_cases hw : (l0.length : Int) > 20
  · rw [if_pos hw, gluepotlaw16_NaiveBest.j0, if_pos rfl]
  · rw [if_neg hw]
    by_cases ha : (a2_0.size : Int) > 20
    · rw [if_pos ha, gluepotlaw16_NaiveBest.j0, if_pos rfl]
    · rw [if_neg ha]
      by_cases hb : (a2_1.size : Int) > 20
      · rw [gluepotlaw16_NaiveBest.j0, if_pos (by simpa using hb)]
      · rw [gluepotlaw16_NaiveBest.j0, if_neg (by simpa using hb)]
        have hwl : l0.length ≤ 20 := by omega
        have loop : ∀ m i k, i + m = l0.length → (∀ i', i' < i → okAt l0 l1 i') → m * 100 + 300 ≤ k → gluepotlaw16_NaiveBest.l0 k l0 l1 (i : Int) a2_0 a2_1 = some true := by
          intro m
          induction m with
          | zero =>
            intro i k hi hok hk
            have e : i = l0.length := by omega
            subst e
            refine best_end hwl (fun i' => ?_) hc (by omega) (by omega) k (by omega)
            by_cases h : i' < l0.length
            · exact hok i' h
            · exact ⟨fun w hw => by (rw [List.getElem?_eq_none (by omega)] at hw; cases hw), fun c hi _ => absurd hi h⟩
          | succ m ih =>
            intro i k hi hok hk
            have hlt : i < l0.length := by omega
            obtain ⟨k, rfl⟩ : ∃ k', k = k' + 2 := ⟨k - 2, by omega⟩
            rw [gluepotlaw16_NaiveBest.l0, if_pos (by omega), if_pos (by omega), rdW l0 i hlt]
            by_cases h40 : ((l0[i].length : Nat) : Int) > 40
            · rw [if_pos h40, gluepotlaw16_NaiveBest.j2, if_pos rfl]
            · rw [if_neg h40]
              have inner : (∀ c, l1[i]? = some c → c ≤ 1000000) → ∀ d t k, t + d = l0[i].length → (∀ s ∈ l0[i].take t, s.size ≤ 20) → d + m * 100 + 310 ≤ k → gluepotlaw16_NaiveBest.l1 k l0 l1 (i : Int) (t : Int) a2_0 a2_1 = some true := by
                intro hcm d
                induction d with
                | zero =>
                  intro t k ht hs hk
                  obtain ⟨k, rfl⟩ : ∃ k', k = k' + 1 := ⟨k - 1, by omega⟩
                  rw [gluepotlaw16_NaiveBest.l1, if_pos (by omega), if_pos (by omega), rdW l0 i hlt, if_neg (by omega), wi i (by omega)]
                  refine ih (i + 1) k (by omega) (fun i' h => ?_) (by omega)
                  by_cases e : i' = i
                  · subst e
                    refine ⟨fun w hw => ?_, fun c _ h => hcm c h⟩
                    rw [List.getElem?_eq_getElem hlt] at hw
                    cases hw
                    rw [List.take_of_length_le (by omega)] at hs
                    exact ⟨by omega, hs⟩
                  · exact hok i' (by omega)
                | succ d ihd =>
                  intro t k ht hs hk
                  obtain ⟨k, rfl⟩ : ∃ k', k = k' + 1 := ⟨k - 1, by omega⟩
                  have htl : t < l0[i].length := by omega
                  rw [gluepotlaw16_NaiveBest.l1, if_pos (by omega), if_pos (by omega), rdW l0 i hlt, if_pos (by omega), if_pos (by omega), rdB _ t htl]
                  by_cases h20 : ((l0[i][t].size : Nat) : Int) > 20
                  · rw [if_pos h20]
                  · rw [if_neg h20, wi t (by omega)]
                    refine ihd (t + 1) k (by omega) (fun s hm => ?_) (by omega)
                    rw [List.take_succ_eq_append_getElem htl] at hm
                    rcases List.mem_append.1 hm with hm | hm
                    · exact hs s hm
                    · rw [List.mem_singleton.1 hm]; omega
              by_cases hi1 : i < l1.length
              · rw [if_pos (by omega), rdI l1 i hi1]
                by_cases hm : l1[i] > 1000000
                · rw [gluepotlaw16_NaiveBest.j2, if_pos (by simpa using hm)]
                · rw [gluepotlaw16_NaiveBest.j2, if_neg (by simpa using hm)]
                  exact inner (fun c h => by rw [List.getElem?_eq_getElem hi1] at h; cases h; omega) l0[i].length 0 k (by omega) (by simp) (by omega)
              · rw [if_neg (by omega), gluepotlaw16_NaiveBest.j2, if_neg (by simp)]
                exact inner (fun c h => by rw [List.getElem?_eq_none (by omega)] at h; cases h) l0[i].length 0 k (by omega) (by simp) (by omega)
        have h0 := loop l0.length 0 K (by omega) (fun i' h => by omega) (by omega)
        exact h0
end Go.Proofs.Ytbfjlfbahjmibaa.Pure
