/- Plain facts under SplitFeeds: where a word is too long, what is open, which words are ended. -/
import Derived.Test.YtmldibphbilghaaSplit3
import Derived.Test.YtmldibphbilghaaSpWords
import Derived.Test.YtmldibphbilghaaPr15
import Derived.Test.YtmldibphbilghaaPr17
import Derived.Test.YtmldibphbilghaaPr13
import Derived.Test.YtmldibphbilghaaPr12
namespace Go.Proofs.Ytmldibphbilghaa.Pure
open Go.RowKit Go.Proofs.Ytmldibphbilghaa.Pr Go.Proofs.YtmldibphbilghaaW.PrintWords Go.Proofs.YtmldibphbilghaaW.PrintLast
open Spl (gap feedL endL)
set_option linter.unusedSimpArgs false
set_option linter.unusedVariables false

/-- How far a text is read before a word is too long (n bytes of one are open). -/
def longL (lim : Int) : Nat → List UInt8 → Option Nat
  | _, [] => none
  | n, c :: l => if gap c = true then (longL lim 0 l).map (· + 1) else if (n + 1 : Int) ≤ lim then (longL lim (n + 1) l).map (· + 1) else some 0
theorem long_none (lim : Int) : ∀ (l op : List UInt8) (out : List (List UInt8)), (feedL lim op l out).2.1 = true ↔ longL lim op.length l = none
  | [], op, out => by simp [feedL, longL]
  | c :: l, op, out => by
    rw [feedL, longL]
    split
    · have h1 := long_none lim l [] out
      have h2 := long_none lim l [] (out ++ [op])
      split
      · simpa using h1
      · simpa using h2
    · have h3 := long_none lim l (op ++ [c]) out
      split
      · simpa using h3
      · simp
theorem long_some (lim : Int) : ∀ (l op : List UInt8) (out : List (List UInt8)) (j : Nat), longL lim op.length l = some j → j < l.length ∧ (feedL lim op (l.take j) out).2.1 = true ∧ feedL lim op l out = ((feedL lim op (l.take j) out).1, false, [])
  | [], op, out, j, h => by simp [longL] at h
  | c :: l, op, out, j, h => by
    rw [longL] at h
    split at h
    · rename_i hg
      obtain ⟨j', hj', rfl⟩ := Option.map_eq_some_iff.1 h
      rw [List.take_succ_cons, feedL, feedL, if_pos hg, if_pos hg]
      split
      · obtain ⟨h1, h2, h3⟩ := long_some lim l [] out j' hj'
        exact ⟨by simp; omega, h2, h3⟩
      · obtain ⟨h1, h2, h3⟩ := long_some lim l [] (out ++ [op]) j' hj'
        exact ⟨by simp; omega, h2, h3⟩
    · rename_i hg
      split at h
      · rename_i hl
        obtain ⟨j', hj', rfl⟩ := Option.map_eq_some_iff.1 h
        rw [List.take_succ_cons, feedL, feedL, if_neg hg, if_neg hg, if_pos hl, if_pos hl]
        obtain ⟨h1, h2, h3⟩ := long_some lim l (op ++ [c]) out j' (by simpa using hj')
        exact ⟨by simp; omega, h2, h3⟩
      · rename_i hl
        cases h
        rw [List.take_zero, feedL, feedL, if_neg hg, if_neg hl]
        exact ⟨by simp, rfl, rfl⟩
/-! ### What is open; which words are ended -/
theorem words_run' (g : UInt8) (hg : gap g = true) (t : List UInt8) : ∀ (w op : List UInt8), (∀ c ∈ w, gap c = false) → op ++ w ≠ [] → wordsW op (w ++ g :: t) = (op ++ w) :: wordsW [] t
  | [], op, h, hne => by
    rw [List.nil_append, wordsW, if_pos hg, if_neg (by simpa using hne), List.append_nil]
  | c :: w, op, h, hne => by
    rw [List.cons_append, wordsW, if_neg (by simp [h c (by simp)]), words_run' g hg t w (op ++ [c]) (fun d hd => h d (by simp [hd])) (by simp)]
    simp
theorem ended (lim : Int) : ∀ (l op : List UInt8) (out : List (List UInt8)), (∀ c ∈ op, gap c = false) → (feedL lim op l out).2.1 = true →
    ∃ T O, op ++ l = T ++ (feedL lim op l out).2.2 ∧ (feedL lim op l out).1 = out ++ O ∧ wordsW [] T = O ∧ (∀ c ∈ (feedL lim op l out).2.2, gap c = false) ∧ (T = [] ∨ ∃ T' g, T = T' ++ [g] ∧ gap g = true)
  | [], op, out, h, _ => ⟨[], [], by simp [feedL], by simp [feedL], rfl, h, .inl rfl⟩
  | c :: l, op, out, h, hok => by
    rw [feedL] at hok ⊢
    split at hok
    · rename_i hg
      rw [if_pos hg]
      split at hok
      · rename_i h0
        subst h0
        rw [if_pos rfl]
        obtain ⟨T, O, h1, h2, h3, h4, h5⟩ := ended lim l [] out (by simp) hok
        refine ⟨c :: T, O, by simpa using h1, h2, by rw [wordsW, if_pos hg, if_pos rfl, h3], h4, .inr ?_⟩
        rcases h5 with rfl | ⟨T', g, rfl, hg'⟩
        · exact ⟨[], c, rfl, hg⟩
        · exact ⟨c :: T', g, rfl, hg'⟩
      · rename_i h0
        rw [if_neg h0]
        obtain ⟨T, O, h1, h2, h3, h4, h5⟩ := ended lim l [] (out ++ [op]) (by simp) hok
        refine ⟨op ++ c :: T, op :: O, by simp at h1 ⊢; exact h1, by rw [h2]; simp, ?_, h4, .inr ?_⟩
        · rw [words_run' c hg T op [] h (by simpa using h0), h3]
          simp
        · rcases h5 with rfl | ⟨T', g, rfl, hg'⟩
          · exact ⟨op, c, rfl, hg⟩
          · exact ⟨op ++ c :: T', g, by simp, hg'⟩
    · rename_i hg
      rw [if_neg hg]
      split at hok
      · rename_i hl
        rw [if_pos hl]
        obtain ⟨T, O, h1, h2, h3, h4, h5⟩ := ended lim l (op ++ [c]) out (fun d hd => by
          rcases List.mem_append.1 hd with hd | hd
          · exact h d hd
          · simp at hd
            subst hd
            simpa using hg) hok
        exact ⟨T, O, by simpa using h1, h2, h3, h4, h5⟩
      · cases hok
/-- How many bytes of a text are open. -/
def openR (l : List UInt8) : Nat := (l.reverse.takeWhile fun c => !gap c).length
theorem openR_run (T o : List UInt8) (ho : ∀ c ∈ o, gap c = false) (hT : T = [] ∨ ∃ T' g, T = T' ++ [g] ∧ gap g = true) : openR (T ++ o) = o.length := by
  unfold openR
  rw [List.reverse_append]
  have h1 : ∀ (a b : List UInt8), (∀ c ∈ a, gap c = false) → (b = [] ∨ ∃ g b', b = g :: b' ∧ gap g = true) → ((a ++ b).takeWhile fun c => !gap c).length = a.length := by
    intro a
    induction a with
    | nil =>
      rintro b _ (rfl | ⟨g, b', rfl, hg⟩)
      · rfl
      · simp [hg]
    | cons c a ih =>
      intro b h hb
      have := ih b (fun d hd => h d (by simp [hd])) hb
      simp [h c (by simp)] at this ⊢
      exact this
  rw [h1 o.reverse T.reverse (fun c hc => ho c (by simpa using hc)) ?_, List.length_reverse]
  rcases hT with rfl | ⟨T', g, rfl, hg⟩
  · exact .inl rfl
  · exact .inr ⟨g, T'.reverse, by simp, hg⟩
/-- Of a text without a word that is too long: what is open, and the words that are ended. -/
theorem fed (lim : Int) (S : List UInt8) (h : (feedL lim [] S []).2.1 = true) : openR S = (feedL lim [] S []).2.2.length ∧ wordsW [] (S.take (S.length - openR S)) = (feedL lim [] S []).1 := by
  obtain ⟨T, O, h1, h2, h3, h4, h5⟩ := ended lim S [] [] (by simp) h
  rw [List.nil_append] at h1 h2
  have ho : openR S = (feedL lim [] S []).2.2.length := by
    conv => lhs; rw [h1]
    exact openR_run T _ h4 h5
  refine ⟨ho, ?_⟩
  have hl := congrArg List.length h1
  rw [List.length_append] at hl
  have ht : S.take (S.length - openR S) = T := by
    rw [ho, show S.length - (feedL lim [] S []).2.2.length = T.length by omega]
    generalize (feedL lim [] S []).2.2 = o at *
    rw [h1, List.take_left]
  rw [ht, h2, h3]
theorem take_succ_getD' (l : List UInt8) (k : Nat) (h : k < l.length) : l.take (k + 1) = l.take k ++ [l.getD k 0] := by
  rw [List.take_succ_eq_append_getElem h, List.getD_eq_getElem?_getD, List.getElem?_eq_getElem h]
  rfl
/-! ### The document's Long, Open, Whole -/
theorem reflong_loop (s : ByteArray) (lim : Int) (hs : s.size ≤ 1000000) : ∀ m (i n : Nat) k, i + m = s.size → 1 + m ≤ k → n ≤ i →
    gluepotref03_Long.l0 k s lim (n : Int) (i : Int) = some (match longL lim n (s.data.toList.drop i) with | some j => ((i + j : Nat) : Int) | none => -1)
  | 0, i, n, k + 1, h, hk, hn => by
    rw [gluepotref03_Long.l0, if_neg (by omega), List.drop_of_length_le (by rw [size_list]; omega), longL]
  | m + 1, i, n, k + 1, h, hk, hn => by
    have hl : s.data.toList.length = s.size := size_list s
    have e1 : wrap64 ((i : Int) + 1) = ((i + 1 : Nat) : Int) := wrap_nat (n := i + 1) (by omega)
    have e2 : wrap64 ((n : Int) + 1) = ((n + 1 : Nat) : Int) := wrap_nat (n := n + 1) (by omega)
    rw [gluepotref03_Long.l0, if_pos (by omega), if_pos (by omega), bt_list s i (by omega), gapB, Option.bind_some, drop_getD' _ i (by omega), longL, e1, e2]
    by_cases hg : gap (s.data.toList.getD i 0) = true
    · rw [if_pos hg, if_pos hg]
      have := reflong_loop s lim hs m (i + 1) 0 k (by omega) (by omega) (by omega)
      rw [show ((0 : Nat) : Int) = 0 from rfl] at this
      rw [this]
      cases longL lim 0 (s.data.toList.drop (i + 1)) with
      | none => rfl
      | some j => simp only [Option.map_some]; congr 2; omega
    · rw [if_neg hg, if_neg hg]
      by_cases hc : ((n : Int) + 1) ≤ lim
      · rw [if_neg (by omega), if_pos hc, reflong_loop s lim hs m (i + 1) (n + 1) k (by omega) (by omega) (by omega)]
        cases longL lim (n + 1) (s.data.toList.drop (i + 1)) with
        | none => rfl
        | some j => simp only [Option.map_some]; congr 2; omega
      · rw [if_pos (by omega), if_neg hc]
        rfl
/-- .. as the document's number. -/
def longI (lim : Int) (S : List UInt8) : Int := match longL lim 0 S with | some j => (j : Int) | none => -1
theorem reflong_f {k : Nat} (s : ByteArray) (lim : Int) (hs : s.size ≤ 1000000) (hk : 1 + s.size ≤ k) : gluepotref03_Long.f k s lim = some (longI lim s.data.toList) := by
  have := reflong_loop s lim hs s.size 0 0 k (by omega) (by omega) (by omega)
  simpa [gluepotref03_Long.f, longI] using this
theorem openR_snoc (l : List UInt8) (c : UInt8) : openR (l ++ [c]) = if gap c = true then 0 else openR l + 1 := by
  unfold openR
  rw [List.reverse_append]
  by_cases hg : gap c = true
  · simp [hg]
  · simp [hg]
theorem refopen_loop (s : ByteArray) (hs : s.size ≤ 1000000) : ∀ (i n : Nat) k, i ≤ s.size → 1 + i ≤ k → n + i ≤ s.size →
    gluepotref03_Open.l0 k s (n : Int) ((i : Int) - 1) = some ((n + openR (s.data.toList.take i) : Nat) : Int)
  | 0, n, k + 1, h, hk, hn => by
    rw [gluepotref03_Open.l0, if_neg (by omega)]
    rfl
  | i + 1, n, k + 1, h, hk, hn => by
    have hl : s.data.toList.length = s.size := size_list s
    have e0 : ((i + 1 : Nat) : Int) - 1 = (i : Int) := by omega
    have e1 : wrap64 ((i : Int) - 1) = (i : Int) - 1 := by unfold wrap64; omega
    have e2 : wrap64 ((n : Int) + 1) = ((n + 1 : Nat) : Int) := wrap_nat (n := n + 1) (by omega)
    have ht : s.data.toList.take (i + 1) = s.data.toList.take i ++ [s.data.toList.getD i 0] := take_succ_getD' _ i (by omega)
    rw [e0, gluepotref03_Open.l0, if_pos (by omega), if_pos (by omega), if_pos (by omega), bt_list s i (by omega), gapB, Option.bind_some, e1, e2, ht, openR_snoc]
    by_cases hg : gap (s.data.toList.getD i 0) = true
    · rw [if_pos hg, if_pos hg]
      rfl
    · rw [if_neg hg, if_neg hg, refopen_loop s hs i (n + 1) k (by omega) (by omega) (by omega)]
      congr 2
      omega
theorem refopen_f {k : Nat} (s : ByteArray) (hs : s.size ≤ 1000000) (hk : 1 + s.size ≤ k) : gluepotref03_Open.f k s = some (openR s.data.toList : Int) := by
  have := refopen_loop s hs s.size 0 k (Nat.le_refl _) (by omega) (by omega)
  have e : wrap64 ((s.size : Int) - 1) = (s.size : Int) - 1 := by unfold wrap64; omega
  rw [List.take_of_length_le (by rw [size_list]; exact Nat.le_refl _)] at this
  simpa [gluepotref03_Open.f, e] using this
/-- Texts, one behind the other. -/
def wholeL (L : List ByteArray) : List UInt8 := L.flatMap fun s => s.data.toList
theorem whole_app (a b : List ByteArray) : wholeL (a ++ b) = wholeL a ++ wholeL b := List.flatMap_append
theorem rd_get (L : List ByteArray) (i : Nat) (hi : i < L.length) : rdOf ByteArray.empty L (i : Int) = L[i] := by
  unfold rdOf
  rw [Int.toNat_natCast, List.getD_eq_getElem?_getD, List.getElem?_eq_getElem hi]
  rfl
theorem mkB_size' (a : List UInt8) : (mkB a).size = a.length := mk_size a
theorem mk_self (s : ByteArray) : mkB s.data.toList = s := mk_list s
theorem refwhole_loop (L : List ByteArray) (hb : (wholeL L).length ≤ 1000000000) (hL : L.length ≤ 1000000000) : ∀ m i k, i + m = L.length → 1 + m ≤ k → gluepotref03_Whole.l0 k L (mkB (wholeL (L.take i))) (i : Int) = some (mkB (wholeL L))
  | 0, i, k + 1, h, hk => by
    rw [gluepotref03_Whole.l0, if_neg (by omega), List.take_of_length_le (by omega)]
  | m + 1, i, k + 1, h, hk => by
    have hi : i < L.length := by omega
    have ht : wholeL (L.take (i + 1)) = wholeL (L.take i) ++ L[i].data.toList := by
      rw [List.take_succ_eq_append_getElem hi, whole_app]
      congr 1
      exact List.append_nil _
    have hle : (wholeL (L.take (i + 1))).length ≤ (wholeL L).length := by
      conv => rhs; rw [← List.take_append_drop (i + 1) L]
      rw [whole_app, List.length_append]
      omega
    rw [ht, List.length_append, size_list] at hle
    rw [gluepotref03_Whole.l0, if_pos (by omega), if_pos (by omega), rd_get L i hi, if_pos (by rw [show (mkB (wholeL (L.take i))).size = (wholeL (L.take i)).length from mk_size _]; omega)]
    have e : mkB (wholeL (L.take i)) ++ L[i] = mkB (wholeL (L.take (i + 1))) := by
      rw [ht]
      conv => lhs; rw [← mk_self L[i]]
      exact mk_append _ _
    rw [e, show wrap64 ((i : Int) + 1) = ((i + 1 : Nat) : Int) from wrap_nat (n := i + 1) (by omega)]
    exact refwhole_loop L hb hL m (i + 1) k (by omega) (by omega)
theorem refwhole_f {k : Nat} (L : List ByteArray) (hb : (wholeL L).length ≤ 1000000000) (hL : L.length ≤ 1000000000) (hk : 1 + L.length ≤ k) : gluepotref03_Whole.f k L = some (mkB (wholeL L)) := by
  have := refwhole_loop L hb hL L.length 0 k (by omega) (by omega)
  simpa [gluepotref03_Whole.f, wholeL, mkB] using this
/-- great: whether it is; if not, the texts are few and short. -/
theorem great_big (L : List ByteArray) (hL : L.length ≤ 9223372036854775807) (hb : 100 < L.length) : ∀ m i (x : Int) k, i + m = L.length → 1 + m ≤ k → gluepotlaw03_great.l0 k L x (i : Int) = some true
  | 0, i, x, k + 1, h, hk => by
    rw [gluepotlaw03_great.l0, if_neg (by omega), if_pos (by omega)]
  | m + 1, i, x, k + 1, h, hk => by
    rw [gluepotlaw03_great.l0, if_pos (by omega), if_pos (by omega), rd_get L i (by omega)]
    split
    · rfl
    · rw [show wrap64 ((i : Int) + 1) = ((i + 1 : Nat) : Int) by unfold wrap64; omega]
      exact great_big L hL hb m (i + 1) _ k (by omega) (by omega)
theorem great_small (L : List ByteArray) (hb : L.length ≤ 100) : ∀ m i (n : Nat) k, i + m = L.length → 1 + m ≤ k → n = (wholeL (L.take i)).length → n ≤ 3000 * i →
    ∃ b, gluepotlaw03_great.l0 k L (n : Int) (i : Int) = some b ∧ (b = false → (wholeL L).length ≤ 3000)
  | 0, i, n, k + 1, h, hk, hn, hs => by
    rw [gluepotlaw03_great.l0, if_neg (by omega), if_neg (by omega)]
    rw [List.take_of_length_le (by omega)] at hn
    refine ⟨_, rfl, fun e => ?_⟩
    have := of_decide_eq_false e
    omega
  | m + 1, i, n, k + 1, h, hk, hn, hs => by
    have hi : i < L.length := by omega
    rw [gluepotlaw03_great.l0, if_pos (by omega), if_pos (by omega), rd_get L i hi]
    by_cases h1 : (L[i].size : Int) > 3000
    · rw [if_pos h1]
      exact ⟨true, rfl, fun e => by cases e⟩
    · rw [if_neg h1]
      have ht : wholeL (L.take (i + 1)) = wholeL (L.take i) ++ L[i].data.toList := by
        rw [List.take_succ_eq_append_getElem hi, whole_app]
        congr 1
        exact List.append_nil _
      rw [show wrap64 ((n : Int) + (L[i].size : Int)) = ((n + L[i].size : Nat) : Int) by unfold wrap64; omega, show wrap64 ((i : Int) + 1) = ((i + 1 : Nat) : Int) from wrap_nat (n := i + 1) (by omega)]
      refine great_small L hb m (i + 1) (n + L[i].size) k (by omega) (by omega) ?_ (by omega)
      rw [ht, List.length_append, size_list, hn]
theorem great_f (L : List ByteArray) (hL : L.length ≤ 9223372036854775807) : ∃ k b, gluepotlaw03_great.f k L = some b ∧ (b = false → L.length ≤ 100 ∧ (wholeL L).length ≤ 3000) := by
  by_cases h : 100 < L.length
  · exact ⟨L.length + 1, true, great_big L hL h L.length 0 0 _ (by omega) (by omega), fun e => by cases e⟩
  · obtain ⟨b, hb, hf⟩ := great_small L (by omega) L.length 0 0 (L.length + 1) (by omega) (by omega) rfl (Nat.le_refl _)
    exact ⟨L.length + 1, b, hb, fun e => ⟨by omega, hf e⟩⟩
theorem ext_take (l : List UInt8) (n : Nat) : (mkB l).extract 0 n = mkB (l.take n) := by
  rw [cut_mk]
  simp [mkB, cut]
end Go.Proofs.Ytmldibphbilghaa.Pure
