/- Plain lemmas on words: split's words and the document's are the same list. -/
import Derived.Test.YtmldibphbilghaaHSplit
import Derived.Test.YtmldibphbilghaaBytes
import Derived.Test.YtmldibphbilghaaPr16
import Derived.Test.YtmldibphbilghaaPr14
import Derived.Test.YtmldibphbilghaaPr10
namespace Go.Proofs.Ytmldibphbilghaa.Pure
open Go.RowKit Go.Proofs.Ytmldibphbilghaa.Pr Go.Proofs.YtmldibphbilghaaW.PrintWords Go.Proofs.YtmldibphbilghaaW.PrintLast
open Spl (gap feedL endL)
set_option linter.unusedSimpArgs false
set_option linter.unusedVariables false

/-- The words of a text of which op is open: by definition. -/
def wordsW : List UInt8 → List UInt8 → List (List UInt8)
  | op, [] => endL op
  | op, c :: l => if gap c = true then (if op = [] then wordsW [] l else op :: wordsW [] l) else wordsW (op ++ [c]) l
theorem feed_W (lim : Int) : ∀ (xs op : List UInt8) (out : List (List UInt8)), (op.length + xs.length : Int) ≤ lim → (feedL lim op xs out).2.1 = true ∧ (feedL lim op xs out).1 ++ endL (feedL lim op xs out).2.2 = out ++ wordsW op xs
  | [], op, out, h => ⟨rfl, rfl⟩
  | c :: l, op, out, h => by
    rw [List.length_cons] at h
    rw [feedL, wordsW]
    split
    · split
      · rename_i h0
        exact feed_W lim l [] out (by simp; omega)
      · obtain ⟨h1, h2⟩ := feed_W lim l [] (out ++ [op]) (by simp; omega)
        exact ⟨h1, by rw [h2]; simp⟩
    · rw [if_pos (by omega)]
      exact feed_W lim l (op ++ [c]) out (by simp; omega)
theorem wordsL_W (s : List UInt8) : wordsL s = wordsW [] s := by
  have := (feed_W (max (s.length : Int) 1) s [] [] (by simp; omega)).2
  simpa [wordsL] using this

/-! ### The document's words -/
theorem gapB (c : UInt8) : gluepotref03_Gap.f (c.toNat : Int) = some (gap c) := by
  have h : ∀ n : Fin 256, gluepotref03_Gap.f ((n.val : Nat) : Int) = some (gap (UInt8.ofNat n.val)) := by decide +kernel
  have := h ⟨c.toNat, c.toNat_lt⟩
  simpa using this
theorem gapI (c : Int) (h0 : 0 ≤ c) (h1 : c < 256) : gluepotref03_Gap.f c = some (gap c.toNat.toUInt8) := by
  have := gapB c.toNat.toUInt8
  rwa [show ((c.toNat.toUInt8.toNat : Nat) : Int) = c by simp; omega] at this
theorem drop_getD' (l : List UInt8) (k : Nat) (h : k < l.length) : l.drop k = l.getD k 0 :: l.drop (k + 1) := by
  rw [List.drop_eq_getElem_cons h]
  congr 1
  rw [List.getD_eq_getElem?_getD, List.getElem?_eq_getElem h]
  rfl
theorem wrap_nat {n : Nat} (h : n < 9000000000000000000) : wrap64 (n : Int) = (n : Int) := by unfold wrap64; omega
/-- s[from:i]. -/
def cut (s : List UInt8) (a b : Nat) : List UInt8 := (s.drop a).take (b - a)
theorem cut_len {s : List UInt8} {a b : Nat} (h : a ≤ b) (hb : b ≤ s.length) : (cut s a b).length = b - a := by simp [cut]; omega
theorem cut_self (s : List UInt8) (a : Nat) : cut s a a = [] := by simp [cut]
theorem cut_snoc (s : List UInt8) (a b : Nat) (h : a ≤ b) (hb : b < s.length) : cut s a (b + 1) = cut s a b ++ [s.getD b 0] := by
  unfold cut
  rw [show b + 1 - a = (b - a) + 1 by omega, List.take_add_one, List.getElem?_drop, show a + (b - a) = b by omega, List.getElem?_eq_getElem hb, List.getD_eq_getElem?_getD, List.getElem?_eq_getElem hb]
  rfl
theorem cut_mk (s : ByteArray) (a b : Nat) : s.extract a b = mkB (cut s.data.toList a b) := by
  apply bytes_ext
  rw [extract_list]
  simp [mkB, cut]
theorem refwords_loop (s : ByteArray) (hs : s.size ≤ 1000000) : ∀ m i a (x : List ByteArray) k, i + m = s.size + 1 → a ≤ i → 10 + 2 * m ≤ k → x.length ≤ i → a ≤ s.size + 1 →
    gluepotref03_Words.l0 k s x (a : Int) (i : Int) = some (x ++ (if i ≤ s.size then wordsW (cut s.data.toList a i) (s.data.toList.drop i) else []).map mkB)
  | 0, i, a, x, k + 1, h, ha, hk, hx, ha2 => by
    rw [gluepotref03_Words.l0, if_neg (by omega), if_neg (by omega)]
    simp
  | m + 1, i, a, x, k + 1, h, ha, hk, hx, ha2 => by
    have hl : s.data.toList.length = s.size := size_list s
    obtain ⟨k, rfl⟩ : ∃ k', k = k' + 1 := ⟨k - 1, by omega⟩
    have e1 : wrap64 ((i : Int) + 1) = ((i + 1 : Nat) : Int) := wrap_nat (n := i + 1) (by omega)
    have hcl := cut_len (s := s.data.toList) (b := i) ha (by omega)
    have hend : ∀ (c : Bool), c = true → gluepotref03_Words.j1 (k + 1) s x (a : Int) (i : Int) c = some (x ++ ((if cut s.data.toList a i = [] then [] else [cut s.data.toList a i]) ++ (if i + 1 ≤ s.size then wordsW [] (s.data.toList.drop (i + 1)) else [])).map mkB) := by
      rintro c rfl
      have hc2 := cut_self s.data.toList (i + 1)
      rw [gluepotref03_Words.j1, if_pos rfl]
      by_cases h1 : i > a
      · rw [if_pos (by omega), if_pos (by omega), if_pos (by omega), if_pos (by omega), if_pos (by omega), e1, refwords_loop s hs m (i + 1) (i + 1) _ k (by omega) (by omega) (by omega) (by simp; omega) (by omega), hc2,
          Int.toNat_natCast, Int.toNat_natCast, cut_mk]
        have hne : ¬ cut s.data.toList a i = [] := by intro e; rw [e] at hcl; simp at hcl; omega
        rw [if_neg hne]
        simp
      · rw [if_neg (by omega), e1, refwords_loop s hs m (i + 1) (i + 1) _ k (by omega) (by omega) (by omega) (by omega) (by omega), hc2]
        have hnil : cut s.data.toList a i = [] := List.eq_nil_of_length_eq_zero (by omega)
        rw [if_pos hnil]
        simp
    rw [gluepotref03_Words.l0, if_pos (by omega)]
    by_cases hi : i = s.size
    · subst hi
      rw [if_pos rfl, hend true rfl, if_neg (show ¬ s.size + 1 ≤ s.size by omega), if_pos (Nat.le_refl s.size), List.drop_of_length_le (Nat.le_of_eq hl), wordsW, endL]
      simp
    · rw [if_neg (by omega), if_pos (by omega), if_pos (by omega), bt_list s i (by omega), gapB, Option.bind_some, if_pos (show i ≤ s.size by omega), drop_getD' _ i (by omega), wordsW]
      by_cases hg : gap (s.data.toList.getD i 0) = true
      · rw [hend _ hg, if_pos hg, if_pos (show i + 1 ≤ s.size by omega)]
        by_cases hnil : cut s.data.toList a i = []
        · rw [if_pos hnil, if_pos hnil]
          simp
        · rw [if_neg hnil, if_neg hnil]
          simp
      · rw [gluepotref03_Words.j1, if_neg hg, e1, refwords_loop s hs m (i + 1) a _ k (by omega) (by omega) (by omega) (by omega) (by omega), if_pos (show i + 1 ≤ s.size by omega), if_neg hg, cut_snoc _ _ _ ha (by omega)]
theorem refwords_f {k : Nat} (s : ByteArray) (hs : s.size ≤ 1000000) (hk : 2 * s.size + 20 ≤ k) : gluepotref03_Words.f k s = some ((wordsW [] s.data.toList).map mkB) := by
  have := refwords_loop s hs (s.size + 1) 0 0 [] k (by omega) (by omega) (by omega) (by simp) (by omega)
  unfold gluepotref03_Words.f
  rw [cut_self, if_pos (Nat.zero_le _)] at this
  simpa using this

/-! ### Texts -/
theorem texts_loop (l : List ByteArray) (hl : l.length ≤ 9000000000000000) : ∀ m i k, i + m = l.length → 1 + m ≤ k → gluepotref01_Texts.l0 k l l (i : Int) = some true
  | 0, i, k + 1, h, hk => by rw [gluepotref01_Texts.l0, if_neg (by omega)]
  | m + 1, i, k + 1, h, hk => by
    rw [gluepotref01_Texts.l0, if_pos (by omega), if_pos (by omega), if_pos (by omega), if_pos rfl, show wrap64 ((i : Int) + 1) = ((i + 1 : Nat) : Int) from wrap_nat (n := i + 1) (by omega)]
    exact texts_loop l hl m (i + 1) k (by omega) (by omega)
theorem texts_same {k : Nat} (l : List ByteArray) (hl : l.length ≤ 9000000000000000) (hk : l.length + 1 ≤ k) : gluepotref01_Texts.f k l l = some true := by
  unfold gluepotref01_Texts.f
  rw [if_pos rfl]
  exact texts_loop l hl l.length 0 k (by omega) (by omega)
theorem wordsW_len : ∀ (l op : List UInt8), (wordsW op l).length ≤ 1 + l.length
  | [], op => by rw [wordsW, endL]; split <;> simp
  | c :: l, op => by
    rw [wordsW]
    have h1 := wordsW_len l []
    have h2 := wordsW_len l (op ++ [c])
    split
    · split <;> simp <;> omega
    · simp; omega
end Go.Proofs.Ytmldibphbilghaa.Pure
