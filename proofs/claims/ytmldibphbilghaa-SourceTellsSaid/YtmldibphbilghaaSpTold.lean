/- Plain facts of what a Script tells. -/
import Derived.Test.YtmldibphbilghaaSource4
import Derived.Test.YtmldibphbilghaaPr28
import Derived.Test.YtmldibphbilghaaPr27
namespace Go.Proofs.Ytmldibphbilghaa.Pure
open Go.RowKit Go.Proofs.YtmldibphbilghaaW.PrintWords Go.Proofs.Ytmldibphbilghaa.Src Go.Proofs.Ytmldibphbilghaa.Pr
set_option linter.unusedVariables false
set_option linter.unusedSimpArgs false
theorem size_told (fail : Int) : ∀ (l : List ByteArray) (i : Nat), Src.size fail i l = (wholeL (told fail i l).1).length
  | [], i => by simp [Src.size, told, wholeL]
  | s :: r, i => by
    rw [Src.size, told]
    split
    · simp [wholeL]
    · rw [size_told fail r (i + 1)]
      split
      · rename_i h; subst h; simp
      · simp [wholeL]
theorem told_err (fail : Int) : ∀ (l : List ByteArray) (i : Nat), (told fail i l).2 = 0 ∨ (told fail i l).2 = 3
  | [], i => by
    rw [told]
    split
    · exact .inr rfl
    · exact .inl rfl
  | s :: r, i => by
    rw [told]
    split
    · exact .inr rfl
    · split
      · exact told_err fail r (i + 1)
      · exact told_err fail r (i + 1)
theorem told_len (fail : Int) : ∀ (l : List ByteArray) (i : Nat), (wholeL (told fail i l).1).length ≤ (wholeL l).length ∧ (told fail i l).1.length ≤ l.length
  | [], i => by simp [told, wholeL]
  | s :: r, i => by
    obtain ⟨h1, h2⟩ := told_len fail r (i + 1)
    rw [told]
    split
    · simp [wholeL]
    · split
      · have : (wholeL (s :: r)).length = s.data.toList.length + (wholeL r).length := by simp [wholeL]
        exact ⟨by omega, by simp; omega⟩
      · constructor
        · simp only [wholeL, List.flatMap_cons, List.length_append] at h1 ⊢
          omega
        · simp; omega
theorem told_loop (fail : Int) (l : List ByteArray) (hl : l.length ≤ 1000000) : ∀ (m i k : Nat) (out : List ByteArray), l.length - i = m → i ≤ l.length → m + 1 ≤ k → out.length ≤ i →
    gluepotref04_Told.l0 k l fail out (i : Int) = some (out ++ (told fail i (l.drop i)).1, (told fail i (l.drop i)).2)
  | 0, i, k + 1, out, hm, hi, hk, ho => by
    rw [gluepotref04_Told.l0, if_neg (by omega), List.drop_of_length_le (by omega), told, List.append_nil]
    by_cases h : (i : Int) = fail
    · rw [if_pos (by omega), if_pos h]
    · rw [if_neg (by omega), if_neg h]
  | m + 1, i, k + 1, out, hm, hi, hk, ho => by
    have hlt : i < l.length := by omega
    have hd : l.drop i = l[i] :: l.drop (i + 1) := List.drop_eq_getElem_cons hlt
    have hw : wrap64 ((i : Int) + 1) = ((i + 1 : Nat) : Int) := by unfold wrap64; omega
    rw [gluepotref04_Told.l0, if_pos (by omega), hd, told]
    by_cases h : (i : Int) = fail
    · rw [if_pos h, if_pos h, List.append_nil]
    · rw [if_neg h, if_neg h, if_pos (by omega), rd_get l i hlt]
      by_cases he : l[i] = ByteArray.empty
      · rw [if_pos (by rw [he, ByteArray.toList_eq]; rfl), if_pos he, hw]
        exact told_loop fail l hl m (i + 1) k out (by omega) (by omega) (by omega) (by omega)
      · rw [if_neg (fun hx => he (empty_of (by rw [hx]; rfl))), if_neg he, if_pos (by omega), hw, told_loop fail l hl m (i + 1) k (out ++ [l[i]]) (by omega) (by omega) (by omega) (by simp; omega)]
        simp
theorem reftold_f {k : Nat} (l : List ByteArray) (fail : Int) (hl : l.length ≤ 1000000) (hk : l.length + 1 ≤ k) : gluepotref04_Told.f k l fail = some ((told fail 0 l).1, (told fail 0 l).2) := by
  have := told_loop fail l hl l.length 0 k [] (by omega) (by omega) (by omega) (by simp)
  rw [List.nil_append, List.drop_zero] at this
  exact this
theorem size_at : ∀ (l : List ByteArray) (i : Nat) (h : i < l.length), l[i].size ≤ (wholeL l).length
  | [], i, h => by cases h
  | s :: r, 0, h => by
    have : s.data.toList.length = s.size := size_list s
    simp only [wholeL, List.flatMap_cons, List.length_append, List.getElem_cons_zero]
    omega
  | s :: r, i + 1, h => by
    have := size_at r i (by simpa using h)
    simp only [wholeL, List.flatMap_cons, List.length_append, List.getElem_cons_succ] at this ⊢
    omega
theorem great4_eq : ∀ (k : Nat) (L : List ByteArray) (x i : Int), gluepotlaw04_great.l0 k L x i = gluepotlaw03_great.l0 k L x i
  | 0, L, x, i => by rw [gluepotlaw04_great.l0, gluepotlaw03_great.l0]
  | k + 1, L, x, i => by rw [gluepotlaw04_great.l0, gluepotlaw03_great.l0, great4_eq k]
theorem great4_f (L : List ByteArray) (hL : L.length ≤ 9223372036854775807) : ∃ k b, gluepotlaw04_great.f k L = some b ∧ (b = false → L.length ≤ 100 ∧ (wholeL L).length ≤ 3000) := by
  obtain ⟨k, b, h1, h2⟩ := great_f L hL
  exact ⟨k, b, by rw [gluepotlaw04_great.f, great4_eq]; exact h1, h2⟩
end Go.Proofs.Ytmldibphbilghaa.Pure
