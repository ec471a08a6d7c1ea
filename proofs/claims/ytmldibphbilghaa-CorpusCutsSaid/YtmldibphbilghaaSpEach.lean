/- Plain facts of Each: what it hands on is what Feed tells of the whole text. -/
import Derived.Test.YtmldibphbilghaaCorpus2
namespace Go.Proofs.Ytmldibphbilghaa.Cor
open Go.RowKit Go.Proofs.YtmldibphbilghaaW.PrintWords
set_option linter.unusedVariables false
set_option linter.unusedSimpArgs false
/-- All words. -/
theorem each_all (lim err : Int) : ∀ (r : List ByteArray) (op : List UInt8) (ws : List ByteArray) (many : Nat),
    eachL lim (fun _ _ => true) err op ws many r = if (Spl.feedL lim op (Pure.wholeL r) []).2.1 = true then
      (if err = 0 then (many + (Spl.feedL lim op (Pure.wholeL r) []).1.length + (Spl.endL (Spl.feedL lim op (Pure.wholeL r) []).2.2).length, 0, ws ++ ((Spl.feedL lim op (Pure.wholeL r) []).1 ++ Spl.endL (Spl.feedL lim op (Pure.wholeL r) []).2.2).map Pr.mkB)
      else (many + (Spl.feedL lim op (Pure.wholeL r) []).1.length, err, ws ++ (Spl.feedL lim op (Pure.wholeL r) []).1.map Pr.mkB))
    else (many + (Spl.feedL lim op (Pure.wholeL r) []).1.length, 4, ws ++ (Spl.feedL lim op (Pure.wholeL r) []).1.map Pr.mkB)
  | [], op, ws, many => by
    rw [show Pure.wholeL [] = [] from rfl, show Spl.feedL lim op [] [] = ([], true, op) from rfl, eachL, hand_all]
    simp
  | s :: r, op, ws, many => by
    have hw : Pure.wholeL (s :: r) = s.data.toList ++ Pure.wholeL r := by simp [Pure.wholeL]
    rw [eachL, hand_all, if_pos rfl, hw, Spl.feed_app]
    by_cases hok : (Spl.feedL lim op s.data.toList []).2.1 = true
    · rw [if_pos hok, if_pos hok, each_all lim err r]
      have hp := Spl.feed_pre lim (Spl.feedL lim op s.data.toList []).1 (Pure.wholeL r) (Spl.feedL lim op s.data.toList []).2.2 []
      rw [List.append_nil] at hp
      rw [hp]
      generalize Spl.feedL lim (Spl.feedL lim op s.data.toList []).2.2 (Pure.wholeL r) [] = G
      obtain ⟨L, ok, op2⟩ := G
      simp only [List.length_append, List.length_map, List.map_append, List.append_assoc, Nat.add_assoc, Nat.zero_add]
    · rw [if_neg hok, if_neg hok, if_neg hok, List.length_map, Nat.zero_add]
/-- The first few. -/
abbrev upTo (few : Int) : List ByteArray → ByteArray → Bool := fun ws _ => decide ((ws.length : Int) + 1 ≤ few)
theorem hand_few (few : Nat) : ∀ (l ws : List ByteArray) (i : Nat), ws.length ≤ few →
    (ws.length + l.length ≤ few → handL (upTo few) ws l i = (i + l.length, true, ws ++ l)) ∧ (few < ws.length + l.length → (handL (upTo few) ws l i).1 = i + (few + 1 - ws.length) ∧ (handL (upTo few) ws l i).2.1 = false ∧ (handL (upTo few) ws l i).2.2.length = few + 1)
  | [], ws, i, h => by
    refine ⟨fun _ => by simp [handL], fun h2 => by simp at h2; omega⟩
  | x :: r, ws, i, h => by
    rw [handL]
    by_cases hc : ws.length + 1 ≤ few
    · have ih := hand_few few r (ws ++ [x]) (i + 1) (by simp; exact hc)
      rw [if_pos (by simp [upTo]; omega)]
      simp only [List.length_append, List.length_cons, List.length_nil] at ih ⊢
      refine ⟨fun h2 => ?_, fun h2 => ?_⟩
      · rw [ih.1 (by omega)]
        simp
        omega
      · obtain ⟨h3, h4, h5⟩ := ih.2 (by omega)
        exact ⟨by rw [h3]; omega, h4, h5⟩
    · rw [if_neg (by simp [upTo]; omega)]
      simp only [List.length_append, List.length_cons, List.length_nil]
      refine ⟨fun h2 => by omega, fun _ => ⟨by omega, trivial, by omega⟩⟩
theorem each_grows (lim err : Int) (r : List ByteArray) (op : List UInt8) (ws : List ByteArray) (many : Nat) : ws.length ≤ (eachL lim (fun _ _ => true) err op ws many r).2.2.length := by
  rw [each_all]
  split
  · split <;> simp
  · simp
theorem each_few (lim err : Int) (few : Nat) : ∀ (r : List ByteArray) (op : List UInt8) (ws : List ByteArray), ws.length ≤ few →
    ((eachL lim (fun _ _ => true) err op ws ws.length r).2.2.length ≤ few → eachL lim (upTo few) err op ws ws.length r = eachL lim (fun _ _ => true) err op ws ws.length r) ∧
    (few < (eachL lim (fun _ _ => true) err op ws ws.length r).2.2.length → (eachL lim (upTo few) err op ws ws.length r).1 = few + 1 ∧ (eachL lim (upTo few) err op ws ws.length r).2.1 = 0 ∧ (eachL lim (upTo few) err op ws ws.length r).2.2.length = few + 1)
  | [], op, ws, h => by
    rw [eachL, eachL, hand_all]
    by_cases he : err = 0
    · rw [if_pos he, if_pos he]
      obtain ⟨h1, h2⟩ := hand_few few ((Spl.endL op).map Pr.mkB) ws 0 h
      refine ⟨fun hl => ?_, fun hl => ?_⟩
      · rw [h1 (by simpa using hl)]
      · obtain ⟨h3, h4, h5⟩ := h2 (by simpa using hl)
        exact ⟨by rw [h3]; omega, rfl, h5⟩
    · rw [if_neg he, if_neg he]
      exact ⟨fun _ => rfl, fun hl => absurd hl (by simp; exact h)⟩
  | s :: r, op, ws, h => by
    rw [eachL, eachL, hand_all, if_pos rfl]
    obtain ⟨h1, h2⟩ := hand_few few ((Spl.feedL lim op s.data.toList []).1.map Pr.mkB) ws 0 h
    generalize (Spl.feedL lim op s.data.toList []).1.map Pr.mkB = Y at h1 h2
    by_cases hY : ws.length + Y.length ≤ few
    · rw [h1 hY, if_pos rfl]
      by_cases hok : (Spl.feedL lim op s.data.toList []).2.1 = true
      · rw [if_pos hok, if_pos hok]
        have ih := each_few lim err few r (Spl.feedL lim op s.data.toList []).2.2 (ws ++ Y) (by simp; exact hY)
        rw [List.length_append] at ih
        rw [Nat.zero_add]
        exact ih
      · rw [if_neg hok, if_neg hok]
        exact ⟨fun _ => rfl, fun hl => absurd hl (by simp; exact hY)⟩
    · obtain ⟨h3, h4, h5⟩ := h2 (by omega)
      have hn : ¬ (handL (upTo few) ws Y 0).2.1 = true := by rw [h4]; simp
      rw [if_neg hn]
      refine ⟨fun hl => ?_, fun _ => ⟨by rw [h3]; omega, rfl, h5⟩⟩
      exfalso
      split at hl
      · have := each_grows lim err r (Spl.feedL lim op s.data.toList []).2.2 (ws ++ Y) (ws.length + (0 + Y.length))
        rw [List.length_append] at this
        exact hY (Nat.le_trans this hl)
      · simp at hl; omega
end Go.Proofs.Ytmldibphbilghaa.Cor
