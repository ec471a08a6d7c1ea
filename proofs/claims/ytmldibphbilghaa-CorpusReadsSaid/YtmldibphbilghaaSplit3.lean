/- Rows of texts, one behind the other; what feedL does of a text in two pieces. -/
import Derived.Test.YtmldibphbilghaaHSplit
import Derived.Test.YtmldibphbilghaaHLaw03
import Derived.Test.YtmldibphbilghaaSpWords
namespace Go.Proofs.Ytmldibphbilghaa.Spl
open Go.RowKit Go.Proofs.Ytmldibphbilghaa.Bs Go.Proofs.YtmldibphbilghaaW.PrintWords
set_option linter.unusedVariables false
set_option linter.unusedSimpArgs false

theorem strs_append (l m : List (List UInt8)) : strs (l ++ m) = strs l ++ strs m := by simp [strs]
theorem strs_one (l : List (List UInt8)) : ∀ u ∈ strs l, u.oneCell' = true := by
  intro u hu
  obtain ⟨c, _, rfl⟩ := List.mem_map.1 hu
  rfl
/-- 'append(got, l...)', both owned. -/
theorem append_strs {w : World} {ops : Array Oper} {rest : List Oper} {o : Oper} {a : Act} {Q : Exit → Act → World → Prop} (hgd : o.guard = none) (s x : Operand)
    (ho : o.op = .call { callee := .builtin .append, args := #[s, x], argTypes := #[22, 22] }) (base base2 : Nat) (v v2 : Value) (l1 l2 : List (List UInt8)) (hs : a.eval s = v) (hx : a.eval x = v2)
    (h1 : w.ownsRow base TX 1 v l1.length (strs l1)) (h2 : w.ownsRow base2 TX 1 v2 l2.length (strs l2)) (hb : base ≤ w.heap.size) (hn : l1.length + l2.length ≤ 1000000000)
    (h : ∀ v' w', w'.ownsRow base TX 1 v' (l1 ++ l2).length (strs (l1 ++ l2)) → Fr (fun k => v.ownBlock = some k) w w' → wpList Try.prog ops Q rest (a.put o.dst v') w') : wpList Try.prog ops Q (o :: rest) a w := by
  obtain ⟨i1, hx1, hx0, hxs, hxb⟩ := info_parts infoX
  rcases h2.2 with ⟨rfl, h0⟩ | ⟨g2, cap2, cur2, rfl, hg2, hh2, hr2⟩
  · have : l2 = [] := List.eq_nil_of_length_eq_zero h0
    subst this
    refine wpList_append_own_none hgd s x 22 ho base TX i1 1 Try.underlying22 hx1 v l1.length (strs l1) hs h1 hx ?_
    exact h v w (by simpa using h1) (Fr.refl _ _)
  · refine wpList_append_own_at w hgd s x 22 ho base TX i1 (.string ByteArray.empty) 1 16 Try.underlying22 hx1 hx0 hxs hxb rfl (by decide) v _ _ hs h1 ⟨g2, 0, none⟩ l2.length cap2 (strs l2) hx h2.1 (h2.cells (g := g2) rfl) (strs_one l2) (by unfold maxLen; omega) (by omega) hb ?_
    intro v' w' ho' hg' _ _
    refine h v' w' (by rw [List.length_append, strs_append]; exact ho') ?_
    exact ⟨hg'.os, hg'.tape, hg'.output, hg'.size, fun k hk hn => hg'.block k hk (fun e => hn e.symm)⟩

/-- Feed of a text's bytes, as feed_text; their row is as it was laid. -/
theorem feed_text2 (B b : Nat) (ob : Option Nat) (lim : Int) (bs : List UInt8) (s : ByteArray) (n cp : Nat) (hn : s.size = n) (w : World) (h : At B b ob lim bs false w) (hBw : B ≤ w.heap.size) (hbig : bs.length + s.size ≤ 1000000000) :
    Calls Try.prog 18 #[.pointer (some ⟨b, 0, none⟩), .slice (some ⟨w.heap.size, 0, none⟩) n cp] (Lib.bytesWorld w 5 s) fun e w' => ∃ v ob', e = .returned (.tuple #[v, .bool (feedL lim bs s.data.toList []).2.1]) ∧
      w'.ownsRow w.heap.size TX 1 v (feedL lim bs s.data.toList []).1.length (strs (feedL lim bs s.data.toList []).1) ∧ At B b ob' lim (feedL lim bs s.data.toList []).2.2 (!(feedL lim bs s.data.toList []).2.1) w' ∧
      Fr (Foot b ob) w w' ∧ ∃ cs : Array Value, w'.heap[w.heap.size]? = some (.cells cs T8 (cs.size, cs.size + 1)) ∧ n ≤ cs.size ∧ ∀ k, ob' = some k → k ≠ w.heap.size := by
  subst hn
  have hlen : s.data.toList.length = s.size := by simp only [Array.length_toList]; rfl
  have hfb := bytes_fr w 5 s
  have hat1 := h.fr hfb (fun h => h) (fun _ _ h => h)
  have hf := feed_c B b ob lim bs (some ⟨w.heap.size, 0, none⟩) cp s.data.toList _ hat1 (Pr.piece_new w b ob s h.lt (fun g hg => (h.row hg).2.1)) (Nat.le_trans hBw hfb.size) (by rw [hlen]; exact hbig)
  rw [hlen] at hf
  refine hf.mono ?_
  rintro e w2 ⟨v, ob', rfl, hown, hat2, hmv, hfr2⟩
  have hnew := Lib.bytesWorld_at_new w 5 s
  have hkeep := hfr2.heap hnew (fun hx => hx.elim (fun e => by have := h.lt; omega) (fun e => by have := (h.row e).2.1; omega))
  refine ⟨v, ob', rfl, own_weaken hown hfb.size, hat2, (hfb.mono (fun _ h => h.elim)).trans hfr2 (fun i hi => .inl hi), _, hkeep, ?_, ?_⟩
  · have hl : s.data.size = s.size := rfl
    simp [Lib.bytesCells]
  · intro k hk
    rcases hmv with e | e | ⟨g, e, hg⟩
    · rw [e] at hk; cases hk
    · have := (h.row (e.symm.trans hk)).2.1
      omega
    · rw [e] at hk
      cases hk
      rw [Lib.bytesWorld_size] at hg
      omega

theorem mark_free {w : World} {g : Nat} {cs : Array Value} {t : TypeId} (h : w.heap[g]? = some (.cells cs t (cs.size, cs.size + 1))) {j : Nat} (hj : j < cs.size) : w.frozen? ⟨g, j, none⟩ = false := by
  simp [World.frozen?, h]
  omega
theorem feed_pre (lim : Int) (pre : List (List UInt8)) : ∀ (xs op : List UInt8) (out : List (List UInt8)), feedL lim op xs (pre ++ out) = (pre ++ (feedL lim op xs out).1, (feedL lim op xs out).2)
  | [], op, out => rfl
  | c :: l, op, out => by
    rw [feedL, feedL]
    split
    · split
      · exact feed_pre lim pre l [] out
      · rw [List.append_assoc]
        exact feed_pre lim pre l [] (out ++ [op])
    · split
      · exact feed_pre lim pre l (op ++ [c]) out
      · rfl
theorem feed_app (lim : Int) (ys : List UInt8) : ∀ (xs op : List UInt8) (out : List (List UInt8)), feedL lim op (xs ++ ys) out = if (feedL lim op xs out).2.1 = true then feedL lim (feedL lim op xs out).2.2 ys (feedL lim op xs out).1 else feedL lim op xs out
  | [], op, out => by simp [feedL]
  | c :: l, op, out => by
    rw [List.cons_append, feedL, feedL]
    split
    · split
      · exact feed_app lim ys l [] out
      · exact feed_app lim ys l [] (out ++ [op])
    · split
      · exact feed_app lim ys l (op ++ [c]) out
      · simp
/-- A text in two pieces. -/
theorem feed_two (lim : Int) (xs ys : List UInt8) (h : (feedL lim [] xs []).2.1 = true) :
    feedL lim [] (xs ++ ys) [] = ((feedL lim [] xs []).1 ++ (feedL lim (feedL lim [] xs []).2.2 ys []).1, (feedL lim (feedL lim [] xs []).2.2 ys []).2) := by
  rw [feed_app, if_pos h]
  have := feed_pre lim (feedL lim [] xs []).1 ys (feedL lim [] xs []).2.2 []
  rwa [List.append_nil] at this
/-- The bytes of a text from pos to z, fed behind those up to pos. -/
theorem feed_step (lim : Int) (S : List UInt8) (pos z : Nat) (h1 : pos ≤ z) (hl : (S.length : Int) ≤ lim) (C : List UInt8) (hC : C = (S.drop pos).take (z - pos)) :
    (feedL lim (feedL lim [] (S.take pos) []).2.2 C []).2.1 = true ∧ (feedL lim [] (S.take z) []).1 = (feedL lim [] (S.take pos) []).1 ++ (feedL lim (feedL lim [] (S.take pos) []).2.2 C []).1 ∧
      (feedL lim [] (S.take z) []).2.2 = (feedL lim (feedL lim [] (S.take pos) []).2.2 C []).2.2 := by
  have ht : S.take z = S.take pos ++ C := by
    rw [hC, show S.take z = S.take (pos + (z - pos)) by rw [show pos + (z - pos) = z by omega], List.take_add]
  have ok1 := (Pure.feed_W lim (S.take pos) [] [] (by simp; omega)).1
  have ok2 := (Pure.feed_W lim (S.take z) [] [] (by simp; omega)).1
  have h2 := feed_two lim (S.take pos) C ok1
  rw [← ht] at h2
  rw [h2] at ok2
  rw [h2]
  exact ⟨ok2, rfl, rfl⟩
end Go.Proofs.Ytmldibphbilghaa.Spl
