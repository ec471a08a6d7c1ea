/- split.Gap and split.Words in the print's form. -/
import Derived.Test.YtmldibphbilghaaSplit2
import Derived.Lib.ConvBytes
import Derived.Laws.AppendOwnNone
namespace Go.Proofs.Ytmldibphbilghaa.Pr
open Go.RowKit Go.Proofs.Ytmldibphbilghaa.Bs Go.Proofs.YtmldibphbilghaaW.PrintWords Go.Proofs.YtmldibphbilghaaW.PrintLast Go.Proofs.YtmldibphbilghaaW.PrintMore
set_option linter.unusedVariables false
set_option linter.unusedSimpArgs false

def split_Gap.f (a0 : Int) : Option Bool := some (Spl.gap a0.toNat.toUInt8)
theorem split_Gap.calls (a0 : Int) (r : Bool) (w : World) (h : split_Gap.f a0 = some r) : Calls Try.prog 25 #[.int .u8 a0] w fun e w' => e = .returned (.bool r) ∧ Drawn0 w w' := by
  cases h
  refine (Spl.gap_c a0 w).mono ?_
  rintro e w' ⟨rfl, q, rfl⟩
  exact ⟨rfl, ⟨q, rfl⟩⟩

/-- The words of a text, as lists of bytes. -/
def wordsL (s : List UInt8) : List (List UInt8) := (Spl.feedL (max (s.length : Int) 1) [] s []).1 ++ Spl.endL (Spl.feedL (max (s.length : Int) 1) [] s []).2.2
def mkB (l : List UInt8) : ByteArray := ⟨l.toArray⟩
def split_Words.f (a0 : ByteArray) : Option (List ByteArray) := if a0.size ≤ 500000000 then some ((wordsL a0.data.toList).map mkB) else none
theorem strs_encs (l : List (List UInt8)) : Spl.strs l = encs Value.string (l.map mkB) := by simp [Spl.strs, encs, mkB, Function.comp_def]
theorem feed_len (lim : Int) : ∀ (xs op : List UInt8) (out : List (List UInt8)), (Spl.feedL lim op xs out).1.length ≤ out.length + xs.length ∧ (Spl.feedL lim op xs out).2.2.length ≤ op.length + xs.length
  | [], op, out => by simp [Spl.feedL]
  | c :: l, op, out => by
    rw [Spl.feedL]
    split
    · split
      · have := feed_len lim l [] out
        simp at this ⊢; omega
      · have := feed_len lim l [] (out ++ [op])
        simp at this ⊢; omega
    · split
      · have := feed_len lim l (op ++ [c]) out
        simp at this ⊢; omega
      · simp

set_option maxHeartbeats 2000000 in
set_option maxRecDepth 100000 in
theorem split_Words.calls (a0 : ByteArray) (r : List ByteArray) (w : World) (h : split_Words.f a0 = some r) :
    Calls Try.prog 24 #[.string a0] w fun e w' => ∃ v0_ : Value, e = .returned (v0_) ∧ Kd.R Kd.string 9 w' w.heap.size (fun _ => True) v0_ r ∧ Below w.heap.size w w' := by
  unfold split_Words.f at h
  split at h
  · rename_i hsz
    cases h
    obtain ⟨i1, hx, hx0, hx1, hx2⟩ := info_parts Spl.infoX
    have hcv := fun W => Lib.run_convert_string_bytes (P := Try.prog) W 9 31 5 a0 Try.underlying9 Try.underlying31 Try.underlying5
    have HAT := Lib.hid (Spl.At.fresh w w.heap.size (Nat.le_refl _) (max (a0.size : Int) 1))
    have hlen : a0.data.toList.length = a0.size := by simp only [Array.length_toList]; rfl
    go_enter Try.func24, Try.ntmps24
    go_wp2_with (go_at_call 15; refine (Spl.new_c (a0.size : Int) _).mono ?_; rintro e w1 ⟨rfl, rfl⟩)
    obtain ⟨W0, hW0⟩ : ∃ W0, W0 = w.alloc (.cells #[.int .i64 (max (a0.size : Int) 1), .slice none 0 0, .bool false] Spl.TS) := ⟨_, rfl⟩
    have hs0 : W0.heap.size = w.heap.size + 1 := by rw [hW0]; simp
    rw [← hW0] at HAT ⊢
    clear hcv
    have hfb := bytes_fr W0 5 a0
    have hnew := Lib.bytesWorld_at_new W0 5 a0
    rw [hs0] at hnew
    have hat1 := HAT.out.fr hfb (fun h => h) (fun _ _ h => h)
    have hpiece : Spl.Piece (Lib.bytesWorld W0 5 a0) w.heap.size none (some ⟨w.heap.size + 1, 0, none⟩) a0.data.toList := by
      intro _
      refine ⟨w.heap.size + 1, 0, rfl, by omega, by simp, fun j hj => ?_⟩
      rw [hlen] at hj
      rw [Nat.zero_add]
      exact bytes_cell hnew j hj
    have hfr0 : Fr (fun _ => False) w W0 := by rw [hW0]; exact (Fr.refl _ w).alloc _
    have hbelow1 : Fr (fun _ => False) w (Lib.bytesWorld W0 5 a0) := hfr0.trans hfb (fun _ h => h.elim)
    generalize Lib.bytesWorld W0 5 a0 = W1 at *
    have hfl := feed_len (max (a0.size : Int) 1) a0.data.toList [] []
    have hf := Spl.feed_c w.heap.size w.heap.size none (max (a0.size : Int) 1) [] (some ⟨w.heap.size + 1, 0, none⟩) (grownCap W0 a0.size 0 5) a0.data.toList W1 hat1 hpiece hbelow1.size (by simp [hlen]; omega)
    rw [hlen] at hf hfl
    generalize grownCap W0 a0.size 0 5 = cp at *
    refine hf.mono ?_
    rintro e w2 ⟨v, ob', rfl, hown, hat2, hmv, hfr2⟩
    have HW : wordsL a0.data.toList = (Spl.feedL (max (a0.size : Int) 1) [] a0.data.toList []).1 ++ Spl.endL (Spl.feedL (max (a0.size : Int) 1) [] a0.data.toList []).2.2 := by rw [wordsL, hlen]
    generalize Spl.feedL (max (a0.size : Int) 1) [] a0.data.toList [] = F at *
    obtain ⟨F1, F2, F3⟩ := F
    simp only at hown hat2 hfl HW
    have hfr3 : Fr (fun _ => False) w w2 := hbelow1.trans hfr2 (fun i hi => .inr (by rcases hi with rfl | hi; exact Nat.le_refl _; cases hi))
    have HOWN := Lib.hid hown
    have hbw1 := hbelow1.size
    have HAT2 := Lib.hid hat2
    have HFR3 := Lib.hid hfr3
    have HWW := Lib.hid HW
    clear hown hat2 hfr3 HW hf hat1 hpiece hfr2 hmv hnew HAT hbelow1 hfr0 hfb hs0 hW0
    go_wp2_with fail
    refine (Spl.end_c _ _ _ _ _ _ _ HAT2.out HFR3.out.size (by simp at hfl; omega)).mono ?_
    rintro e w3 ⟨v2, rfl, hown2, hat3, hfr4⟩
    have hfr5 : Fr (fun _ => False) w w3 := HFR3.out.trans hfr4 (fun i hi => .inr (by rw [hi]; exact Nat.le_refl _))
    have hown3 : w3.ownsRow w.heap.size Spl.TX 1 v F1.length (Spl.strs F1) := by
      refine hfr4.own (own_weaken HOWN.out hbw1) (fun g hg e => ?_)
      obtain ⟨v9, _, hb9, _, _⟩ := HAT2.out
      exact Bs.own_ne HOWN.out hb9 (show Spl.TS ≠ Spl.TX by decide) (by rw [hg, e])
    have hone : ∀ u ∈ Spl.strs (Spl.endL F3), u.oneCell' = true := by
      intro u hu
      obtain ⟨c, _, rfl⟩ := List.mem_map.1 hu
      rfl
    have HO := Lib.hid hone
    clear hone
    have hel : (Spl.endL F3).length ≤ 1 := by unfold Spl.endL; split <;> simp
    have HOWN3 := Lib.hid hown3
    have HFR5 := Lib.hid hfr5
    clear HAT2 HOWN HFR3 hat3 hfr4 hown3 hfr5
    have hlen2 : (wordsL a0.data.toList).length = F1.length + (Spl.endL F3).length := by rw [HWW.out, List.length_append]
    have hstr2 : Spl.strs F1 ++ Spl.strs (Spl.endL F3) = encs Value.string ((wordsL a0.data.toList).map mkB) := by
      rw [HWW.out, ← strs_encs]
      simp [Spl.strs]
    generalize (Spl.endL F3).length = m2 at *
    generalize Spl.strs (Spl.endL F3) = x2 at *
    have HS2 := Lib.hid hstr2
    clear hstr2 HWW
    have hdone : ∀ (v' : Value) (w' : World), w'.ownsRow w.heap.size Spl.TX 1 v' (F1.length + m2) (Spl.strs F1 ++ x2) → Fr (fun _ => False) w w' →
        ∃ v0_ : Value, Ending.returned v' = .returned v0_ ∧ Kd.R Kd.string 9 w' w.heap.size (fun _ => True) v0_ ((wordsL a0.data.toList).map mkB) ∧ Below w.heap.size w w' := by
      intro v' w' ho hfr
      rw [HS2.out, ← hlen2] at ho
      exact ⟨v', rfl, Kd.R_of_own (by rw [List.length_map]; exact ho) (fun _ _ => trivial), hfr.toBelow (fun _ h => h.elim) (Nat.le_refl _)⟩
    have HD := Lib.hid hdone
    clear hdone
    rcases hown2.2 with ⟨rfl, h0⟩ | ⟨g2, cap2, cur2, rfl, hg2, hh2, hr2⟩
    · subst h0
      have hx0' : x2 = [] := List.eq_nil_of_length_eq_zero (by simpa using hown2.1)
      subst hx0'
      clear hown2
      go_wp2_with (at_builtin; refine wpList_append_own_none rfl _ _ 22 rfl w.heap.size Spl.TX i1 1 Try.underlying22 hx v F1.length (Spl.strs F1) rfl HOWN3.out rfl ?_)
      go_ret
      exact HD.out v w3 (by simpa using HOWN3.out) HFR5.out
    · have hcells := hown2.cells (g := g2) rfl
      have hx2l : x2.length = m2 * 1 := hown2.1
      have HC := Lib.hid hcells
      clear hown2 hh2 hr2 hcells
      go_wp2_with (at_builtin; refine wpList_append_own_at _ rfl _ _ 22 rfl w.heap.size Spl.TX i1 (.string ByteArray.empty) 1 16 Try.underlying22 hx hx0 hx1 hx2 rfl (by decide) _ _ _ rfl HOWN3.out ⟨g2, 0, none⟩ m2 cap2 x2 rfl hx2l HC.out HO.out ?c3 ?c4 HFR5.out.size ?_)
      case c3 => unfold maxLen; simp at hfl; omega
      case c4 => simp at hfl; omega
      intro v' w4 hown4 hgr4 _ _
      have hb : ∀ k, v.ownBlock = some k → w.heap.size ≤ k := fun k hk => (Bs.own_lt HOWN3.out hk).1
      have hfin := HD.out v' w4 hown4 (HFR5.out.grown hgr4 (fun k hk => .inr (hb k hk)))
      have HFIN := Lib.hid hfin
      clear hfin hown4 hgr4
      go_wp2
      go_ret
      exact HFIN.out
  · cases h
end Go.Proofs.Ytmldibphbilghaa.Pr
