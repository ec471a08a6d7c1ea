/- source.All, of a Script and of a Plain. -/
import Derived.Test.YtmldibphbilghaaSource3
import Derived.Test.YtmldibphbilghaaBWrite
namespace Go.Proofs.Ytmldibphbilghaa.Src
open Go.RowKit Go.Proofs.Ytmldibphbilghaa.Bs Go.Proofs.YtmldibphbilghaaW.PrintWords
set_option linter.unusedVariables false
set_option linter.unusedSimpArgs false
/-- What Next tells, and what is told behind it. -/
def Tells (fail : Int) (i : Nat) (r : List ByteArray) : Option ByteArray × Int × Nat → Prop
  | (some s, e, j) => e = 0 ∧ i < j ∧ j ≤ i + r.length ∧ told fail i r = (s :: (told fail j (r.drop (j - i))).1, (told fail j (r.drop (j - i))).2) ∧ s ≠ ByteArray.empty
  | (none, e, j) => i ≤ j ∧ j ≤ i + r.length ∧ told fail i r = ([], e) ∧ told fail j (r.drop (j - i)) = ([], e)
theorem told_nxt (fail : Int) : ∀ (r : List ByteArray) (i : Nat), Tells fail i r (nxt fail i r)
  | [], i => by
    rw [nxt]
    split
    · rename_i h; refine ⟨Nat.le_refl _, by simp, by rw [told, if_pos h], by simp [told, h]⟩
    · rename_i h; refine ⟨Nat.le_refl _, by simp, by rw [told, if_neg h], by simp [told, h]⟩
  | s :: r, i => by
    rw [nxt]
    by_cases h : (i : Int) = fail
    · rw [if_pos h]
      refine ⟨Nat.le_refl _, by omega, by rw [told, if_pos h], ?_⟩
      rw [Nat.sub_self, List.drop_zero, told, if_pos h]
    · rw [if_neg h]
      by_cases hs : s = ByteArray.empty
      · rw [if_pos hs]
        have ih := told_nxt fail r (i + 1)
        have ht : told fail i (s :: r) = told fail (i + 1) r := by rw [told, if_neg h, if_pos hs]
        generalize nxt fail (i + 1) r = q at *
        obtain ⟨o, e, j⟩ := q
        cases o with
        | none =>
          obtain ⟨h1, h2, h3, h4⟩ := ih
          refine ⟨by omega, by simp; omega, by rw [ht]; exact h3, ?_⟩
          rw [show j - i = (j - (i + 1)) + 1 by omega, List.drop_succ_cons]
          exact h4
        | some t =>
          obtain ⟨h0, h1, h2, h3, h4⟩ := ih
          refine ⟨h0, by omega, by simp; omega, ?_, h4⟩
          rw [ht, show j - i = (j - (i + 1)) + 1 by omega, List.drop_succ_cons]
          exact h3
      · rw [if_neg hs]
        refine ⟨rfl, by omega, by simp, ?_, hs⟩
        rw [show i + 1 - i = 0 + 1 by omega, List.drop_succ_cons, List.drop_zero, told, if_neg h, if_neg hs]
theorem tells_drop {fail : Int} {i : Nat} {l : List ByteArray} (hi : i ≤ l.length) : Tells fail i (l.drop i) (nxt fail i (l.drop i)) := told_nxt fail _ i
theorem drop_back {i j : Nat} {l : List ByteArray} (h : i ≤ j) : (l.drop i).drop (j - i) = l.drop j := by rw [List.drop_drop, show i + (j - i) = j by omega]

/-- What All tells. -/
def allS (p : List ByteArray × Int) : ByteArray := if p.2 = 0 then Pr.mkB (Pure.wholeL p.1) else ByteArray.empty
set_option maxHeartbeats 4000000 in
set_option maxRecDepth 100000 in
theorem all_scr (B b : Nat) (ob : Option Nat) (l : List ByteArray) (fail : Int) (w : World) (h : Scr B b ob l 0 fail w) (hbig : l.length ≤ 1000000) (hlen : (Pure.wholeL (told fail 0 l).1).length ≤ 1000000) :
    Calls Try.prog 47 #[.iface PC (.pointer (some ⟨b, 0, none⟩))] w fun e w' => e = .returned (.tuple #[.string (allS (told fail 0 l)), .int .i64 (told fail 0 l).2]) ∧ Fr (fun k => k = b) w w' := by
  have HS := Lib.hid h
  have hm := fun w => mNextS ⟨b, 0, none⟩ w _ rfl
  clear h
  go_enter Try.func47, Try.ntmps47
  go_wp2_with fail
  have hfr0 : Fr (fun k => k = b) w (w.alloc (.cells #[.pointer none, .slice none 0 0] 85)) := (Fr.refl _ w).alloc _
  have HFR0 := Lib.hid hfr0
  have HAT0 := Lib.hid (Bld.At.fresh w w.heap.size (Nat.le_refl _))
  have HS0 := Lib.hid (HS.out.fr ((Fr.refl (fun _ => False) w).alloc (.cells #[.pointer none, .slice none 0 0] 85)) (fun h => h) (fun _ _ h => h))
  have hbw := HS.out.lt
  have hobw : ∀ g, ob = some g → g < w.heap.size := fun g hg => (HS.out.row hg).2.1
  have HOBW := Lib.hid hobw
  clear hfr0 hobw HS
  go_loopw [5] (fun v5 wr => ∃ (i : Nat) (acc : List UInt8) (obb : Option Nat), i ≤ l.length ∧ Pure.wholeL (told fail 0 l).1 = acc ++ Pure.wholeL (told fail i (l.drop i)).1 ∧ (told fail 0 l).2 = (told fail i (l.drop i)).2 ∧ Scr B b ob l i fail wr ∧ Bld.At w.heap.size w.heap.size obb (Bld.cells acc) wr ∧ Fr (fun k => k = b) w wr) (fun _ wr => l.length + 1 - numAt wr b 1)
  case atStart => exact ⟨0, [], none, Nat.zero_le _, rfl, rfl, HS0.out, HAT0.out, HFR0.out⟩
  case round =>
    obtain ⟨i, acc, obb, hi, ht1, ht2, hs, hat, hfr⟩ := hrel
    have HS := Lib.hid hs
    have HAT := Lib.hid hat
    have HF := Lib.hid hfr
    have HT1 := Lib.hid ht1
    have HT2 := Lib.hid ht2
    have htl := tells_drop (fail := fail) hi
    have hnc := next_c B b ob l i fail wr HS.out hi hbig
    generalize nxt fail i (l.drop i) = q at htl hnc
    obtain ⟨o, e1, j⟩ := q
    have HTL := Lib.hid htl
    have HNC := Lib.hid hnc
    clear hs hat hfr ht1 ht2 htl hnc HAT0 HS0 HFR0
    go_wp2_with fail
    refine HNC.out.mono ?_
    rintro e w1 ⟨w0, hw0, hh, hs1, hf1⟩
    have HS1 := Lib.hid hs1
    have HF1 := Lib.hid hf1
    have hat1 := HAT.out.fr hf1 (by omega) (fun g hg e => by have := (HAT.out.row hg).1; omega)
    have HAT1 := Lib.hid hat1
    have hfr1 := HF.out.trans hf1 (fun k hk => .inl hk)
    have HFR1 := Lib.hid hfr1
    clear hs1 hf1 hat1 hfr1 HNC
    cases o with
    | none =>
      have := hh
      unfold Hands at this
      subst this
      obtain ⟨h1, h2, h3, h4⟩ := HTL.out
      have ht0 : (told fail 0 l).2 = e1 := by rw [HT2.out, h3]
      have hta : Pure.wholeL (told fail 0 l).1 = acc := by rw [HT1.out, h3]; exact List.append_nil _
      clear hh h3 h4 hw0
      by_cases h0 : e1 = 0
      · subst h0
        have HT0 := Lib.hid ht0
        have HTA := Lib.hid hta
        clear ht0 hta
        go_wp2_with fail
        refine (Bld.string_c _ _ _ _ _ HAT1.out HFR1.out.size).mono ?_
        rintro e w2 ⟨rfl, hb2⟩
        have HB2 := Lib.hid hb2
        clear hb2
        go_wp2_with fail
        go_ret2
        refine ⟨?_, ?_⟩
        · rw [HT0.out, allS, if_pos HT0.out, HTA.out]
          rfl
        · exact HFR1.out.trans (S2 := fun k => w.heap.size ≤ k) ⟨HB2.out.os, HB2.out.tape, HB2.out.output, HB2.out.size, fun k hk hn => HB2.out.block k (by omega)⟩ (fun k hk => .inr hk)
      · have HT0 := Lib.hid ht0
        clear ht0 hta
        go_wp2_with fail
        go_ret2
        refine ⟨?_, HFR1.out⟩
        rw [HT0.out, allS, if_neg (by rw [HT0.out]; exact h0)]
        rfl
    | some s =>
      obtain ⟨cp, rfl, hby, cs, hcs, hcs2⟩ := hh.some
      obtain ⟨rfl, h1, h2, h3, h4⟩ := HTL.out
      rw [drop_back (by omega)] at h3
      have hln : (l.drop i).length = l.length - i := List.length_drop
      have ht1 : Pure.wholeL (told fail 0 l).1 = (acc ++ s.data.toList) ++ Pure.wholeL (told fail j (l.drop j)).1 := by
        rw [HT1.out, h3, List.append_assoc]
        rfl
      have ht2 : (told fail 0 l).2 = (told fail j (l.drop j)).2 := by rw [HT2.out, h3]
      have hlen2 : acc.length + s.size ≤ 1000000 := by
        have := hlen
        rw [ht1] at this
        simp only [List.length_append] at this
        have hss : s.data.toList.length = s.size := by simp
        omega
      have hg : w0.heap.size < w1.heap.size := Bs.blk_lt hcs
      have hwr : w.heap.size < wr.heap.size := HAT.out.lt
      obtain ⟨g, hgg⟩ : ∃ g, g = w0.heap.size := ⟨_, rfl⟩
      rw [← hgg] at hby hcs hg ⊢
      have hgw : w.heap.size ≤ g := by have := HF.out.size; omega
      have hgb : g ≠ w.heap.size := by omega
      have hob0 : obb ≠ some g := fun e => by have := (HAT.out.row e).2.1; omega
      have hw := Bld.write_c w.heap.size w.heap.size obb acc g cp s w1 HAT1.out hby hgb hob0 (by omega) (by have := HFR1.out.size; omega)
      have HW := Lib.hid hw
      have HX1 := Lib.hid ht1
      have HX2 := Lib.hid ht2
      clear hw ht1 ht2 hh h3 h4 hby hcs hcs2 hgg hw0
      go_wp2_with fail
      refine HW.out.mono ?_
      rintro e w2 ⟨rfl, ob2, hat2, hmv2, hf2⟩
      have HA2 := Lib.hid hat2
      have HS2 := Lib.hid (HS1.out.fr hf2 (fun hx => hx.elim (fun e => by omega) (fun e => by have := (HAT.out.row e).1; omega)) (fun g hg hx => hx.elim (fun e => by have := HOBW.out g hg; omega) (fun e => by have := (HAT.out.row e).1; have := HOBW.out g hg; omega)))
      have HF2 := Lib.hid (HFR1.out.trans hf2 (fun k hk => .inr (hk.elim (fun e => by omega) (fun e => (HAT.out.row e).1))))
      clear hat2 hf2 hmv2
      go_wp2_with fail
      refine ⟨⟨j, acc ++ s.data.toList, ob2, by omega, HX1.out, HX2.out, HS2.out, HA2.out, HF2.out⟩, ?_⟩
      rw [HS2.out.at, HS.out.at]
      omega
end Go.Proofs.Ytmldibphbilghaa.Src
