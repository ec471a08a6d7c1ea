/- source.All of a Plain; the law SourcePlain, walked. -/
import Derived.Test.YtmldibphbilghaaSource4
namespace Go.Proofs.Ytmldibphbilghaa.Src
open Go.RowKit Go.Proofs.Ytmldibphbilghaa.Bs Go.Proofs.YtmldibphbilghaaW.PrintWords
set_option linter.unusedVariables false
set_option linter.unusedSimpArgs false
/-- How long the text in a cell is. -/
def lenAt (w : World) (b o : Nat) : Nat := match w.cell? ⟨b, o, none⟩ with
  | some (.string s) => s.size
  | _ => 0
theorem PlainAt.len {b : Nat} {s : ByteArray} {w : World} (h : PlainAt b s w) : lenAt w b 0 = s.size := by
  have c0 : w.cell? ⟨b, 0, none⟩ = some (.string s) := by rw [cell_heap h]; rfl
  simp [lenAt, c0]
theorem nil_size {s : ByteArray} (h : s ≠ ByteArray.empty) : 0 < s.size := by
  rcases Nat.eq_zero_or_pos s.size with h0 | h0
  · refine absurd ?_ h
    cases s with
    | mk d =>
      have : d = #[] := Array.eq_empty_of_size_eq_zero h0
      subst this
      rfl
  · exact h0
set_option maxHeartbeats 4000000 in
set_option maxRecDepth 100000 in
theorem all_plain (b : Nat) (s : ByteArray) (w : World) (h : PlainAt b s w) (hlen : s.size ≤ 1000000) :
    Calls Try.prog 47 #[.iface PP (.pointer (some ⟨b, 0, none⟩))] w fun e w' => e = .returned (.tuple #[.string s, .int .i64 0]) ∧ Fr (fun k => k = b) w w' := by
  have HS := Lib.hid h
  have hm := fun w => mNextP ⟨b, 0, none⟩ w _ rfl
  clear h
  go_enter Try.func47, Try.ntmps47
  go_wp2_with fail
  have hfr0 : Fr (fun k => k = b) w (w.alloc (.cells #[.pointer none, .slice none 0 0] 85)) := (Fr.refl _ w).alloc _
  have HFR0 := Lib.hid hfr0
  have HAT0 := Lib.hid (Bld.At.fresh w w.heap.size (Nat.le_refl _))
  have HS0 := Lib.hid (show PlainAt b s (w.alloc (.cells #[.pointer none, .slice none 0 0] 85)) from ((Fr.refl (fun _ => False) w).alloc (.cells #[.pointer none, .slice none 0 0] 85)).heap HS.out (fun h => h))
  have hbw := Bs.blk_lt HS.out
  clear hfr0 HS
  go_loopw [5] (fun v5 wr => ∃ (t : ByteArray) (acc : List UInt8) (obb : Option Nat), s.data.toList = acc ++ t.data.toList ∧ PlainAt b t wr ∧ Bld.At w.heap.size w.heap.size obb (Bld.cells acc) wr ∧ Fr (fun k => k = b) w wr) (fun _ wr => lenAt wr b 0)
  case atStart => exact ⟨s, [], none, rfl, HS0.out, HAT0.out, HFR0.out⟩
  case round =>
    obtain ⟨t, acc, obb, ht1, hs, hat, hfr⟩ := hrel
    have HS := Lib.hid hs
    have HAT := Lib.hid hat
    have HF := Lib.hid hfr
    have HT1 := Lib.hid ht1
    have HNC := Lib.hid (plain_c b t wr HS.out)
    clear hs hat hfr ht1 HAT0 HS0 HFR0
    go_wp2_with fail
    refine HNC.out.mono ?_
    rintro e w1 ⟨hh, hs1, hf1⟩
    have HS1 := Lib.hid hs1
    have hat1 := HAT.out.fr hf1 (by omega) (fun g hg e => by have := (HAT.out.row hg).1; omega)
    have HAT1 := Lib.hid hat1
    have hfr1 := HF.out.trans hf1 (fun k hk => .inl hk)
    have HFR1 := Lib.hid hfr1
    clear hs1 hf1 hat1 hfr1 HNC
    by_cases h0 : t = ByteArray.empty
    · subst h0
      rw [plain, if_pos rfl] at hh
      have := hh
      unfold Hands at this
      subst this
      clear hh
      go_wp2_with fail
      refine (Bld.string_c _ _ _ _ _ HAT1.out HFR1.out.size).mono ?_
      rintro e w2 ⟨rfl, hb2⟩
      have HB2 := Lib.hid hb2
      clear hb2
      go_wp2_with fail
      go_ret2
      refine ⟨?_, ?_⟩
      · have hsx : s = ⟨acc.toArray⟩ := by
          refine ByteArray.ext (Array.toList_inj.1 ?_)
          rw [HT1.out, show ByteArray.empty.data.toList = [] from rfl, List.append_nil]
        rw [hsx]
        rfl
      · exact HFR1.out.trans (S2 := fun k => w.heap.size ≤ k) ⟨HB2.out.os, HB2.out.tape, HB2.out.output, HB2.out.size, fun k hk hn => HB2.out.block k (by omega)⟩ (fun k hk => .inr hk)
    · rw [plain, if_neg h0] at hh
      obtain ⟨cp, rfl, hby, cs, hcs, hcs2⟩ := hh.some
      have hlen2 : acc.length + t.size ≤ 1000000 := by
        have := congrArg List.length HT1.out
        simp only [List.length_append] at this
        have hss : s.data.toList.length = s.size := by simp
        have hst : t.data.toList.length = t.size := by simp
        omega
      have hg : wr.heap.size < w1.heap.size := Bs.blk_lt hcs
      have hwr : w.heap.size < wr.heap.size := HAT.out.lt
      obtain ⟨g, hgg⟩ : ∃ g, g = wr.heap.size := ⟨_, rfl⟩
      rw [← hgg] at hby hcs hg ⊢
      have hgw : w.heap.size ≤ g := by omega
      have hgb : g ≠ w.heap.size := by omega
      have hob0 : obb ≠ some g := fun e => by have := (HAT.out.row e).2.1; omega
      have hw := Bld.write_c w.heap.size w.heap.size obb acc g cp t w1 HAT1.out hby hgb hob0 (by omega) (by have := HFR1.out.size; omega)
      have HW := Lib.hid hw
      clear hw hh hby hcs hcs2 hgg
      go_wp2_with fail
      refine HW.out.mono ?_
      rintro e w2 ⟨rfl, ob2, hat2, hmv2, hf2⟩
      have HA2 := Lib.hid hat2
      have HS2 := Lib.hid (show PlainAt b ByteArray.empty w2 from hf2.heap HS1.out (fun hx => hx.elim (fun e => by omega) (fun e => by have := (HAT.out.row e).1; omega)))
      have HF2 := Lib.hid (HFR1.out.trans hf2 (fun k hk => .inr (hk.elim (fun e => by omega) (fun e => (HAT.out.row e).1))))
      clear hat2 hf2 hmv2
      go_wp2_with fail
      refine ⟨⟨ByteArray.empty, acc ++ t.data.toList, ob2, ?_, HS2.out, HA2.out, HF2.out⟩, ?_⟩
      · rw [HT1.out, show ByteArray.empty.data.toList = [] from rfl, List.append_nil]
      · rw [HS2.out.len, HS.out.len]
        exact nil_size h0
set_option maxHeartbeats 1000000 in
set_option maxRecDepth 100000 in
theorem All_plain (b : Nat) (s : ByteArray) (w : World) (hs : PlainAt b s w) (hlen : s.size ≤ 1000000) :
    Calls Try.prog 33 #[.iface PP (.pointer (some ⟨b, 0, none⟩))] w fun e w' => e = .returned (.tuple #[.string s, .int .i64 0]) ∧ Fr (fun k => k = b) w w' := by
  have h := isPlain (.pointer (some ⟨b, 0, none⟩))
  have HA := Lib.hid (all_plain b s w hs hlen)
  clear hs
  go_enter Try.func33, Try.ntmps33
  go_wp2_with fail
  refine HA.out.mono ?_
  rintro e w1 ⟨rfl, hf⟩
  have HF := Lib.hid hf
  clear hf
  go_wp2_with fail
  go_ret2
  exact ⟨rfl, HF.out⟩
set_option maxHeartbeats 1000000 in
set_option maxRecDepth 100000 in
theorem All_scr (B b : Nat) (ob : Option Nat) (l : List ByteArray) (fail : Int) (w : World) (hs : Scr B b ob l 0 fail w) (hbig : l.length ≤ 1000000) (hlen : (Pure.wholeL (told fail 0 l).1).length ≤ 1000000) (S : ByteArray) (E : Int) (hS : S = allS (told fail 0 l)) (hE : E = (told fail 0 l).2) :
    Calls Try.prog 33 #[.iface PC (.pointer (some ⟨b, 0, none⟩))] w fun e w' => e = .returned (.tuple #[.string S, .int .i64 E]) ∧ Fr (fun k => k = b) w w' := by
  have h := isScr (.pointer (some ⟨b, 0, none⟩))
  have hA := all_scr B b ob l fail w hs hbig hlen
  rw [← hS, ← hE] at hA
  have HA := Lib.hid hA
  clear hs hA hlen hS hE
  go_enter Try.func33, Try.ntmps33
  go_wp2_with fail
  refine HA.out.mono ?_
  rintro e w1 ⟨rfl, hf⟩
  have HF := Lib.hid hf
  clear hf
  go_wp2_with fail
  go_ret2
  exact ⟨rfl, HF.out⟩
end Go.Proofs.Ytmldibphbilghaa.Src
namespace Go.Proofs.Ytmldibphbilghaa.Pr
open Go.RowKit Go.Proofs.Ytmldibphbilghaa.Bs Go.Proofs.YtmldibphbilghaaW.PrintWords Go.Proofs.YtmldibphbilghaaW.PrintLast Go.Proofs.YtmldibphbilghaaW.PrintMore
set_option linter.unusedVariables false
set_option linter.unusedSimpArgs false
def gluepotlaw04_SourcePlain.f (a0 : ByteArray) : Option Bool := some true
set_option maxHeartbeats 2000000 in
set_option maxRecDepth 100000 in
theorem gluepotlaw04_SourcePlain.calls (a0 : ByteArray) (r : Bool) (w : World) (h : gluepotlaw04_SourcePlain.f a0 = some r) :
    Calls Try.prog 9 #[.string a0] w fun e w' => e = .returned (.bool r) ∧ Below w.heap.size w w' := by
  cases h
  go_enter Try.func9, Try.ntmps9
  go_wp2_with fail
  refine (gluepotlaw04_awake.calls true _ rfl).mono ?_
  rintro e w1 ⟨rfl, hb1⟩
  have HB1 := Lib.hid hb1
  clear hb1
  by_cases hbig : 3000 < a0.size
  · go_wp2_with fail
    go_ret
    exact ⟨rfl, HB1.out⟩
  · obtain ⟨b, hb⟩ : ∃ b, b = w1.heap.size := ⟨_, rfl⟩
    have hp1 : Src.PlainAt b a0 (w1.alloc (.cells #[.string a0] 57)) := by rw [hb]; exact heap_new _ _
    have hf1 : Fr (fun _ => False) w (w1.alloc (.cells #[.string a0] 57)) := (Fr.ofBelow HB1.out).alloc _
    have hwb : w.heap.size ≤ b := by rw [hb]; exact HB1.out.size
    go_wp2_with fail
    obtain ⟨W, hW⟩ : ∃ W, W = w1.alloc (.cells #[.string a0] 57) := ⟨_, rfl⟩
    rw [← hW] at hp1 hf1
    have HP1 := Lib.hid hp1
    have HF1 := Lib.hid hf1
    rw [← hW, ← hb]
    clear hp1 hf1 hb hW HB1
    refine (Src.sz_plain _ _).mono ?_
    rintro e w2 ⟨rfl, rfl⟩
    go_wp2_with fail
    refine (Src.must_plain _ _).mono ?_
    rintro e w2 ⟨rfl, rfl⟩
    have hm := fun w => Src.mNextP ⟨b, 0, none⟩ w _ rfl
    have hcn := fun W c => Lib.run_convert_nil_bytes (P := Try.prog) W 31 9 5 c Try.underlying31 Try.underlying5 Try.underlying9
    have hcv := fun W => Lib.run_convert_whole (P := Try.prog) W 31 5 9 Try.underlying31 Try.underlying5 Try.underlying9
    go_wp2_with fail
    refine (Src.plain_c b a0 _ HP1.out).mono ?_
    rintro e w3 ⟨hh, hp3, hf3⟩
    have c0 : w3.cell? ⟨b, 0, none⟩ = some (.string ByteArray.empty) := by rw [cell_heap hp3]; rfl
    have HP3 := Lib.hid hp3
    have HF3 := Lib.hid (HF1.out.trans hf3 (fun k hk => .inr (by rw [hk]; exact hwb)))
    have hA : ∀ (b2 : Nat) (wx : World), Src.PlainAt b2 a0 wx → Calls Try.prog 33 #[.iface Src.PP (.pointer (some ⟨b2, 0, none⟩))] wx fun e w' => e = .returned (.tuple #[.string a0, .int .i64 0]) ∧ Fr (fun k => k = b2) wx w' := fun b2 wx hp => Src.All_plain b2 a0 wx hp (by omega)
    have HALL := Lib.hid hA
    clear hp3 hf3 HP1 HF1 hA
    by_cases h0 : a0 = ByteArray.empty
    · subst h0
      rw [Src.plain, if_pos rfl] at hh
      have := hh
      unfold Src.Hands at this
      subst this
      clear hh
      go_wp2_with fail
      refine (Src.plain_c b _ _ HP3.out).mono ?_
      rintro e w4 ⟨hh, hp4, hf4⟩
      rw [Src.plain, if_pos rfl] at hh
      have := hh
      unfold Src.Hands at this
      subst this
      have HF4 := Lib.hid (HF3.out.trans hf4 (fun k hk => .inr (by rw [hk]; exact hwb)))
      clear hh hp4 hf4
      go_wp2_with fail
      refine (HALL.out _ _ (heap_new _ _)).mono ?_
      rintro e w5 ⟨rfl, hf5⟩
      have HF5 := Lib.hid ((HF4.out.alloc _).trans hf5 (fun k hk => .inr (by rw [hk]; exact HF4.out.size)))
      clear hf5
      go_wp2_with fail
      go_ret
      exact ⟨by rfl, HF5.out.toBelow (fun _ h => h.elim) (Nat.le_refl _)⟩
    · rw [Src.plain, if_neg h0] at hh
      obtain ⟨cp, rfl, hby, _⟩ := hh.some
      have hc3 := hcv _ _ _ _ hby cp
      have hpe : a0.toList.isEmpty = false := by
        cases hq : a0.toList.isEmpty with
        | false => rfl
        | true => exact absurd (Src.empty_of hq) h0
      clear hh
      have hee : ByteArray.empty.toList.isEmpty = true := by rw [ByteArray.toList_eq]; rfl
      go_wp2_with fail
      refine (Src.plain_c b _ _ HP3.out).mono ?_
      rintro e w4 ⟨hh, hp4, hf4⟩
      rw [Src.plain, if_pos rfl] at hh
      have := hh
      unfold Src.Hands at this
      subst this
      have HF4 := Lib.hid (HF3.out.trans hf4 (fun k hk => .inr (by rw [hk]; exact hwb)))
      clear hh hp4 hf4
      go_wp2_with fail
      refine (HALL.out _ _ (heap_new _ _)).mono ?_
      rintro e w5 ⟨rfl, hf5⟩
      have HF5 := Lib.hid ((HF4.out.alloc _).trans hf5 (fun k hk => .inr (by rw [hk]; exact HF4.out.size)))
      clear hf5
      go_wp2_with fail
      go_ret
      exact ⟨by rfl, HF5.out.toBelow (fun _ h => h.elim) (Nat.le_refl _)⟩
end Go.Proofs.Ytmldibphbilghaa.Pr
