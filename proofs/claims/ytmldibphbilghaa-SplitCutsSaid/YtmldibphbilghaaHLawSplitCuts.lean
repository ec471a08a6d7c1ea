/- The law SplitCuts, walked: it returns true. -/
import Derived.Test.YtmldibphbilghaaSplit3
import Derived.Test.YtmldibphbilghaaSpWords
namespace Go.Proofs.Ytmldibphbilghaa.Pr
open Go.RowKit Go.Proofs.Ytmldibphbilghaa.Bs Go.Proofs.YtmldibphbilghaaW.PrintWords Go.Proofs.YtmldibphbilghaaW.PrintLast Go.Proofs.YtmldibphbilghaaW.PrintMore
set_option linter.unusedVariables false
set_option linter.unusedSimpArgs false

def gluepotlaw03_SplitCuts.f (a0 : ByteArray) (l1 : List Int) : Option Bool := if a0.size ≤ maxLen ∧ ∀ x ∈ l1, 0 ≤ x ∧ x < 65536 then some true else none

/-- The state behind 'from' bytes. -/
def CRel (w : World) (s : List UInt8) (lim : Int) (n : Nat) (v6 v7 v8 : Value) (wr : World) : Prop :=
  ∃ (pos i : Nat) (ob : Option Nat), pos ≤ s.length ∧ i ≤ n + 1 ∧ (i = n + 1 → pos = s.length) ∧ v7 = .int .i64 pos ∧ v8 = .int .i64 i ∧
    wr.ownsRow w.heap.size Spl.TX 1 v6 (Spl.feedL lim [] (s.take pos) []).1.length (Spl.strs (Spl.feedL lim [] (s.take pos) []).1) ∧
    Spl.At w.heap.size w.heap.size ob lim (Spl.feedL lim [] (s.take pos) []).2.2 false wr ∧ Fr (fun _ => False) w wr

set_option maxHeartbeats 4000000 in
set_option maxRecDepth 100000 in
theorem gluepotlaw03_SplitCuts.calls (a0 : ByteArray) (A1 : Option Addr) (c1 : Nat) (l1 : List Int) (r : Bool) (w : World) (hr1 : Kd.C (Kd.int .u16) w A1 l1.length l1) (hc1 : l1.length ≤ c1) (h : gluepotlaw03_SplitCuts.f a0 l1 = some r) :
    Calls Try.prog 5 #[.string a0, .slice A1 l1.length c1] w fun e w' => e = .returned (.bool r) ∧ Below w.heap.size w w' := by
  unfold gluepotlaw03_SplitCuts.f at h
  split at h
  · rename_i hcond
    cases h
    obtain ⟨hsz, hu16⟩ := hcond
    have HU := Lib.hid hu16
    have HC := Lib.hid hr1
    have hlen : a0.data.toList.length = a0.size := Pure.size_list a0
    clear hu16 hr1
    go_enter Try.func5, Try.ntmps5
    go_wp2_with fail
    refine (gluepotlaw03_awake.calls true _ rfl).mono ?_
    rintro e w1 ⟨rfl, hb1⟩
    have HB1 := Lib.hid hb1
    clear hb1
    by_cases hbig : a0.size > 3000 ∨ l1.length > 100
    · go_wp2_with fail
      all_goals (go_ret; exact ⟨rfl, HB1.out⟩)
    · have hs1 : a0.size ≤ 3000 := by omega
      have hs2 : l1.length ≤ 100 := by omega
      clear hbig
      go_wp2_with fail
      refine (Spl.new_c (a0.size : Int) _).mono ?_
      rintro e w2 ⟨rfl, rfl⟩
      go_wp2_with fail
      obtain ⟨lim, hlim⟩ : ∃ lim : Int, lim = max (a0.size : Int) 1 := ⟨_, rfl⟩
      rw [← hlim]
      have hlm : (a0.size : Int) ≤ lim := by omega
      have hat0 := Spl.At.fresh w1 w1.heap.size (Nat.le_refl _) lim
      have HAT0 := Lib.hid hat0
      have hfr0 : Fr (fun _ => False) w1 (w1.alloc (.cells #[.int .i64 lim, .slice none 0 0, .bool false] Spl.TS)) := (Fr.refl _ w1).alloc _
      have HFR0 := Lib.hid hfr0
      have HCw := Lib.hid (Kd.C_below HC.out HB1.out)
      clear hat0 hfr0 hlim HC
      go_loopw [6, 7, 8] (fun v6 v7 v8 wr => CRel w1 a0.data.toList lim l1.length v6 v7 v8 wr) (fun _ _ v8 _ => l1.length + 2 - (intOf v8).toNat)
      case atStart =>
        refine ⟨0, 0, none, Nat.zero_le _, by omega, by omega, rfl, rfl, ⟨rfl, .inl ⟨rfl, rfl⟩⟩, HAT0.out, HFR0.out⟩
      case round =>
        obtain ⟨pos, i, ob, hpos, hi, hend, rfl, rfl, hown, hat, hfr⟩ := hrel
        have HO := Lib.hid hown
        have HA := Lib.hid hat
        have HF := Lib.hid hfr
        clear hown hat hfr HAT0 HFR0
        rw [hlen] at hpos hend
        by_cases hgo : i ≤ l1.length ∧ pos < a0.size
        · obtain ⟨hi2, hp2⟩ := hgo
          have hcv := fun W s => Lib.run_convert_string_bytes (P := Try.prog) W 9 31 5 s Try.underlying9 Try.underlying31 Try.underlying5
          by_cases hil : i < l1.length
          · obtain ⟨ad, rfl, hcell⟩ := Kd.at_int HCw.out (i : Int) (by omega) (by omega)
            have hrng := HU.out (rd l1 (i : Int)) (by unfold rd; rw [List.getD_eq_getElem?_getD, List.getElem?_eq_getElem (by omega)]; exact List.getElem_mem _)
            have hcell2 := HF.out.cell hcell (fun h => h)
            rw [Int.toNat_natCast] at hcell2
            generalize rd l1 (i : Int) = x at *
            have hz1 := Int.emod_nonneg x (show ((a0.size : Int) - pos) ≠ 0 by omega)
            have hz2 := Int.emod_lt_of_pos x (show 0 < ((a0.size : Int) - pos) by omega)
            obtain ⟨z, hz⟩ : ∃ z : Nat, wrap64 ((pos : Int) + 1 + x % ((a0.size : Int) - pos)) = (z : Int) ∧ pos < z ∧ z ≤ a0.size := by
              generalize x % ((a0.size : Int) - pos) = y at *
              refine ⟨pos + 1 + y.toNat, ?_, by omega, by omega⟩
              unfold wrap64
              omega
            obtain ⟨hz, hzp, hzs⟩ := hz
            clear hcell hz1 hz2
            go_wp2_with fail
            have hes : (a0.extract pos z).size = z - pos := by rw [ByteArray.size_extract]; omega
            have hC : (a0.extract pos z).data.toList = (a0.data.toList.drop pos).take (z - pos) := Pure.extract_list a0 pos z
            obtain ⟨g1, g2, g3⟩ := Spl.feed_step lim a0.data.toList pos z (by omega) (by rw [hlen]; omega) _ hC
            have hlb := (feed_len lim (a0.data.toList.take pos) [] []).2
            have hf := Spl.feed_text2 w1.heap.size w1.heap.size ob lim _ (a0.extract pos z) (z - pos) (grownCap wr (z - pos) 0 5) hes wr HA.out HF.out.size (by rw [hes]; simp at hlb; omega)
            rw [g1] at hf
            refine hf.mono ?_
            rintro e w3 ⟨v3, ob3, rfl, hown3, hat3, hfr3, cs, hcs, hcl, hob3⟩
            rw [← g3] at hat3
            have hl2 := (feed_len lim (a0.extract pos z).data.toList (Spl.feedL lim [] (a0.data.toList.take pos) []).2.2 []).1
            rw [Pure.size_list, hes] at hl2
            clear hf g1 g3 hC
            generalize (Spl.feedL lim (Spl.feedL lim [] (a0.data.toList.take pos) []).2.2 (a0.extract pos z).data.toList []).1 = Y at *
            have hfr4 : Fr (fun _ => False) w1 w3 := HF.out.trans hfr3 (fun k hk => .inr (by rcases hk with rfl | hk; exact Nat.le_refl _; exact (HA.out.row hk).1))
            have hown4 := hfr3.own HO.out (fun g hg e => by
              rcases e with e | e
              · obtain ⟨v9, _, hb9, _, _⟩ := HA.out
                exact Bs.own_ne HO.out hb9 (show Spl.TS ≠ Spl.TX by decide) (by rw [hg, e])
              · obtain ⟨v9, _, hb9, ho9, hob9⟩ := HA.out
                exact Spl.own_two ho9 HO.out (by decide) (by rw [hob9]; exact e) hg)
            have hwr := HF.out.size
            have hwlt := HA.out.lt
            have HOB3 := Lib.hid hob3
            have HG2 := Lib.hid g2
            have HA3 := Lib.hid hat3
            have HF3 := Lib.hid hfr4
            have HO3 := Lib.hid hown3
            have HO4 := Lib.hid hown4
            have HCS := Lib.hid (show ∃ cs : Array Value, w3.heap[wr.heap.size]? = some (.cells cs Spl.T8 (cs.size, cs.size + 1)) ∧ z - pos ≤ cs.size from ⟨cs, hcs, hcl⟩)
            clear hob3 g2 hown3 hat3 hfr3 hfr4 hown4 HA HF HO hcs hcl hcv hes hlb
            go_wp2_with fail
            generalize grownCap wr (z - pos) 0 5 = cp at *
            clear hcell2
            generalize wr.heap.size = g0 at *
            go_loopw [13] (fun v13 wq => ∃ j : Nat, j ≤ z - pos ∧ v13 = .int .i64 j ∧ (∃ cs : Array Value, wq.heap[g0]? = some (.cells cs Spl.T8 (cs.size, cs.size + 1)) ∧ z - pos ≤ cs.size) ∧ Fr (fun k => k = g0) w3 wq) (fun v13 _ => z - pos - (intOf v13).toNat)
            case atStart => exact ⟨0, Nat.zero_le _, rfl, HCS.out, Fr.refl _ _⟩
            case round =>
              obtain ⟨j, hj, rfl, ⟨cs, hcs, hcl⟩, hfq⟩ := hrel
              have HFQ := Lib.hid hfq
              clear hfq
              by_cases hjz : j < z - pos
              · have q1 : ∃ u, wr.cell? ⟨g0, j, none⟩ = some u := by
                  rw [cell_heap hcs]
                  exact ⟨_, Array.getElem?_eq_getElem (by omega)⟩
                obtain ⟨u, q1⟩ := q1
                have q2 := Spl.mark_free hcs (j := j) (by omega)
                have q3 := heap_set hcs j (.int .u8 120)
                have Q3 := Lib.hid q3
                clear q3 hcs
                go_wp2_with fail
                exact ⟨⟨j + 1, by omega, by go_num, ⟨_, by rw [Array.size_setIfInBounds]; exact Q3.out, by rw [Array.size_setIfInBounds]; omega⟩, HFQ.out.set (.inl rfl) _⟩, by simp [intOf]; omega⟩
              · have hjz2 : j = z - pos := by omega
                obtain ⟨cs3, hcs3, _⟩ := HCS.out
                have hatq := HA3.out.fr HFQ.out (fun e => by omega) (fun g hg e => HOB3.out g hg e)
                have hownq := HFQ.out.own HO4.out (fun g hg e => Bs.own_ne HO4.out hcs3 (show Spl.T8 ≠ Spl.TX by decide) (by rw [hg, e]))
                have hown3q := HFQ.out.own HO3.out (fun g hg e => Bs.own_ne HO3.out hcs3 (show Spl.T8 ≠ Spl.TX by decide) (by rw [hg, e]))
                have hfrq := HF3.out.trans HFQ.out (fun k hk => .inr (by rw [hk]; exact hwr))
                have hl1 := (feed_len lim (a0.data.toList.take pos) [] []).1
                have HAQ := Lib.hid hatq
                have HOQ := Lib.hid hownq
                have HO3Q := Lib.hid hown3q
                have HFRQ := Lib.hid hfrq
                have HL := Lib.hid (show (Spl.feedL lim [] (List.take pos a0.data.toList) []).1.length + Y.length ≤ 1000000000 by
                  simp at hl1 hl2
                  omega)
                clear hatq hownq hown3q hfrq hl1 hl2 hcs hcs3 HA3 HO4 HO3 HF3 HCS HFQ HOB3
                go_wp2_with (at_builtin; refine Spl.append_strs rfl _ _ rfl w1.heap.size g0 u6 v3 _ _ rfl rfl HOQ.out HO3Q.out HFRQ.out.size HL.out ?_)
                intro v' w4 hown' hfr4
                rw [← List.length_append, ← HG2.out] at hown'
                have hbO : ∀ g, u6.ownBlock = some g → w1.heap.size ≤ g := fun g hg => (Bs.own_lt HOQ.out hg).1
                have hat4 := HAQ.out.fr hfr4 (fun e => by
                  obtain ⟨v9, _, hb9, _, _⟩ := HAQ.out
                  exact Bs.own_ne HOQ.out hb9 (show Spl.TS ≠ Spl.TX by decide) e) (fun g hg e => by
                  obtain ⟨v9, _, hb9, ho9, hob9⟩ := HAQ.out
                  exact Spl.own_two ho9 HOQ.out (by decide) (by rw [hob9]; exact hg) e)
                have hf4 := HFRQ.out.trans hfr4 (fun k hk => .inr (hbO k hk))
                have HO5 := Lib.hid hown'
                have HA5 := Lib.hid hat4
                have HF5 := Lib.hid hf4
                clear hown' hfr4 hat4 hf4 HAQ HOQ HO3Q HFRQ
                go_wp2
                go_roundw
                case rel => exact ⟨z, i + 1, ob3, by omega, by omega, by omega, rfl, by go_num, HO5.out, HA5.out, HF5.out⟩
                case measure => simp [intOf]; omega
          · have hzp := hp2
            have hzs := Nat.le_refl a0.size
            go_wp2_with fail
            have hes : (a0.extract pos a0.size).size = a0.size - pos := by rw [ByteArray.size_extract]; omega
            have hC : (a0.extract pos a0.size).data.toList = (a0.data.toList.drop pos).take (a0.size - pos) := Pure.extract_list a0 pos a0.size
            obtain ⟨g1, g2, g3⟩ := Spl.feed_step lim a0.data.toList pos a0.size (by omega) (by rw [hlen]; omega) _ hC
            have hlb := (feed_len lim (a0.data.toList.take pos) [] []).2
            have hf := Spl.feed_text2 w1.heap.size w1.heap.size ob lim _ (a0.extract pos a0.size) (a0.size - pos) (grownCap wr (a0.size - pos) 0 5) hes wr HA.out HF.out.size (by rw [hes]; simp at hlb; omega)
            rw [g1] at hf
            refine hf.mono ?_
            rintro e w3 ⟨v3, ob3, rfl, hown3, hat3, hfr3, cs, hcs, hcl, hob3⟩
            rw [← g3] at hat3
            have hl2 := (feed_len lim (a0.extract pos a0.size).data.toList (Spl.feedL lim [] (a0.data.toList.take pos) []).2.2 []).1
            rw [Pure.size_list, hes] at hl2
            clear hf g1 g3 hC
            generalize (Spl.feedL lim (Spl.feedL lim [] (a0.data.toList.take pos) []).2.2 (a0.extract pos a0.size).data.toList []).1 = Y at *
            have hfr4 : Fr (fun _ => False) w1 w3 := HF.out.trans hfr3 (fun k hk => .inr (by rcases hk with rfl | hk; exact Nat.le_refl _; exact (HA.out.row hk).1))
            have hown4 := hfr3.own HO.out (fun g hg e => by
              rcases e with e | e
              · obtain ⟨v9, _, hb9, _, _⟩ := HA.out
                exact Bs.own_ne HO.out hb9 (show Spl.TS ≠ Spl.TX by decide) (by rw [hg, e])
              · obtain ⟨v9, _, hb9, ho9, hob9⟩ := HA.out
                exact Spl.own_two ho9 HO.out (by decide) (by rw [hob9]; exact e) hg)
            have hwr := HF.out.size
            have hwlt := HA.out.lt
            have HOB3 := Lib.hid hob3
            have HG2 := Lib.hid g2
            have HA3 := Lib.hid hat3
            have HF3 := Lib.hid hfr4
            have HO3 := Lib.hid hown3
            have HO4 := Lib.hid hown4
            have HCS := Lib.hid (show ∃ cs : Array Value, w3.heap[wr.heap.size]? = some (.cells cs Spl.T8 (cs.size, cs.size + 1)) ∧ a0.size - pos ≤ cs.size from ⟨cs, hcs, hcl⟩)
            clear hob3 g2 hown3 hat3 hfr3 hfr4 hown4 HA HF HO hcs hcl hcv hes hlb
            go_wp2_with fail
            generalize grownCap wr (a0.size - pos) 0 5 = cp at *
            generalize wr.heap.size = g0 at *
            go_loopw [13] (fun v13 wq => ∃ j : Nat, j ≤ a0.size - pos ∧ v13 = .int .i64 j ∧ (∃ cs : Array Value, wq.heap[g0]? = some (.cells cs Spl.T8 (cs.size, cs.size + 1)) ∧ a0.size - pos ≤ cs.size) ∧ Fr (fun k => k = g0) w3 wq) (fun v13 _ => a0.size - pos - (intOf v13).toNat)
            case atStart => exact ⟨0, Nat.zero_le _, rfl, HCS.out, Fr.refl _ _⟩
            case round =>
              obtain ⟨j, hj, rfl, ⟨cs, hcs, hcl⟩, hfq⟩ := hrel
              have HFQ := Lib.hid hfq
              clear hfq
              by_cases hjz : j < a0.size - pos
              · have q1 : ∃ u, wr.cell? ⟨g0, j, none⟩ = some u := by
                  rw [cell_heap hcs]
                  exact ⟨_, Array.getElem?_eq_getElem (by omega)⟩
                obtain ⟨u, q1⟩ := q1
                have q2 := Spl.mark_free hcs (j := j) (by omega)
                have q3 := heap_set hcs j (.int .u8 120)
                have Q3 := Lib.hid q3
                clear q3 hcs
                go_wp2_with fail
                exact ⟨⟨j + 1, by omega, by go_num, ⟨_, by rw [Array.size_setIfInBounds]; exact Q3.out, by rw [Array.size_setIfInBounds]; omega⟩, HFQ.out.set (.inl rfl) _⟩, by simp [intOf]; omega⟩
              · have hjz2 : j = a0.size - pos := by omega
                obtain ⟨cs3, hcs3, _⟩ := HCS.out
                have hatq := HA3.out.fr HFQ.out (fun e => by omega) (fun g hg e => HOB3.out g hg e)
                have hownq := HFQ.out.own HO4.out (fun g hg e => Bs.own_ne HO4.out hcs3 (show Spl.T8 ≠ Spl.TX by decide) (by rw [hg, e]))
                have hown3q := HFQ.out.own HO3.out (fun g hg e => Bs.own_ne HO3.out hcs3 (show Spl.T8 ≠ Spl.TX by decide) (by rw [hg, e]))
                have hfrq := HF3.out.trans HFQ.out (fun k hk => .inr (by rw [hk]; exact hwr))
                have hl1 := (feed_len lim (a0.data.toList.take pos) [] []).1
                have HAQ := Lib.hid hatq
                have HOQ := Lib.hid hownq
                have HO3Q := Lib.hid hown3q
                have HFRQ := Lib.hid hfrq
                have HL := Lib.hid (show (Spl.feedL lim [] (List.take pos a0.data.toList) []).1.length + Y.length ≤ 1000000000 by
                  simp at hl1 hl2
                  omega)
                clear hatq hownq hown3q hfrq hl1 hl2 hcs hcs3 HA3 HO4 HO3 HF3 HCS HFQ HOB3
                go_wp2_with (at_builtin; refine Spl.append_strs rfl _ _ rfl w1.heap.size g0 u6 v3 _ _ rfl rfl HOQ.out HO3Q.out HFRQ.out.size HL.out ?_)
                intro v' w4 hown' hfr4
                rw [← List.length_append, ← HG2.out] at hown'
                have hbO : ∀ g, u6.ownBlock = some g → w1.heap.size ≤ g := fun g hg => (Bs.own_lt HOQ.out hg).1
                have hat4 := HAQ.out.fr hfr4 (fun e => by
                  obtain ⟨v9, _, hb9, _, _⟩ := HAQ.out
                  exact Bs.own_ne HOQ.out hb9 (show Spl.TS ≠ Spl.TX by decide) e) (fun g hg e => by
                  obtain ⟨v9, _, hb9, ho9, hob9⟩ := HAQ.out
                  exact Spl.own_two ho9 HOQ.out (by decide) (by rw [hob9]; exact hg) e)
                have hf4 := HFRQ.out.trans hfr4 (fun k hk => .inr (hbO k hk))
                have HO5 := Lib.hid hown'
                have HA5 := Lib.hid hat4
                have HF5 := Lib.hid hf4
                clear hown' hfr4 hat4 hf4 HAQ HOQ HO3Q HFRQ
                go_wp2
                go_roundw
                case rel => exact ⟨a0.size, i + 1, ob3, by omega, by omega, by omega, rfl, by go_num, HO5.out, HA5.out, HF5.out⟩
                case measure => simp [intOf]; omega
        · have hpe : pos = a0.size := by omega
          subst hpe
          by_cases hin : i ≤ l1.length
          · have hcv := fun W s => Lib.run_convert_string_bytes (P := Try.prog) W 9 31 5 s Try.underlying9 Try.underlying31 Try.underlying5
            have htk : a0.data.toList.take a0.size = a0.data.toList := List.take_of_length_le (by omega)
            have hA1 := HA.out
            have hO1 := HO.out
            rw [htk] at hA1 hO1
            have hW := (Pure.feed_W lim a0.data.toList [] [] (by simp; omega)).2
            have hfl := feed_len lim a0.data.toList [] []
            rw [hlen] at hfl
            generalize Spl.feedL lim [] a0.data.toList [] = F at *
            obtain ⟨F1, F2, F3⟩ := F
            simp only [List.nil_append, List.length_nil, Nat.zero_add] at hA1 hO1 hW hfl
            have HA2 := Lib.hid hA1
            have HO2 := Lib.hid hO1
            have HW := Lib.hid hW
            clear hA1 hO1 hW htk HA HO hcv
            go_wp2_with fail
            refine (Spl.end_c _ _ _ _ _ _ _ HA2.out HF.out.size (by omega)).mono ?_
            rintro e w4 ⟨v4, rfl, hown4, hat4, hfr4⟩
            have hO4 := hfr4.own HO2.out (fun g hg e => by
              obtain ⟨v9, _, hb9, _, _⟩ := HA2.out
              exact Bs.own_ne HO2.out hb9 (show Spl.TS ≠ Spl.TX by decide) (by rw [hg, e]))
            have hf4 := HF.out.trans hfr4 (fun k hk => .inr (by rw [hk]; exact Nat.le_refl _))
            have hel : (Spl.endL F3).length ≤ 1 := by unfold Spl.endL; split <;> simp
            have HO4 := Lib.hid hO4
            have HF4 := Lib.hid hf4
            have HE4 := Lib.hid hown4
            clear hO4 hf4 hown4 hat4 hfr4 HA2 HO2 HF
            go_wp2_with (at_builtin; refine Spl.append_strs rfl _ _ rfl w1.heap.size _ u6 v4 _ _ rfl rfl HO4.out HE4.out HF4.out.size (by omega) ?_)
            intro v5 w5 hown5 hfr5
            rw [← List.length_append, HW.out] at hown5
            have hbO : ∀ g, u6.ownBlock = some g → w1.heap.size ≤ g := fun g hg => (Bs.own_lt HO4.out hg).1
            have hf5 := HF4.out.trans hfr5 (fun k hk => .inr (hbO k hk))
            have HO5 := Lib.hid hown5
            have HF5 := Lib.hid hf5
            clear hown5 hfr5 hf5 HO4 HF4 HE4
            have hcv := fun W s => Lib.run_convert_string_bytes (P := Try.prog) W 9 31 5 s Try.underlying9 Try.underlying31 Try.underlying5
            go_wp2_with fail
            refine (Spl.feed_nil _ _).mono ?_
            rintro e w6 ⟨rfl, hw6⟩
            have hfb := bytes_fr w5 5 a0
            rw [← hw6] at hfb
            have hO6 := hfb.own HO5.out (fun _ _ h => h)
            have HF6 := Lib.hid (HF5.out.trans hfb (fun _ h => h.elim))
            rw [strs_encs, ← List.length_map (f := mkB)] at hO6
            have hR6 : Kd.R Kd.string 9 w6 w1.heap.size (fun _ => True) v5 ((Pure.wordsW [] a0.data.toList).map mkB) := Kd.R_of_own hO6 (fun _ _ => trivial)
            obtain ⟨A5, p5, rfl, hp5, hC5⟩ := Kd.R_reads hR6
            have HC5 := Lib.hid hC5
            clear hw6 hfb hO6 hR6 hC5 HO5 HF5 hcv
            go_wp2_with fail
            have hww : split_Words.f a0 = some ((Pure.wordsW [] a0.data.toList).map mkB) := by
              unfold split_Words.f
              rw [if_pos (by omega), Pure.wordsL_W]
            have hnw := Pure.wordsW_len a0.data.toList []
            rw [hlen] at hnw
            refine (split_Words.calls a0 _ _ hww).mono ?_
            rintro e w7 ⟨v7, rfl, hR7, hb7⟩
            obtain ⟨A7, p7, rfl, hp7, hC7⟩ := Kd.R_reads hR7
            have hC57 := Kd.C_below HC5.out hb7
            have ht := gluepotref01_Texts.calls 10000 A5 p5 ((Pure.wordsW [] a0.data.toList).map mkB) A7 p7 ((Pure.wordsW [] a0.data.toList).map mkB) true w7 hC57 hp5 hC7 hp7 (Pure.texts_same _ (by rw [List.length_map]; omega) (by rw [List.length_map]; omega))
            rw [List.length_map] at ht
            have HT := Lib.hid ht
            have HF7 := Lib.hid (HF6.out.below hb7)
            clear hww hR7 hb7 hC7 hC57 ht HC5 HF6
            go_wp2_with fail
            refine HT.out.mono ?_
            rintro e w8 ⟨rfl, ⟨q8, hq8⟩⟩
            have HF8 := Lib.hid (show Fr (fun _ => False) w1 w8 from by rw [hq8]; exact HF7.out.drewN q8)
            clear hq8 HF7 HT
            go_wp2_with fail
            refine (Spl.end_nil _).mono ?_
            rintro e w9 ⟨rfl, rfl⟩
            go_wp2_with fail
            refine (Spl.open_nil _).mono ?_
            rintro e w9 ⟨rfl, rfl⟩
            go_wp2_with fail
            go_ret
            exact ⟨rfl, below_step HB1.out (HF8.out.toBelow (fun _ h => h.elim) (Nat.le_refl _))⟩
          · have hcv := fun W s => Lib.run_convert_string_bytes (P := Try.prog) W 9 31 5 s Try.underlying9 Try.underlying31 Try.underlying5
            have htk : a0.data.toList.take a0.size = a0.data.toList := List.take_of_length_le (by omega)
            have hA1 := HA.out
            have hO1 := HO.out
            rw [htk] at hA1 hO1
            have hW := (Pure.feed_W lim a0.data.toList [] [] (by simp; omega)).2
            have hfl := feed_len lim a0.data.toList [] []
            rw [hlen] at hfl
            generalize Spl.feedL lim [] a0.data.toList [] = F at *
            obtain ⟨F1, F2, F3⟩ := F
            simp only [List.nil_append, List.length_nil, Nat.zero_add] at hA1 hO1 hW hfl
            have HA2 := Lib.hid hA1
            have HO2 := Lib.hid hO1
            have HW := Lib.hid hW
            clear hA1 hO1 hW htk HA HO hcv
            go_wp2_with fail
            refine (Spl.end_c _ _ _ _ _ _ _ HA2.out HF.out.size (by omega)).mono ?_
            rintro e w4 ⟨v4, rfl, hown4, hat4, hfr4⟩
            have hO4 := hfr4.own HO2.out (fun g hg e => by
              obtain ⟨v9, _, hb9, _, _⟩ := HA2.out
              exact Bs.own_ne HO2.out hb9 (show Spl.TS ≠ Spl.TX by decide) (by rw [hg, e]))
            have hf4 := HF.out.trans hfr4 (fun k hk => .inr (by rw [hk]; exact Nat.le_refl _))
            have hel : (Spl.endL F3).length ≤ 1 := by unfold Spl.endL; split <;> simp
            have HO4 := Lib.hid hO4
            have HF4 := Lib.hid hf4
            have HE4 := Lib.hid hown4
            clear hO4 hf4 hown4 hat4 hfr4 HA2 HO2 HF
            go_wp2_with (at_builtin; refine Spl.append_strs rfl _ _ rfl w1.heap.size _ u6 v4 _ _ rfl rfl HO4.out HE4.out HF4.out.size (by omega) ?_)
            intro v5 w5 hown5 hfr5
            rw [← List.length_append, HW.out] at hown5
            have hbO : ∀ g, u6.ownBlock = some g → w1.heap.size ≤ g := fun g hg => (Bs.own_lt HO4.out hg).1
            have hf5 := HF4.out.trans hfr5 (fun k hk => .inr (hbO k hk))
            have HO5 := Lib.hid hown5
            have HF5 := Lib.hid hf5
            clear hown5 hfr5 hf5 HO4 HF4 HE4
            have hcv := fun W s => Lib.run_convert_string_bytes (P := Try.prog) W 9 31 5 s Try.underlying9 Try.underlying31 Try.underlying5
            go_wp2_with fail
            refine (Spl.feed_nil _ _).mono ?_
            rintro e w6 ⟨rfl, hw6⟩
            have hfb := bytes_fr w5 5 a0
            rw [← hw6] at hfb
            have hO6 := hfb.own HO5.out (fun _ _ h => h)
            have HF6 := Lib.hid (HF5.out.trans hfb (fun _ h => h.elim))
            rw [strs_encs, ← List.length_map (f := mkB)] at hO6
            have hR6 : Kd.R Kd.string 9 w6 w1.heap.size (fun _ => True) v5 ((Pure.wordsW [] a0.data.toList).map mkB) := Kd.R_of_own hO6 (fun _ _ => trivial)
            obtain ⟨A5, p5, rfl, hp5, hC5⟩ := Kd.R_reads hR6
            have HC5 := Lib.hid hC5
            clear hw6 hfb hO6 hR6 hC5 HO5 HF5 hcv
            go_wp2_with fail
            have hww : split_Words.f a0 = some ((Pure.wordsW [] a0.data.toList).map mkB) := by
              unfold split_Words.f
              rw [if_pos (by omega), Pure.wordsL_W]
            have hnw := Pure.wordsW_len a0.data.toList []
            rw [hlen] at hnw
            refine (split_Words.calls a0 _ _ hww).mono ?_
            rintro e w7 ⟨v7, rfl, hR7, hb7⟩
            obtain ⟨A7, p7, rfl, hp7, hC7⟩ := Kd.R_reads hR7
            have hC57 := Kd.C_below HC5.out hb7
            have ht := gluepotref01_Texts.calls 10000 A5 p5 ((Pure.wordsW [] a0.data.toList).map mkB) A7 p7 ((Pure.wordsW [] a0.data.toList).map mkB) true w7 hC57 hp5 hC7 hp7 (Pure.texts_same _ (by rw [List.length_map]; omega) (by rw [List.length_map]; omega))
            rw [List.length_map] at ht
            have HT := Lib.hid ht
            have HF7 := Lib.hid (HF6.out.below hb7)
            clear hww hR7 hb7 hC7 hC57 ht HC5 HF6
            go_wp2_with fail
            refine HT.out.mono ?_
            rintro e w8 ⟨rfl, ⟨q8, hq8⟩⟩
            have HF8 := Lib.hid (show Fr (fun _ => False) w1 w8 from by rw [hq8]; exact HF7.out.drewN q8)
            clear hq8 HF7 HT
            go_wp2_with fail
            refine (Spl.end_nil _).mono ?_
            rintro e w9 ⟨rfl, rfl⟩
            go_wp2_with fail
            refine (Spl.open_nil _).mono ?_
            rintro e w9 ⟨rfl, rfl⟩
            go_wp2_with fail
            go_ret
            exact ⟨rfl, below_step HB1.out (HF8.out.toBelow (fun _ h => h.elim) (Nat.le_refl _))⟩
  · cases h
end Go.Proofs.Ytmldibphbilghaa.Pr
