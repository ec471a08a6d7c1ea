/- The law SplitFeeds, walked: it returns true. -/
import Derived.Test.YtmldibphbilghaaSplit3
import Derived.Test.YtmldibphbilghaaSpFeeds
namespace Go.Proofs.Ytmldibphbilghaa.Pr
open Go.RowKit Go.Proofs.Ytmldibphbilghaa.Bs Go.Proofs.YtmldibphbilghaaW.PrintWords Go.Proofs.YtmldibphbilghaaW.PrintLast Go.Proofs.YtmldibphbilghaaW.PrintMore
set_option linter.unusedVariables false
set_option linter.unusedSimpArgs false

def gluepotlaw03_SplitFeeds.f (l0 : List ByteArray) (a1 : Int) : Option Bool := if l0.length ≤ 9223372036854775807 then some true else none

/-- The state behind i pieces. -/
def FRel (w : World) (L : List ByteArray) (lim : Int) (v7 v8 : Value) (wr : World) : Prop :=
  ∃ (i : Nat) (ob : Option Nat), i ≤ L.length ∧ v8 = .int .i64 i ∧ Fr (fun _ => False) w wr ∧
    (Pure.longL lim 0 (Pure.wholeL (L.take i)) = none → v7 = .int .i64 (Spl.feedL lim [] (Pure.wholeL (L.take i)) []).1.length) ∧
    (∃ t : Nat, v7 = .int .i64 t) ∧
    Spl.At w.heap.size w.heap.size ob lim (Spl.feedL lim [] (Pure.wholeL (L.take i)) []).2.2 (!(Spl.feedL lim [] (Pure.wholeL (L.take i)) []).2.1) wr

set_option maxHeartbeats 4000000 in
set_option maxRecDepth 100000 in
theorem gluepotlaw03_SplitFeeds.calls (A0 : Option Addr) (c0 : Nat) (l0 : List ByteArray) (a1 : Int) (r : Bool) (w : World) (hr0 : Kd.C Kd.string w A0 l0.length l0) (hc0 : l0.length ≤ c0) (h : gluepotlaw03_SplitFeeds.f l0 a1 = some r) :
    Calls Try.prog 3 #[.slice A0 l0.length c0, .int .i64 a1] w fun e w' => e = .returned (.bool r) ∧ Below w.heap.size w w' := by
  unfold gluepotlaw03_SplitFeeds.f at h
  split at h
  · rename_i hcond
    cases h
    have HC := Lib.hid hr0
    clear hr0
    obtain ⟨kg, bg, hgr, hgf⟩ := Pure.great_f l0 hcond
    have HG := Lib.hid hgr
    clear hgr
    go_enter Try.func3, Try.ntmps3
    go_wp2_with fail
    refine (gluepotlaw03_awake.calls true _ rfl).mono ?_
    rintro e w1 ⟨rfl, hb1⟩
    have HB1 := Lib.hid hb1
    clear hb1
    go_wp2_with fail
    refine (gluepotlaw03_great.calls kg A0 c0 l0 bg _ (Kd.C_below HC.out HB1.out) hc0 HG.out).mono ?_
    rintro e w2 ⟨rfl, ⟨q2, hq2⟩⟩
    have HF2 := Lib.hid (show Fr (fun _ => False) w1 w2 from by rw [hq2]; exact (Fr.refl _ w1).drewN q2)
    have HB2 := Lib.hid (below_step HB1.out (HF2.out.toBelow (fun _ h => h.elim) (Nat.le_refl _)))
    clear hq2
    cases bg with
    | true =>
      go_wp2_with fail
      go_ret
      exact ⟨rfl, HB2.out⟩
    | false =>
      obtain ⟨hn1, hn2⟩ := hgf rfl
      clear hgf
      go_wp2_with fail
      refine (Spl.new_c a1 _).mono ?_
      rintro e w3 ⟨rfl, rfl⟩
      go_wp2_with fail
      obtain ⟨lim, hlim⟩ : ∃ lim : Int, lim = max a1 1 := ⟨_, rfl⟩
      rw [← hlim]
      have HAT0 := Lib.hid (Spl.At.fresh w2 w2.heap.size (Nat.le_refl _) lim)
      have HFR0 := Lib.hid (show Fr (fun _ => False) w2 (w2.alloc (.cells #[.int .i64 lim, .slice none 0 0, .bool false] Spl.TS)) from (Fr.refl _ w2).alloc _)
      have HCw := Lib.hid (Kd.C_below HC.out HB2.out)
      clear hlim HC HG HF2 HB1
      go_loopw [7, 8] (fun v7 v8 wr => FRel w2 l0 lim v7 v8 wr) (fun _ v8 _ => l0.length - (intOf v8).toNat)
      case atStart => exact ⟨0, none, Nat.zero_le _, rfl, HFR0.out, fun _ => rfl, ⟨0, rfl⟩, HAT0.out⟩
      case round =>
        obtain ⟨i, ob, hi, rfl, hfr, hv7, ⟨t, rfl⟩, hat⟩ := hrel
        have HF := Lib.hid hfr
        have HA := Lib.hid hat
        have HV := Lib.hid hv7
        clear hfr hat hv7 HAT0 HFR0
        by_cases hlt : i < l0.length
        · have htk : l0.take (i + 1) = l0.take i ++ [l0[i]] := List.take_succ_eq_append_getElem hlt
          have hC1 := Kd.C_take (m := i + 1) HCw.out (by omega)
          have hC0 := Kd.C_take (m := i) HCw.out (by omega)
          obtain ⟨S1, hS1⟩ : ∃ S1, S1 = Pure.wholeL (l0.take (i + 1)) := ⟨_, rfl⟩
          obtain ⟨S0, hS0⟩ : ∃ S0, S0 = Pure.wholeL (l0.take i) := ⟨_, rfl⟩
          have hS : S1 = S0 ++ l0[i].data.toList := by
            rw [hS1, hS0, htk, Pure.whole_app]
            congr 1
            exact List.append_nil _
          have hS1l : S1.length ≤ 3000 := by
            have : (Pure.wholeL l0).length = S1.length + (Pure.wholeL (l0.drop (i + 1))).length := by
              rw [hS1, ← List.length_append, ← Pure.whole_app, List.take_append_drop]
            omega
          have hS0l : S0.length ≤ 3000 := by rw [hS, List.length_append] at hS1l; omega
          have hw1 := Pure.refwhole_f (k := 200) (l0.take (i + 1)) (by rw [← hS1]; omega) (by simp; omega) (by simp; omega)
          have hw0 := Pure.refwhole_f (k := 200) (l0.take i) (by rw [← hS0]; omega) (by simp; omega) (by simp; omega)
          rw [← hS1] at hw1
          rw [← hS0] at hw0 HA HV
          have hlen1 : (mkB S1).size = S1.length := Pure.mkB_size' S1
          have hlen0 : (mkB S0).size = S0.length := Pure.mkB_size' S0
          have hg1 := Pure.reflong_f (k := 4000) (mkB S1) lim (by omega) (by omega)
          have hg0 := Pure.reflong_f (k := 4000) (mkB S0) lim (by omega) (by omega)
          rw [show (mkB S1).data.toList = S1 by simp [mkB]] at hg1
          rw [show (mkB S0).data.toList = S0 by simp [mkB]] at hg0
          have t1 := gluepotref03_Whole.calls 200 A0 c0 (l0.take (i + 1)) _ wr (Kd.C_below hC1 (HF.out.toBelow (fun _ h => h.elim) (Nat.le_refl _))) (by simp; omega) hw1
          rw [List.length_take, Nat.min_eq_left (by omega)] at t1
          have T1 := Lib.hid t1
          have W0 := Lib.hid hw0
          have G1 := Lib.hid hg1
          have G0 := Lib.hid hg0
          have HS := Lib.hid hS
          have HS1 := Lib.hid hS1
          have HS0 := Lib.hid hS0
          clear t1 hw1 hw0 hg1 hg0 hC1 hS hS1 hS0 htk
          go_wp2_with fail
          refine T1.out.mono ?_
          rintro e w4 ⟨rfl, ⟨q4, hq4⟩⟩
          have HF4 := Lib.hid (show Fr (fun _ => False) wr w4 from by rw [hq4]; exact (Fr.refl _ wr).drewN q4)
          clear hq4
          obtain ⟨g1, hg1⟩ : ∃ g1 : Int, g1 = Pure.longI lim S1 := ⟨_, rfl⟩
          obtain ⟨g0, hg0⟩ : ∃ g0 : Int, g0 = Pure.longI lim S0 := ⟨_, rfl⟩
          rw [← hg1] at G1
          rw [← hg0] at G0
          have E1 := Lib.hid hg1
          have E0 := Lib.hid hg0
          clear hg1 hg0
          go_wp2_with fail
          refine (gluepotref03_Long.calls 4000 (mkB S1) lim g1 _ G1.out).mono ?_
          rintro e w5 ⟨rfl, ⟨q5, hq5⟩⟩
          have HF5 := Lib.hid (show Fr (fun _ => False) wr w5 from by rw [hq5]; exact HF4.out.drewN q5)
          clear hq5
          have t0 := gluepotref03_Whole.calls 200 A0 c0 (l0.take i) _ w5 (Kd.C_below hC0 ((HF.out.trans HF5.out (fun _ h => h.elim)).toBelow (fun _ h => h.elim) (Nat.le_refl _))) (by simp; omega) W0.out
          rw [List.length_take, Nat.min_eq_left (by omega)] at t0
          have T0 := Lib.hid t0
          clear t0
          go_wp2_with fail
          refine T0.out.mono ?_
          rintro e w6 ⟨rfl, ⟨q6, hq6⟩⟩
          have HF6 := Lib.hid (show Fr (fun _ => False) wr w6 from by rw [hq6]; exact HF5.out.drewN q6)
          clear hq6
          go_wp2_with fail
          refine (gluepotref03_Long.calls 4000 (mkB S0) lim g0 _ G0.out).mono ?_
          rintro e w7 ⟨rfl, ⟨q7, hq7⟩⟩
          have HF7 := Lib.hid (show Fr (fun _ => False) wr w7 from by rw [hq7]; exact HF6.out.drewN q7)
          clear hq7 HF4 HF5 HF6 T0 T1
          obtain ⟨ad, rfl, hcell⟩ := Kd.at_string HCw.out (i : Int) (by omega) (by omega)
          rw [Int.toNat_natCast, Pure.rd_get l0 i hlt] at hcell
          have hcell7 := (HF.out.trans HF7.out (fun _ h => h.elim)).cell hcell (fun h => h)
          have hcv := fun W s => Lib.run_convert_string_bytes (P := Try.prog) W 9 31 5 s Try.underlying9 Try.underlying31 Try.underlying5
          have hA7 := HA.out.fr HF7.out (fun h => h) (fun _ _ h => h)
          have hF7 := HF.out.trans HF7.out (fun _ h => h.elim)
          have HA7 := Lib.hid hA7
          have HFF7 := Lib.hid hF7
          clear hcell hA7 hF7 HA HF HF7 W0 G0 G1
          generalize hpc : l0[i] = pc at *
          cases h0 : Pure.longL lim 0 S0 with
          | some j0 =>
            have hbad := Pure.long_some lim S0 [] [] j0 h0
            have hg0 : g0 = (j0 : Int) := by rw [E0.out, Pure.longI, h0]
            have hA8 := HA7.out
            rw [hbad.2.2] at hA8
            have HA8 := Lib.hid hA8
            clear hA8 HV
            go_wp2_with fail
            have hfb := bytes_fr w7 5 pc
            have hA9 := HA8.out.fr hfb (fun h => h) (fun _ _ h => h)
            have hF9 := HFF7.out.trans hfb (fun _ h => h.elim)
            generalize Lib.bytesWorld w7 5 pc = w8 at *
            have HA9 := Lib.hid hA9
            have HF9 := Lib.hid hF9
            clear hfb hA9 hF9 hcv
            refine (Spl.feed_bad _ _ _ _ _ _ _ HA9.out).mono ?_
            rintro e w9 ⟨rfl, rfl⟩
            go_wp2_with fail
            refine (Spl.open_c _ _ _ _ _ _ _ HA9.out).mono ?_
            rintro e w9 ⟨rfl, rfl⟩
            go_wp2_with fail
            refine (Spl.end_c _ _ _ _ _ _ _ HA9.out HF9.out.size (by simp)).mono ?_
            rintro e w10 ⟨v10, rfl, hown10, hat10, hfr10⟩
            rw [show Spl.endL [] = [] from rfl, List.length_nil] at hown10
            obtain ⟨A10, p10, rfl⟩ := Bs.own_slice hown10
            have HA10 := Lib.hid hat10
            have HF10 := Lib.hid (HF9.out.trans hfr10 (fun k hk => .inr (by rw [hk]; exact Nat.le_refl _)))
            clear hown10 hat10 hfr10 HA9 HF9
            go_wp2_with fail
            go_roundw
            case rel =>
              have hsame : Spl.feedL lim [] S1 [] = Spl.feedL lim [] S0 [] := by
                rw [HS.out, Spl.feed_app, if_neg (by rw [hbad.2.2]; simp)]
              refine ⟨i + 1, ob, by omega, by go_num, HF10.out, fun hn => ?_, ⟨t, rfl⟩, ?_⟩
              · rw [← HS1.out] at hn
                have := (Pure.long_none lim S1 [] []).2 hn
                rw [hsame, hbad.2.2] at this
                cases this
              · rw [← HS1.out, hsame, hbad.2.2]
                exact HA10.out
            case measure => simp [intOf]; omega
          | none =>
            have hok0 : (Spl.feedL lim [] S0 []).2.1 = true := (Pure.long_none lim S0 [] []).2 h0
            have hg0 : g0 = -1 := by rw [E0.out, Pure.longI, h0]
            have ht : t = (Spl.feedL lim [] S0 []).1.length := by
              have := HV.out h0
              injection this with _ this
              omega
            have hA8 := HA7.out
            rw [hok0] at hA8
            have HA8 := Lib.hid hA8
            have HA8b := Lib.hid hA8
            have hfl0 := feed_len lim S0 [] []
            have hpl : S1.length = S0.length + pc.size := by rw [HS.out, List.length_append, Pure.size_list]
            have h2 := Spl.feed_two lim S0 pc.data.toList hok0
            rw [← HS.out] at h2
            have hft := Spl.feed_text2 w2.heap.size w2.heap.size ob lim (Spl.feedL lim [] S0 []).2.2 pc pc.size (grownCap w7 pc.size 0 5) rfl w7 HA8.out HFF7.out.size (by simp at hfl0; omega)
            generalize Spl.feedL lim (Spl.feedL lim [] S0 []).2.2 pc.data.toList [] = G at *
            obtain ⟨l2, ok2, op2⟩ := G
            have HFT := Lib.hid hft
            have H2 := Lib.hid h2
            have HT := Lib.hid ht
            have HOK0 := Lib.hid hok0
            clear hA8 HA7 HA8 HV hft h2 ht hok0 hpl hfl0
            go_wp2_with fail
            refine HFT.out.mono ?_
            rintro e w8 ⟨v8, ob8, rfl, hown8, hat8, hfr8, _⟩
            have hf8 := HFF7.out.trans hfr8 (fun k hk => .inr (by rcases hk with rfl | hk; exact Nat.le_refl _; exact (HA8b.out.row hk).1))
            rw [strs_encs, ← List.length_map (f := mkB)] at hown8
            have hR8 : Kd.R Kd.string 9 w8 w7.heap.size (fun _ => True) v8 (l2.map mkB) := Kd.R_of_own hown8 (fun _ _ => trivial)
            obtain ⟨A8, p8, rfl, hp8, hC8⟩ := Kd.R_reads hR8
            have HF8 := Lib.hid hf8
            have HA9 := Lib.hid hat8
            have HC8 := Lib.hid hC8
            clear hown8 hat8 hfr8 hf8 hR8 hC8 HFT HFF7 HA8b hcv
            cases ok2 with
            | true =>
              have hl1 : Pure.longL lim 0 S1 = none := (Pure.long_none lim S1 [] []).1 (by rw [H2.out])
              have hg1 : g1 = -1 := by rw [E1.out, Pure.longI, hl1]
              go_wp2_with fail
              have hok1 : (Spl.feedL lim [] S1 []).2.1 = true := by rw [H2.out]
              obtain ⟨f1, f2⟩ := Pure.fed lim S1 hok1
              have hor : Pure.openR S1 ≤ S1.length := by
                have := (feed_len lim S1 [] []).2
                rw [← f1] at this
                simpa using this
              have hop := Pure.refopen_f (k := 4000) (mkB S1) (by omega) (by omega)
              rw [show (mkB S1).data.toList = S1 by simp [mkB]] at hop
              refine (gluepotref03_Open.calls 4000 (mkB S1) _ _ hop).mono ?_
              rintro e w9 ⟨rfl, ⟨q9, hq9⟩⟩
              have HF9 := Lib.hid (show Fr (fun _ => False) w8 w9 from by rw [hq9]; exact (Fr.refl _ w8).drewN q9)
              clear hq9 hop
              obtain ⟨n1, hn1⟩ : ∃ n1, n1 = Pure.openR S1 := ⟨_, rfl⟩
              rw [← hn1] at f1 f2 hor ⊢
              have hsl : ((S1.length : Int) - (n1 : Int)) = ((S1.length - n1 : Nat) : Int) := by omega
              have F1 := Lib.hid f1
              have F2 := Lib.hid f2
              have HN1 := Lib.hid hn1
              clear f1 f2 hn1
              go_wp2_with fail
              rw [Pure.ext_take]
              have hwd := Pure.refwords_f (k := 10000) (mkB (S1.take (S1.length - n1))) (by rw [Pure.mkB_size']; simp; omega) (by rw [Pure.mkB_size']; simp; omega)
              rw [show (mkB (S1.take (S1.length - n1))).data.toList = S1.take (S1.length - n1) by simp [mkB], F2.out, H2.out] at hwd
              refine (gluepotref03_Words.calls 10000 _ _ _ hwd).mono ?_
              rintro e w10 ⟨v10, rfl, hR10, hb10⟩
              obtain ⟨A10, p10, rfl, hp10, hC10⟩ := Kd.R_reads hR10
              have HC10 := Lib.hid hC10
              have HF10 := Lib.hid (HF9.out.below hb10)
              clear hwd hR10 hC10 hb10
              have hdr := Kd.C_drop (m := t) HC10.out (by have := HT.out; simp only [List.length_map, List.length_append]; omega) hp10
              rw [show ((((Spl.feedL lim [] S0 []).1 ++ l2).map mkB).drop t) = l2.map mkB by rw [List.map_append]; exact List.drop_left' (by rw [List.length_map, HT.out])] at hdr
              have hl2 : l2.length ≤ 3100 := by
                have hle := (feed_len lim S1 [] []).1
                rw [H2.out] at hle
                simp only [List.length_append, List.length_nil] at hle
                omega
              have hdif : (Spl.feedL lim [] S0 []).1.length + l2.length - t = l2.length := by have := HT.out; omega
              have HDR := Lib.hid hdr
              have HDIF := Lib.hid hdif
              have HC8b := Lib.hid (Kd.C_below HC8.out (HF10.out.toBelow (fun _ h => h.elim) (Nat.le_refl _)))
              have htx := Pure.texts_same (k := 3200) (l2.map mkB) (by rw [List.length_map]; omega) (by rw [List.length_map]; omega)
              have HTX := Lib.hid htx
              have HA10 := Lib.hid (HA9.out.fr HF10.out (fun h => h) (fun _ _ h => h))
              clear hdr hdif htx HA9
              have HTXC : ∀ AX cX, AX = (if p10 = t then A10 else A10.map (·.add (t * Kd.string.sz))) → l2.length ≤ cX → Calls Try.prog 23 #[.slice A8 l2.length p8, .slice AX l2.length cX] w10 fun e w' => e = .returned (.bool true) ∧ Drawn0 w10 w' := by
                intro AX cX hAX hcX
                subst hAX
                have := gluepotref01_Texts.calls 3200 A8 p8 (l2.map mkB) _ cX (l2.map mkB) true w10 HC8b.out hp8 HDR.out (by rw [List.length_map]; exact hcX) HTX.out
                simpa only [List.length_map] using this
              have htl : t ≤ (Spl.feedL lim [] S0 []).1.length + l2.length := by have := HT.out; omega
              have hp10' : t + l2.length ≤ p10 := by
                have := HT.out
                simp only [List.length_map, List.length_append] at hp10
                omega
              go_wp2_with fail
              all_goals rw [HDIF.out]
              case' inl => 
                refine (HTXC _ _ (by rw [if_pos (by assumption)]) (by omega)).mono ?_
              case' inr =>
                refine (HTXC _ _ (by rw [if_neg (by assumption), show t * Kd.string.sz = t from Nat.mul_one t]) (by omega)).mono ?_
              all_goals
                rintro e w11 ⟨rfl, ⟨q11, hq11⟩⟩
                have HF11 := Lib.hid (show Fr (fun _ => False) w10 w11 from by rw [hq11]; exact (Fr.refl _ w10).drewN q11)
                have HA11 := Lib.hid (HA10.out.fr HF11.out (fun h => h) (fun _ _ h => h))
                clear hq11 HTXC HDR HC8b HTX
                go_wp2_with fail
                refine (Spl.open_c _ _ _ _ _ _ _ HA11.out).mono ?_
                rintro e w12 ⟨rfl, rfl⟩
                have hop := Pure.refopen_f (k := 4000) (mkB S1) (by omega) (by omega)
                rw [show (mkB S1).data.toList = S1 by simp [mkB], ← HN1.out, F1.out, H2.out] at hop
                have HOP := Lib.hid hop
                clear hop
                go_wp2_with fail
                refine (gluepotref03_Open.calls 4000 (mkB S1) _ _ HOP.out).mono ?_
                rintro e w13 ⟨rfl, ⟨q13, hq13⟩⟩
                have HF13 := Lib.hid (show Fr (fun _ => False) w12 w13 from by rw [hq13]; exact (Fr.refl _ w12).drewN q13)
                have HA13 := Lib.hid (HA11.out.fr HF13.out (fun h => h) (fun _ _ h => h))
                have HW13 := Lib.hid ((((HF8.out.trans HF10.out (fun _ h => h.elim)).trans HF11.out (fun _ h => h.elim))).trans HF13.out (fun _ h => h.elim))
                clear hq13
                go_wp2_with fail
                go_roundw
                case rel =>
                  refine ⟨i + 1, ob8, by omega, by go_num, HW13.out, fun hn => ?_, ⟨_, rfl⟩, ?_⟩
                  · rw [← HS1.out, H2.out]
                    simp only [List.length_append, Int.natCast_add]
                  · rw [← HS1.out, H2.out]
                    exact HA13.out
                case measure => simp [intOf]; omega
            | false =>
              obtain ⟨j1, hl1⟩ : ∃ j1, Pure.longL lim 0 S1 = some j1 := by
                cases hx : Pure.longL lim 0 S1 with
                | some j => exact ⟨j, rfl⟩
                | none =>
                  have := (Pure.long_none lim S1 [] []).2 hx
                  rw [H2.out] at this
                  cases this
              have hg1 : g1 = (j1 : Int) := by rw [E1.out, Pure.longI, hl1]
              obtain ⟨hj1, hokj, hbad⟩ := Pure.long_some lim S1 [] [] j1 hl1
              rw [H2.out] at hbad
              obtain ⟨hb1, hb2⟩ : (Spl.feedL lim [] (S1.take j1) []).1 = (Spl.feedL lim [] S0 []).1 ++ l2 ∧ op2 = [] := by
                injection hbad with hb1 hb2
                injection hb2 with _ hb3
                exact ⟨hb1.symm, hb3⟩
              subst hb2
              obtain ⟨f1, f2⟩ := Pure.fed lim (S1.take j1) hokj
              obtain ⟨CL, hCL⟩ : ∃ CL, CL = S1.take j1 := ⟨_, rfl⟩
              rw [← hCL] at f1 f2 hb1
              have hCLl : CL.length = j1 := by rw [hCL, List.length_take]; omega
              have hor : Pure.openR CL ≤ CL.length := by
                have := (feed_len lim CL [] []).2
                rw [← f1] at this
                simpa using this
              have hlenc : (mkB CL).size = CL.length := Pure.mkB_size' CL
              have HCL := Lib.hid hCL
              have HB1 := Lib.hid hb1
              have HKJ := Lib.hid hokj
              have HF1 := Lib.hid f1
              have HF2 := Lib.hid f2
              have HOR := Lib.hid hor
              clear hCL hb1 hokj f1 f2 hor hbad
              go_wp2_with fail
              rw [Pure.ext_take, ← HCL.out]
              have hop := Pure.refopen_f (k := 4000) (mkB CL) (by omega) (by omega)
              rw [show (mkB CL).data.toList = CL by simp [mkB]] at hop
              refine (gluepotref03_Open.calls 4000 (mkB CL) _ _ hop).mono ?_
              rintro e w9 ⟨rfl, ⟨q9, hq9⟩⟩
              have HF9 := Lib.hid (show Fr (fun _ => False) w8 w9 from by rw [hq9]; exact (Fr.refl _ w8).drewN q9)
              clear hq9 hop
              have f1 := HF1.out
              have f2 := HF2.out
              have hor := HOR.out
              obtain ⟨n1, hn1⟩ : ∃ n1, n1 = Pure.openR CL := ⟨_, rfl⟩
              rw [← hn1] at f1 f2 hor ⊢
              clear HOR
              have hsl : ((CL.length : Int) - (n1 : Int)) = ((CL.length - n1 : Nat) : Int) := by omega
              have F1 := Lib.hid f1
              have F2 := Lib.hid f2
              have HN1 := Lib.hid hn1
              clear f1 f2 hn1 HF1 HF2
              go_wp2_with fail
              rw [Pure.ext_take, show min j1 S1.length - n1 = CL.length - n1 by omega]
              have hwd := Pure.refwords_f (k := 10000) (mkB (CL.take (CL.length - n1))) (by rw [Pure.mkB_size']; simp; omega) (by rw [Pure.mkB_size']; simp; omega)
              rw [show (mkB (CL.take (CL.length - n1))).data.toList = CL.take (CL.length - n1) by simp [mkB], F2.out, HB1.out] at hwd
              refine (gluepotref03_Words.calls 10000 _ _ _ hwd).mono ?_
              rintro e w10 ⟨v10, rfl, hR10, hb10⟩
              obtain ⟨A10, p10, rfl, hp10, hC10⟩ := Kd.R_reads hR10
              have HC10 := Lib.hid hC10
              have HF10 := Lib.hid (HF9.out.below hb10)
              clear hwd hR10 hC10 hb10
              have hdr := Kd.C_drop (m := t) HC10.out (by have := HT.out; simp only [List.length_map, List.length_append]; omega) hp10
              rw [show ((((Spl.feedL lim [] S0 []).1 ++ l2).map mkB).drop t) = l2.map mkB by rw [List.map_append]; exact List.drop_left' (by rw [List.length_map, HT.out])] at hdr
              have hl2 : l2.length ≤ 3100 := by
                have hle := (feed_len lim CL [] []).1
                rw [HB1.out] at hle
                simp only [List.length_append, List.length_nil] at hle
                omega
              have hdif : (Spl.feedL lim [] S0 []).1.length + l2.length - t = l2.length := by have := HT.out; omega
              have HDR := Lib.hid hdr
              have HDIF := Lib.hid hdif
              have HC8b := Lib.hid (Kd.C_below HC8.out (HF10.out.toBelow (fun _ h => h.elim) (Nat.le_refl _)))
              have htx := Pure.texts_same (k := 3200) (l2.map mkB) (by rw [List.length_map]; omega) (by rw [List.length_map]; omega)
              have HTX := Lib.hid htx
              have HA10 := Lib.hid (HA9.out.fr HF10.out (fun h => h) (fun _ _ h => h))
              clear hdr hdif htx HA9
              have HTXC : ∀ AX cX, AX = (if p10 = t then A10 else A10.map (·.add (t * Kd.string.sz))) → l2.length ≤ cX → Calls Try.prog 23 #[.slice A8 l2.length p8, .slice AX l2.length cX] w10 fun e w' => e = .returned (.bool true) ∧ Drawn0 w10 w' := by
                intro AX cX hAX hcX
                subst hAX
                have := gluepotref01_Texts.calls 3200 A8 p8 (l2.map mkB) _ cX (l2.map mkB) true w10 HC8b.out hp8 HDR.out (by rw [List.length_map]; exact hcX) HTX.out
                simpa only [List.length_map] using this
              have htl : t ≤ (Spl.feedL lim [] S0 []).1.length + l2.length := by have := HT.out; omega
              have hp10' : t + l2.length ≤ p10 := by
                have := HT.out
                simp only [List.length_map, List.length_append] at hp10
                omega
              go_wp2_with fail
              all_goals rw [HDIF.out]
              case' inl => 
                refine (HTXC _ _ (by rw [if_pos (by assumption)]) (by omega)).mono ?_
              case' inr =>
                refine (HTXC _ _ (by rw [if_neg (by assumption), show t * Kd.string.sz = t from Nat.mul_one t]) (by omega)).mono ?_
              all_goals
                rintro e w11 ⟨rfl, ⟨q11, hq11⟩⟩
                have HF11 := Lib.hid (show Fr (fun _ => False) w10 w11 from by rw [hq11]; exact (Fr.refl _ w10).drewN q11)
                have HA11 := Lib.hid (HA10.out.fr HF11.out (fun h => h) (fun _ _ h => h))
                clear hq11 HTXC HDR HC8b HTX
                go_wp2_with fail
                refine (Spl.open_c _ _ _ _ _ _ _ HA11.out).mono ?_
                rintro e w12 ⟨rfl, rfl⟩
                have HW13 := Lib.hid (((HF8.out.trans HF10.out (fun _ h => h.elim)).trans HF11.out (fun _ h => h.elim)))
                go_wp2_with fail
                go_roundw
                case rel =>
                  refine ⟨i + 1, ob8, by omega, by go_num, HW13.out, fun hn => ?_, ⟨_, rfl⟩, ?_⟩
                  · rw [← HS1.out, hl1] at hn
                    cases hn
                  · rw [← HS1.out, H2.out]
                    exact HA11.out
                case measure => simp [intOf]; omega
        · go_wp2_with fail
          go_ret
          exact ⟨rfl, below_step HB2.out (HF.out.toBelow (fun _ h => h.elim) (Nat.le_refl _))⟩
  · cases h
end Go.Proofs.Ytmldibphbilghaa.Pr
